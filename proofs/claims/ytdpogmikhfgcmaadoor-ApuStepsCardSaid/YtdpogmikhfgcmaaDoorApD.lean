/-
  dmc: what its functions come to. No condition.
-/
import Derived.Test.YtdpogmikhfgcmaaDoorApS2
import Derived.Test.YtdpogmikhfgcmaaDoorApM
set_option linter.unusedVariables false
set_option linter.unusedSimpArgs false
namespace Go.Proofs.YtdpogmikhfgcmaaDoor.Ap
open Go Go.Proofs.YtdpogmikhfgcmaaDoor.Sx

def may (rate level from_ size at_ left bits count : Int) : Bool := decide (rate < 16) && decide (level < 128) && decide (from_ ≥ 32768) && decide (at_ ≥ 32768) && decide (size ≤ 4081) && decide (left ≤ 4081) && decide (bits ≥ 1) && decide (bits ≤ 8) && decide (count < 428)
theorem v32 (i0 i1 i2 i3 i4 i5 i6 i7 i8 i9 : Int) (b0 b1 b2 b3 b4 : Bool) : F32 [i0,i1,i2,i3,i4,i5,i6,i7,i8,i9] [b0,b1,b2,b3,b4] = ([if may i0 i1 i2 i3 i4 i5 i8 i9 then 0 else 1], []) := by
  simp only [F32, Smry.run, S32, evEm, envOf, RI.d, RB.d, A.d, B.d, cmB, arI, List.getD_cons_zero, List.getD_cons_succ, List.cons_append, List.nil_append, List.map_cons, List.map_nil, may]
  simp
  grind
theorem f32 {Φ : Funs} (h : Φ 32 = F32) (i0 i1 i2 i3 i4 i5 i6 i7 i8 i9 : Int) (b0 b1 b2 b3 b4 : Bool) : Φ 32 [i0,i1,i2,i3,i4,i5,i6,i7,i8,i9] [b0,b1,b2,b3,b4] = ([if may i0 i1 i2 i3 i4 i5 i8 i9 then 0 else 1], []) := by rw [h, v32]
/-- Where the level goes. -/
def lv (l sh : Int) (silent : Bool) : Int := if silent then l else if sh % 2 = 1 then (if l ≤ 125 then l + 2 else l) else if 2 ≤ l then l - 2 else l
def per' (r : Int) : Int := per.getD r.toNat 0
theorem tab_le {r : Int} (h : r < 16) (h0 : 0 ≤ r) : 54 ≤ per.getD r.toNat (0 : Int) ∧ per.getD r.toNat (0 : Int) ≤ 428 :=
  of_decide_eq_true ((allR_spec (f := fun n => decide (54 ≤ per.getD n (0 : Int) ∧ per.getD n (0 : Int) ≤ 428)) (k := 4) (lo := 0) (by kernel_rfl)) r.toNat (Nat.zero_le _) (by omega))
theorem tick (i0 i1 i2 i3 i4 i5 i6 i7 i8 i9 : Int) (b0 b1 b2 b3 b4 : Bool) (hm : may i0 i1 i2 i3 i4 i5 i8 i9 = true) (h0 : 0 ≤ i0) (h1 : 0 ≤ i1) (h7 : 0 ≤ i7) (h7' : i7 ≤ 255) (h9 : 0 ≤ i9) :
    F26 [i0,i1,i2,i3,i4,i5,i6,i7,i8,i9] [b0,b1,b2,b3,b4] =
      if 0 < i9 then ([i0,i1,i2,i3,i4,i5,i6,i7,i8,i9-1], [true,b0,b1,b2,b3,b4])
      else ([i0, lv i1 i7 b4, i2, i3, i4, i5, i6, if i8 = 1 then (if b3 then i6 else i7 / 2) else i7 / 2, if i8 = 1 then 8 else i8 - 1, per' i0 - 1],
        [true, b0, b1, b2, if i8 = 1 then false else b3, if i8 = 1 then !b3 else b4]) := by
  unfold F26
  obtain ⟨ρ, e1, e2, e3, e4⟩ := Smry.run_specT (Φ := tabF T21) (S := S26) (is := [i0,i1,i2,i3,i4,i5,i6,i7,i8,i9]) (bs := [b0,b1,b2,b3,b4]) rfl
  rw [e1, obAll_eq]
  clear e1
  simp only [S26, obs, Gd.d_cons, Gd.d_nil, eqns, Em.eqn, headsI, headsB, RI.d, RB.d, A.d, B.d, cm_eql, cm_neq, cm_lss, cm_leq, cm_gtr, cm_geq, List.map_cons, List.map_nil, and_true, Nat.zero_add, Nat.reduceAdd, lt1, lt0, true_and, Nat.add_zero, List.getD_cons_zero, List.getD_cons_succ, and8_1, and8_15, and8_127, and8_128, and8_64, or16_top, shr8_1, add8, sub8, add16, sub16, mul16, add64, sub64, mul64, wrap_u8, wrap_u16, wrap_i64, f32 (Φ := tabF T21) rfl] at e2 e3 e4 ⊢
  simp only [e2, e3] at e4 ⊢
  rw [hm] at e4
  simp only [may, Bool.and_eq_true, decide_eq_true_eq] at hm
  have hp := tab_le (r := i0) (by omega) h0
  simp only [if_true] at e4
  unfold lv per'
  rw [show per = [428, 380, 340, 320, 286, 254, 226, 214, 190, 160, 142, 128, 106, 84, 72, 54] from rfl] at hp ⊢
  generalize [428, 380, 340, 320, 286, 254, 226, 214, 190, 160, 142, 128, 106, 84, 72, 54].getD i0.toNat (0 : Int) = pv at hp e4 ⊢
  grind
theorem v51 (i0 i1 i2 i3 i4 i5 i6 i7 i8 i9 : Int) (b0 b1 b2 b3 b4 : Bool) : F51 [i0,i1,i2,i3,i4,i5,i6,i7,i8,i9] [b0,b1,b2,b3,b4] = ([if may i0 i1 i2 i3 i4 i5 i8 i9 && !b3 && (i5 != 0) then i4 else 0], [may i0 i1 i2 i3 i4 i5 i8 i9 && !b3 && (i5 != 0)]) := by
  unfold F51
  obtain ⟨ρ, e1, e2, e3, e4⟩ := Smry.run_spec (S := S51) (is := [i0,i1,i2,i3,i4,i5,i6,i7,i8,i9]) (bs := [b0,b1,b2,b3,b4]) rfl
  rw [e1]
  simp only [S51, eqns, Em.eqn, headsI, headsB, RI.d, RB.d, A.d, B.d, cm_eql, cm_neq, cm_lss, cm_leq, cm_gtr, cm_geq, List.map_cons, List.map_nil, and_true, Nat.zero_add, Nat.reduceAdd, ltn, upto, true_and, Nat.add_zero, List.getD_cons_zero, List.getD_cons_succ] at e2 e3 e4 ⊢
  simp only [e2, e3] at e4 ⊢
  rw [f32 (Φ := tabF T49) rfl] at e4
  simp only [List.getD_cons_zero] at e4
  generalize may i0 i1 i2 i3 i4 i5 i8 i9 = m at e4 ⊢
  grind
theorem feed (i0 i1 i2 i3 i4 i5 i6 i7 i8 i9 v : Int) (b0 b1 b2 b4 : Bool) (hm : may i0 i1 i2 i3 i4 i5 i8 i9 = true) (h4 : i4 ≤ 65535) (h5 : 0 < i5) :
    F33 [i0,i1,i2,i3,i4,i5,i6,i7,i8,i9,v] [b0,b1,b2,false,b4] =
      if 1 < i5 then ([i0,i1,i2,i3,if i4 = 65535 then 32768 else i4 + 1,i5-1,v,i7,i8,i9], [b0,b1,b2,true,b4])
      else if b1 then ([i0,i1,i2,i3,i2,i3,v,i7,i8,i9], [b0,b1,b2,true,b4])
      else ([i0,i1,i2,i3,if i4 = 65535 then 32768 else i4 + 1,0,v,i7,i8,i9], [b0,b1,b2 || b0,true,b4]) := by
  unfold F33
  obtain ⟨ρ, e1, e2, e3, e4⟩ := Smry.run_spec (Φ := tabF T50) (S := S33) (is := [i0,i1,i2,i3,i4,i5,i6,i7,i8,i9,v]) (bs := [b0,b1,b2,false,b4]) rfl
  rw [e1]
  simp only [S33, eqns, Em.eqn, headsI, headsB, RI.d, RB.d, A.d, B.d, cm_eql, cm_neq, cm_lss, cm_leq, cm_gtr, cm_geq, List.map_cons, List.map_nil, and_true, Nat.zero_add, Nat.reduceAdd, ltn, upto, true_and, Nat.add_zero, or16_top, add16, sub16] at e2 e3 e4 ⊢
  simp only [e2, e3] at e4 ⊢
  rw [show tabF T50 51 = F51 by rfl, v51, hm] at e4
  simp only [may, Bool.and_eq_true, decide_eq_true_eq] at hm
  simp only [List.getD_cons_zero] at e4
  grind
theorem write (i0 i1 i2 i3 i4 i5 i6 i7 i8 i9 reg v : Int) (b0 b1 b2 b3 b4 : Bool) (hm : may i0 i1 i2 i3 i4 i5 i8 i9 = true) (hv : 0 ≤ v) (hv' : v ≤ 255) :
    F21 [i0,i1,i2,i3,i4,i5,i6,i7,i8,i9,reg,v] [b0,b1,b2,b3,b4] =
      if reg = 0 then ([v % 16,i1,i2,i3,i4,i5,i6,i7,i8,i9], [decide (128 ≤ v), decide (v / 64 % 2 = 1), b2 && decide (128 ≤ v), b3, b4])
      else if reg = 1 then ([i0,v % 128,i2,i3,i4,i5,i6,i7,i8,i9], [b0,b1,b2,b3,b4])
      else if reg = 2 then ([i0,i1,49152 + 64 * v,i3,i4,i5,i6,i7,i8,i9], [b0,b1,b2,b3,b4])
      else if reg = 3 then ([i0,i1,i2,16 * v + 1,i4,i5,i6,i7,i8,i9], [b0,b1,b2,b3,b4])
      else ([i0,i1,i2,i3,i4,i5,i6,i7,i8,i9], [b0,b1,b2,b3,b4]) := by
  unfold F21
  obtain ⟨ρ, e1, e2, e3, e4⟩ := Smry.run_spec (Φ := tabF T41) (S := S21) (is := [i0,i1,i2,i3,i4,i5,i6,i7,i8,i9,reg,v]) (bs := [b0,b1,b2,b3,b4]) rfl
  rw [e1]
  simp only [S21, eqns, Em.eqn, headsI, headsB, RI.d, RB.d, A.d, B.d, cm_eql, cm_neq, cm_lss, cm_leq, cm_gtr, cm_geq, List.map_cons, List.map_nil, and_true, Nat.zero_add, Nat.reduceAdd, ltn, upto, true_and, Nat.add_zero, and8_15, and8_127, and8_128, and8_64, wrap_u16, mul16, add16] at e2 e3 e4 ⊢
  simp only [e2, e3] at e4 ⊢
  rw [f32 (Φ := tabF T41) rfl, hm] at e4
  simp only [List.getD_cons_zero, if_true] at e4
  have q7 : ρ.b 7 = decide (128 ≤ v) := by
    obtain ⟨_, _, _, h13, h7, _⟩ := e4
    rw [h7, h13]
    exact decide_eq_decide.2 (by omega)
  have q8 : ρ.b 8 = decide (v / 64 % 2 = 1) := by
    obtain ⟨_, _, _, _, _, h14, h8, _⟩ := e4
    rw [h8, h14]
    exact decide_eq_decide.2 (by omega)
  generalize decide (128 ≤ v) = p1 at q7 ⊢
  generalize decide (v / 64 % 2 = 1) = p2 at q8 ⊢
  clear e1
  by_cases h0 : reg = 0
  · subst h0; simp only [if_true]; grind
  · by_cases h1 : reg = 1
    · subst h1; grind
    · by_cases h2 : reg = 2
      · subst h2; grind
      · by_cases h3 : reg = 3
        · subst h3; grind
        · simp only [h0, h1, h2, h3, if_false]; grind
theorem turnOn (i0 i1 i2 i3 i4 i5 i6 i7 i8 i9 : Int) (b0 b1 b2 b3 b4 on : Bool) (hm : may i0 i1 i2 i3 i4 i5 i8 i9 = true) :
    F44 [i0,i1,i2,i3,i4,i5,i6,i7,i8,i9] [b0,b1,b2,b3,b4,on] = ([i0,i1,i2,i3,if on && i5 == 0 then i2 else i4,if on then (if i5 = 0 then i3 else i5) else 0,i6,i7,i8,i9], [b0,b1,false,b3,b4]) := by
  unfold F44
  obtain ⟨ρ, e1, e2, e3, e4⟩ := Smry.run_spec (Φ := tabF T44) (S := S44) (is := [i0,i1,i2,i3,i4,i5,i6,i7,i8,i9]) (bs := [b0,b1,b2,b3,b4,on]) rfl
  rw [e1]
  simp only [S44, eqns, Em.eqn, headsI, headsB, RI.d, RB.d, A.d, B.d, cm_eql, cm_neq, cm_lss, cm_leq, cm_gtr, cm_geq, List.map_cons, List.map_nil, and_true, Nat.zero_add, Nat.reduceAdd, ltn, upto, true_and, Nat.add_zero] at e2 e3 e4 ⊢
  simp only [e2, e3] at e4 ⊢
  rw [f32 (Φ := tabF T44) rfl, hm] at e4
  simp only [List.getD_cons_zero, if_true] at e4
  grind
theorem new27 : F16 [] [] = ([0, 0, 49152, 1, 49152, 0, 0, 0, 8, 0], [false, false, false, false, true]) := by kernel_rfl

/-- Which channels may be, number by number. -/
def Ok (i0 i1 i2 i3 i4 i5 i6 i7 i8 i9 : Int) : Prop := (0 ≤ i0 ∧ i0 < 16) ∧ (0 ≤ i1 ∧ i1 < 128) ∧ (32768 ≤ i2 ∧ i2 ≤ 65535) ∧ (0 ≤ i3 ∧ i3 ≤ 4081) ∧ (32768 ≤ i4 ∧ i4 ≤ 65535) ∧ (0 ≤ i5 ∧ i5 ≤ 4081) ∧ (0 ≤ i6 ∧ i6 ≤ 255) ∧ (0 ≤ i7 ∧ i7 ≤ 255) ∧ (1 ≤ i8 ∧ i8 ≤ 8) ∧ (0 ≤ i9 ∧ i9 < 428)
theorem Ok.may {i0 i1 i2 i3 i4 i5 i6 i7 i8 i9 : Int} (h : Ok i0 i1 i2 i3 i4 i5 i6 i7 i8 i9) : Ap.may i0 i1 i2 i3 i4 i5 i8 i9 = true := by
  unfold Ok at h
  simp only [Ap.may, Bool.and_eq_true, decide_eq_true_eq]
  omega
theorem write_ok {i0 i1 i2 i3 i4 i5 i6 i7 i8 i9 : Int} (h : Ok i0 i1 i2 i3 i4 i5 i6 i7 i8 i9) (b0 b1 b2 b3 b4 : Bool) (reg v : Int) (hv : 0 ≤ v) (hv' : v ≤ 255) :
    ∃ j0 j1 j2 j3 j4 j5 j6 j7 j8 j9 c0 c1 c2 c3 c4, F21 [i0,i1,i2,i3,i4,i5,i6,i7,i8,i9,reg,v] [b0,b1,b2,b3,b4] = ([j0,j1,j2,j3,j4,j5,j6,j7,j8,j9], [c0,c1,c2,c3,c4]) ∧ Ok j0 j1 j2 j3 j4 j5 j6 j7 j8 j9 := by
  rw [write _ _ _ _ _ _ _ _ _ _ _ _ _ _ _ _ _ h.may hv hv']
  unfold Ok at h
  split
  · exact ⟨_, _, _, _, _, _, _, _, _, _, _, _, _, _, _, rfl, by unfold Ok; omega⟩
  · split
    · exact ⟨_, _, _, _, _, _, _, _, _, _, _, _, _, _, _, rfl, by unfold Ok; omega⟩
    · split
      · exact ⟨_, _, _, _, _, _, _, _, _, _, _, _, _, _, _, rfl, by unfold Ok; omega⟩
      · split
        · exact ⟨_, _, _, _, _, _, _, _, _, _, _, _, _, _, _, rfl, by unfold Ok; omega⟩
        · exact ⟨_, _, _, _, _, _, _, _, _, _, _, _, _, _, _, rfl, by unfold Ok; omega⟩
theorem on_ok {i0 i1 i2 i3 i4 i5 i6 i7 i8 i9 : Int} (h : Ok i0 i1 i2 i3 i4 i5 i6 i7 i8 i9) (b0 b1 b2 b3 b4 on : Bool) :
    ∃ j0 j1 j2 j3 j4 j5 j6 j7 j8 j9 c0 c1 c2 c3 c4, F44 [i0,i1,i2,i3,i4,i5,i6,i7,i8,i9] [b0,b1,b2,b3,b4,on] = ([j0,j1,j2,j3,j4,j5,j6,j7,j8,j9], [c0,c1,c2,c3,c4]) ∧ Ok j0 j1 j2 j3 j4 j5 j6 j7 j8 j9 := by
  rw [turnOn _ _ _ _ _ _ _ _ _ _ _ _ _ _ _ _ h.may]
  unfold Ok at h
  refine ⟨_, _, _, _, _, _, _, _, _, _, _, _, _, _, _, rfl, ?_⟩
  unfold Ok
  cases on
  · simp; omega
  · by_cases h5 : i5 = 0
    · subst h5; simp; omega
    · simp [h5]; omega
theorem feed_ok {i0 i1 i2 i3 i4 i5 i6 i7 i8 i9 : Int} (h : Ok i0 i1 i2 i3 i4 i5 i6 i7 i8 i9) (b0 b1 b2 b3 b4 : Bool) (v : Int) (hv : 0 ≤ v) (hv' : v ≤ 255) :
    ∃ j0 j1 j2 j3 j4 j5 j6 j7 j8 j9 c0 c1 c2 c3 c4, F33 [i0,i1,i2,i3,i4,i5,i6,i7,i8,i9,v] [b0,b1,b2,b3,b4] = ([j0,j1,j2,j3,j4,j5,j6,j7,j8,j9], [c0,c1,c2,c3,c4]) ∧ Ok j0 j1 j2 j3 j4 j5 j6 j7 j8 j9 := by
  have hm := h.may
  by_cases hn : b3 = false ∧ i5 ≠ 0
  · obtain ⟨rfl, h5⟩ := hn
    unfold Ok at h
    rw [feed _ _ _ _ _ _ _ _ _ _ _ _ _ _ _ hm (by omega) (by omega)]
    split
    · refine ⟨_, _, _, _, _, _, _, _, _, _, _, _, _, _, _, rfl, ?_⟩
      unfold Ok
      split <;> omega
    · split
      · exact ⟨_, _, _, _, _, _, _, _, _, _, _, _, _, _, _, rfl, by unfold Ok; omega⟩
      · refine ⟨_, _, _, _, _, _, _, _, _, _, _, _, _, _, _, rfl, ?_⟩
        unfold Ok
        split <;> omega
  · refine ⟨i0, i1, i2, i3, i4, i5, i6, i7, i8, i9, b0, b1, b2, b3, b4, ?_, h⟩
    unfold F33
    obtain ⟨ρ, e1, e2, e3, e4⟩ := Smry.run_spec (Φ := tabF T50) (S := S33) (is := [i0,i1,i2,i3,i4,i5,i6,i7,i8,i9,v]) (bs := [b0,b1,b2,b3,b4]) rfl
    rw [e1]
    simp only [S33, eqns, Em.eqn, headsI, headsB, RI.d, RB.d, A.d, B.d, cm_eql, cm_neq, cm_lss, cm_leq, cm_gtr, cm_geq, List.map_cons, List.map_nil, and_true, Nat.zero_add, Nat.reduceAdd, ltn, upto, true_and, Nat.add_zero] at e2 e3 e4 ⊢
    simp only [e2, e3] at e4 ⊢
    rw [show tabF T50 51 = F51 by rfl, v51, hm] at e4
    have h5 : ρ.b 5 = false := by
      have := e4.1.2
      rw [this]
      by_cases hb : b3 = false
      · have : i5 = 0 := by simpa [hb] using hn
        simp [this]
      · have : b3 = true := by simpa using hb
        simp [this]
    grind
theorem tick_ok {i0 i1 i2 i3 i4 i5 i6 i7 i8 i9 : Int} (h : Ok i0 i1 i2 i3 i4 i5 i6 i7 i8 i9) (b0 b1 b2 b3 b4 : Bool) :
    ∃ j0 j1 j2 j3 j4 j5 j6 j7 j8 j9 c0 c1 c2 c3 c4, F26 [i0,i1,i2,i3,i4,i5,i6,i7,i8,i9] [b0,b1,b2,b3,b4] = ([j0,j1,j2,j3,j4,j5,j6,j7,j8,j9], [true,c0,c1,c2,c3,c4]) ∧ Ok j0 j1 j2 j3 j4 j5 j6 j7 j8 j9 ∧ j1 ≤ i1 + 2 ∧ i1 ≤ j1 + 2 := by
  have hm := h.may
  unfold Ok at h
  rw [tick _ _ _ _ _ _ _ _ _ _ _ _ _ _ _ hm (by omega) (by omega) (by omega) (by omega) (by omega)]
  split
  · exact ⟨_, _, _, _, _, _, _, _, _, _, _, _, _, _, _, rfl, by unfold Ok; omega, by omega, by omega⟩
  · have hp := tab_le (r := i0) (by omega) (by omega)
    change 54 ≤ per' i0 ∧ per' i0 ≤ 428 at hp
    have hl : (0 ≤ lv i1 i7 b4 ∧ lv i1 i7 b4 < 128) ∧ lv i1 i7 b4 ≤ i1 + 2 ∧ i1 ≤ lv i1 i7 b4 + 2 := by
      unfold lv
      cases b4
      · simp only [Bool.false_eq_true, if_false]; split <;> split <;> omega
      · simp only [if_true]; omega
    refine ⟨_, _, _, _, _, _, _, _, _, _, _, _, _, _, _, rfl, ?_, by omega, by omega⟩
    unfold Ok
    by_cases h8 : i8 = 1
    · subst h8
      cases b3 <;> simp <;> omega
    · simp only [h8, if_false]; omega
end Go.Proofs.YtdpogmikhfgcmaaDoor.Ap
