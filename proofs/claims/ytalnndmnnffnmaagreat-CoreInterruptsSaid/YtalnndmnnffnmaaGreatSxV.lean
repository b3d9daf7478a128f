/-
  SX, part V: loops: a state said by another one's numbers, a state forgotten in part, a loop's turns as one function. No condition.
-/
import Derived.Test.YtalnndmnnffnmaaGreatSxS
import Derived.LoopN
set_option linter.unusedVariables false
set_option linter.unusedSimpArgs false
namespace Go.Proofs.YtalnndmnnffnmaaGreat.Sx
open Go

/-! ### A template, held against a state -/
section mat
variable (ni : Nat → Option A) (nb : Nat → Option B)
def A.mat : A → A → Bool
  | .v j, a => match ni j with | some x => x.eq a | none => false
  | .c n, .c m => n == m
  | .c _, .v _ => false
def B.mat : B → B → Bool
  | .v j, a => match nb j with | some x => x.eq a | none => false
  | .c n, .c m => n == m
  | .c _, .v _ => false
def gMat : Gd → Gd → Bool
  | [], [] => true
  | (b, k) :: g, (c, l) :: h => b.mat nb c && k == l && gMat g h
  | _, _ => false
def altMat : List (B × Nat × Nat) → List (B × Nat × Nat) → Bool
  | [], [] => true
  | (b, i, o) :: g, (c, j, p) :: h => b.mat nb c && i == j && o == p && altMat g h
  | _, _ => false
def C.mat : C → C → Bool
  | .int k t, .int l a => k == l && t.mat ni a
  | .bool t, .bool a => t.mat nb a
  | .ptr l i o, .ptr m j p => i == j && o == p && altMat nb l m
  | .pix i o s n a k, .pix j p s' n' a' k' => i == j && o == p && s == s' && n == n' && k == k' && a.mat ni a'
  | .sli i o n c, .sli j p n' c' => i == j && o == p && n == n' && c == c'
  | .slx i ks q n, .slx j ks' q' n' => i == j && cksEq ks ks' && q.mat ni q' && n.mat ni n'
  | .val u, .val v => vEq u v
  | .junk, _ => true
  | .str q, c => match asStr c with | some p => q.mat ni p | none => false
  | .fn l d, .fn l' d' => l.isEmpty && l'.isEmpty && d == d'
  | _, _ => false
def lMat : List C → List C → Bool
  | [], [] => true
  | c :: l, d :: m => c.mat ni nb d && lMat l m
  | _, _ => false
def tMat : List (Bool × List C) → List (Bool × List C) → Bool
  | [], [] => true
  | p :: l, q :: m => p.1 == q.1 && lMat ni nb p.2 q.2 && tMat l m
  | _, _ => false
def S.mat : S → S → Bool
  | .any, _ => true
  | .one p l, .one q m => p == q && lMat ni nb l m
  | .tup l, .tup m => tMat ni nb l m
  | _, _ => false
def isAny : SV → Bool
  | { g := [], s := .any } => true
  | _ => false
def SV.mat (t v : SV) : Bool := isAny t || (gMat nb t.g v.g && t.s.mat ni nb v.s)
def tmMat : List SV → List SV → Bool
  | [], [] => true
  | t :: l, v :: m => t.mat ni nb v && tmMat l m
  | _, _ => false
def blMat (s : Hl) (p : Nat × Blk) : Bool := match hpOf s p.1 with
  | some b => gMat nb p.2.g b.g && p.2.ro == b.ro && lMat ni nb p.2.cells b.cells
  | none => false
def St.mat (t s : St) : Bool := tmMat ni nb t.tm s.tm && t.hp.all (blMat ni nb s.hp)
end mat

/-- The template's numbers are those. -/
structure NEnv (ni : Nat → Option A) (nb : Nat → Option B) (ρ0 ρ1 : Env) : Prop where
  i : ∀ j a, ni j = some a → ρ0.i j = a.d ρ1
  b : ∀ j a, nb j = some a → ρ0.b j = a.d ρ1
section
variable {ni : Nat → Option A} {nb : Nat → Option B} {ρ0 ρ1 : Env} (hn : NEnv ni nb ρ0 ρ1)
include hn
theorem A.mat_d {t a : A} (h : t.mat ni a = true) : t.d ρ0 = a.d ρ1 := by
  cases t with
  | v j =>
    simp only [A.mat] at h
    split at h
    · rename_i x hx
      rw [← A.eq_sound h]
      exact hn.i j x hx
    · cases h
  | c n =>
    cases a with
    | v _ => simp [A.mat] at h
    | c m => simp only [A.mat, beq_iff_eq] at h; rw [h]; rfl
theorem B.mat_d {t a : B} (h : t.mat nb a = true) : t.d ρ0 = a.d ρ1 := by
  cases t with
  | v j =>
    simp only [B.mat] at h
    split at h
    · rename_i x hx
      rw [← B.eq_sound h]
      exact hn.b j x hx
    · cases h
  | c n =>
    cases a with
    | v _ => simp [B.mat] at h
    | c m => simp only [B.mat, beq_iff_eq] at h; rw [h]; rfl
theorem gMat_d : ∀ {g h : Gd}, gMat nb g h = true → Gd.d ρ0 g = Gd.d ρ1 h
  | [], [], _ => rfl
  | (b, k) :: g, (c, l) :: h, he => by
    simp only [gMat, Bool.and_eq_true, beq_iff_eq] at he
    rw [Gd.d_cons, Gd.d_cons, gMat_d he.2, B.mat_d hn he.1.1, he.1.2]
  | [], _ :: _, he => by simp [gMat] at he
  | _ :: _, [], he => by simp [gMat] at he
theorem altMat_pick {i o : Nat} : ∀ {l m : List (B × Nat × Nat)}, altMat nb l m = true → pick ρ0 l i o = pick ρ1 m i o
  | [], [], _ => rfl
  | (b, j, p) :: l, (c, j', p') :: m, he => by
    simp only [altMat, Bool.and_eq_true, beq_iff_eq] at he
    obtain ⟨⟨⟨h1, rfl⟩, rfl⟩, h2⟩ := he
    unfold pick
    rw [B.mat_d hn h1, altMat_pick h2]
  | [], _ :: _, he => by simp [altMat] at he
  | _ :: _, [], he => by simp [altMat] at he
theorem C.mat_mt {β : Beta} {t c : C} {v : Value} (h : t.mat ni nb c = true) (hm : c.mt β ρ1 v) : t.mt β ρ0 v := by
  unfold C.mat at h
  split at h
  · simp only [Bool.and_eq_true, beq_iff_eq] at h
    obtain ⟨rfl, h⟩ := h
    simp only [C.mt] at *
    rw [A.mat_d hn h]
    exact hm
  · simp only [C.mt] at *
    rw [B.mat_d hn h]
    exact hm
  · simp only [Bool.and_eq_true, beq_iff_eq] at h
    obtain ⟨⟨rfl, rfl⟩, h⟩ := h
    simp only [C.mt] at *
    rw [altMat_pick hn h]
    exact hm
  · simp only [Bool.and_eq_true, beq_iff_eq] at h
    obtain ⟨⟨⟨⟨⟨rfl, rfl⟩, rfl⟩, rfl⟩, rfl⟩, h⟩ := h
    simp only [C.mt] at *
    rw [A.mat_d hn h]
    exact hm
  · simp only [Bool.and_eq_true, beq_iff_eq] at h
    obtain ⟨⟨⟨rfl, rfl⟩, rfl⟩, rfl⟩ := h
    exact hm
  · simp only [Bool.and_eq_true, beq_iff_eq] at h
    obtain ⟨⟨⟨rfl, h1⟩, h2⟩, h3⟩ := h
    have := cksEq_sound h1
    subst this
    simp only [C.mt] at *
    rw [A.mat_d hn h2, A.mat_d hn h3]
    exact hm
  · rw [vEq_sound h]; exact hm
  · exact C.mt_oneCell hm
  · split at h
    · rename_i p hp
      obtain ⟨s, h1, h2, h3⟩ := asStr_mt hp hm
      exact ⟨s, h1, by rw [A.mat_d hn h]; exact h2, h3⟩
    · cases h
  · simp only [Bool.and_eq_true, beq_iff_eq, List.isEmpty_iff] at h
    obtain ⟨⟨rfl, rfl⟩, rfl⟩ := h
    exact hm
  · cases h
theorem lMat_mt {β : Beta} : ∀ {l m : List C} {vs : List Value}, lMat ni nb l m = true → mtL β ρ1 m vs → mtL β ρ0 l vs
  | [], [], [], _, _ => trivial
  | [], [], _ :: _, _, h => h.elim
  | c :: l, d :: m, v :: vs, he, ⟨h1, h2⟩ => by
    simp only [lMat, Bool.and_eq_true] at he
    exact ⟨C.mat_mt hn he.1 h1, lMat_mt he.2 h2⟩
  | _ :: _, _ :: _, [], _, h => h.elim
  | [], _ :: _, _, he, _ => by simp [lMat] at he
  | _ :: _, [], _, he, _ => by simp [lMat] at he
theorem lMat_cells {β : Beta} {w : World} {b : Nat} : ∀ {l m : List C} {o : Nat}, lMat ni nb l m = true → cellsAt β ρ1 w b o m → cellsAt β ρ0 w b o l
  | [], [], _, _, _ => trivial
  | c :: l, d :: m, o, he, ⟨⟨v, hv, h1⟩, h2⟩ => by
    simp only [lMat, Bool.and_eq_true] at he
    exact ⟨⟨v, hv, C.mat_mt hn he.1 h1⟩, lMat_cells he.2 h2⟩
  | [], _ :: _, _, he, _ => by simp [lMat] at he
  | _ :: _, [], _, he, _ => by simp [lMat] at he
omit hn in
theorem lMat_length : ∀ {l m : List C}, lMat ni nb l m = true → l.length = m.length
  | [], [], _ => rfl
  | c :: l, d :: m, he => by
    simp only [lMat, Bool.and_eq_true] at he
    simp [lMat_length he.2]
  | [], _ :: _, he => by simp [lMat] at he
  | _ :: _, [], he => by simp [lMat] at he
theorem mt1_mat {β : Beta} {agg : Bool} {l m : List C} {v : Value} (h : lMat ni nb l m = true) (hm : mt1 β ρ1 agg m v) : mt1 β ρ0 agg l v := by
  unfold mt1 at *
  cases agg
  · obtain ⟨c, rfl, hc⟩ := hm
    match l, h with
    | [d], h =>
      simp only [lMat, Bool.and_true] at h
      exact ⟨d, rfl, C.mat_mt hn h hc⟩
    | [], h => simp [lMat] at h
    | _ :: _ :: _, h => simp [lMat] at h
  · obtain ⟨vs, rfl, hc⟩ := hm
    exact ⟨vs, rfl, lMat_mt hn h hc⟩
theorem tMat_mt {β : Beta} : ∀ {l m : List (Bool × List C)} {vs : List Value}, tMat ni nb l m = true → mtT β ρ1 m vs → mtT β ρ0 l vs
  | [], [], [], _, _ => trivial
  | [], [], _ :: _, _, h => h.elim
  | p :: l, q :: m, v :: vs, he, ⟨h1, h2⟩ => by
    simp only [tMat, Bool.and_eq_true, beq_iff_eq] at he
    refine ⟨?_, tMat_mt he.2 h2⟩
    rw [he.1.1]
    exact mt1_mat hn he.1.2 h1
  | _ :: _, _ :: _, [], _, h => h.elim
  | [], _ :: _, _, he, _ => by simp [tMat] at he
  | _ :: _, [], _, he, _ => by simp [tMat] at he
theorem S.mat_mt {β : Beta} {t s : S} {v : Value} (h : t.mat ni nb s = true) (hm : s.mt β ρ1 v) : t.mt β ρ0 v := by
  unfold S.mat at h
  split at h
  · trivial
  · simp only [Bool.and_eq_true, beq_iff_eq] at h
    obtain ⟨rfl, h⟩ := h
    exact mt1_mat hn h hm
  · obtain ⟨vs, h1, h2⟩ := hm
    exact ⟨vs, h1, tMat_mt hn h h2⟩
  · cases h
theorem SV.mat_mt {β : Beta} {t s : SV} {v : Value} (h : t.mat ni nb s = true) (hm : s.mt β ρ1 v) : t.mt β ρ0 v := by
  unfold SV.mat at h
  rw [Bool.or_eq_true] at h
  rcases h with h | h
  · unfold isAny at h
    split at h
    · exact anySV_mt v
    · cases h
  · simp only [Bool.and_eq_true] at h
    unfold SV.mt at *
    rw [gMat_d hn h.1]
    exact ⟨fun hg => S.mat_mt hn h.2 (hm.1 hg), hm.2⟩
theorem tmMat_get {β : Beta} : ∀ {l m : List SV}, tmMat ni nb l m = true → l.length = m.length ∧ ∀ (t : Nat) (u : SV), l[t]? = some u → ∃ v, m[t]? = some v ∧ ∀ y, v.mt β ρ1 y → u.mt β ρ0 y
  | [], [], _ => ⟨rfl, fun t u h => by simp at h⟩
  | a :: l, b :: m, he => by
    simp only [tmMat, Bool.and_eq_true] at he
    obtain ⟨h1, h2⟩ := tmMat_get (β := β) he.2
    refine ⟨by simp [h1], fun t u h => ?_⟩
    cases t with
    | zero => simp at h; subst h; exact ⟨b, by simp, fun y hy => SV.mat_mt hn he.1 hy⟩
    | succ t => simp at h; simpa using h2 t u h
  | [], _ :: _, he => by simp [tmMat] at he
  | _ :: _, [], he => by simp [tmMat] at he
omit hn in
theorem ghOf_any {β : Beta} {ρ ρ' : Env} {gl : Gl} {w : World} (h : heapMt β ρ (hpOf (ghOf gl 0)) w) : heapMt β ρ' (hpOf (ghOf gl 0)) w := by
  have hc : ∀ (v : Value) (u : Value), (ofC v).mt β ρ u → (ofC v).mt β ρ' u := by
    intro v u hm
    have key : ∀ c : C, ofC v = c → c.mt β ρ u → c.mt β ρ' u := by
      intro c hc h
      unfold ofC at hc
      split at hc
      · split at hc <;> (subst hc; exact h)
      · subst hc; exact h
      · subst hc; exact h
    exact key _ rfl hm
  have hl : ∀ (vs : List Value) (b o : Nat), cellsAt β ρ w b o (vs.map ofC) → cellsAt β ρ' w b o (vs.map ofC) := by
    intro vs
    induction vs with
    | nil => exact fun _ _ h => h
    | cons v vs ih => exact fun b o ⟨⟨u, h1, h2⟩, h3⟩ => ⟨⟨u, h1, hc v u h2⟩, ih b (o + 1) h3⟩
  have hg : ∀ (gl : Gl) (g id : Nat) (b : Blk), hpOf (ghOf gl g) id = some b → ∃ vs : List Value, b = { g := [], ro := true, cells := vs.map ofC } := by
    intro gl
    induction gl with
    | nil => intro g id b hb; simp [ghOf, hpOf] at hb
    | cons vs gl ih =>
      intro g id b hb
      unfold ghOf hpOf at hb
      split at hb
      · simp only [Option.some.injEq] at hb; exact ⟨vs, hb.symm⟩
      · exact ih _ _ _ hb
  intro id b hb hgd
  obtain ⟨vs, rfl⟩ := hg _ _ _ _ hb
  obtain ⟨r, h1, h2, h3, h4, h5⟩ := h id _ hb rfl
  exact ⟨r, h1, h2, h3, hl _ _ _ h4, h5⟩
theorem Rel.mat {x : Cx} {β : Beta} {t s : St} {a : Act} {w : World} (h : Rel x ρ1 β s a w) (hm : t.mat ni nb s = true) : Rel x ρ0 β t a w := by
  simp only [St.mat, Bool.and_eq_true, List.all_eq_true] at hm
  obtain ⟨h1, h2⟩ := hm
  obtain ⟨e1, e2⟩ := tmMat_get (β := β) hn h1
  refine ⟨h.size.trans e1.symm, fun t' v hv => ?_, h.df, fun id b hb hg => ?_, ghOf_any h.gm, h.gro, h.bo, h.kp, h.gl, h.ra⟩
  · obtain ⟨u, hu, hy⟩ := e2 t' v hv
    exact hy _ (h.slot t' u hu)
  · have := h2 (id, b) (hpOf_mem hb)
    unfold blMat at this
    split at this
    · rename_i b' hb'
      simp only [Bool.and_eq_true, beq_iff_eq] at this
      obtain ⟨⟨h3, h4⟩, h5⟩ := this
      obtain ⟨r, hr, hl, hro, hc, hf⟩ := h.hm id b' hb' (by rw [← gMat_d hn h3]; exact hg)
      exact ⟨r, hr, by rw [hl, lMat_length h5], by rw [hro, h4], lMat_cells hn h5 hc, fun h0 j hj => hf (by rw [← h4]; exact h0) j (by rw [← lMat_length h5]; exact hj)⟩
    · cases this
end

/-! ### Stretches below a number -/
def Beta.cut (β : Beta) (n : Nat) : Beta := fun i => if i < n then β i else none
def fvBelow (n : Nat) : FV → Bool
  | none => true
  | some p => p.2.all fun q => Nat.blt q.1 n
def C.below (n : Nat) : C → Bool
  | .ptr l id _ => Nat.blt id n && l.all fun p => Nat.blt p.2.1 n
  | .pix id _ _ _ _ _ => Nat.blt id n
  | .sli id _ _ _ => Nat.blt id n
  | .slx id _ _ _ => Nat.blt id n
  | .pxq id _ _ _ _ => Nat.blt id n
  | .fn l d => l.isEmpty && fvBelow n d
  | .mp id => Nat.blt id n
  | _ => true
def S.below (n : Nat) : S → Bool
  | .one _ l => l.all (C.below n)
  | .tup l => l.all fun p => p.2.all (C.below n)
  | .any => true
def St.below (n : Nat) (s : St) : Bool := s.tm.all (fun v => v.s.below n) && s.hp.all fun p => Nat.blt p.1 n && p.2.cells.all (C.below n)
theorem pick_below {ρ : Env} {n : Nat} : ∀ {l : List (B × Nat × Nat)} {i o : Nat}, i < n → (l.all fun p => Nat.blt p.2.1 n) = true → (pick ρ l i o).1 < n
  | [], i, o, hi, _ => hi
  | (b, j, p) :: l, i, o, hi, h => by
    simp only [List.all_cons, Bool.and_eq_true, Nat.blt_eq] at h
    unfold pick
    split
    · exact h.1
    · exact pick_below hi h.2
theorem capMt_cut {β : Beta} {n : Nat} : ∀ {l : List (Nat × Nat)} {vs : List Value}, (l.all fun q => Nat.blt q.1 n) = true → capMt β l vs → capMt (β.cut n) l vs
  | [], [], _, _ => trivial
  | q :: l, v :: vs, hc, ⟨⟨r, hr, hv⟩, h2⟩ => by
    simp only [List.all_cons, Bool.and_eq_true, Nat.blt_eq] at hc
    exact ⟨⟨r, by unfold Beta.cut; rw [if_pos hc.1]; exact hr, hv⟩, capMt_cut hc.2 h2⟩
  | [], _ :: _, _, h => h.elim
  | _ :: _, [], _, h => h.elim
theorem C.cut_mt {β : Beta} {ρ : Env} {n : Nat} {c : C} {v : Value} (hc : c.below n = true) (h : c.mt β ρ v) : c.mt (β.cut n) ρ v := by
  cases c with
  | ptr l id off =>
    simp only [C.below, Bool.and_eq_true, Nat.blt_eq] at hc
    obtain ⟨r, hr, hv⟩ := h
    exact ⟨r, by unfold Beta.cut; rw [if_pos (pick_below hc.1 hc.2)]; exact hr, hv⟩
  | pix id off s len a k =>
    simp only [C.below, Nat.blt_eq] at hc
    obtain ⟨h1, h2, r, hr, hv⟩ := h
    exact ⟨h1, h2, r, by unfold Beta.cut; rw [if_pos hc]; exact hr, hv⟩
  | sli id off len cap =>
    simp only [C.below, Nat.blt_eq] at hc
    obtain ⟨r, hr, hv⟩ := h
    exact ⟨r, by unfold Beta.cut; rw [if_pos hc]; exact hr, hv⟩
  | slx id ks q len =>
    simp only [C.below, Nat.blt_eq] at hc
    obtain ⟨h1, h2, h3⟩ := h
    refine ⟨h1, h2, ?_⟩
    rcases h3 with h3 | ⟨r, cap, l, hr, h4⟩
    · exact .inl h3
    · exact .inr ⟨r, cap, l, by unfold Beta.cut; rw [if_pos hc]; exact hr, h4⟩
  | pxq id ks q a k =>
    simp only [C.below, Nat.blt_eq] at hc
    obtain ⟨h1, r, l, hr, h2⟩ := h
    exact ⟨h1, r, l, by unfold Beta.cut; rw [if_pos hc]; exact hr, h2⟩
  | fn l d =>
    simp only [C.below, Bool.and_eq_true, List.isEmpty_iff] at hc
    obtain ⟨rfl, hc⟩ := hc
    have h : fvMt β d v := h
    show fvMt (β.cut n) d v
    unfold fvMt at *
    cases d with
    | none => exact h
    | some p =>
      obtain ⟨vs, h1, h2⟩ := h
      exact ⟨vs, h1, capMt_cut hc h2⟩
  | mp id =>
    simp only [C.below, Nat.blt_eq] at hc
    obtain ⟨r, hr, hv⟩ := h
    exact ⟨r, by unfold Beta.cut; rw [if_pos hc]; exact hr, hv⟩
  | _ => exact h
theorem cut_mtL {β : Beta} {ρ : Env} {n : Nat} : ∀ {l : List C} {vs : List Value}, l.all (C.below n) = true → mtL β ρ l vs → mtL (β.cut n) ρ l vs
  | [], [], _, _ => trivial
  | c :: l, v :: vs, hc, ⟨h1, h2⟩ => by
    simp only [List.all_cons, Bool.and_eq_true] at hc
    exact ⟨C.cut_mt hc.1 h1, cut_mtL hc.2 h2⟩
  | [], _ :: _, _, h => h.elim
  | _ :: _, [], _, h => h.elim
theorem cut_cells {β : Beta} {ρ : Env} {n : Nat} {w : World} {b : Nat} : ∀ {l : List C} {o : Nat}, l.all (C.below n) = true → cellsAt β ρ w b o l → cellsAt (β.cut n) ρ w b o l
  | [], _, _, _ => trivial
  | c :: l, o, hc, ⟨⟨v, hv, h1⟩, h2⟩ => by
    simp only [List.all_cons, Bool.and_eq_true] at hc
    exact ⟨⟨v, hv, C.cut_mt hc.1 h1⟩, cut_cells hc.2 h2⟩
theorem cut_mt1 {β : Beta} {ρ : Env} {n : Nat} {agg : Bool} {l : List C} {v : Value} (hc : l.all (C.below n) = true) (h : mt1 β ρ agg l v) : mt1 (β.cut n) ρ agg l v := by
  unfold mt1 at *
  cases agg
  · obtain ⟨c, rfl, h⟩ := h
    simp only [List.all_cons, List.all_nil, Bool.and_true] at hc
    exact ⟨c, rfl, C.cut_mt hc h⟩
  · obtain ⟨vs, rfl, h⟩ := h
    exact ⟨vs, rfl, cut_mtL hc h⟩
theorem cut_mtT {β : Beta} {ρ : Env} {n : Nat} : ∀ {l : List (Bool × List C)} {vs : List Value}, (l.all fun p => p.2.all (C.below n)) = true → mtT β ρ l vs → mtT (β.cut n) ρ l vs
  | [], [], _, _ => trivial
  | p :: l, v :: vs, hc, ⟨h1, h2⟩ => by
    simp only [List.all_cons, Bool.and_eq_true] at hc
    exact ⟨cut_mt1 hc.1 h1, cut_mtT hc.2 h2⟩
  | [], _ :: _, _, h => h.elim
  | _ :: _, [], _, h => h.elim
theorem S.cut_mt {β : Beta} {ρ : Env} {n : Nat} {s : S} {v : Value} (hc : s.below n = true) (h : s.mt β ρ v) : s.mt (β.cut n) ρ v := by
  cases s with
  | one agg l => exact cut_mt1 hc h
  | tup l => obtain ⟨vs, h1, h2⟩ := h; exact ⟨vs, h1, cut_mtT hc h2⟩
  | any => trivial
theorem BetaOk.cut {N : Nat} {R : List Rg} {β : Beta} {w : World} (h : BetaOk N R β w) (n : Nat) : BetaOk N R (β.cut n) w := by
  have hc : ∀ i r, β.cut n i = some r → β i = some r := fun i r hi => by
    unfold Beta.cut at hi
    split at hi
    · exact hi
    · cases hi
  exact ⟨fun i j r q hij hi hj => h.apart i j r q hij (hc _ _ hi) (hc _ _ hj), fun i r hi => h.place i r (hc _ _ hi), fun i r hi => h.may i r (hc _ _ hi), fun i r ks l hi hs => h.sq i r ks l (hc _ _ hi) hs⟩
theorem cut_low {β : Beta} {n i : Nat} {r : Rg} (hi : i < n) (h : β i = some r) : β.cut n i = some r := by
  unfold Beta.cut; rw [if_pos hi]; exact h
/-- Where all that is named lies below, the rest can be forgotten. -/
theorem Rel.cut {x : Cx} {ρ : Env} {β β0 : Beta} {s : St} {a : Act} {w : World} {n : Nat} (h : Rel x ρ β s a w) (hs : s.below n = true) (he : Ext β0 β) (h0 : ∀ i r, β0 i = some r → i < n)
    (hg : ∀ (g : Nat) (vs : List Value), x.gl[g]? = some vs → β0 g = some (gRg g vs)) (hr : ∀ (j : Nat) (r : Rg), x.gr[j]? = some r → β0 (x.ng + j) = some r) : Rel x ρ (β.cut n) s a w := by
  simp only [St.below, Bool.and_eq_true, List.all_eq_true] at hs
  obtain ⟨h1, h2⟩ := hs
  refine ⟨h.size, fun t v hv => ?_, h.df, fun id b hb hgd => ?_, fun id b hb hgd => ?_, h.gro, h.bo.cut n, h.kp, fun g vs hgl => cut_low (h0 _ _ (hg g vs hgl)) (h.gl g vs hgl), fun j r hj => cut_low (h0 _ _ (hr j r hj)) (h.ra j r hj)⟩
  · have hm := h.slot t v hv
    exact ⟨fun hgd => S.cut_mt (h1 v (List.mem_of_getElem? hv)) (hm.1 hgd), hm.2⟩
  · have hb2 := h2 (id, b) (hpOf_mem hb)
    simp only [Nat.blt_eq] at hb2
    obtain ⟨r, hr, hl, hro, hc, hf⟩ := h.hm id b hb hgd
    exact ⟨r, cut_low hb2.1 hr, hl, hro, cut_cells (List.all_eq_true.2 hb2.2) hc, hf⟩
  · obtain ⟨r, hrr, hl, hro, hc, hf⟩ := h.gm id b hb hgd
    have hid : ∃ vs : List Value, x.gl[id]? = some vs ∧ b.cells = vs.map ofC := by
      have key : ∀ (gl : Gl) (g : Nat), hpOf (ghOf gl g) id = some b → ∃ vs : List Value, g ≤ id ∧ gl[id - g]? = some vs ∧ b.cells = vs.map ofC := by
        intro gl
        induction gl with
        | nil => intro g hb; simp [ghOf, hpOf] at hb
        | cons vs gl ih =>
          intro g hb
          unfold ghOf hpOf at hb
          split at hb
          · rename_i he
            simp only [beq_iff_eq] at he
            simp only [Option.some.injEq] at hb
            exact ⟨vs, by omega, by simp [he], by rw [← hb]⟩
          · rename_i he
            obtain ⟨us, e1, e2, e3⟩ := ih (g + 1) hb
            have : g ≠ id := by simpa using he
            exact ⟨us, by omega, by rw [show id - g = (id - (g + 1)) + 1 by omega]; simpa using e2, e3⟩
      obtain ⟨vs, _, e1, e2⟩ := key x.gl 0 hb
      exact ⟨vs, by simpa using e1, e2⟩
    obtain ⟨vs, e1, e2⟩ := hid
    refine ⟨r, cut_low (h0 _ _ (hg id vs e1)) hrr, hl, hro, cut_cells ?_ hc, hf⟩
    rw [e2, List.all_eq_true]
    intro c hcm
    obtain ⟨v, _, rfl⟩ := List.mem_map.1 hcm
    unfold ofC
    split
    · split <;> rfl
    · rfl
    · rfl

/-! ### A state, told by other numbers; what these do not tell is forgotten -/
structure Ren where
  i : Nat → Option A
  b : Nat → Option B
  n : Nat
def A.ren (R : Ren) : A → Option A
  | .v j => R.i j
  | .c k => some (.c k)
def B.ren (R : Ren) : B → Option B
  | .v j => R.b j
  | .c k => some (.c k)
def gRen (R : Ren) : Gd → Option Gd
  | [] => some []
  | (b, k) :: g => match b.ren R, gRen R g with
    | some b, some g => some ((b, k) :: g)
    | _, _ => none
def altRen (R : Ren) : List (B × Nat × Nat) → Option (List (B × Nat × Nat))
  | [] => some []
  | (b, k) :: g => match b.ren R, altRen R g with
    | some b, some g => some ((b, k) :: g)
    | _, _ => none
def C.ren (R : Ren) : C → C
  | .int k a => match a.ren R with | some a => .int k a | none => .junk
  | .bool b => match b.ren R with | some b => .bool b | none => .junk
  | .ptr l id off => match altRen R l with | some l => if (C.ptr l id off).below R.n then .ptr l id off else .junk | none => .junk
  | .pix id off s len a k => match a.ren R with | some a => if Nat.blt id R.n then .pix id off s len a k else .junk | none => .junk
  | .sli id off len cap => if Nat.blt id R.n then .sli id off len cap else .junk
  | .slx id ks q len => match q.ren R, len.ren R with | some q, some len => if Nat.blt id R.n then .slx id ks q len else .junk | _, _ => .junk
  | .pxq _ _ _ _ _ => .junk
  | .val u => .val u
  | .junk => .junk
  | .str q => match q.ren R with | some q => .str q | none => .junk
  | .fn l d => if (C.fn l d).below R.n then .fn l d else .junk
  | .mp id => if Nat.blt id R.n then .mp id else .junk
def S.ren (R : Ren) : S → S
  | .one agg l => .one agg (l.map (C.ren R))
  | .tup l => .tup (l.map fun p => (p.1, p.2.map (C.ren R)))
  | .any => .any
def SV.ren (R : Ren) (v : SV) : SV := match gRen R v.g with
  | some g => { g := g, s := v.s.ren R }
  | none => anySV
def hpRen (R : Ren) (hp : Hl) : List Nat → Hl
  | [] => []
  | i :: l => match Nat.blt i R.n, hpOf hp i with
    | true, some b => match gRen R b.g with
      | some g => (i, { b with g := g, cells := b.cells.map (C.ren R) }) :: hpRen R hp l
      | none => hpRen R hp l
    | _, _ => hpRen R hp l
def St.ren (R : Ren) (s : St) : St := { tm := s.tm.map (SV.ren R), hp := hpRen R s.hp (dedup (s.hp.map (·.1))) }
structure NRen (R : Ren) (ρ1 ρ2 : Env) : Prop where
  i : ∀ j a, R.i j = some a → a.d ρ2 = ρ1.i j
  b : ∀ j a, R.b j = some a → a.d ρ2 = ρ1.b j
section
variable {R : Ren} {ρ1 ρ2 : Env} (hr : NRen R ρ1 ρ2)
include hr
theorem A.ren_d {a a' : A} (h : a.ren R = some a') : a'.d ρ2 = a.d ρ1 := by
  cases a with
  | v j => exact hr.i j a' h
  | c k => simp only [A.ren, Option.some.injEq] at h; subst h; rfl
theorem B.ren_d {a a' : B} (h : a.ren R = some a') : a'.d ρ2 = a.d ρ1 := by
  cases a with
  | v j => exact hr.b j a' h
  | c k => simp only [B.ren, Option.some.injEq] at h; subst h; rfl
theorem gRen_d : ∀ {g g' : Gd}, gRen R g = some g' → Gd.d ρ2 g' = Gd.d ρ1 g
  | [], g', h => by simp only [gRen, Option.some.injEq] at h; subst h; rfl
  | (b, k) :: g, g', h => by
    unfold gRen at h
    split at h
    · rename_i b' g'' h1 h2
      simp only [Option.some.injEq] at h
      subst h
      rw [Gd.d_cons, Gd.d_cons, B.ren_d hr h1, gRen_d h2]
    · cases h
theorem altRen_pick {i o : Nat} : ∀ {l l' : List (B × Nat × Nat)}, altRen R l = some l' → pick ρ2 l' i o = pick ρ1 l i o
  | [], l', h => by simp only [altRen, Option.some.injEq] at h; subst h; rfl
  | (b, k) :: l, l', h => by
    unfold altRen at h
    split at h
    · rename_i b' g'' h1 h2
      simp only [Option.some.injEq] at h
      subst h
      obtain ⟨k1, k2⟩ := k
      unfold pick
      rw [B.ren_d hr h1, altRen_pick h2]
    · cases h
theorem C.ren_mt {β : Beta} {c : C} {v : Value} (h : c.mt β ρ1 v) : (c.ren R).mt (β.cut R.n) ρ2 v := by
  have ho := C.mt_oneCell h
  cases c with
  | int k a =>
    unfold C.ren
    simp only
    split
    · rename_i a' ha
      simp only [C.mt] at *
      rw [A.ren_d hr ha]
      exact h
    · exact ho
  | bool b =>
    unfold C.ren
    simp only
    split
    · rename_i a' ha
      simp only [C.mt] at *
      rw [B.ren_d hr ha]
      exact h
    · exact ho
  | ptr l id off =>
    unfold C.ren
    simp only
    split
    · rename_i l' hl
      split
      · rename_i hb
        refine C.cut_mt hb ?_
        simp only [C.mt] at *
        rw [altRen_pick hr hl]
        exact h
      · exact ho
    · exact ho
  | pix id off s len a k =>
    unfold C.ren
    simp only
    split
    · rename_i a' ha
      split
      · rename_i hb
        refine C.cut_mt (by simpa [C.below] using hb) ?_
        simp only [C.mt] at *
        rw [A.ren_d hr ha]
        exact h
      · exact ho
    · exact ho
  | sli id off len cap =>
    unfold C.ren
    simp only
    split
    · rename_i hb
      exact C.cut_mt (by simpa [C.below] using hb) h
    · exact ho
  | slx id ks q len =>
    unfold C.ren
    simp only
    split
    · rename_i q' len' hq hl
      split
      · rename_i hb
        refine C.cut_mt (by simpa [C.below] using hb) ?_
        simp only [C.mt] at *
        rw [A.ren_d hr hq, A.ren_d hr hl]
        exact h
      · exact ho
    · exact ho
  | pxq id ks q a k => exact ho
  | str q =>
    unfold C.ren
    simp only
    split
    · rename_i q' hq
      obtain ⟨s, h1, h2, h3⟩ := h
      exact ⟨s, h1, by rw [A.ren_d hr hq]; exact h2, h3⟩
    · exact ho
  | fn l d =>
    unfold C.ren
    simp only
    split
    · rename_i hb
      refine C.cut_mt hb ?_
      have hb' := hb
      simp only [C.below, Bool.and_eq_true, List.isEmpty_iff] at hb'
      obtain ⟨rfl, _⟩ := hb'
      exact h
    · exact ho
  | mp id =>
    unfold C.ren
    simp only
    split
    · rename_i hb
      exact C.cut_mt (by simpa [C.below] using hb) h
    · exact ho
  | val u => exact h
  | junk => exact h
theorem ren_mtL {β : Beta} : ∀ {l : List C} {vs : List Value}, mtL β ρ1 l vs → mtL (β.cut R.n) ρ2 (l.map (C.ren R)) vs
  | [], [], _ => trivial
  | c :: l, v :: vs, ⟨h1, h2⟩ => ⟨C.ren_mt hr h1, ren_mtL h2⟩
  | [], _ :: _, h => h.elim
  | _ :: _, [], h => h.elim
theorem ren_cells {β : Beta} {w : World} {b : Nat} : ∀ {l : List C} {o : Nat}, cellsAt β ρ1 w b o l → cellsAt (β.cut R.n) ρ2 w b o (l.map (C.ren R))
  | [], _, _ => trivial
  | c :: l, o, ⟨⟨v, hv, h1⟩, h2⟩ => ⟨⟨v, hv, C.ren_mt hr h1⟩, ren_cells h2⟩
theorem ren_mt1 {β : Beta} {agg : Bool} {l : List C} {v : Value} (h : mt1 β ρ1 agg l v) : mt1 (β.cut R.n) ρ2 agg (l.map (C.ren R)) v := by
  unfold mt1 at *
  cases agg
  · obtain ⟨c, rfl, h⟩ := h
    exact ⟨_, rfl, C.ren_mt hr h⟩
  · obtain ⟨vs, rfl, h⟩ := h
    exact ⟨vs, rfl, ren_mtL hr h⟩
theorem ren_mtT {β : Beta} : ∀ {l : List (Bool × List C)} {vs : List Value}, mtT β ρ1 l vs → mtT (β.cut R.n) ρ2 (l.map fun p => (p.1, p.2.map (C.ren R))) vs
  | [], [], _ => trivial
  | p :: l, v :: vs, ⟨h1, h2⟩ => ⟨ren_mt1 hr h1, ren_mtT h2⟩
  | [], _ :: _, h => h.elim
  | _ :: _, [], h => h.elim
theorem S.ren_mt {β : Beta} {s : S} {v : Value} (h : s.mt β ρ1 v) : (s.ren R).mt (β.cut R.n) ρ2 v := by
  cases s with
  | one agg l => exact ren_mt1 hr h
  | tup l => obtain ⟨vs, h1, h2⟩ := h; exact ⟨vs, h1, ren_mtT hr h2⟩
  | any => trivial
theorem SV.ren_mt {β : Beta} {s : SV} {v : Value} (h : s.mt β ρ1 v) : (s.ren R).mt (β.cut R.n) ρ2 v := by
  unfold SV.ren
  split
  · rename_i g hg
    unfold SV.mt at *
    simp only
    rw [gRen_d hr hg]
    exact ⟨fun hgd => S.ren_mt hr (h.1 hgd), h.2⟩
  · exact anySV_mt v
omit hr in
theorem hpRen_get {hp : Hl} : ∀ {l : List Nat} {id : Nat} {b : Blk}, hpOf (hpRen R hp l) id = some b → ∃ b' g, id < R.n ∧ hpOf hp id = some b' ∧ gRen R b'.g = some g ∧ b = { b' with g := g, cells := b'.cells.map (C.ren R) }
  | [], id, b, h => by simp [hpRen, hpOf] at h
  | i :: l, id, b, h => by
    unfold hpRen at h
    split at h
    · rename_i b' h1 h2
      split at h
      · rename_i g hg
        unfold hpOf at h
        split at h
        · rename_i he
          simp only [beq_iff_eq] at he
          subst he
          simp only [Option.some.injEq] at h
          exact ⟨b', g, by simpa using h1, h2, hg, h.symm⟩
        · exact hpRen_get h
      · exact hpRen_get h
    · exact hpRen_get h
theorem Rel.ren {x : Cx} {β β0 : Beta} {s : St} {a : Act} {w : World} (h : Rel x ρ1 β s a w) (he : Ext β0 β) (h0 : ∀ i r, β0 i = some r → i < R.n)
    (hg : ∀ (g : Nat) (vs : List Value), x.gl[g]? = some vs → β0 g = some (gRg g vs)) (hra : ∀ (j : Nat) (r : Rg), x.gr[j]? = some r → β0 (x.ng + j) = some r) : Rel x ρ2 (β.cut R.n) (s.ren R) a w := by
  -- the tables' own part, by the state without anything
  have hb0 : Rel x ρ1 (β.cut R.n) { tm := s.tm.map fun _ => anySV, hp := [] } a w :=
    Rel.cut (s := { tm := s.tm.map fun _ => anySV, hp := [] }) ⟨by rw [h.size]; simp, fun t v hv => by
      rw [List.getElem?_map] at hv
      cases ht : s.tm[t]? with
      | none => rw [ht] at hv; simp at hv
      | some u => rw [ht] at hv; simp only [Option.map_some, Option.some.injEq] at hv; subst hv; exact anySV_mt _, h.df, fun id b hb => by simp [hpOf] at hb, h.gm, h.gro, h.bo, h.kp, h.gl, h.ra⟩
      (by simp [St.below, anySV, S.below]) he h0 hg hra
  refine ⟨by rw [h.size]; simp [St.ren], fun t v hv => ?_, h.df, fun id b hb hgd => ?_, ghOf_any hb0.gm, h.gro, hb0.bo, h.kp, hb0.gl, hb0.ra⟩
  · simp only [St.ren, List.getElem?_map] at hv
    cases ht : s.tm[t]? with
    | none => rw [ht] at hv; simp at hv
    | some u =>
      rw [ht] at hv
      simp only [Option.map_some, Option.some.injEq] at hv
      subst hv
      exact SV.ren_mt hr (h.slot t u ht)
  · obtain ⟨b', g, hid, hb', hgg, rfl⟩ := hpRen_get hb
    obtain ⟨r, hrr, hl, hro, hc, hf⟩ := h.hm id b' hb' (by rw [← gRen_d hr hgg]; exact hgd)
    exact ⟨r, cut_low hid hrr, by simp [hl], hro, ren_cells hr hc, fun h0 j hj => hf h0 j (by simpa using hj)⟩
end

def dropK (k : Kd) : Outs → Outs
  | [] => []
  | (l, q, s) :: O => if k.eq l then dropK k O else (l, q, s) :: dropK k O
theorem dropK_get {k l : Kd} : ∀ (O : Outs), getK l (dropK k O) = if k.eq l then none else getK l O
  | [] => by simp [dropK, getK]
  | (m, q, s) :: O => by
    unfold dropK
    split
    · rename_i h
      rw [dropK_get O]
      split
      · rfl
      · rename_i h2
        simp only [getK]
        rw [if_neg (fun h3 => h2 (by rw [Kd.eq_sound h3]; exact h))]
    · rename_i h
      simp only [getK]
      split
      · rename_i h3
        rw [if_neg (fun h4 => h (by rw [Kd.eq_sound h4, Kd.eq_sound h3]; exact Kd.eq_refl _))]
      · exact dropK_get O

section
variable {P : Program} {Φ : Funs} {x : Cx} {ρ : Env}
/-- Code, or so many turns of a loop, does what the executor says. -/
def OkW (Φ : Funs) (x : Cx) (ρ : Env) (W : (Exit → Act → World → Prop) → Act → World → Prop) (f : St → M Outs) : Prop :=
  ∀ (s : St) (c c' : Ctr) (O : Outs) (out : List Em), f s c = some (O, c', out) → Good Φ ρ out → ∀ (β : Beta) (a : Act) (w : World), Rel x ρ β s a w → Fresh β c →
    ∀ (Q : Exit → Act → World → Prop), (∀ e a' w' K, kdOf e = some K → OutMt x ρ β c' O K a' w' → Q e a' w') → W Q a w
abbrev CodeOk (P : Program) (Φ : Funs) (x : Cx) (ρ : Env) (cd : Code) (f : St → M Outs) : Prop := OkW Φ x ρ (fun Q a w => cd.wp P Q a w) f

theorem OutMt.le {β : Beta} {c c' : Ctr} {O : Outs} {K : Kd} {a : Act} {w : World} (h : OutMt x ρ β c O K a w) (hc : c.id ≤ c'.id) : OutMt x ρ β c' O K a w := by
  obtain ⟨h1, q, s, β', h2, h3, h4, h5⟩ := h
  exact ⟨h1, q, s, β', h2, h3, h4, h5.le hc⟩
theorem OutMt.ext {β β0 : Beta} {c : Ctr} {O : Outs} {K : Kd} {a : Act} {w : World} (he : Ext β0 β) (h : OutMt x ρ β c O K a w) : OutMt x ρ β0 c O K a w := by
  obtain ⟨h1, q, s, β', h2, h3, h4, h5⟩ := h
  exact ⟨h1, q, s, β', h2, he.trans h3, h4, h5⟩
theorem OutMt.one {β : Beta} {c : Ctr} {k : Kd} {s : St} {a : Act} {w : World} {β' : Beta} (he : Ext β β') (h : Rel x ρ β' s a w) (hf : Fresh β' c) : OutMt x ρ β c [(k, [], s)] k a w := by
  refine ⟨fun l q t hl => ?_, [], s, β', by simp [getK, Kd.eq_refl], he, h, hf⟩
  unfold getK at hl
  split at hl
  · rename_i hk
    simp only [Option.some.injEq, Prod.mk.injEq] at hl
    obtain ⟨rfl, rfl⟩ := hl
    simp [Kd.eq_sound hk]
  · simp [getK] at hl

end
end Go.Proofs.YtalnndmnnffnmaaGreat.Sx
