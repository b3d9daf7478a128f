/-
  SX, part X: what was emitted, and what it comes to. No condition.
-/
import Derived.Test.YtalnndmnnffnmaaGreatSxJ
set_option linter.unusedVariables false
set_option linter.unusedSimpArgs false
namespace Go.Proofs.YtalnndmnnffnmaaGreat.Sx
open Go

def A.lt (n : Nat) : A → Bool
  | .v i => Nat.blt i n
  | .c _ => true
def B.lt (n : Nat) : B → Bool
  | .v i => Nat.blt i n
  | .c _ => true
def RI.lt (i b : Nat) : RI → Bool
  | .ar _ _ x y => x.lt i && y.lt i
  | .cv _ x => x.lt i
  | .ite c x y => c.lt b && x.lt i && y.lt i
  | .mn x y => x.lt i && y.lt i
  | .mx x y => x.lt i && y.lt i
  | .tab _ x => x.lt i
  | .get q a _ _ => q.lt i && a.lt i
  | .lenq q _ => q.lt i
def RB.lt (i b : Nat) : RB → Bool
  | .cm _ x y => x.lt i && y.lt i
  | .not x => x.lt b
  | .and x y => x.lt b && y.lt b
  | .or x y => x.lt b && y.lt b
  | .eqb x y => x.lt b && y.lt b
  | .ite c x y => c.lt b && x.lt b && y.lt b
  | .getb q a _ _ => q.lt i && a.lt i
def wsEm : List Em → Nat → Nat → Bool
  | [], _, _ => true
  | .di n r :: l, i, b => n == i && r.lt i b && wsEm l (i + 1) b
  | .db n r :: l, i, b => n == b && r.lt i b && wsEm l i (b + 1)
  | .call _ ai ab i0 ni b0 nb :: l, i, b => i0 == i && b0 == b && ai.all (A.lt i) && ab.all (B.lt b) && wsEm l (i + ni) (b + nb)
  | .ob _ _ :: l, i, b => wsEm l i b

/-- Two environments that agree below. -/
def Agree (i b : Nat) (ρ ρ' : Env) : Prop := (∀ n, n < i → ρ'.i n = ρ.i n) ∧ (∀ n, n < b → ρ'.b n = ρ.b n)
theorem A.d_agree {i b : Nat} {ρ ρ' : Env} (h : Agree i b ρ ρ') {x : A} (hx : x.lt i = true) : x.d ρ' = x.d ρ := by
  cases x with
  | v n => simp only [A.lt, Nat.blt_eq] at hx; exact h.1 n hx
  | c k => rfl
theorem B.d_agree {i b : Nat} {ρ ρ' : Env} (h : Agree i b ρ ρ') {x : B} (hx : x.lt b = true) : x.d ρ' = x.d ρ := by
  cases x with
  | v n => simp only [B.lt, Nat.blt_eq] at hx; exact h.2 n hx
  | c k => rfl
theorem RI.d_agree {i b : Nat} {ρ ρ' : Env} (h : Agree i b ρ ρ') {r : RI} (hr : r.lt i b = true) : r.d ρ' = r.d ρ := by
  cases r <;> simp only [RI.lt, Bool.and_eq_true] at hr <;> simp only [RI.d]
  · rw [A.d_agree h hr.1, A.d_agree h hr.2]
  · rw [A.d_agree h hr]
  · rw [A.d_agree h hr.1.2, A.d_agree h hr.2, B.d_agree h hr.1.1]
  · rw [A.d_agree h hr.1, A.d_agree h hr.2]
  · rw [A.d_agree h hr.1, A.d_agree h hr.2]
  · rw [A.d_agree h hr]
  · rw [A.d_agree h hr.1, A.d_agree h hr.2]
  · rw [A.d_agree h hr]
theorem RB.d_agree {i b : Nat} {ρ ρ' : Env} (h : Agree i b ρ ρ') {r : RB} (hr : r.lt i b = true) : r.d ρ' = r.d ρ := by
  cases r <;> simp only [RB.lt, Bool.and_eq_true] at hr <;> simp only [RB.d]
  · rw [A.d_agree h hr.1, A.d_agree h hr.2]
  · rw [B.d_agree h hr]
  · rw [B.d_agree h hr.1, B.d_agree h hr.2]
  · rw [B.d_agree h hr.1, B.d_agree h hr.2]
  · rw [B.d_agree h hr.1, B.d_agree h hr.2]
  · rw [B.d_agree h hr.1.1, B.d_agree h hr.1.2, B.d_agree h hr.2]
  · rw [A.d_agree h hr.1, A.d_agree h hr.2]
theorem padTo_length {α : Type} (d : α) : ∀ (n : Nat) (l : List α), (padTo d n l).length = n
  | 0, _ => rfl
  | n + 1, [] => by simp [padTo, padTo_length d n]
  | n + 1, _ :: l => by simp [padTo, padTo_length d n]
theorem padTo_getD {α : Type} (d : α) : ∀ (n : Nat) (l : List α) (j : Nat), j < n → (padTo d n l).getD j d = l.getD j d
  | n + 1, [], 0, _ => by simp [padTo]
  | n + 1, x :: l, 0, _ => by simp [padTo]
  | n + 1, [], j + 1, h => by simpa [padTo] using padTo_getD d n [] j (by omega)
  | n + 1, x :: l, j + 1, h => by simpa [padTo] using padTo_getD d n l j (by omega)
theorem agree_append (is ks : List Int) (bs cs : List Bool) : Agree is.length bs.length (envOf is bs) (envOf (is ++ ks) (bs ++ cs)) :=
  ⟨fun n hn => getD_append_left _ _ _ _ hn, fun n hn => getD_append_left _ _ _ _ hn⟩
theorem Agree.trans {i b i' b' : Nat} {ρ ρ' ρ'' : Env} (h : Agree i b ρ ρ') (h' : Agree i' b' ρ' ρ'') (hi : i ≤ i') (hb : b ≤ b') : Agree i b ρ ρ'' :=
  ⟨fun n hn => (h'.1 n (by omega)).trans (h.1 n hn), fun n hn => (h'.2 n (by omega)).trans (h.2 n hn)⟩

theorem evEm_spec (Φ : Funs) : ∀ (l : List Em) (is : List Int) (bs : List Bool), wsEm l is.length bs.length = true →
    Agree is.length bs.length (envOf is bs) (envOf (evEm Φ l is bs).1 (evEm Φ l is bs).2) ∧
      ∀ e, e ∈ l → (match e with | .ob _ _ => True | e => e.ok Φ (envOf (evEm Φ l is bs).1 (evEm Φ l is bs).2))
  | [], is, bs, _ => ⟨⟨fun _ _ => rfl, fun _ _ => rfl⟩, fun e he => by cases he⟩
  | .di n r :: l, is, bs, h => by
    simp only [wsEm, Bool.and_eq_true, beq_iff_eq] at h
    obtain ⟨⟨rfl, hr⟩, hl⟩ := h
    have ih := evEm_spec Φ l (is ++ [r.d (envOf is bs)]) bs (by simpa using hl)
    simp only [evEm]
    have ha := agree_append is [r.d (envOf is bs)] bs []
    rw [List.append_nil] at ha
    have hA := ha.trans ih.1 (by simp) (Nat.le_refl _)
    refine ⟨hA, fun e he => ?_⟩
    rcases List.mem_cons.1 he with rfl | he
    · show (envOf _ _).i is.length = r.d _
      rw [RI.d_agree hA hr, ih.1.1 is.length (by simp)]
      simp [envOf]
    · exact ih.2 e he
  | .db n r :: l, is, bs, h => by
    simp only [wsEm, Bool.and_eq_true, beq_iff_eq] at h
    obtain ⟨⟨rfl, hr⟩, hl⟩ := h
    have ih := evEm_spec Φ l is (bs ++ [r.d (envOf is bs)]) (by simpa using hl)
    simp only [evEm]
    have ha := agree_append is [] bs [r.d (envOf is bs)]
    rw [List.append_nil] at ha
    have hA := ha.trans ih.1 (Nat.le_refl _) (by simp)
    refine ⟨hA, fun e he => ?_⟩
    rcases List.mem_cons.1 he with rfl | he
    · show (envOf _ _).b bs.length = r.d _
      rw [RB.d_agree hA hr, ih.1.2 bs.length (by simp)]
      simp [envOf]
    · exact ih.2 e he
  | .call f ai ab i0 ni b0 nb :: l, is, bs, h => by
    simp only [wsEm, Bool.and_eq_true, beq_iff_eq, List.all_eq_true] at h
    obtain ⟨⟨⟨⟨rfl, rfl⟩, hai⟩, hab⟩, hl⟩ := h
    have ih := evEm_spec Φ l (is ++ padTo 0 ni (Φ f (ai.map (A.d (envOf is bs))) (ab.map (B.d (envOf is bs)))).1) (bs ++ padTo false nb (Φ f (ai.map (A.d (envOf is bs))) (ab.map (B.d (envOf is bs)))).2)
      (by simpa [padTo_length] using hl)
    simp only [evEm]
    have ha := agree_append is (padTo 0 ni (Φ f (ai.map (A.d (envOf is bs))) (ab.map (B.d (envOf is bs)))).1) bs (padTo false nb (Φ f (ai.map (A.d (envOf is bs))) (ab.map (B.d (envOf is bs)))).2)
    have hA := ha.trans ih.1 (by simp) (by simp)
    refine ⟨hA, fun e he => ?_⟩
    rcases List.mem_cons.1 he with rfl | he
    · have e1 : ai.map (A.d (envOf (evEm Φ l (is ++ padTo 0 ni (Φ f (ai.map (A.d (envOf is bs))) (ab.map (B.d (envOf is bs)))).1) (bs ++ padTo false nb (Φ f (ai.map (A.d (envOf is bs))) (ab.map (B.d (envOf is bs)))).2)).1 (evEm Φ l (is ++ padTo 0 ni (Φ f (ai.map (A.d (envOf is bs))) (ab.map (B.d (envOf is bs)))).1) (bs ++ padTo false nb (Φ f (ai.map (A.d (envOf is bs))) (ab.map (B.d (envOf is bs)))).2)).2)) = ai.map (A.d (envOf is bs)) :=
        List.map_congr_left fun x hx => A.d_agree hA (hai x hx)
      have e2 : ab.map (B.d (envOf (evEm Φ l (is ++ padTo 0 ni (Φ f (ai.map (A.d (envOf is bs))) (ab.map (B.d (envOf is bs)))).1) (bs ++ padTo false nb (Φ f (ai.map (A.d (envOf is bs))) (ab.map (B.d (envOf is bs)))).2)).1 (evEm Φ l (is ++ padTo 0 ni (Φ f (ai.map (A.d (envOf is bs))) (ab.map (B.d (envOf is bs)))).1) (bs ++ padTo false nb (Φ f (ai.map (A.d (envOf is bs))) (ab.map (B.d (envOf is bs)))).2)).2)) = ab.map (B.d (envOf is bs)) :=
        List.map_congr_left fun x hx => B.d_agree hA (hab x hx)
      simp only [Em.ok]
      rw [e1, e2]
      refine ⟨fun j hj => ?_, fun j hj => ?_⟩
      · rw [ih.1.1 (is.length + j) (by simp [padTo_length]; omega)]
        simp only [envOf]
        rw [getD_append_right, padTo_getD _ _ _ _ hj]
      · rw [ih.1.2 (bs.length + j) (by simp [padTo_length]; omega)]
        simp only [envOf]
        rw [getD_append_right, padTo_getD _ _ _ _ hj]
    · exact ih.2 e he
  | .ob g b :: l, is, bs, h => by
    simp only [wsEm] at h
    have ih := evEm_spec Φ l is bs h
    simp only [evEm]
    refine ⟨ih.1, fun e he => ?_⟩
    rcases List.mem_cons.1 he with rfl | he
    · trivial
    · exact ih.2 e he

theorem good_of {Φ : Funs} {l : List Em} {is : List Int} {bs : List Bool} (hw : wsEm l is.length bs.length = true) (ho : obAll (envOf (evEm Φ l is bs).1 (evEm Φ l is bs).2) l = true) :
    Good Φ (envOf (evEm Φ l is bs).1 (evEm Φ l is bs).2) l := by
  intro e he
  have h1 := (evEm_spec Φ l is bs hw).2 e he
  cases e with
  | ob g b =>
    have := (List.all_eq_true.1 ho) _ he
    simp only [Bool.or_eq_true, Bool.not_eq_true'] at this
    intro hg
    rcases this with h | h
    · rw [hg] at h; cases h
    · exact h
  | _ => exact h1

end Go.Proofs.YtalnndmnnffnmaaGreat.Sx
