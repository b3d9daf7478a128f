/-
  SX, part K: the call, and all operations together. No condition.
-/
import Derived.Test.YtalnndmnnffnmaaGreatSxJ
set_option linter.unusedVariables false
set_option linter.unusedSimpArgs false
namespace Go.Proofs.YtalnndmnnffnmaaGreat.Sx
open Go

def newCall (f : Nat) (ai : List A) (ab : List B) (ni nb : Nat) : M (Nat × Nat) := fun c =>
  some ((c.i, c.b), { c with i := c.i + ni, b := c.b + nb }, [.call f ai ab c.i ni c.b nb])
theorem newCall_snd {Φ : Funs} {ρ : Env} (f : Nat) (ai : List A) (ab : List B) (ni nb : Nat) : Snd Φ ρ (newCall f ai ab ni nb) (fun p =>
    (∀ j, j < ni → ρ.i (p.1 + j) = (Φ f (ai.map (A.d ρ)) (ab.map (B.d ρ))).1.getD j 0) ∧ (∀ j, j < nb → ρ.b (p.2 + j) = (Φ f (ai.map (A.d ρ)) (ab.map (B.d ρ))).2.getD j false)) := by
  intro c x c' o he hg
  simp only [newCall, Option.some.injEq, Prod.mk.injEq] at he
  obtain ⟨rfl, rfl, rfl⟩ := he
  exact hg (.call f ai ab c.i ni c.b nb) (by simp)

abbrev Sums := Nat → Option Sum

/-- All functions that have a contract keep it, and can be called. -/
def AllOk (P : Program) (Φ : Funs) (gl : Gl) (X : Sums) : Prop :=
  ∀ f s, X f = some s → (match s.sl with | none => Contract P gl f s (Φ f) | some p => TabContract P gl f p) ∧ (∀ args w, (callFunc f args).run P w = .ok (.enter f args) w) ∧
    ∀ S, s.inl = some S → s.pre = false ∧ ∀ is bs, Φ f is bs = S.run Fun0 false is bs

/-! ### What a callee does, written out -/
def A.sub (is : List A) : A → A
  | .v n => is.getD n (.c 0)
  | .c k => .c k
def B.sub (bs : List B) : B → B
  | .v n => bs.getD n (.c false)
  | .c k => .c k
def mkTab (l : List Int) (a : A) : M A :=
  match a with
  | .c k => pure (.c (l.getD k.toNat 0))
  | a => newI (.tab l a)
theorem mkTab_snd {Φ : Funs} {ρ : Env} (l : List Int) (a : A) : Snd Φ ρ (mkTab l a) (fun x => x.d ρ = l.getD (a.d ρ).toNat 0) := by
  unfold mkTab
  split
  · exact Snd.pure rfl
  · exact newI_snd _
def instI (is : List A) (bs : List B) : RI → M A
  | .ar op k a b => mkAr op k (a.sub is) (b.sub is)
  | .cv k a => mkCv k (a.sub is)
  | .ite c a b => mkIteI (c.sub bs) (a.sub is) (b.sub is)
  | .mn a b => mkMn (a.sub is) (b.sub is)
  | .mx a b => mkMx (a.sub is) (b.sub is)
  | .tab l a => mkTab l (a.sub is)
  | .get q a s k => newI (.get (q.sub is) (a.sub is) s k)
  | .lenq q s => newI (.lenq (q.sub is) s)
def instB (is : List A) (bs : List B) : RB → M B
  | .cm op a b => mkCm op (a.sub is) (b.sub is)
  | .not a => mkNot (a.sub bs)
  | .and a b => mkAnd (a.sub bs) (b.sub bs)
  | .or a b => mkOr (a.sub bs) (b.sub bs)
  | .eqb a b => mkEqb (a.sub bs) (b.sub bs)
  | .ite c a b => mkIteB (c.sub bs) (a.sub bs) (b.sub bs)
  | .getb q a s k => newB (.getb (q.sub is) (a.sub is) s k)
def instE : List Em → List A → List B → M (List A × List B)
  | [], is, bs => pure (is, bs)
  | .di _ r :: l, is, bs => do
    let a ← instI is bs r
    instE l (is ++ [a]) bs
  | .db _ r :: l, is, bs => do
    let b ← instB is bs r
    instE l is (bs ++ [b])
  | .ob _ _ :: l, is, bs => instE l is bs
  | .call _ _ _ _ _ _ _ :: _, _, _ => M.fail
def instS (S : Smry) (ai : List A) (ab : List B) : M ((Nat → A) × (Nat → B)) := do
  let p ← instE S.em ai ab
  pure (fun j => (S.ri.getD j (.c 0)).sub p.1, fun j => (S.rb.getD j (.c false)).sub p.2)
theorem map_getD {α β : Type} (f : α → β) (l : List α) (n : Nat) (d : α) : (l.map f).getD n (f d) = f (l.getD n d) := by
  simp only [List.getD_eq_getElem?_getD, List.getElem?_map]
  cases l[n]? <;> rfl
section
variable {Φ : Funs} {ρ : Env}
theorem A.sub_d (is : List A) (bs : List Bool) (a : A) : (a.sub is).d ρ = a.d (envOf (is.map (A.d ρ)) bs) := by
  cases a with
  | v n => exact (map_getD (A.d ρ) is n (.c 0)).symm
  | c k => rfl
theorem B.sub_d (is : List Int) (bs : List B) (a : B) : (a.sub bs).d ρ = a.d (envOf is (bs.map (B.d ρ))) := by
  cases a with
  | v n => exact (map_getD (B.d ρ) bs n (.c false)).symm
  | c k => rfl
theorem instI_snd (is : List A) (bs : List B) (r : RI) : Snd Φ ρ (instI is bs r) (fun x => x.d ρ = r.d (envOf (is.map (A.d ρ)) (bs.map (B.d ρ)))) := by
  have h1 := fun a => A.sub_d (ρ := ρ) is (bs.map (B.d ρ)) a
  have h2 := fun a => B.sub_d (ρ := ρ) (is.map (A.d ρ)) bs a
  cases r with
  | ar op k a b => exact (mkAr_snd _ _ _ _).mono fun x hx => by rw [hx, h1, h1]; rfl
  | cv k a => exact (mkCv_snd _ _).mono fun x hx => by rw [hx, h1]; rfl
  | ite c a b => exact (mkIteI_snd _ _ _).mono fun x hx => by rw [hx, h1, h1, h2]; rfl
  | mn a b => exact (mkMn_snd _ _).mono fun x hx => by rw [hx, h1, h1]; rfl
  | mx a b => exact (mkMx_snd _ _).mono fun x hx => by rw [hx, h1, h1]; rfl
  | tab l a => exact (mkTab_snd _ _).mono fun x hx => by rw [hx, h1]; rfl
  | get q a s k => exact (newI_snd _).mono fun x hx => by rw [hx]; simp only [RI.d, h1]
  | lenq q s => exact (newI_snd _).mono fun x hx => by rw [hx]; simp only [RI.d, h1]
theorem instB_snd (is : List A) (bs : List B) (r : RB) : Snd Φ ρ (instB is bs r) (fun x => x.d ρ = r.d (envOf (is.map (A.d ρ)) (bs.map (B.d ρ)))) := by
  have h1 := fun a => A.sub_d (ρ := ρ) is (bs.map (B.d ρ)) a
  have h2 := fun a => B.sub_d (ρ := ρ) (is.map (A.d ρ)) bs a
  cases r with
  | cm op a b => exact (mkCm_snd _ _ _).mono fun x hx => by rw [hx, h1, h1]; rfl
  | not a => exact (mkNot_snd _).mono fun x hx => by rw [hx, h2]; rfl
  | and a b => exact (mkAnd_snd _ _).mono fun x hx => by rw [hx, h2, h2]; rfl
  | or a b => exact (mkOr_snd _ _).mono fun x hx => by rw [hx, h2, h2]; rfl
  | eqb a b => exact (mkEqb_snd _ _).mono fun x hx => by rw [hx, h2, h2]; rfl
  | ite c a b => exact (mkIteB_snd _ _ _).mono fun x hx => by rw [hx, h2, h2, h2]; rfl
  | getb q a s k => exact (newB_snd _).mono fun x hx => by rw [hx]; simp only [RB.d, h1]
theorem instE_snd : ∀ (l : List Em) (is : List A) (bs : List B), Snd Φ ρ (instE l is bs) (fun p => (p.1.map (A.d ρ), p.2.map (B.d ρ)) = evEm Fun0 l (is.map (A.d ρ)) (bs.map (B.d ρ)))
  | [], is, bs => Snd.pure rfl
  | .di _ r :: l, is, bs => by
    unfold instE
    refine Snd.bind (instI_snd is bs r) fun a ha => (instE_snd l _ _).mono fun p hp => ?_
    rw [hp, evEm, List.map_append, List.map_singleton, ha]
  | .db _ r :: l, is, bs => by
    unfold instE
    refine Snd.bind (instB_snd is bs r) fun a ha => (instE_snd l _ _).mono fun p hp => ?_
    rw [hp, evEm, List.map_append, List.map_singleton, ha]
  | .ob _ _ :: l, is, bs => by
    unfold instE
    exact (instE_snd l _ _).mono fun p hp => by rw [hp, evEm]
  | .call _ _ _ _ _ _ _ :: _, _, _ => Snd.fail
theorem instS_snd (S : Smry) (ai : List A) (ab : List B) : Snd Φ ρ (instS S ai ab) (fun p =>
    (∀ j, (p.1 j).d ρ = (S.run Fun0 false (ai.map (A.d ρ)) (ab.map (B.d ρ))).1.getD j 0) ∧ (∀ j, (p.2 j).d ρ = (S.run Fun0 false (ai.map (A.d ρ)) (ab.map (B.d ρ))).2.getD j false)) := by
  unfold instS
  refine Snd.bind (instE_snd S.em ai ab) fun p hp => Snd.pure ⟨fun j => ?_, fun j => ?_⟩
  · simp only [Smry.run, ← hp]
    rw [A.sub_d p.1 (p.2.map (B.d ρ))]
    exact (map_getD (A.d (envOf (p.1.map (A.d ρ)) (p.2.map (B.d ρ)))) S.ri j (.c 0)).symm
  · simp only [Smry.run, ← hp, Bool.false_eq_true, if_false, List.nil_append]
    rw [B.sub_d (p.1.map (A.d ρ)) p.2]
    exact (map_getD (B.d (envOf (p.1.map (A.d ρ)) (p.2.map (B.d ρ)))) S.rb j (.c false)).symm
end
def callM (s : Sum) (f : Nat) (ai : List A) (ab : List B) (ni nb : Nat) : M ((Nat → A) × (Nat → B)) :=
  match s.inl with
  | some S => instS S ai ab
  | none => do
    let n ← newCall f ai ab ni nb
    pure (fun j => .v (n.1 + j), fun j => .v (n.2 + j))

def ppIds : PP → List Nat
  | [] => []
  | p :: l => if (ppIds l).contains p.1 then ppIds l else p.1 :: ppIds l
theorem ppIds_mem : ∀ {pp : PP} {p : Nat × Nat × Nat}, p ∈ pp → p.1 ∈ ppIds pp
  | q :: l, p, h => by
    unfold ppIds
    rcases List.mem_cons.1 h with rfl | h
    · split
      · rename_i hc; simpa using hc
      · simp
    · have := ppIds_mem h
      split
      · exact this
      · simp [this]

def xCall (X : Sums) (Γ : Gd) (hp : Hp) (f : Nat) (xs : List S) : M Res := do
  let s ← lift (X f)
  let t ← lift (takeArgs Γ hp s.args xs)
  let hp0 ← lift (junkAll hp t.2.2)
  if apartS t.2.2 && s.sl.isNone && ((ptrShapes s.args).all fun l => !l.isEmpty) then do
    let ls := ptrShapes s.args
    let pb := if s.pre then 1 else 0
    let n ← callM s f t.1 t.2.1 (resI s.res + sumI ls) (pb + (resB s.res + sumB ls))
    oblige (if s.pre then n.2 0 else .c true)
    let hp1 ← lift (fillAll n.1 n.2 hp0 t.2.2 ls (resI s.res) (pb + resB s.res))
    if gOk Γ hp1 (ppIds t.2.2) then
      pure { s := freshS n.1 n.2 (t.2.2.map fun p => (p.1, p.2.1)) s 0 pb, w := collectW hp1 (ppIds t.2.2) }
    else M.fail
  else M.fail

def tabBlk (p : IntKind × List Int) : Blk := { g := [], ro := true, cells := p.2.map fun n => .int p.1 (.c n) }
def xCallT (p : IntKind × List Int) (xs : List S) : M Res := if xs.isEmpty then do
    let id ← newId
    pure { s := .one false [.sli id 0 p.2.length p.2.length], w := [(id, tabBlk p)] }
  else M.fail
def xCallA (X : Sums) (Γ : Gd) (hp : Hp) (f : Nat) (xs : List S) : M Res := match (X f).bind (·.sl) with
  | some p => xCallT p xs
  | none => xCall X Γ hp f xs

theorem ppOk_of {β : Beta} : ∀ {pp : PP} {ps : List Rg}, ppR β pp ps → ppOk β (pp.map fun p => (p.1, p.2.1)) ps
  | [], [], _ => trivial
  | p :: pp, q :: ps, ⟨⟨r, hr, hq, _, _⟩, h⟩ => ⟨⟨r, hr, by rw [hq], by rw [hq]⟩, ppOk_of h⟩
theorem flatArgs_mem' {w : World} : ∀ {ss : List Sh} {vs : List Value} {is : List Int} {bs : List Bool} {ps : List Rg}, flatArgs ss vs w = some (is, bs, ps) → ((ptrShapes ss).all fun l => !l.isEmpty) = true →
    ∀ r, r ∈ ps → (r.ro = false ∧ r.sq = none) ∧ ∃ v, w.cell? ⟨r.blk, r.off, none⟩ = some v
  | [], [], is, bs, ps, h, _, r, hr => by
    simp only [flatArgs, Option.some.injEq, Prod.mk.injEq] at h
    obtain ⟨_, _, rfl⟩ := h
    cases hr
  | .val agg l :: ss, v :: vs, is, bs, ps, h, hne, r, hr => by
    unfold flatArgs at h
    split at h
    · rename_i h2
      simp only [Option.some.injEq, Prod.mk.injEq] at h
      obtain ⟨_, _, rfl⟩ := h
      exact flatArgs_mem' (ss := ss) h2 hne r hr
    · cases h
  | .ptr l :: ss, v :: vs, is, bs, ps, h, hne, r, hr => by
    simp only [ptrShapes, List.all_cons, Bool.and_eq_true, Bool.not_eq_true'] at hne
    unfold flatArgs at h
    split at h
    · rename_i b o is' bs' ps' h2
      split at h
      · rename_i i bb h1
        simp only [Option.some.injEq, Prod.mk.injEq] at h
        obtain ⟨_, _, rfl⟩ := h
        rcases List.mem_cons.1 hr with rfl | hr
        · refine ⟨⟨rfl, rfl⟩, ?_⟩
          cases hrd : readCells w b o l.length with
          | none => rw [hrd] at h1; simp at h1
          | some us =>
            obtain ⟨e1, e2⟩ := readCells_get hrd
            have hpos : 0 < us.length := by
              rw [e1]
              cases l with
              | nil => simp at hne
              | cons _ _ => simp
            exact ⟨us[0], by have := e2 0 _ (List.getElem?_eq_getElem hpos); simpa using this⟩
        · exact flatArgs_mem' (ss := ss) h2 hne.2 r hr
      · cases h
    · cases h
  | .sli ks :: ss, v :: vs, is, bs, ps, h, hne, r, hr => by
    unfold flatArgs at h
    split at h
    · rename_i l n r' is' bs' ps' h1 h2
      simp only [Option.some.injEq, Prod.mk.injEq] at h
      obtain ⟨_, _, rfl⟩ := h
      exact flatArgs_mem' (ss := ss) h2 hne r hr
    · cases h
  | .sli _ :: _, [], _, _, _, h, _, _, _ => by simp [flatArgs] at h
  | [], _ :: _, _, _, _, h, _, _, _ => by simp [flatArgs] at h
  | .val _ _ :: _, [], _, _, _, h, _, _, _ => by simp [flatArgs] at h
  | .ptr _ :: _, [], _, _, _, h, _, _, _ => by simp [flatArgs] at h
theorem mtAll_map {β : Beta} {ρ : Env} {f : Operand → S} {ev : Operand → Value} : ∀ {l : List Operand}, (∀ x, x ∈ l → (f x).mt β ρ (ev x)) → mtAll β ρ (l.map f) (l.map ev)
  | [], _ => trivial
  | x :: l, h => ⟨h x (by simp), mtAll_map fun y hy => h y (by simp [hy])⟩
theorem getD_tail (l : List Bool) (j : Nat) : l.tail.getD j false = l.getD (1 + j) false := by
  cases l with
  | nil => simp
  | cons x l => simp [Nat.add_comm 1 j]

section
variable {P : Program} {Φ : Funs} {gl : Gl} {Γ : Gd} {hp : Hp} {rv : Operand → SV} {dst : Option Tmp} {ty : TypeId} {pos : String} {after : Array Edge} {guard : Option (Nat × Bool)}

theorem callM_snd {X : Sums} (hX : AllOk P Φ gl X) {f : Nat} {s : Sum} (hs : X f = some s) (ρ : Env) (ai : List A) (ab : List B) (ni nb : Nat) : Snd Φ ρ (callM s f ai ab ni nb) (fun p =>
    (∀ j, j < ni → (p.1 j).d ρ = (Φ f (ai.map (A.d ρ)) (ab.map (B.d ρ))).1.getD j 0) ∧ (∀ j, j < nb → (p.2 j).d ρ = (Φ f (ai.map (A.d ρ)) (ab.map (B.d ρ))).2.getD j false)) := by
  unfold callM
  split
  · rename_i S hS
    have h := ((hX f s hs).2.2 S hS).2
    exact (instS_snd S ai ab).mono fun p hp => ⟨fun j _ => by rw [hp.1, h], fun j _ => by rw [hp.2, h]⟩
  · exact Snd.bind (newCall_snd f ai ab ni nb) fun n hn => Snd.pure ⟨hn.1, hn.2⟩
/-- A call with such arguments can be made, and comes to such a post. -/
def CallTo (P : Program) (gl : Gl) (hp : Hp) (f : Nat) (xs : List S) (ρ : Env) (Post : Nat → List Rg → Beta → World → Value → World → Prop) : Prop :=
  ∀ (N : Nat) (R : List Rg) (β : Beta) (w : World) (vs : List Value), mtAll β ρ xs vs → heapMt β ρ hp w → BetaOk N R β w → N ≤ w.heap.size → GB gl β w →
    (∀ args w, (callFunc f args).run P w = .ok (.enter f args) w) ∧ Calls P f vs.toArray w fun e w' => ∃ v, e = .returned v ∧ Post N R β w v w'
theorem call_snd {X : Sums} (hX : AllOk P Φ gl X) (f : Nat) (xs : List S) (ρ : Env) (hΓ : Gd.d ρ Γ = true) : Snd Φ ρ (xCall X Γ hp f xs) (fun res => CallTo P gl hp f xs ρ (fun N R β w v w' => ∀ lo hi, RPost N R ρ β w lo hi res v w')) := by
  unfold xCall
  refine Snd.bind (lift_snd _) fun s hs => Snd.bind (lift_snd _) fun t ht => Snd.bind (lift_snd _) fun hp0 hj => ?_
  obtain ⟨ai, ab, pp⟩ := t
  simp only at ht hj ⊢
  split
  · rename_i hap
    simp only [Bool.and_eq_true, Option.isNone_iff_eq_none] at hap
    obtain ⟨⟨hap, hsl⟩, hne0⟩ := hap
    refine Snd.bind (callM_snd hX hs ρ ai ab _ _) fun n hn => Snd.bind (oblige_snd _) fun _ hpre => Snd.bind (lift_snd _) fun hp1 hf => ?_
    obtain ⟨n1, n2⟩ := n
    obtain ⟨hn1, hn2⟩ := hn
    simp only at hn1 hn2 hpre hf ⊢
    split
    · rename_i hgo
      refine Snd.pure fun N R β w vs hm hh hb hN hG => ?_
      obtain ⟨ps, hfl, hppr, hfz, hsli⟩ := takeArgs_flat hΓ hh hb.sq ht hm
      have hapl := apartL_of hb hppr hap
      obtain ⟨hcon, hcall, _⟩ := hX f s hs
      rw [hsl] at hcon
      have hlens := flatArgs_lens hfl
      have hc := hcon _ w _ _ ps hG.1 hfl hapl hfz (fun q hq g vs hgv => by
        obtain ⟨p', r', hp', hβ, rfl, hle, hro⟩ := ppR_mem hppr q hq
        have hβg := hG.2 g vs hgv
        have hne : p'.1 ≠ g := fun e => by
          rw [e, hβg] at hβ
          simp only [Option.some.injEq] at hβ
          rw [← hβ] at hro
          cases hro
        have := (hb.apart _ _ _ _ hne hβ hβg).resolve_left fun hh => by rw [hh.1] at hro; cases hro
        unfold Rg.apart at *
        simp only at *
        omega) (fun q hq r hr => by
        obtain ⟨p', r', hp', hβ, rfl, hle, hro⟩ := ppR_mem hppr q hq
        obtain ⟨i, r0, hi, hi0, e1, e2, e3⟩ := hsli r hr
        have hne : p'.1 ≠ i := fun e => by
          rw [e, hi] at hβ
          simp only [Option.some.injEq] at hβ
          rw [← hβ, hi0] at hro
          cases hro
        have := (hb.apart _ _ _ _ hne hβ hi).resolve_left fun hh => by rw [hh.1] at hro; cases hro
        unfold Rg.apart at *
        simp only at *
        omega) (fun hp => by
        have h0 := hn2 0 (by rw [if_pos hp]; omega)
        rw [hp] at hpre
        simp only [if_true] at hpre h0
        rw [h0] at hpre
        rw [← hpre]
        cases (Φ f (ai.map (A.d ρ)) (ab.map (B.d ρ))).2 <;> simp)
      refine ⟨hcall, ?_⟩
      · refine Calls.mono hc fun e w' he => ?_
        obtain ⟨v, rfl, hkeep, r, p, hr, hp2, ho1, ho2⟩ := he
        refine ⟨v, rfl, fun lo hi => ?_⟩
        have hplen := flatPs_len hp2
        -- the answers' numbers
        have hfr := freshS_mt (FI := n1) (FB := n2) (ρ := ρ) (i := 0) (b := if s.pre then 1 else 0) (ppOk_of hppr) hr
        have hrl : r.1.length = resI s.res ∧ r.2.length = resB s.res := by
          unfold flatRes at hr
          split at hr
          · split at hr
            · rename_i vs
              have : ∀ {l : List (Bool × List CK)} {vs : List Value} {f : Fl}, flatTup ps l vs = some f → f.1.length = resI l ∧ f.2.length = resB l := by
                intro l
                induction l with
                | nil => intro vs f h; cases vs <;> simp [flatTup] at h; subst h; exact ⟨rfl, rfl⟩
                | cons q l ih =>
                  intro vs f h
                  cases vs with
                  | nil => simp [flatTup] at h
                  | cons v vs =>
                    unfold flatTup at h
                    split at h
                    · rename_i i1 b1 is bs h1 h2
                      simp only [Option.some.injEq] at h
                      subst h
                      obtain ⟨us, hf1, _⟩ := flat1_inv h1
                      have e1 := flatC_len hf1
                      have e2 := ih h2
                      simp only [resI, resB, List.length_append] at e1 e2 ⊢
                      omega
                    · cases h
              exact this hr
            · cases hr
          · split at hr
            · rename_i q hq
              obtain ⟨us, hf1, _⟩ := flat1_inv hr
              have e1 := flatC_len hf1
              rw [hq]
              simp only [resI, resB]
              omega
            · cases hr
        have k1 : ∀ j, j < resI s.res → (n1 (0 + j)).d ρ = r.1.getD j 0 := fun j hj => by
          rw [Nat.zero_add, hn1 j (by omega), ho1, getD_append_left _ _ _ _ (by omega)]
        have k2 : ∀ j, j < resB s.res → (n2 ((if s.pre then 1 else 0) + j)).d ρ = r.2.getD j false := fun j hj => by
          rw [hn2 _ (by omega)]
          split at ho2
          · rename_i hp
            rw [if_pos hp, ← getD_tail, ho2, getD_append_left _ _ _ _ (by omega)]
          · rename_i hp
            rw [if_neg hp, Nat.zero_add, ho2, getD_append_left _ _ _ _ (by omega)]
        have k3 : ∀ j, j < sumI (ptrShapes s.args) → (n1 (resI s.res + j)).d ρ = p.1.getD j 0 := fun j hj => by
          rw [hn1 _ (by omega), ho1, ← hrl.1, getD_append_right]
        have k4 : ∀ j, j < sumB (ptrShapes s.args) → (n2 ((if s.pre then 1 else 0) + resB s.res + j)).d ρ = p.2.getD j false := fun j hj => by
          rw [Nat.add_assoc, hn2 _ (by omega)]
          split at ho2
          · rename_i hp
            rw [if_pos hp, ← getD_tail, ho2, ← hrl.2, getD_append_right]
          · rename_i hp
            rw [if_neg hp, Nat.zero_add, ho2, ← hrl.2, getD_append_right]
        have hh0 := junkAll_heap hj hh
        have hjk := junkAll_junk (done := []) hj (fun p hp => by cases hp)
        simp only [List.nil_append] at hjk
        have hh1 := junk_move hb hh0 hjk hppr hkeep (flatPs_cells hp2 hlens)
        have hh2 := fillAll_heap hf hppr hp2 k3 k4 hh1
        have hKW : Keep ((ppIds pp).filterMap β) w w' := by
          refine (Keep.refl _ w).trans hkeep fun q hq => ?_
          obtain ⟨p', r', hp', hβ, rfl, hle, _⟩ := ppR_mem hppr q hq
          exact .inr ⟨r', List.mem_filterMap.2 ⟨p'.1, ppIds_mem hp', hβ⟩, rfl, by simp, by simp only; omega⟩
        have hWW : ∀ q, q ∈ (ppIds pp).filterMap β → ∃ id, id ∈ (collectW hp1 (ppIds pp)).map (·.1) ∧ β id = some q ∧ q.ro = false ∧ ∃ j v, w.cell? ⟨q.blk, j, none⟩ = some v := by
          intro q hq
          rw [List.mem_filterMap] at hq
          obtain ⟨id, hid, hβ⟩ := hq
          have hsome : (hp1 id).isSome = true := by
            have := (List.all_eq_true.1 hgo) _ hid
            cases hx : hp1 id with
            | none => rw [hx] at this; cases this
            | some b => rfl
          refine ⟨id, collectW_ids hid hsome, hβ, ?_⟩
          have hlv := flatArgs_mem' hfl hne0
          have hmem : ∃ p, p ∈ pp ∧ p.1 = id := by
            clear hKW hgo hf hjk hj hap ht hppr hfr hh0 hh1 hh2
            induction pp with
            | nil => simp [ppIds] at hid
            | cons p pp ih =>
              unfold ppIds at hid
              split at hid
              · obtain ⟨q, hq, he⟩ := ih hid; exact ⟨q, by simp [hq], he⟩
              · rcases List.mem_cons.1 hid with rfl | hid
                · exact ⟨p, by simp, rfl⟩
                · obtain ⟨q, hq, he⟩ := ih hid; exact ⟨q, by simp [hq], he⟩
          obtain ⟨p', hp', rfl⟩ := hmem
          have : ∀ {pp : PP} {ps : List Rg}, ppR β pp ps → (∀ r, r ∈ ps → (r.ro = false ∧ r.sq = none) ∧ ∃ v, w.cell? ⟨r.blk, r.off, none⟩ = some v) → ∀ p, p ∈ pp → ∃ r, β p.1 = some r ∧ r.ro = false ∧ ∃ j v, w.cell? ⟨r.blk, j, none⟩ = some v := by
            intro pp
            induction pp with
            | nil => intro ps _ _ p hp; cases hp
            | cons p0 pp ih =>
              intro ps h hl p hp
              cases ps with
              | nil => exact h.elim
              | cons q0 ps =>
                obtain ⟨⟨r, hr, hq0, _, hro⟩, h2⟩ := h
                rcases List.mem_cons.1 hp with rfl | hp
                · obtain ⟨_, v, hv⟩ := hl q0 (by simp)
                  rw [hq0] at hv
                  exact ⟨r, hr, hro, _, v, hv⟩
                · exact ih h2 (fun r hr => hl r (by simp [hr])) p hp
          obtain ⟨r', hr', hro⟩ := this hppr hlv p' hp'
          rw [hβ] at hr'
          cases hr'
          exact hro
        refine ⟨β, ⟨Ext.refl β, hb.keep (fun q hq => by obtain ⟨id, _, h1, h2, _⟩ := hWW q hq; exact ⟨id, h1, h2⟩) hKW, ⟨_, hWW, hKW⟩, fun _ _ => rfl⟩, (hfr k1 k2).1, fun q hq => ?_⟩
        · obtain ⟨h1, h2⟩ := collectW_mem hq
          have := (List.all_eq_true.1 hgo) _ h1
          rw [h2] at this
          exact hh2 _ _ h2 (Gd.sub_d this hΓ)
    · exact Snd.fail
  · exact Snd.fail

/-! ### All together -/
theorem ok_callT {X : Sums} (hX : AllOk P Φ gl X) (f : Nat) {s : Sum} {p : IntKind × List Int} (hs : X f = some s) (hsl : s.sl = some p) (xs : List S) {ρ : Env} {c c' : Ctr} {res : Res} {out : List Em} (he : xCallT p xs c = some (res, c', out)) {N : Nat} {R : List Rg} {β : Beta} {w : World} {vs : List Value}
    (hm : mtAll β ρ xs vs) (hb : BetaOk N R β w) (hG : GB gl β w) (hf : ∀ i, c.id ≤ i → i < c'.id → β i = none) :
    (∀ args w, (callFunc f args).run P w = .ok (.enter f args) w) ∧ Calls P f vs.toArray w fun e w' => ∃ v, e = .returned v ∧ RPost N R ρ β w c.id c'.id res v w' := by
  unfold xCallT at he
  split at he
  · rename_i hem
    simp only [newId, Bind.bind, M.bind, Pure.pure, M.pure, Option.some.injEq, Prod.mk.injEq] at he
    obtain ⟨rfl, rfl, rfl⟩ := he
    obtain ⟨hcon, hcall, _⟩ := hX f s hs
    rw [hsl] at hcon
    have hcon := hcon w hG.1
    have hargs : vs = [] := by
      simp only [List.isEmpty_iff] at hem
      subst hem
      cases vs with
      | nil => rfl
      | cons _ _ => exact hm.elim
    subst hargs
    refine ⟨hcall, ?_⟩
    · refine Calls.mono hcon fun e w' he => ?_
      obtain ⟨b, o, rfl, hkeep, hb1, hb2, hcells⟩ := he
      have hfree := hf c.id (Nat.le_refl _) (by simp)
      have hext := Beta.set_ext (r := { blk := b, off := o, len := p.2.length, ro := true }) hfree
      refine ⟨_, rfl, β.set c.id { blk := b, off := o, len := p.2.length, ro := true }, ⟨hext, ⟨fun i j r q hij hi hj => ?_, fun i r hi => ?_, fun i r hi => ?_, fun i r ks l hi hs => ?_⟩, ⟨[], by simp, hkeep⟩, fun i hi => ?_⟩, ⟨_, rfl, _, Beta.set_same _ _ _, by simp⟩, fun q hq => ?_⟩
      · unfold Beta.set at hi hj
        split at hi
        · rename_i e1
          split at hj
          · rename_i e2; omega
          · simp only [Option.some.injEq] at hi
            subst hi
            have := hb.place j q hj
            right; left
            simp only
            omega
        · split at hj
          · simp only [Option.some.injEq] at hj
            subst hj
            have := hb.place i r hi
            right; left
            simp only
            omega
          · exact hb.apart i j r q hij hi hj
      · unfold Beta.set at hi
        split at hi
        · simp only [Option.some.injEq] at hi
          subst hi
          exact hb2
        · have := hb.place i r hi
          have := hkeep.size
          omega
      · unfold Beta.set at hi
        split at hi
        · simp only [Option.some.injEq] at hi
          subst hi
          exact .inl rfl
        · exact hb.may i r hi
      · unfold Beta.set at hi
        split at hi
        · simp only [Option.some.injEq] at hi
          subst hi
          cases hs
        · exact (hb.keep (W := []) (fun q hq => by cases hq) hkeep).sq i r ks l hi hs
      · unfold Beta.set; rw [if_neg (by simp only at hi; omega)]
      · simp only [List.mem_singleton] at hq
        subst hq
        refine ⟨_, Beta.set_same _ _ _, by simp [tabBlk], rfl, ?_, fun h => by cases h⟩
        rw [cellsAt_iff]
        intro j cc hj
        simp only [tabBlk, List.getElem?_map] at hj
        cases hv : p.2[j]? with
        | none => rw [hv] at hj; simp at hj
        | some v =>
          rw [hv] at hj
          simp only [Option.map_some, Option.some.injEq] at hj
          subst hj
          obtain ⟨h1, h2⟩ := hcells j v hv
          exact ⟨_, h1, rfl, h2⟩
  · simp [M.fail] at he
/-- What calls functions: of a function, conditions, blocks and arguments it tells what comes of it. -/
abbrev Hnd := Nat → Gd → Hp → List S → M Res
def HOk (P : Program) (Φ : Funs) (gl : Gl) (H : Hnd) : Prop :=
  ∀ (f : Nat) (Γ : Gd) (hp : Hp) (xs : List S) (ρ : Env) (c : Ctr) (res : Res) (c' : Ctr) (out : List Em), H f Γ hp xs c = some (res, c', out) → Good Φ ρ out → Gd.d ρ Γ = true →
    ∀ (N : Nat) (R : List Rg) (β : Beta) (w : World) (vs : List Value), mtAll β ρ xs vs → heapMt β ρ hp w → BetaOk N R β w → N ≤ w.heap.size → GB gl β w → (∀ i, c.id ≤ i → i < c'.id → β i = none) →
    (∀ args w, (callFunc f args).run P w = .ok (.enter f args) w) ∧ Calls P f vs.toArray w fun e w' => ∃ v, e = .returned v ∧ RPost N R ρ β w c.id c'.id res v w'
/-- By contract. -/
def hnd0 (X : Sums) : Hnd := fun f Γ hp xs => xCallA X Γ hp f xs
theorem hnd0_ok {X : Sums} (hX : AllOk P Φ gl X) : HOk P Φ gl (hnd0 X) := by
  intro f Γ hp xs ρ c res c' out he hg hΓ N R β w vs hm hh hb hN hG hf
  unfold hnd0 xCallA at he
  have hnone : (∀ p, (X f).bind (·.sl) = some p → False) → (match (X f).bind (·.sl) with | some p => xCallT p xs | none => xCall X Γ hp f xs) = xCall X Γ hp f xs := fun h => by
    cases hh : (X f).bind (·.sl) with
    | none => rfl
    | some p => exact (h p hh).elim
  by_cases hc : ∃ p, (X f).bind (·.sl) = some p
  · obtain ⟨p, hp⟩ := hc
    rw [hp] at he
    cases hs : X f with
    | none => rw [hs] at hp; cases hp
    | some s =>
      rw [hs] at hp
      exact ok_callT hX f hs hp xs he hm hb hG hf
  · rw [hnone fun p hp => hc ⟨p, hp⟩] at he
    obtain ⟨h1, h2⟩ := call_snd hX f xs ρ hΓ c res c' out he hg N R β w vs hm hh hb hN hG
    exact ⟨h1, Calls.mono h2 fun e w' ⟨v, hv, hp⟩ => ⟨v, hv, hp _ _⟩⟩

end
end Go.Proofs.YtalnndmnnffnmaaGreat.Sx
