/-
  SX, part M: one operation, a region, code: what the executor says of them holds. No condition.
-/
import Derived.Test.YtalnndmnnffnmaaGreatSxLa
set_option linter.unusedVariables false
set_option linter.unusedSimpArgs false
namespace Go.Proofs.YtalnndmnnffnmaaGreat.Sx
open Go


def opS (P : Program) (X : Hnd) (gh : Hl) (ng : Nat) (ops : Array Oper) (o : Oper) (σ : St) : M St := do
  let g ← lift (gdOf ops σ o)
  match normG g with
  | none => do
    let tm ← lift (setT σ.tm o.dst undefSV)
    pure { tm := tm, hp := σ.hp }
  | some Γ => do
    let r ← M.mono (M.under Γ (opx P X Γ (hpX gh ng σ.hp) (ev ng σ) o.op))
    let tm ← lift (setT σ.tm o.dst { g := Γ, s := r.s })
    let hp ← M.mono (do
      let sel ← (if r.w.isEmpty || Γ.isEmpty then pure (.c (Γ.isEmpty)) else gAtom Γ)
      layB Γ sel σ.hp r.w)
    pure { tm := tm, hp := hp }
def regL (P : Program) (X : Hnd) (gh : Hl) (ng : Nat) (ops : Array Oper) : List Oper → St → M St
  | [], σ => pure σ
  | o :: l, σ => do
    let σ' ← opS P X gh ng ops o σ
    regL P X gh ng ops l σ'

section
variable {P : Program} {Φ : Funs} {X : Hnd} {x : Cx} {ρ : Env}

theorem opS_sound (hX : HOk P Φ x.gl X) (hG : ∀ w, Keep x.R x.w0 w → Laid x.gl w) {ops : Array Oper} {o : Oper} {σ σ' : St} {c c' : Ctr} {out : List Em} (h : opS P X x.gh x.ng ops o σ c = some (σ', c', out)) (hg : Good Φ ρ out)
    {β : Beta} {a : Act} {w : World} (hR : Rel x ρ β σ a w) (hf : Fresh β c) (next : Act → World → Prop) (Q : Exit → Act → World → Prop)
    (hn : ∀ β' a' w', Ext β β' → Rel x ρ β' σ' a' w' → Fresh β' c' → next a' w') :
    if Region.wanted o (yielded ops a.tmps) then o.wp P a w next Q else next (a.put o.dst undef) w := by
  unfold opS at h
  obtain ⟨g, c1, o1, c2, o2, y, h1, h2, he⟩ := M.bind_inv h
  obtain ⟨g', hgd, he1⟩ := lift_inv h1
  simp only [Prod.mk.injEq] at he1 he
  obtain ⟨rfl, rfl, rfl⟩ := he1
  obtain ⟨rfl, rfl, rfl⟩ := he
  rw [gdOf_wanted hR hgd]
  cases hno : normG g with
  | none =>
    rw [hno] at h2
    rw [normG_none (ρ := ρ) hno]
    simp only [Bool.false_eq_true, if_false]
    obtain ⟨tm, c3, o3, c4, o4, y, h3, h4, he⟩ := M.bind_inv h2
    obtain ⟨tm', ht, he3⟩ := lift_inv h3
    simp only [Prod.mk.injEq] at he3 he
    obtain ⟨rfl, rfl, rfl⟩ := he3
    have he4 := M.pure_inv h4
    simp only [Prod.mk.injEq] at he4
    obtain ⟨rfl, rfl, rfl⟩ := he4
    obtain ⟨rfl, rfl, rfl⟩ := he
    obtain ⟨s1, s2⟩ := slot_put (dst := o.dst) hR.size hR.slot ht undefSV_mt
    exact hn β _ w (Ext.refl β) ⟨s1, s2, (put_tmps a _ _).1.trans hR.df, hR.hm, hR.gm, hR.gro, hR.bo, hR.kp, hR.gl, hR.ra⟩ hf
  | some Γ =>
    rw [hno] at h2
    obtain ⟨r, c3, o3, c4, o4, y, h3, h4, he⟩ := M.bind_inv h2
    obtain ⟨h3, hle1⟩ := mono_inv h3
    obtain ⟨r', c3', o3', h3', he3⟩ := under_inv h3
    simp only [Prod.mk.injEq] at he3 he
    obtain ⟨rfl, rfl, rfl⟩ := he3
    obtain ⟨tm, c5, o5, c6, o6, y', h5, h6, he'⟩ := M.bind_inv h4
    obtain ⟨tm', ht, he5⟩ := lift_inv h5
    simp only [Prod.mk.injEq] at he5 he'
    obtain ⟨rfl, rfl, rfl⟩ := he5
    obtain ⟨hp, c7, o7, c8, o8, y'', h7, h8, he''⟩ := M.bind_inv h6
    obtain ⟨h7, hle2⟩ := mono_inv h7
    have he8 := M.pure_inv h8
    simp only [Prod.mk.injEq] at he8 he''
    obtain ⟨rfl, rfl, rfl⟩ := he8
    obtain ⟨rfl, rfl, rfl⟩ := he''
    obtain ⟨rfl, rfl, rfl⟩ := he'
    obtain ⟨rfl, rfl, rfl⟩ := he
    simp only [List.nil_append, List.append_nil] at hg
    rw [Good.append] at hg
    obtain ⟨hg1, hg2⟩ := hg
    have hΓe := normG_some (ρ := ρ) hno
    obtain ⟨sel, c9, o9, c10, o10, y3, h9, h10, he3⟩ := M.bind_inv h7
    simp only [Prod.mk.injEq] at he3
    obtain ⟨rfl, rfl, rfl⟩ := he3
    rw [Good.append] at hg2
    have hsel : (sel.d ρ = Gd.d ρ Γ) ∨ r.w = [] := by
      split at h9
      · rename_i hc
        have he := M.pure_inv h9
        simp only [Prod.mk.injEq] at he
        obtain ⟨rfl, _⟩ := he
        simp only [Bool.or_eq_true, List.isEmpty_iff] at hc
        rcases hc with h | h
        · exact .inr h
        · left; rw [h]; rfl
      · exact .inl (gAtom_snd Γ _ _ _ _ h9 hg2.1)
    simp only at hle1 hle2
    cases hgg : Gd.d ρ g
    · simp only [Bool.false_eq_true, if_false]
      rw [hgg] at hΓe
      have hlay : ∀ β w, heapMt β ρ (hpOf σ.hp) w → heapMt β ρ (hpOf hp) w := by
        rcases hsel with hsel | hsel
        · exact layB_idle (Φ := Φ) hΓe (by rw [hsel, hΓe]) r.w _ _ _ _ h10 hg2.2
        · rw [hsel] at h10
          have he := M.pure_inv h10
          simp only [Prod.mk.injEq] at he
          obtain ⟨rfl, _⟩ := he
          exact fun β w h => h
      obtain ⟨s1, s2⟩ := slot_put (v := undef) (dst := o.dst) hR.size hR.slot ht ⟨fun h => (by simp only at h; rw [hΓe] at h; cases h), fun _ => rfl⟩
      exact hn β _ w (Ext.refl β) ⟨s1, s2, (put_tmps a _ _).1.trans hR.df, hlay β w hR.hm, hR.gm, hR.gro, hR.bo, hR.kp, hR.gl, hR.ra⟩ (hf.le (by omega))
    · simp only [if_true]
      rw [hgg] at hΓe
      have hg1' := Good.under hΓe hg1
      have hlok := opx_ok (Γ := Γ) (hp := hpX x.gh x.ng σ.hp) (rv := ev x.ng σ) hX o ρ _ _ _ _ h3' hg1' hΓe x.w0.heap.size x.R β a w (fun z _ => ev_mt hR z) hR.hx hR.bo hR.kp.size ⟨hG w hR.kp, hR.gl⟩
        (fun i hi _ => hf i hi)
      refine hlok next Q fun v w' hpost => ?_
      obtain ⟨β', hst, hsv, hbl⟩ := hpost
      have hlay : ∀ (β : Beta) (w : World), (∀ p, p ∈ r.w → blkMt β ρ w p.1 p.2) → (∀ id b, hpOf σ.hp id = some b → id ∉ r.w.map (·.1) → Gd.d ρ b.g = true → blkMt β ρ w id b) → heapMt β ρ (hpOf hp) w := by
        rcases hsel with hsel | hsel
        · exact layB_ran (Φ := Φ) hΓe (by rw [hsel, hΓe]) r.w _ _ _ _ h10 hg2.2
        · rw [hsel] at h10 ⊢
          have he := M.pure_inv h10
          simp only [Prod.mk.injEq] at he
          obtain ⟨rfl, _⟩ := he
          exact fun β w _ h id b hb hg => h id b hb (by simp) hg
      obtain ⟨W, hW, hkW⟩ := hst.kp
      obtain ⟨s1, s2⟩ := slot_put (v := v) (β := β') (dst := o.dst) hR.size (fun t y hy => SV.mt_ext hst.ext (hR.slot t y hy)) ht ⟨fun _ => hsv, fun h => (by simp only at h; rw [hΓe] at h; cases h)⟩
      refine hn β' _ w' hst.ext ⟨s1, s2, (put_tmps a _ _).1.trans hR.df, hlay β' w' hbl fun id b hb hni hbg => ?_, fun id b hb hbg => ?_, hR.gro, hst.bo, hR.kp.trans hkW fun r hr => ?_, fun g vs hg => hst.ext _ _ (hR.gl g vs hg), fun j r hr => hst.ext _ _ (hR.ra j r hr)⟩ (fun i hi => ?_)
      · refine blkMt_keep hst.ext hR.bo hkW (fun r q hr hq => ?_) (hR.hm id b hb hbg)
        obtain ⟨id', hid', hβ', hro, _⟩ := hW r hr
        exact hR.bo.apartW (i := id') (j := id) (fun e => hni (e ▸ hid')) hβ' hq hro
      · have hgm := hR.gm id b hb hbg
        refine blkMt_keep hst.ext hR.bo hkW (fun r q hr hq => ?_) hgm
        obtain ⟨id', hid', hβ', hro, _⟩ := hW r hr
        refine hR.bo.apartW (fun e => ?_) hβ' hq hro
        subst e
        obtain ⟨q', hq', _, hro', _⟩ := hgm
        rw [hβ'] at hq'
        cases hq'
        rw [hro, hR.gro _ b hb] at hro'
        cases hro'
      · obtain ⟨id', hid', hβ', hro, _⟩ := hW r hr
        rcases hR.bo.may id' r hβ' with h | h
        · rw [hro] at h; cases h
        · exact h
      · rw [hst.dom i (.inr (by omega))]
        exact hf i (by omega)

theorem regL_sound (hX : HOk P Φ x.gl X) (hG : ∀ w, Keep x.R x.w0 w → Laid x.gl w) {ops : Array Oper} {Q : Exit → Act → World → Prop} : ∀ (l : List Oper) {σ σ' : St} {c c' : Ctr} {out : List Em}, regL P X x.gh x.ng ops l σ c = some (σ', c', out) → Good Φ ρ out →
    ∀ {β : Beta} {a : Act} {w : World}, Rel x ρ β σ a w → Fresh β c → (∀ β' a' w', Ext β β' → Rel x ρ β' σ' a' w' → Fresh β' c' → Q .normal a' w') → wpList P ops Q l a w
  | [], σ, σ', c, c', out, h, hg, β, a, w, hR, hf, hn => by
    have he := M.pure_inv h
    simp only [Prod.mk.injEq] at he
    obtain ⟨rfl, rfl, rfl⟩ := he
    exact hn β a w (Ext.refl β) hR hf
  | o :: l, σ, σ', c, c', out, h, hg, β, a, w, hR, hf, hn => by
    obtain ⟨σ1, c1, o1, c2, o2, y, h1, h2, he⟩ := M.bind_inv h
    simp only [Prod.mk.injEq] at he
    obtain ⟨rfl, rfl, rfl⟩ := he
    rw [Good.append] at hg
    refine wpList_step fun K hK => ?_
    refine opS_sound hX hG h1 hg.1 hR hf K Q fun β' a' w' he' hR' hf' => hK _ _ ?_
    exact regL_sound hX hG l h2 hg.2 hR' hf' fun β'' a'' w'' he'' hR'' hf'' => hn β'' a'' w'' (he'.trans he'') hR'' hf''
end

/-! ### Two frames as one -/
def muxSV (sel : B) (u v : SV) : M SV :=
  if u.g.isEmpty && v.g.isEmpty then do pure { g := [], s := ← muxS sel u.s v.s } else pure anySV
def muxTm (sel : B) : List Bool → List SV → List SV → M (List SV)
  | _, [], [] => pure []
  | k, u :: us, v :: vs => do
    let z ← (if k.headD false then muxSV sel u v else pure anySV)
    let zs ← muxTm sel k.tail us vs
    pure (z :: zs)
  | _, _, _ => M.fail
def dedup : List Nat → List Nat
  | [] => []
  | i :: l => if l.contains i then dedup l else i :: dedup l
def muxHp (sel : B) (h1 h2 : Hl) : List Nat → M Hl
  | [] => pure []
  | i :: l => do
    let r ← muxHp sel h1 h2 l
    match hpOf h1 i, hpOf h2 i with
    | some b1, some b2 =>
      if b1.g.isEmpty && b2.g.isEmpty && b1.ro == b2.ro && b1.cells.length == b2.cells.length then do
        let z ← muxL sel b1.cells b2.cells
        pure ((i, { g := [], ro := b1.ro, cells := z }) :: r)
      else pure r
    | _, _ => pure r
def muxSt (keep : List Bool) (sel : B) (u v : St) : M St := do
  let tm ← muxTm sel keep u.tm v.tm
  let hp ← muxHp sel u.hp v.hp (dedup (u.hp.map (·.1)))
  pure { tm := tm, hp := hp }

section
variable {Φ : Funs} {x : Cx} {ρ : Env}
theorem muxSV_snd (sel : B) (u v : SV) : Snd Φ ρ (muxSV sel u v) (fun z => ∀ β y, (if sel.d ρ then u.mt β ρ y else v.mt β ρ y) → z.mt β ρ y) := by
  unfold muxSV
  split
  · rename_i hc
    simp only [Bool.and_eq_true, List.isEmpty_iff] at hc
    refine Snd.bind (muxS_snd sel u.s v.s) fun s hs => Snd.pure fun β y h => ⟨fun _ => hs β y ?_, fun h => (by cases h)⟩
    split at h
    · rename_i hb; rw [if_pos hb]; exact h.1 (by rw [hc.1]; rfl)
    · rename_i hb; rw [if_neg hb]; exact h.1 (by rw [hc.2]; rfl)
  · exact Snd.pure fun β y _ => anySV_mt y
theorem muxTm_snd (sel : B) : ∀ (k : List Bool) (us vs : List SV), Snd Φ ρ (muxTm sel k us vs) (fun zs => zs.length = us.length ∧ us.length = vs.length ∧ ∀ (t : Nat) (z : SV), zs[t]? = some z → ∃ u v, us[t]? = some u ∧ vs[t]? = some v ∧
    ∀ β y, (if sel.d ρ then u.mt β ρ y else v.mt β ρ y) → z.mt β ρ y)
  | k, [], [] => by
    unfold muxTm
    exact Snd.pure ⟨rfl, rfl, fun t z h => by simp at h⟩
  | k, u :: us, v :: vs => by
    unfold muxTm
    refine Snd.bind (p := fun z => ∀ β y, (if sel.d ρ then u.mt β ρ y else v.mt β ρ y) → z.mt β ρ y) ?_ fun z hz => Snd.bind (muxTm_snd sel k.tail us vs) fun zs hzs => Snd.pure ?_
    · split
      · exact muxSV_snd sel u v
      · exact Snd.pure fun β y _ => anySV_mt y
    · obtain ⟨h1, h2, h3⟩ := hzs
      refine ⟨by simp [h1], by simp [h2], fun t q hq => ?_⟩
      cases t with
      | zero => simp at hq; subst hq; exact ⟨u, v, by simp, by simp, hz⟩
      | succ t => simp at hq; simpa using h3 t q hq
  | k, [], _ :: _ => by unfold muxTm; exact Snd.fail
  | k, _ :: _, [] => by unfold muxTm; exact Snd.fail
theorem muxHp_snd (sel : B) (h1 h2 : Hl) : ∀ (l : List Nat), Snd Φ ρ (muxHp sel h1 h2 l) (fun r => ∀ β w, (if sel.d ρ then heapMt β ρ (hpOf h1) w else heapMt β ρ (hpOf h2) w) → heapMt β ρ (hpOf r) w)
  | [] => Snd.pure fun β w _ id b hb => by simp [hpOf] at hb
  | i :: l => by
    unfold muxHp
    refine Snd.bind (muxHp_snd sel h1 h2 l) fun r hr => ?_
    split
    · rename_i b1 b2 hb1 hb2
      split
      · rename_i hc
        simp only [Bool.and_eq_true, List.isEmpty_iff, beq_iff_eq] at hc
        obtain ⟨⟨⟨hg1, hg2⟩, hro⟩, hlen⟩ := hc
        refine Snd.bind (muxL_snd sel b1.cells b2.cells) fun z hz => Snd.pure fun β w h id b hb hg => ?_
        unfold hpOf at hb
        split at hb
        · rename_i he
          simp only [beq_iff_eq] at he
          subst he
          simp only [Option.some.injEq] at hb
          subst hb
          obtain ⟨z1, z2, _, z4⟩ := hz
          by_cases hs : sel.d ρ = true
          · rw [if_pos hs] at h
            obtain ⟨q, hq, hl, hro', hcs, hf⟩ := h _ b1 hb1 (by rw [hg1]; rfl)
            exact ⟨q, hq, by simp only; omega, hro', z4 _ _ _ _ (by rw [if_pos hs]; exact hcs), fun h0 j hj => hf h0 j (by simp only at hj; omega)⟩
          · rw [if_neg hs] at h
            obtain ⟨q, hq, hl, hro', hcs, hf⟩ := h _ b2 hb2 (by rw [hg2]; rfl)
            exact ⟨q, hq, by simp only; omega, by rw [hro', hro], z4 _ _ _ _ (by rw [if_neg hs]; exact hcs), fun h0 j hj => hf (by rw [← hro]; exact h0) j (by simp only at hj; omega)⟩
        · exact hr β w h id b hb hg
      · exact Snd.pure hr
    · exact Snd.pure hr
theorem muxSt_snd (keep : List Bool) (sel : B) (u v : St) : Snd Φ ρ (muxSt keep sel u v) (fun z => ∀ β a w, (if sel.d ρ then Rel x ρ β u a w else Rel x ρ β v a w) → Rel x ρ β z a w) := by
  unfold muxSt
  refine Snd.bind (muxTm_snd sel keep u.tm v.tm) fun tm htm => Snd.bind (muxHp_snd sel u.hp v.hp _) fun hp hhp => Snd.pure fun β a w h => ?_
  obtain ⟨h1, h2, h3⟩ := htm
  have hm := hhp β w (by
    split at h
    · rename_i hs; rw [if_pos hs]; exact h.hm
    · rename_i hs; rw [if_neg hs]; exact h.hm)
  have hsl : ∀ (t : Nat) (z : SV), tm[t]? = some z → z.mt β ρ (a.tmps.getD t undef) := fun t z hz => by
    obtain ⟨p, q, hp, hq, hpq⟩ := h3 t z hz
    refine hpq β _ ?_
    split at h
    · rename_i hs; rw [if_pos hs]; exact h.slot t p hp
    · rename_i hs; rw [if_neg hs]; exact h.slot t q hq
  split at h
  · exact ⟨by rw [h.size, h1], hsl, h.df, hm, h.gm, h.gro, h.bo, h.kp, h.gl, h.ra⟩
  · exact ⟨by rw [h.size, h1, h2], hsl, h.df, hm, h.gm, h.gro, h.bo, h.kp, h.gl, h.ra⟩
end

/-! ### Ways out of code -/
inductive Kd where
  | n
  | r
  | x (id : Nat)
def Kd.eq : Kd → Kd → Bool
  | .n, .n | .r, .r => true
  | .x i, .x j => i == j
  | _, _ => false
theorem Kd.eq_sound {k l : Kd} (h : k.eq l = true) : k = l := by
  cases k <;> cases l <;> simp_all [Kd.eq]
theorem Kd.eq_refl (k : Kd) : k.eq k = true := by cases k <;> simp [Kd.eq]
theorem Kd.eq_ne {k l : Kd} (h : k ≠ l) : k.eq l = false := by
  cases hk : k.eq l
  · rfl
  · exact absurd (Kd.eq_sound hk) h

abbrev Outs := List (Kd × Gd × St)
def getK (k : Kd) : Outs → Option (Gd × St)
  | [] => none
  | (l, q, s) :: o => if k.eq l then some (q, s) else getK k o
def kdOf : Exit → Option Kd
  | .normal => some .n
  | .ret => some .r
  | .exit id => some (.x id)
  | _ => none

/-- Just one way out's conditions hold: the one that was taken; and there it is known what holds. -/
def OutMt (x : Cx) (ρ : Env) (β : Beta) (c : Ctr) (O : Outs) (K : Kd) (a : Act) (w : World) : Prop :=
  (∀ k q s, getK k O = some (q, s) → (Gd.d ρ q = true ↔ k = K)) ∧ ∃ q s β', getK K O = some (q, s) ∧ Ext β β' ∧ Rel x ρ β' s a w ∧ Fresh β' c

def single (O : Outs) : Outs :=
  match O with
  | [(k, _, s)] => [(k, [], s)]
  | O => O
theorem single_mt {x : Cx} {ρ : Env} {β : Beta} {c : Ctr} {O : Outs} {K : Kd} {a : Act} {w : World} (h : OutMt x ρ β c O K a w) : OutMt x ρ β c (single O) K a w := by
  unfold single
  split
  · rename_i k q s
    obtain ⟨h1, q', s', β', h2, h3⟩ := h
    unfold getK at h2
    split at h2
    · rename_i he
      have := Kd.eq_sound he
      subst this
      simp only [Option.some.injEq, Prod.mk.injEq] at h2
      obtain ⟨rfl, rfl⟩ := h2
      refine ⟨fun k q s hk => ?_, [], _, β', by simp [getK, Kd.eq_refl], h3⟩
      unfold getK at hk
      split at hk
      · rename_i he'
        simp only [Option.some.injEq, Prod.mk.injEq] at hk
        obtain ⟨rfl, rfl⟩ := hk
        simp [Kd.eq_sound he']
      · simp [getK] at hk
    · simp [getK] at h2
  · exact h

def mergeGo (keep : List Bool) (sel : B) (p1 : Gd) (O2 : Outs) : Outs → M Outs
  | [] => pure []
  | (k, q1, s1) :: l => do
    let r ← mergeGo keep sel p1 O2 l
    match getK k O2 with
    | none => pure ((k, p1 ++ q1, s1) :: r)
    | some (q2, s2) => do
      let q ← (if q1.isEmpty && q2.isEmpty then pure [] else do
        let a1 ← gAtom q1
        let a2 ← gAtom q2
        let b ← mkIteB sel a1 a2
        pure [(b, true)])
      let s ← muxSt keep sel s1 s2
      pure ((k, q, s) :: r)
def restGo (p2 : Gd) (O1 : Outs) : Outs → Outs
  | [] => []
  | (k, q, s) :: l => match getK k O1 with
    | none => (k, p2 ++ q, s) :: restGo p2 O1 l
    | some _ => restGo p2 O1 l
def mergeAny (keep : List Bool) (sel : B) (p1 p2 : Gd) (O1 O2 : Outs) : M Outs := do
  let r ← mergeGo keep sel p1 O2 O1
  pure (single (r ++ restGo p2 O1 O2))
def ones (O1 O2 : Outs) : Option (Kd × St × St) :=
  match O1, O2 with
  | [(k1, _, s1)], [(k2, _, s2)] => if k1.eq k2 then some (k1, s1, s2) else none
  | _, _ => none
def merge (keep : List Bool) (sel : B) (p1 p2 : Gd) (O1 O2 : Outs) : M Outs :=
  match ones O1 O2 with
  | some (k, s1, s2) => do pure [(k, [], ← muxSt keep sel s1 s2)]
  | none => mergeAny keep sel p1 p2 O1 O2

section
variable {Φ : Funs} {x : Cx} {ρ : Env}
theorem getK_append (k : Kd) : ∀ (O O' : Outs), getK k (O ++ O') = match getK k O with | some p => some p | none => getK k O'
  | [], O' => rfl
  | (l, q, s) :: O, O' => by
    simp only [List.cons_append, getK]
    split
    · rfl
    · exact getK_append k O O'
theorem restGo_get (p2 : Gd) (O1 : Outs) (k : Kd) : ∀ (O : Outs), getK k (restGo p2 O1 O) = match getK k O1 with | some _ => none | none => (getK k O).map fun p => (p2 ++ p.1, p.2)
  | [] => by simp only [restGo, getK]; split <;> rfl
  | (l, q, s) :: O => by
    unfold restGo
    have ih := restGo_get p2 O1 k O
    split
    · rename_i hl
      simp only [getK]
      split
      · rename_i he
        rw [Kd.eq_sound he, hl]
        rfl
      · exact ih
    · rename_i v hl
      rw [ih]
      split
      · rfl
      · rename_i hk
        simp only [getK]
        split
        · rename_i he
          rw [Kd.eq_sound he, hl] at hk
          cases hk
        · rfl
theorem mergeGo_snd (keep : List Bool) (sel : B) (p1 : Gd) (O2 : Outs) : ∀ (O1 : Outs), Snd Φ ρ (mergeGo keep sel p1 O2 O1) (fun r => ∀ k, match getK k O1 with
    | none => getK k r = none
    | some (q1, s1) => match getK k O2 with
      | none => getK k r = some (p1 ++ q1, s1)
      | some (q2, s2) => ∃ q s, getK k r = some (q, s) ∧ (Gd.d ρ q = if sel.d ρ then Gd.d ρ q1 else Gd.d ρ q2) ∧ ∀ β a w, (if sel.d ρ then Rel x ρ β s1 a w else Rel x ρ β s2 a w) → Rel x ρ β s a w)
  | [] => Snd.pure fun k => rfl
  | (l, q1, s1) :: O1 => by
    unfold mergeGo
    refine Snd.bind (mergeGo_snd keep sel p1 O2 O1) fun r hr => ?_
    split
    · rename_i hl
      refine Snd.pure fun k => ?_
      simp only [getK]
      by_cases he : k.eq l = true
      · rw [if_pos he, if_pos he]
        rw [Kd.eq_sound he, hl]
      · rw [if_neg he, if_neg he]
        exact hr k
    · rename_i q2 s2 hl
      refine Snd.bind (p := fun q => Gd.d ρ q = if sel.d ρ then Gd.d ρ q1 else Gd.d ρ q2) ?_ fun q hq => Snd.bind (muxSt_snd (x := x) keep sel s1 s2) fun s hs => Snd.pure fun k => ?_
      · split
        · rename_i hc
          simp only [Bool.and_eq_true, List.isEmpty_iff] at hc
          obtain ⟨rfl, rfl⟩ := hc
          exact Snd.pure (by simp)
        · refine Snd.bind (gAtom_snd q1) fun a1 h1 => Snd.bind (gAtom_snd q2) fun a2 h2 => Snd.bind (mkIteB_snd sel a1 a2) fun b hb => Snd.pure ?_
          rw [Gd.d_cons, Gd.d_nil, hb, h1, h2]
          cases sel.d ρ <;> simp
      · simp only [getK]
        by_cases he : k.eq l = true
        · rw [if_pos he, if_pos he]
          rw [Kd.eq_sound he, hl]
          exact ⟨q, s, rfl, hq, hs⟩
        · rw [if_neg he, if_neg he]
          exact hr k
/-- The first one was taken. -/
theorem mergeAny_left {keep : List Bool} {sel : B} {p1 p2 : Gd} {O1 O2 : Outs} (hsel : sel.d ρ = true) (hp1 : Gd.d ρ p1 = true) (h2 : ∀ k q s, getK k O2 = some (q, s) → getK k O1 = none → Gd.d ρ (p2 ++ q) = false) :
    Snd Φ ρ (mergeAny keep sel p1 p2 O1 O2) (fun O => ∀ β c K a w, OutMt x ρ β c O1 K a w → OutMt x ρ β c O K a w) := by
  unfold mergeAny
  refine Snd.bind (mergeGo_snd (x := x) keep sel p1 O2 O1) fun r hr => Snd.pure fun β c K a w h => single_mt ?_
  obtain ⟨h1, q, s, β', hK, hE, hR, hF⟩ := h
  refine ⟨fun k q' s' hk => ?_, ?_⟩
  · have hrk := hr k
    rw [getK_append] at hk
    cases hg1 : getK k O1 with
    | none =>
      rw [hg1] at hrk
      simp only at hrk
      rw [hrk] at hk
      simp only at hk
      rw [restGo_get, hg1] at hk
      simp only [Option.map_eq_some_iff] at hk
      obtain ⟨p, hp, he⟩ := hk
      obtain ⟨q2, s2⟩ := p
      simp only [Prod.mk.injEq] at he
      obtain ⟨rfl, rfl⟩ := he
      rw [h2 k q2 s2 hp hg1]
      constructor
      · intro hc; cases hc
      · intro hc; subst hc; rw [hg1] at hK; cases hK
    | some p =>
      obtain ⟨q1, s1⟩ := p
      rw [hg1] at hrk
      simp only at hrk
      have hq1 := h1 k q1 s1 hg1
      cases hg2 : getK k O2 with
      | none =>
        rw [hg2] at hrk
        simp only at hrk
        rw [hrk] at hk
        simp only [Option.some.injEq, Prod.mk.injEq] at hk
        obtain ⟨rfl, rfl⟩ := hk
        rw [Gd.d_append, hp1, Bool.true_and]
        exact hq1
      | some p2' =>
        obtain ⟨q2, s2⟩ := p2'
        rw [hg2] at hrk
        simp only at hrk
        obtain ⟨q3, s3, g1, g2, _⟩ := hrk
        rw [g1] at hk
        simp only [Option.some.injEq, Prod.mk.injEq] at hk
        obtain ⟨rfl, rfl⟩ := hk
        rw [g2, if_pos hsel]
        exact hq1
  · have hrk := hr K
    rw [hK] at hrk
    simp only at hrk
    cases hg2 : getK K O2 with
    | none =>
      rw [hg2] at hrk
      simp only at hrk
      exact ⟨_, s, β', by rw [getK_append, hrk], hE, hR, hF⟩
    | some p2' =>
      obtain ⟨q2, s2⟩ := p2'
      rw [hg2] at hrk
      simp only at hrk
      obtain ⟨q3, s3, g1, g2, g3⟩ := hrk
      exact ⟨q3, s3, β', by rw [getK_append, g1], hE, g3 β' a w (by rw [if_pos hsel]; exact hR), hF⟩
/-- The second one was taken. -/
theorem mergeAny_right {keep : List Bool} {sel : B} {p1 p2 : Gd} {O1 O2 : Outs} (hsel : sel.d ρ = false) (hp2 : Gd.d ρ p2 = true) (h1 : ∀ k q s, getK k O1 = some (q, s) → getK k O2 = none → Gd.d ρ (p1 ++ q) = false) :
    Snd Φ ρ (mergeAny keep sel p1 p2 O1 O2) (fun O => ∀ β c K a w, OutMt x ρ β c O2 K a w → OutMt x ρ β c O K a w) := by
  unfold mergeAny
  refine Snd.bind (mergeGo_snd (x := x) keep sel p1 O2 O1) fun r hr => Snd.pure fun β c K a w h => single_mt ?_
  obtain ⟨h2, q, s, β', hK, hE, hR, hF⟩ := h
  have hsel' : ¬ (sel.d ρ = true) := by simp [hsel]
  refine ⟨fun k q' s' hk => ?_, ?_⟩
  · have hrk := hr k
    rw [getK_append] at hk
    cases hg1 : getK k O1 with
    | none =>
      rw [hg1] at hrk
      simp only at hrk
      rw [hrk] at hk
      simp only at hk
      rw [restGo_get, hg1] at hk
      simp only [Option.map_eq_some_iff] at hk
      obtain ⟨p, hp, he⟩ := hk
      obtain ⟨q2, s2⟩ := p
      simp only [Prod.mk.injEq] at he
      obtain ⟨rfl, rfl⟩ := he
      rw [Gd.d_append, hp2, Bool.true_and]
      exact h2 k q2 s2 hp
    | some p =>
      obtain ⟨q1, s1⟩ := p
      rw [hg1] at hrk
      simp only at hrk
      cases hg2 : getK k O2 with
      | none =>
        rw [hg2] at hrk
        simp only at hrk
        rw [hrk] at hk
        simp only [Option.some.injEq, Prod.mk.injEq] at hk
        obtain ⟨rfl, rfl⟩ := hk
        rw [h1 k q1 _ hg1 hg2]
        constructor
        · intro hc; cases hc
        · intro hc; subst hc; rw [hg2] at hK; cases hK
      | some p2' =>
        obtain ⟨q2, s2⟩ := p2'
        rw [hg2] at hrk
        simp only at hrk
        obtain ⟨q3, s3, g1, g2, _⟩ := hrk
        rw [g1] at hk
        simp only [Option.some.injEq, Prod.mk.injEq] at hk
        obtain ⟨rfl, rfl⟩ := hk
        rw [g2, if_neg hsel']
        exact h2 k q2 s2 hg2
  · have hrk := hr K
    cases hg1 : getK K O1 with
    | none =>
      rw [hg1] at hrk
      simp only at hrk
      refine ⟨_, s, β', by rw [getK_append, hrk, restGo_get, hg1, hK]; rfl, hE, hR, hF⟩
    | some p1' =>
      obtain ⟨q1, s1⟩ := p1'
      rw [hg1] at hrk
      simp only at hrk
      rw [hK] at hrk
      simp only at hrk
      obtain ⟨q3, s3, g1, g2, g3⟩ := hrk
      exact ⟨q3, s3, β', by rw [getK_append, g1], hE, g3 β' a w (by rw [if_neg hsel']; exact hR), hF⟩
theorem ones_spec {O1 O2 : Outs} {k : Kd} {s1 s2 : St} (h : ones O1 O2 = some (k, s1, s2)) : (∃ q, O1 = [(k, q, s1)]) ∧ ∃ q, O2 = [(k, q, s2)] := by
  unfold ones at h
  split at h
  · split at h
    · rename_i hk
      simp only [Option.some.injEq, Prod.mk.injEq] at h
      obtain ⟨rfl, rfl, rfl⟩ := h
      rw [← Kd.eq_sound hk]
      exact ⟨⟨_, rfl⟩, ⟨_, rfl⟩⟩
    · cases h
  · cases h
theorem one_mt {β : Beta} {c : Ctr} {k K : Kd} {q : Gd} {s s' : St} {a : Act} {w : World} (h : OutMt x ρ β c [(k, q, s)] K a w) (hs : ∀ β, Rel x ρ β s a w → Rel x ρ β s' a w) : OutMt x ρ β c [(k, [], s')] K a w := by
  obtain ⟨h1, q', t, β', h2, hE, hR, hF⟩ := h
  unfold getK at h2
  split at h2
  · rename_i he
    have := Kd.eq_sound he
    subst this
    simp only [Option.some.injEq, Prod.mk.injEq] at h2
    obtain ⟨rfl, rfl⟩ := h2
    refine ⟨fun k q s hk => ?_, [], s', β', by simp [getK, Kd.eq_refl], hE, hs β' hR, hF⟩
    unfold getK at hk
    split at hk
    · rename_i he'
      simp only [Option.some.injEq, Prod.mk.injEq] at hk
      obtain ⟨rfl, rfl⟩ := hk
      simp [Kd.eq_sound he']
    · simp [getK] at hk
  · simp [getK] at h2
theorem merge_left {keep : List Bool} {sel : B} {p1 p2 : Gd} {O1 O2 : Outs} (hsel : sel.d ρ = true) (hp1 : Gd.d ρ p1 = true) (h2 : ∀ k q s, getK k O2 = some (q, s) → getK k O1 = none → Gd.d ρ (p2 ++ q) = false) :
    Snd Φ ρ (merge keep sel p1 p2 O1 O2) (fun O => ∀ β c K a w, OutMt x ρ β c O1 K a w → OutMt x ρ β c O K a w) := by
  unfold merge
  split
  · rename_i k s1 s2 ho
    obtain ⟨⟨q1, rfl⟩, q2, rfl⟩ := ones_spec ho
    exact Snd.bind (muxSt_snd (x := x) keep sel s1 s2) fun s hs => Snd.pure fun β c K a w h => one_mt h fun β hR => hs β a w (by rw [if_pos hsel]; exact hR)
  · exact mergeAny_left hsel hp1 h2
theorem merge_right {keep : List Bool} {sel : B} {p1 p2 : Gd} {O1 O2 : Outs} (hsel : sel.d ρ = false) (hp2 : Gd.d ρ p2 = true) (h1 : ∀ k q s, getK k O1 = some (q, s) → getK k O2 = none → Gd.d ρ (p1 ++ q) = false) :
    Snd Φ ρ (merge keep sel p1 p2 O1 O2) (fun O => ∀ β c K a w, OutMt x ρ β c O2 K a w → OutMt x ρ β c O K a w) := by
  unfold merge
  split
  · rename_i k s1 s2 ho
    obtain ⟨⟨q1, rfl⟩, q2, rfl⟩ := ones_spec ho
    exact Snd.bind (muxSt_snd (x := x) keep sel s1 s2) fun s hs => Snd.pure fun β c K a w h => one_mt h fun β hR => hs β a w (by rw [if_neg (by simp [hsel])]; exact hR)
  · exact mergeAny_right hsel hp2 h1
end
end Go.Proofs.YtalnndmnnffnmaaGreat.Sx
