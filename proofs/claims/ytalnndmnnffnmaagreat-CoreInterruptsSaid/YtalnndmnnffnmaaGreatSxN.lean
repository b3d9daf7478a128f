/-
  SX, part N: code, a function's body, its contract. No condition.
-/
import Derived.Test.YtalnndmnnffnmaaGreatSxW
import Derived.Tactics
set_option linter.unusedVariables false
set_option linter.unusedSimpArgs false
namespace Go.Proofs.YtalnndmnnffnmaaGreat.Sx
open Go

/-- Behind code that was left the usual way. -/
def behind (keep : List Bool) (O : Outs) (f : St → M Outs) : M Outs :=
  match getK .n O with
  | none => pure O
  | some (q, s) => if q.isEmpty then f s else do
    let O2 ← M.under q (f s)
    M.mono (do
      let sel ← gAtom q
      merge keep sel q [] O2 (dropK .n O))
def loopX (keep : List Bool) (f : St → M Outs) : Nat → St → M Outs
  | 0, _ => M.fail
  | n + 1, s => do
    let O ← f s
    M.mono (behind keep O (fun s => M.mono (loopX keep f n s)))
def blockX (keep : List Bool) (id : Nat) (O : Outs) : M Outs :=
  match getK (.x id) O with
  | none => pure O
  | some (qx, sx) => match getK .n O with
    | none => pure (single ((.n, qx, sx) :: dropK (.x id) O))
    | some (qn, sn) => do
      let an ← gAtom qn
      let ax ← gAtom qx
      let q ← mkOr an ax
      let s ← muxSt keep an sn sx
      pure (single ((.n, [(q, true)], s) :: dropK .n (dropK (.x id) O)))

def condOf (s : S) : Option B := match s with | .one false [.bool b] => some b | _ => none
theorem condOf_spec {s : S} {b : B} (h : condOf s = some b) : s = .one false [.bool b] := by
  unfold condOf at h
  split at h
  · simp only [Option.some.injEq] at h; rw [h]
  · cases h
structure Ctl where
  keep : List Bool
  turns : Nat
  ret : List Bool
  base : Nat
  loops : List (Nat × LAnn) := []

/-- A loop's own number: its first region's. -/
def codeKey : Code → Nat
  | .region id _ _ => id + 1
  | .seq a b => match codeKey a with
    | 0 => codeKey b
    | n => n
  | .cond _ a b => match codeKey a with
    | 0 => codeKey b
    | n => n
  | .block _ a => codeKey a
  | _ => 0
def annOf (n : Nat) : List (Nat × LAnn) → Option LAnn
  | [] => none
  | (m, L) :: l => if m == n then some L else annOf n l
theorem annOf_mem {n : Nat} {L : LAnn} : ∀ {l : List (Nat × LAnn)}, annOf n l = some L → ∃ m, (m, L) ∈ l
  | [], h => by simp [annOf] at h
  | (m, K) :: l, h => by
    unfold annOf at h
    split at h
    · simp only [Option.some.injEq] at h
      subst h
      exact ⟨m, by simp⟩
    · obtain ⟨m', hm⟩ := annOf_mem h
      exact ⟨m', by simp [hm]⟩
def LoopsOk (Φ : Funs) (k : Ctl) : Prop := ∀ p, p ∈ k.loops → Φ p.2.id = loopF (p.2.S.run Φ true) p.2.nI p.2.nB
theorem LoopsOk.nil {Φ : Funs} {k : Ctl} (h : k.loops = []) : LoopsOk Φ k := fun p hp => by rw [h] at hp; cases hp

/-- At a return: only the answers' slots, and the stretches that they, or the arguments, name. -/
def pruneTm : List Bool → List SV → List SV
  | _, [] => []
  | k, v :: vs => (if k.headD false then v else anySV) :: pruneTm k.tail vs
def tmIds : List SV → List Nat
  | [] => []
  | v :: vs => sIds v.s ++ tmIds vs
def hpIds (ids : List Nat) : Hl → List Nat
  | [] => ids
  | (i, b) :: l => if ids.contains i then cIds b.cells ++ hpIds ids l else hpIds ids l
def keepId (k : Ctl) (ids : List Nat) (i : Nat) : Bool := Nat.blt i k.base || ids.contains i
def pruneHp (k : Ctl) (ids : List Nat) (hp : Hl) : Hl := hp.filter fun p => keepId k ids p.1
def prune (k : Ctl) (s : St) : St :=
  let tm := pruneTm k.ret s.tm
  { tm := tm, hp := pruneHp k (hpIds (hpIds (tmIds tm) s.hp) s.hp) s.hp }
theorem pruneTm_get : ∀ {k : List Bool} {vs : List SV}, (pruneTm k vs).length = vs.length ∧ ∀ (t : Nat) (z : SV), (pruneTm k vs)[t]? = some z → z = anySV ∨ vs[t]? = some z
  | k, [] => ⟨rfl, fun t z h => by simp [pruneTm] at h⟩
  | k, v :: vs => by
    obtain ⟨h1, h2⟩ := pruneTm_get (k := k.tail) (vs := vs)
    refine ⟨by simp [pruneTm, h1], fun t z h => ?_⟩
    unfold pruneTm at h
    cases t with
    | zero =>
      simp only [List.getElem?_cons_zero, Option.some.injEq] at h
      split at h
      · exact .inr (by simpa using h)
      · exact .inl h.symm
    | succ t => exact h2 t z (by simpa using h)
theorem hpOf_filter {f : Nat → Bool} : ∀ {l : Hl} {id : Nat} {b : Blk}, hpOf (l.filter fun p => f p.1) id = some b → hpOf l id = some b
  | [], _, _, h => by simp [hpOf] at h
  | (i, c) :: l, id, b, h => by
    rw [List.filter_cons] at h
    unfold hpOf
    split at h
    · unfold hpOf at h
      split at h
      · rename_i he; rw [if_pos he]; exact h
      · rename_i he; rw [if_neg he]; exact hpOf_filter h
    · rename_i hf
      have hne : ¬ ((i == id) = true) := fun he => by
        simp only [beq_iff_eq] at he
        subst he
        have : ∀ {l : Hl}, hpOf (l.filter fun p => f p.1) i = none := by
          intro l
          induction l with
          | nil => rfl
          | cons p l ih =>
            rw [List.filter_cons]
            split
            · rename_i hp
              unfold hpOf
              split
              · rename_i he
                simp only [beq_iff_eq] at he
                rw [he] at hp
                exact absurd hp hf
              · exact ih
            · exact ih
        rw [this] at h
        cases h
      rw [if_neg hne]
      exact hpOf_filter h
theorem Rel.prune {x : Cx} {ρ : Env} {β : Beta} {σ : St} {a : Act} {w : World} (h : Rel x ρ β σ a w) (k : Ctl) : Rel x ρ β (prune k σ) a w := by
  obtain ⟨h1, h2⟩ := pruneTm_get (k := k.ret) (vs := σ.tm)
  refine ⟨h.size.trans h1.symm, fun t v hv => ?_, h.df, fun id b hb hg => h.hm id b (hpOf_filter (f := keepId k _) hb) hg, h.gm, h.gro, h.bo, h.kp, h.gl, h.ra⟩
  rcases h2 t v hv with rfl | hv
  · exact anySV_mt _
  · exact h.slot t v hv

def exec (P : Program) (X : Hnd) (gh : Hl) (ng : Nat) (k : Ctl) : Code → St → M Outs
  | .skip, s => pure [(.n, [], s)]
  | .label _, s => pure [(.n, [], s)]
  | .ret, s => pure [(.r, [], prune k s)]
  | .exit id, s => pure [(.x id, [], s)]
  | .region _ ops draw, s => if draw then do
      let s' ← regD P X gh ng ops s
      pure [(.n, [], s')]
    else if hasMaps ops then do
      let s' ← regM P X gh ng ops s
      pure [(.n, [], s')]
    else do
      let s' ← regL P X gh ng ops ops.toList s
      pure [(.n, [], s')]
  | .seq a b, s => do
    let O ← exec P X gh ng k a s
    M.mono (behind k.keep O (exec P X gh ng k b))
  | .cond c a b, s => match condOf (rs [] (ev ng s c)) with
    | some (.c true) => exec P X gh ng k a s
    | some (.c false) => exec P X gh ng k b s
    | some (.v n) => do
      let O1 ← M.mono (M.under [(.v n, true)] (exec P X gh ng k a s))
      let O2 ← M.mono (M.under [(.v n, false)] (exec P X gh ng k b s))
      M.mono (merge k.keep (.v n) [(.v n, true)] [(.v n, false)] O1 O2)
    | none => M.fail
  | .block id a, s => do
    let O ← exec P X gh ng k a s
    M.mono (blockX k.keep id O)
  | .loop a, s => match annOf (codeKey a) k.loops with
    | none => M.mono (loopX k.keep (exec P X gh ng k a) k.turns s)
    | some L => M.mono (loopM L (exec P X gh ng k a) s)
  | _, _ => M.fail

section
variable {P : Program} {Φ : Funs} {X : Hnd} {x : Cx} {ρ : Env}

theorem behind_ok {W : (Exit → Act → World → Prop) → Act → World → Prop} {f : St → M Outs} (hf : OkW Φ x ρ W f) {keep : List Bool} {O : Outs} {c c' : Ctr} {O' : Outs} {out : List Em} (h : behind keep O f c = some (O', c', out)) (hc : c.id ≤ c'.id) (hg : Good Φ ρ out)
    {β : Beta} {a : Act} {w : World} {K : Kd} (hO : OutMt x ρ β c O K a w) {Q : Exit → Act → World → Prop} (hQ : ∀ e a' w' K', kdOf e = some K' → OutMt x ρ β c' O' K' a' w' → Q e a' w') :
    (K = .n → W Q a w) ∧ (K ≠ .n → OutMt x ρ β c' O' K a w) := by
  unfold behind at h
  obtain ⟨h1, q0, s0, β', hK, hE, hR, hF⟩ := hO
  cases hn : getK .n O with
  | none =>
    rw [hn] at h
    have he := M.pure_inv h
    simp only [Prod.mk.injEq] at he
    obtain ⟨rfl, rfl, rfl⟩ := he
    refine ⟨fun e => ?_, fun _ => ⟨h1, q0, s0, β', hK, hE, hR, hF⟩⟩
    subst e
    rw [hn] at hK
    cases hK
  | some p =>
    obtain ⟨q, s⟩ := p
    rw [hn] at h
    simp only at h
    have hq := h1 .n q s hn
    by_cases hemp : q.isEmpty = true
    · rw [if_pos hemp] at h
      rw [List.isEmpty_iff] at hemp
      subst hemp
      have hKn : Kd.n = K := hq.1 rfl
      subst hKn
      rw [hn] at hK
      simp only [Option.some.injEq, Prod.mk.injEq] at hK
      obtain ⟨rfl, rfl⟩ := hK
      refine ⟨fun _ => ?_, fun hne => absurd rfl hne⟩
      exact hf s c c' O' out h hg β' a w hR hF Q fun e a' w' K' hk hO' => hQ e a' w' K' hk (hO'.ext hE)
    · rw [if_neg hemp] at h
      obtain ⟨O2, c1, o1, c2, o2, y, g1, g2, he⟩ := M.bind_inv h
      simp only [Prod.mk.injEq] at he
      obtain ⟨rfl, rfl, rfl⟩ := he
      rw [Good.append] at hg
      obtain ⟨O2', c1', o1', g1', he1⟩ := under_inv g1
      simp only [Prod.mk.injEq] at he1
      obtain ⟨rfl, rfl, rfl⟩ := he1
      obtain ⟨g2, hle⟩ := mono_inv g2
      simp only at hle
      obtain ⟨sel, c3, o3, c4, o4, y, g3, g4, he⟩ := M.bind_inv g2
      simp only [Prod.mk.injEq] at he
      obtain ⟨rfl, rfl, rfl⟩ := he
      have hg2 := hg.2
      rw [Good.append] at hg2
      have hsel := gAtom_snd q _ _ _ _ g3 hg2.1
      constructor
      · intro e
        subst e
        rw [hn] at hK
        simp only [Option.some.injEq, Prod.mk.injEq] at hK
        obtain ⟨rfl, rfl⟩ := hK
        have hqt : Gd.d ρ q = true := hq.2 rfl
        have hgood := Good.under hqt hg.1
        have hm := merge_left (x := x) (Φ := Φ) (keep := keep) (sel := sel) (p1 := q) (p2 := []) (O1 := O2) (O2 := dropK .n O) (by rw [hsel]; exact hqt) hqt (fun k q' s' hk _ => by
          rw [dropK_get] at hk
          split at hk
          · cases hk
          · rename_i hne
            have := h1 k q' s' hk
            cases hd : Gd.d ρ q' with
            | false => simpa using hd
            | true =>
              exfalso
              exact hne (by rw [this.1 hd]; exact Kd.eq_refl _)) _ _ _ _ g4 hg2.2
        exact hf s c _ O2 _ g1' hgood β' a w hR hF Q fun e a' w' K' hk hO' => hQ e a' w' K' hk (hm β _ K' a' w' ((hO'.le hle).ext hE))
      · intro hne
        have hqf : Gd.d ρ q = false := by
          cases hd : Gd.d ρ q with
          | false => rfl
          | true => exact absurd (hq.1 hd).symm hne
        have hm := merge_right (x := x) (Φ := Φ) (keep := keep) (sel := sel) (p1 := q) (p2 := []) (O1 := O2) (O2 := dropK .n O) (by rw [hsel]; exact hqf) rfl (fun k q' s' _ _ => by simp [hqf]) _ _ _ _ g4 hg2.2
        refine hm β _ K a w ⟨fun k q' s' hk => ?_, q0, s0, β', ?_, hE, hR, hF.le hc⟩
        · rw [dropK_get] at hk
          split at hk
          · cases hk
          · exact h1 k q' s' hk
        · rw [dropK_get, if_neg (fun h => hne (Kd.eq_sound h).symm)]
          exact hK

theorem kdOf_n {e : Exit} (h : kdOf e = some .n) : e = .normal := by cases e <;> simp_all [kdOf]

theorem exit_then {Q : Exit → Act → World → Prop} {nx : Act → World → Prop} {e : Exit} {a : Act} {w : World} (h : e = .normal → nx a w) (h' : e ≠ .normal → Q e a w) : Exit.then nx Q e a w := by
  cases e <;> first | exact h rfl | exact h' (by simp)

theorem loopX_ok {cd : Code} {f : St → M Outs} (hf : CodeOk P Φ x ρ cd f) (keep : List Bool) : ∀ n, OkW Φ x ρ (fun Q a w => Code.rounds P cd Q n a w) (fun s => M.mono (loopX keep f n s))
  | 0 => fun s c c' O out h _ β a w _ _ => by
    have := (mono_inv h).1
    simp [loopX, M.fail] at this
  | n + 1 => fun s c c' O out h hg β a w hR hF Q hQ => by
    obtain ⟨h, hle⟩ := mono_inv h
    simp only at hle
    unfold loopX at h
    obtain ⟨O1, c1, o1, c2, o2, y, g1, g2, he⟩ := M.bind_inv h
    simp only [Prod.mk.injEq] at he
    obtain ⟨rfl, rfl, rfl⟩ := he
    rw [Good.append] at hg
    obtain ⟨g2, hle2⟩ := mono_inv g2
    have hfn := loopX_ok hf keep n
    show cd.wp P (Exit.then (Code.rounds P cd Q n) Q) a w
    refine hf s c c1 O1 o1 g1 hg.1 β a w hR hF _ fun e a' w' K hk hO => ?_
    have hb := behind_ok hfn g2 hle2 hg.2 hO hQ
    refine exit_then (fun h0 => ?_) (fun h0 => hQ e a' w' K hk (hb.2 fun e0 => h0 (kdOf_n (e0 ▸ hk))))
    subst h0
    simp only [kdOf, Option.some.injEq] at hk
    exact hb.1 hk.symm

theorem blockX_ok {keep : List Bool} {id : Nat} {O O' : Outs} {c c' : Ctr} {out : List Em} (h : blockX keep id O c = some (O', c', out)) (hc : c.id ≤ c'.id) (hg : Good Φ ρ out) {β : Beta} {a : Act} {w : World} {K : Kd} (hO : OutMt x ρ β c O K a w) :
    OutMt x ρ β c' O' (if (Kd.x id).eq K then .n else K) a w := by
  unfold blockX at h
  obtain ⟨h1, q0, s0, β', hK, hE, hR, hF⟩ := hO
  cases hx : getK (.x id) O with
  | none =>
    rw [hx] at h
    have he := M.pure_inv h
    simp only [Prod.mk.injEq] at he
    obtain ⟨rfl, rfl, rfl⟩ := he
    have hne : ¬ ((Kd.x id).eq K = true) := fun hc => by
      rw [← Kd.eq_sound hc, hx] at hK
      cases hK
    rw [if_neg hne]
    exact ⟨h1, q0, s0, β', hK, hE, hR, hF⟩
  | some p =>
    obtain ⟨qx, sx⟩ := p
    rw [hx] at h
    simp only at h
    have hqx := h1 _ _ _ hx
    cases hn : getK .n O with
    | none =>
      rw [hn] at h
      have he := M.pure_inv h
      simp only [Prod.mk.injEq] at he
      obtain ⟨rfl, rfl, rfl⟩ := he
      refine single_mt ?_
      by_cases hKx : (Kd.x id).eq K = true
      · rw [if_pos hKx]
        have e := Kd.eq_sound hKx
        subst e
        rw [hx] at hK
        simp only [Option.some.injEq, Prod.mk.injEq] at hK
        obtain ⟨rfl, rfl⟩ := hK
        refine ⟨fun k q s hk => ?_, qx, sx, β', by simp [getK, Kd.eq], hE, hR, hF⟩
        unfold getK at hk
        split at hk
        · rename_i hkn
          simp only [Option.some.injEq, Prod.mk.injEq] at hk
          obtain ⟨rfl, rfl⟩ := hk
          have := Kd.eq_sound hkn
          subst this
          simp [hqx]
        · rename_i hkn
          rw [dropK_get] at hk
          split at hk
          · cases hk
          · rename_i hkx
            have := h1 _ _ _ hk
            rw [this]
            constructor
            · intro e; subst e; exact absurd (Kd.eq_refl _) hkx
            · intro e; subst e; exact absurd (Kd.eq_refl _) hkn
      · rw [if_neg hKx]
        have hKn : K ≠ .n := fun e => by subst e; rw [hn] at hK; cases hK
        refine ⟨fun k q s hk => ?_, q0, s0, β', ?_, hE, hR, hF⟩
        · unfold getK at hk
          split at hk
          · rename_i hkn
            simp only [Option.some.injEq, Prod.mk.injEq] at hk
            obtain ⟨rfl, rfl⟩ := hk
            have := Kd.eq_sound hkn
            subst this
            rw [hqx]
            constructor
            · intro e; subst e; exact absurd (Kd.eq_refl _) hKx
            · intro e; exact absurd e.symm hKn
          · rw [dropK_get] at hk
            split at hk
            · cases hk
            · exact h1 _ _ _ hk
        · unfold getK
          rw [if_neg (by rw [Kd.eq_ne hKn]; simp), dropK_get, if_neg hKx]
          exact hK
    | some p =>
      obtain ⟨qn, sn⟩ := p
      rw [hn] at h
      simp only at h
      have hqn := h1 _ _ _ hn
      obtain ⟨an, c1, o1, c2, o2, y, g1, g2, he⟩ := M.bind_inv h
      simp only [Prod.mk.injEq] at he
      obtain ⟨rfl, rfl, rfl⟩ := he
      obtain ⟨ax, c3, o3, c4, o4, y, g3, g4, he⟩ := M.bind_inv g2
      simp only [Prod.mk.injEq] at he
      obtain ⟨rfl, rfl, rfl⟩ := he
      obtain ⟨q, c5, o5, c6, o6, y, g5, g6, he⟩ := M.bind_inv g4
      simp only [Prod.mk.injEq] at he
      obtain ⟨rfl, rfl, rfl⟩ := he
      obtain ⟨s, c7, o7, c8, o8, y, g7, g8, he⟩ := M.bind_inv g6
      simp only [Prod.mk.injEq] at he
      obtain ⟨rfl, rfl, rfl⟩ := he
      have he := M.pure_inv g8
      simp only [Prod.mk.injEq] at he
      obtain ⟨rfl, rfl, rfl⟩ := he
      simp only [Good.append] at hg
      have e1 := gAtom_snd qn _ _ _ _ g1 hg.1
      have e2 := gAtom_snd qx _ _ _ _ g3 hg.2.1
      have e3 := mkOr_snd _ _ _ _ _ _ g5 hg.2.2.1
      have e4 := muxSt_snd (x := x) keep an sn sx _ _ _ _ g7 hg.2.2.2.1
      have hqd : Gd.d ρ [(q, true)] = (Gd.d ρ qn || Gd.d ρ qx) := by simp [e1, e2, e3]
      refine single_mt ?_
      by_cases hKx : (Kd.x id).eq K = true
      · rw [if_pos hKx]
        have e := Kd.eq_sound hKx
        subst e
        rw [hx] at hK
        simp only [Option.some.injEq, Prod.mk.injEq] at hK
        obtain ⟨rfl, rfl⟩ := hK
        have hxt : Gd.d ρ qx = true := hqx.2 rfl
        have hnf : Gd.d ρ qn = false := by
          cases hd : Gd.d ρ qn with
          | false => rfl
          | true => have := hqn.1 hd; cases this
        refine ⟨fun k q' s' hk => ?_, [(q, true)], s, β', by simp [getK, Kd.eq], hE, e4 β' a w (by rw [e1, hnf]; simpa using hR), hF.le hc⟩
        unfold getK at hk
        split at hk
        · rename_i hkn
          simp only [Option.some.injEq, Prod.mk.injEq] at hk
          obtain ⟨rfl, rfl⟩ := hk
          have := Kd.eq_sound hkn
          subst this
          rw [hqd, hxt]
          simp
        · rename_i hkn
          rw [dropK_get, dropK_get] at hk
          split at hk
          · cases hk
          · split at hk
            · cases hk
            · rename_i hkn' hkx
              have := h1 _ _ _ hk
              rw [this]
              constructor
              · intro e; subst e; exact absurd (Kd.eq_refl _) hkx
              · intro e; subst e; exact absurd (Kd.eq_refl _) hkn
      · rw [if_neg hKx]
        have hxf : Gd.d ρ qx = false := by
          cases hd : Gd.d ρ qx with
          | false => rfl
          | true => exact absurd (by rw [hqx.1 hd]; exact Kd.eq_refl _) hKx
        by_cases hKn : K = .n
        · subst hKn
          rw [hn] at hK
          simp only [Option.some.injEq, Prod.mk.injEq] at hK
          obtain ⟨rfl, rfl⟩ := hK
          have hnt : Gd.d ρ qn = true := hqn.2 rfl
          refine ⟨fun k q' s' hk => ?_, [(q, true)], s, β', by simp [getK, Kd.eq], hE, e4 β' a w (by rw [e1, hnt]; simpa using hR), hF.le hc⟩
          unfold getK at hk
          split at hk
          · rename_i hkn
            simp only [Option.some.injEq, Prod.mk.injEq] at hk
            obtain ⟨rfl, rfl⟩ := hk
            have := Kd.eq_sound hkn
            subst this
            rw [hqd, hnt]
            simp
          · rw [dropK_get, dropK_get] at hk
            split at hk
            · cases hk
            · split at hk
              · cases hk
              · exact h1 _ _ _ hk
        · have hnf : Gd.d ρ qn = false := by
            cases hd : Gd.d ρ qn with
            | false => rfl
            | true => exact absurd (hqn.1 hd).symm hKn
          refine ⟨fun k q' s' hk => ?_, q0, s0, β', ?_, hE, hR, hF.le hc⟩
          · unfold getK at hk
            split at hk
            · rename_i hkn
              simp only [Option.some.injEq, Prod.mk.injEq] at hk
              obtain ⟨rfl, rfl⟩ := hk
              have := Kd.eq_sound hkn
              subst this
              rw [hqd, hnf, hxf]
              simp only [Bool.or_self, Bool.false_eq_true, false_iff]
              exact fun e => hKn e.symm
            · rw [dropK_get, dropK_get] at hk
              split at hk
              · cases hk
              · split at hk
                · cases hk
                · exact h1 _ _ _ hk
          · unfold getK
            rw [if_neg (by rw [Kd.eq_ne hKn]; simp), dropK_get, if_neg (by rw [Kd.eq_ne (Ne.symm hKn)]; simp), dropK_get, if_neg hKx]
            exact hK
end

theorem exec_ok {P : Program} {Φ : Funs} {X : Hnd} {x : Cx} (hX : HOk P Φ x.gl X) (hG : ∀ w, Keep x.R x.w0 w → Laid x.gl w) (k : Ctl) (hL : LoopsOk Φ k) : ∀ (cd : Code) (ρ : Env), CodeOk P Φ x ρ cd (exec P X x.gh x.ng k cd)
  | .skip, ρ => fun s c c' O out h hg β a w hR hF Q hQ => by
    have he := M.pure_inv h
    simp only [Prod.mk.injEq] at he
    obtain ⟨rfl, rfl, rfl⟩ := he
    exact wp_skip (hQ _ _ _ _ rfl (OutMt.one (Ext.refl β) hR hF))
  | .label _, ρ => fun s c c' O out h hg β a w hR hF Q hQ => by
    have he := M.pure_inv h
    simp only [Prod.mk.injEq] at he
    obtain ⟨rfl, rfl, rfl⟩ := he
    exact wp_label (hQ _ _ _ _ rfl (OutMt.one (Ext.refl β) hR hF))
  | .ret, ρ => fun s c c' O out h hg β a w hR hF Q hQ => by
    have he := M.pure_inv h
    simp only [Prod.mk.injEq] at he
    obtain ⟨rfl, rfl, rfl⟩ := he
    exact wp_ret (hQ _ _ _ _ rfl (OutMt.one (Ext.refl β) (hR.prune k) hF))
  | .exit id, ρ => fun s c c' O out h hg β a w hR hF Q hQ => by
    have he := M.pure_inv h
    simp only [Prod.mk.injEq] at he
    obtain ⟨rfl, rfl, rfl⟩ := he
    exact wp_exit (hQ _ _ _ _ rfl (OutMt.one (Ext.refl β) hR hF))
  | .region id ops draw, ρ => fun s c c' O out h hg β a w hR hF Q hQ => by
    unfold exec at h
    cases draw
    · simp only [Bool.false_eq_true, if_false] at h
      split at h
      · obtain ⟨s', c1, o1, c2, o2, y, g1, g2, he⟩ := M.bind_inv h
        simp only [Prod.mk.injEq] at he
        obtain ⟨rfl, rfl, rfl⟩ := he
        have he := M.pure_inv g2
        simp only [Prod.mk.injEq] at he
        obtain ⟨rfl, rfl, rfl⟩ := he
        rw [List.append_nil] at hg
        exact wp_region_list (regM_sound hX hG g1 hg hR hF fun β' a' w' he hR' hF' => hQ _ _ _ _ rfl (OutMt.one he hR' hF'))
      obtain ⟨s', c1, o1, c2, o2, y, g1, g2, he⟩ := M.bind_inv h
      simp only [Prod.mk.injEq] at he
      obtain ⟨rfl, rfl, rfl⟩ := he
      have he := M.pure_inv g2
      simp only [Prod.mk.injEq] at he
      obtain ⟨rfl, rfl, rfl⟩ := he
      rw [List.append_nil] at hg
      exact wp_region_list (regL_sound hX hG ops.toList g1 hg hR hF fun β' a' w' he hR' hF' => hQ _ _ _ _ rfl (OutMt.one he hR' hF'))
    · simp only [if_true] at h
      obtain ⟨s', c1, o1, c2, o2, y, g1, g2, he⟩ := M.bind_inv h
      simp only [Prod.mk.injEq] at he
      obtain ⟨rfl, rfl, rfl⟩ := he
      have he := M.pure_inv g2
      simp only [Prod.mk.injEq] at he
      obtain ⟨rfl, rfl, rfl⟩ := he
      rw [List.append_nil] at hg
      exact regD_sound hX hG g1 hg hR hF fun β' a' w' he hR' hF' => hQ _ _ _ _ rfl (OutMt.one he hR' hF')
  | .seq p q, ρ => fun s c c' O out h hg β a w hR hF Q hQ => by
    unfold exec at h
    obtain ⟨O1, c1, o1, c2, o2, y, g1, g2, he⟩ := M.bind_inv h
    simp only [Prod.mk.injEq] at he
    obtain ⟨rfl, rfl, rfl⟩ := he
    rw [Good.append] at hg
    obtain ⟨g2, hle⟩ := mono_inv g2
    refine wp_seq (exec_ok hX hG k hL p ρ s c c1 O1 o1 g1 hg.1 β a w hR hF _ fun e a' w' K hk hO => ?_)
    have hb := behind_ok (exec_ok hX hG k hL q ρ) g2 hle hg.2 hO hQ
    refine exit_then (fun h0 => ?_) (fun h0 => hQ e a' w' K hk (hb.2 fun e0 => h0 (kdOf_n (e0 ▸ hk))))
    subst h0
    simp only [kdOf, Option.some.injEq] at hk
    exact hb.1 hk.symm
  | .cond cc p q, ρ => fun s c c' O out h hg β a w hR hF Q hQ => by
    unfold exec at h
    have hev := rs_mt (Γ := []) (ρ := ρ) rfl (ev_mt hR cc)
    cases hc : condOf (rs [] (ev x.ng s cc)) with
    | none =>
      rw [hc] at h
      simp [M.fail] at h
    | some b =>
    have hcv := mt_bool (condOf_spec hc) hev
    rw [hc] at h
    cases b with
    | c kk =>
      cases kk
      · exact wp_cond_false (by simpa using hcv) (exec_ok hX hG k hL q ρ s c c' O out h hg β a w hR hF Q hQ)
      · exact wp_cond_true (by simpa using hcv) (exec_ok hX hG k hL p ρ s c c' O out h hg β a w hR hF Q hQ)
    | v n =>
      simp only at h
      obtain ⟨O1, c1, o1, c2, o2, y, g1, g2, he⟩ := M.bind_inv h
      simp only [Prod.mk.injEq] at he
      obtain ⟨rfl, rfl, rfl⟩ := he
      obtain ⟨O2, c3, o3, c4, o4, y, g3, g4, he⟩ := M.bind_inv g2
      simp only [Prod.mk.injEq] at he
      obtain ⟨rfl, rfl, rfl⟩ := he
      simp only [Good.append] at hg
      obtain ⟨g1, hle1⟩ := mono_inv g1
      obtain ⟨g3, hle3⟩ := mono_inv g3
      obtain ⟨g4, hle4⟩ := mono_inv g4
      simp only at hle1 hle3 hle4
      obtain ⟨O1', c1', o1', g1', he1⟩ := under_inv g1
      simp only [Prod.mk.injEq] at he1
      obtain ⟨rfl, rfl, rfl⟩ := he1
      obtain ⟨O2', c3', o3', g3', he3⟩ := under_inv g3
      simp only [Prod.mk.injEq] at he3
      obtain ⟨rfl, rfl, rfl⟩ := he3
      cases hb : (B.v n).d ρ
      · have hm := merge_right (x := x) (Φ := Φ) (keep := k.keep) (sel := .v n) (p1 := [(.v n, true)]) (p2 := [(.v n, false)]) (O1 := O1) (O2 := O2) hb (by simp [hb]) (fun k q s _ _ => by simp [hb]) _ _ _ _ g4 hg.2.2
        refine wp_cond_false (by rw [hcv, hb]) (exec_ok hX hG k hL q ρ s _ _ O2 _ g3' (Good.under (by simp [hb]) hg.2.1) β a w hR (hF.le hle1) Q fun e a' w' K hk hO => hQ e a' w' K hk (hm β _ K a' w' (hO.le hle4)))
      · have hm := merge_left (x := x) (Φ := Φ) (keep := k.keep) (sel := .v n) (p1 := [(.v n, true)]) (p2 := [(.v n, false)]) (O1 := O1) (O2 := O2) hb (by simp [hb]) (fun k q s _ _ => by simp [hb]) _ _ _ _ g4 hg.2.2
        refine wp_cond_true (by rw [hcv, hb]) (exec_ok hX hG k hL p ρ s _ _ O1 _ g1' (Good.under (by simp [hb]) hg.1) β a w hR hF Q fun e a' w' K hk hO => hQ e a' w' K hk (hm β _ K a' w' (hO.le (by omega))))
  | .block id p, ρ => fun s c c' O out h hg β a w hR hF Q hQ => by
    unfold exec at h
    obtain ⟨O1, c1, o1, c2, o2, y, g1, g2, he⟩ := M.bind_inv h
    simp only [Prod.mk.injEq] at he
    obtain ⟨rfl, rfl, rfl⟩ := he
    rw [Good.append] at hg
    obtain ⟨g2, hle⟩ := mono_inv g2
    refine wp_block (exec_ok hX hG k hL p ρ s c c1 O1 o1 g1 hg.1 β a w hR hF _ fun e a' w' K hk hO => ?_)
    have hb := blockX_ok g2 hle hg.2 hO
    cases e <;> simp only [kdOf, Option.some.injEq] at hk <;> (try (cases hk; done))
    · subst hk
      rw [if_neg (by simp [Kd.eq])] at hb
      exact hQ _ _ _ _ rfl hb
    · rename_i id'
      subst hk
      unfold Exit.inBlock
      simp only
      by_cases e : id' = id
      · subst e
        rw [if_pos (Kd.eq_refl _)] at hb
        rw [if_pos rfl]
        exact hQ _ _ _ _ rfl hb
      · rw [if_neg (by simp [Kd.eq]; exact fun h => e h.symm)] at hb
        rw [if_neg e]
        exact hQ _ _ _ _ rfl hb
    · subst hk
      rw [if_neg (by simp [Kd.eq])] at hb
      exact hQ _ _ _ _ rfl hb
  | .loop p, ρ => fun s c c' O out h hg β a w hR hF Q hQ => by
    unfold exec at h
    cases hLL : annOf (codeKey p) k.loops with
    | none =>
      rw [hLL] at h
      exact wp_loop_rounds k.turns (loopX_ok (exec_ok hX hG k hL p ρ) k.keep k.turns s c c' O out h hg β a w hR hF Q hQ)
    | some L =>
      rw [hLL] at h
      obtain ⟨m, hm⟩ := annOf_mem hLL
      exact loopM_ok (fun ρ' => exec_ok hX hG k hL p ρ') (hL _ hm) s c c' O out (mono_inv h).1 hg β a w hR hF Q hQ
  | .rangeFunc _ _ _ _, ρ => fun s c c' O out h _ _ _ _ _ _ _ _ => by simp [exec, M.fail] at h
  | .scope _, ρ => fun s c c' O out h _ _ _ _ _ _ _ _ => by simp [exec, M.fail] at h
  | .goto _, ρ => fun s c c' O out h _ _ _ _ _ _ _ _ => by simp [exec, M.fail] at h
  | .refuse _, ρ => fun s c c' O out h _ _ _ _ _ _ _ _ => by simp [exec, M.fail] at h
end Go.Proofs.YtalnndmnnffnmaaGreat.Sx
