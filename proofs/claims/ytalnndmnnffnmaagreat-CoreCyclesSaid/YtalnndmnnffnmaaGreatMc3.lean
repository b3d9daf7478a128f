/-
  Merged texts (SxN, SxO, SxP, SxQ, SxIn, SxIo, SxIp, SxT, SxKc, SxU, SxY, SxPr, SxVa). No condition.
-/
import Derived.Tactics
import Derived.KernelRfl
import Derived.ProofKit
import Derived.WideKeyArgs
import Derived.LaidLaws
import Derived.Handed
import Derived.OpenShut
import Derived.Test.YtalnndmnnffnmaaGreatMc2
/-! ## SxN -/
set_option linter.unusedVariables false
set_option linter.unusedSimpArgs false
namespace Go.Proofs.YtalnndmnnffnmaaGreat.Sx
open Go

/-- Behind code that was left the usual way. -/
def behind (keep : List Bool) (O : Outs) (f : St → M Outs) : M Outs :=
  match getK .n O with
  | none => pure O
  | some (q, s) => if q.isEmpty then f s else do
    let O2 ← M.under q (f s)
    M.mono (do
      let sel ← gAtom q
      merge keep sel q [] O2 (dropK .n O))
def loopX (keep : List Bool) (f : St → M Outs) : Nat → St → M Outs
  | 0, _ => M.fail
  | n + 1, s => do
    let O ← f s
    M.mono (behind keep O (fun s => M.mono (loopX keep f n s)))
def blockX (keep : List Bool) (id : Nat) (O : Outs) : M Outs :=
  match getK (.x id) O with
  | none => pure O
  | some (qx, sx) => match getK .n O with
    | none => pure (single ((.n, qx, sx) :: dropK (.x id) O))
    | some (qn, sn) => do
      let an ← gAtom qn
      let ax ← gAtom qx
      let q ← mkOr an ax
      let s ← muxSt keep an sn sx
      pure (single ((.n, [(q, true)], s) :: dropK .n (dropK (.x id) O)))

def condOf (s : S) : Option B := match s with | .one false [.bool b] => some b | _ => none
theorem condOf_spec {s : S} {b : B} (h : condOf s = some b) : s = .one false [.bool b] := by
  unfold condOf at h
  split at h
  · simp only [Option.some.injEq] at h; rw [h]
  · cases h
structure Ctl where
  keep : List Bool
  turns : Nat
  ret : List Bool
  base : Nat
  loops : List (Nat × LAnn) := []

/-- A loop's own number: its first region's. -/
def codeKey : Code → Nat
  | .region id _ _ => id + 1
  | .seq a b => match codeKey a with
    | 0 => codeKey b
    | n => n
  | .cond _ a b => match codeKey a with
    | 0 => codeKey b
    | n => n
  | .block _ a => codeKey a
  | _ => 0
def annOf (n : Nat) : List (Nat × LAnn) → Option LAnn
  | [] => none
  | (m, L) :: l => if m == n then some L else annOf n l
theorem annOf_mem {n : Nat} {L : LAnn} : ∀ {l : List (Nat × LAnn)}, annOf n l = some L → ∃ m, (m, L) ∈ l
  | [], h => by simp [annOf] at h
  | (m, K) :: l, h => by
    unfold annOf at h
    split at h
    · simp only [Option.some.injEq] at h
      subst h
      exact ⟨m, by simp⟩
    · obtain ⟨m', hm⟩ := annOf_mem h
      exact ⟨m', by simp [hm]⟩
def LoopsOk (Φ : Funs) (k : Ctl) : Prop := ∀ p, p ∈ k.loops → Φ p.2.id = loopF (p.2.S.run Φ true) p.2.nI p.2.nB
theorem LoopsOk.nil {Φ : Funs} {k : Ctl} (h : k.loops = []) : LoopsOk Φ k := fun p hp => by rw [h] at hp; cases hp

/-- At a return: only the answers' slots, and the stretches that they, or the arguments, name. -/
def pruneTm : List Bool → List SV → List SV
  | _, [] => []
  | k, v :: vs => (if k.headD false then v else anySV) :: pruneTm k.tail vs
def tmIds : List SV → List Nat
  | [] => []
  | v :: vs => sIds v.s ++ tmIds vs
def hpIds (ids : List Nat) : Hl → List Nat
  | [] => ids
  | (i, b) :: l => if ids.contains i then cIds b.cells ++ hpIds ids l else hpIds ids l
def keepId (k : Ctl) (ids : List Nat) (i : Nat) : Bool := Nat.blt i k.base || ids.contains i
def pruneHp (k : Ctl) (ids : List Nat) (hp : Hl) : Hl := hp.filter fun p => keepId k ids p.1
def prune (k : Ctl) (s : St) : St :=
  let tm := pruneTm k.ret s.tm
  { tm := tm, hp := pruneHp k (hpIds (hpIds (tmIds tm) s.hp) s.hp) s.hp }
theorem pruneTm_get : ∀ {k : List Bool} {vs : List SV}, (pruneTm k vs).length = vs.length ∧ ∀ (t : Nat) (z : SV), (pruneTm k vs)[t]? = some z → z = anySV ∨ vs[t]? = some z
  | k, [] => ⟨rfl, fun t z h => by simp [pruneTm] at h⟩
  | k, v :: vs => by
    obtain ⟨h1, h2⟩ := pruneTm_get (k := k.tail) (vs := vs)
    refine ⟨by simp [pruneTm, h1], fun t z h => ?_⟩
    unfold pruneTm at h
    cases t with
    | zero =>
      simp only [List.getElem?_cons_zero, Option.some.injEq] at h
      split at h
      · exact .inr (by simpa using h)
      · exact .inl h.symm
    | succ t => exact h2 t z (by simpa using h)
theorem hpOf_filter {f : Nat → Bool} : ∀ {l : Hl} {id : Nat} {b : Blk}, hpOf (l.filter fun p => f p.1) id = some b → hpOf l id = some b
  | [], _, _, h => by simp [hpOf] at h
  | (i, c) :: l, id, b, h => by
    rw [List.filter_cons] at h
    unfold hpOf
    split at h
    · unfold hpOf at h
      split at h
      · rename_i he; rw [if_pos he]; exact h
      · rename_i he; rw [if_neg he]; exact hpOf_filter h
    · rename_i hf
      have hne : ¬ ((i == id) = true) := fun he => by
        simp only [beq_iff_eq] at he
        subst he
        have : ∀ {l : Hl}, hpOf (l.filter fun p => f p.1) i = none := by
          intro l
          induction l with
          | nil => rfl
          | cons p l ih =>
            rw [List.filter_cons]
            split
            · rename_i hp
              unfold hpOf
              split
              · rename_i he
                simp only [beq_iff_eq] at he
                rw [he] at hp
                exact absurd hp hf
              · exact ih
            · exact ih
        rw [this] at h
        cases h
      rw [if_neg hne]
      exact hpOf_filter h
theorem Rel.prune {x : Cx} {ρ : Env} {β : Beta} {σ : St} {a : Act} {w : World} (h : Rel x ρ β σ a w) (k : Ctl) : Rel x ρ β (prune k σ) a w := by
  obtain ⟨h1, h2⟩ := pruneTm_get (k := k.ret) (vs := σ.tm)
  refine ⟨h.size.trans h1.symm, fun t v hv => ?_, h.df, fun id b hb hg => h.hm id b (hpOf_filter (f := keepId k _) hb) hg, h.gm, h.gro, h.bo, h.kp, h.gl, h.ra⟩
  rcases h2 t v hv with rfl | hv
  · exact anySV_mt _
  · exact h.slot t v hv

def exec (P : Program) (X : Hnd) (gh : Hl) (ng : Nat) (k : Ctl) : Code → St → M Outs
  | .skip, s => pure [(.n, [], s)]
  | .label _, s => pure [(.n, [], s)]
  | .ret, s => pure [(.r, [], prune k s)]
  | .exit id, s => pure [(.x id, [], s)]
  | .region _ ops draw, s => if draw then do
      let s' ← regD P X gh ng ops s
      pure [(.n, [], s')]
    else if hasMaps ops then do
      let s' ← regM P X gh ng ops s
      pure [(.n, [], s')]
    else do
      let s' ← regL P X gh ng ops ops.toList s
      pure [(.n, [], s')]
  | .seq a b, s => do
    let O ← exec P X gh ng k a s
    M.mono (behind k.keep O (exec P X gh ng k b))
  | .cond c a b, s => match condOf (rs [] (ev ng s c)) with
    | some (.c true) => exec P X gh ng k a s
    | some (.c false) => exec P X gh ng k b s
    | some (.v n) => do
      let O1 ← M.mono (M.under [(.v n, true)] (exec P X gh ng k a s))
      let O2 ← M.mono (M.under [(.v n, false)] (exec P X gh ng k b s))
      M.mono (merge k.keep (.v n) [(.v n, true)] [(.v n, false)] O1 O2)
    | none => M.fail
  | .block id a, s => do
    let O ← exec P X gh ng k a s
    M.mono (blockX k.keep id O)
  | .loop a, s => match annOf (codeKey a) k.loops with
    | none => M.mono (loopX k.keep (exec P X gh ng k a) k.turns s)
    | some L => M.mono (loopM L (exec P X gh ng k a) s)
  | _, _ => M.fail

section
variable {P : Program} {Φ : Funs} {X : Hnd} {x : Cx} {ρ : Env}

theorem behind_ok {W : (Exit → Act → World → Prop) → Act → World → Prop} {f : St → M Outs} (hf : OkW Φ x ρ W f) {keep : List Bool} {O : Outs} {c c' : Ctr} {O' : Outs} {out : List Em} (h : behind keep O f c = some (O', c', out)) (hc : c.id ≤ c'.id) (hg : Good Φ ρ out)
    {β : Beta} {a : Act} {w : World} {K : Kd} (hO : OutMt x ρ β c O K a w) {Q : Exit → Act → World → Prop} (hQ : ∀ e a' w' K', kdOf e = some K' → OutMt x ρ β c' O' K' a' w' → Q e a' w') :
    (K = .n → W Q a w) ∧ (K ≠ .n → OutMt x ρ β c' O' K a w) := by
  unfold behind at h
  obtain ⟨h1, q0, s0, β', hK, hE, hR, hF⟩ := hO
  cases hn : getK .n O with
  | none =>
    rw [hn] at h
    have he := M.pure_inv h
    simp only [Prod.mk.injEq] at he
    obtain ⟨rfl, rfl, rfl⟩ := he
    refine ⟨fun e => ?_, fun _ => ⟨h1, q0, s0, β', hK, hE, hR, hF⟩⟩
    subst e
    rw [hn] at hK
    cases hK
  | some p =>
    obtain ⟨q, s⟩ := p
    rw [hn] at h
    simp only at h
    have hq := h1 .n q s hn
    by_cases hemp : q.isEmpty = true
    · rw [if_pos hemp] at h
      rw [List.isEmpty_iff] at hemp
      subst hemp
      have hKn : Kd.n = K := hq.1 rfl
      subst hKn
      rw [hn] at hK
      simp only [Option.some.injEq, Prod.mk.injEq] at hK
      obtain ⟨rfl, rfl⟩ := hK
      refine ⟨fun _ => ?_, fun hne => absurd rfl hne⟩
      exact hf s c c' O' out h hg β' a w hR hF Q fun e a' w' K' hk hO' => hQ e a' w' K' hk (hO'.ext hE)
    · rw [if_neg hemp] at h
      obtain ⟨O2, c1, o1, c2, o2, y, g1, g2, he⟩ := M.bind_inv h
      simp only [Prod.mk.injEq] at he
      obtain ⟨rfl, rfl, rfl⟩ := he
      rw [Good.append] at hg
      obtain ⟨O2', c1', o1', g1', he1⟩ := under_inv g1
      simp only [Prod.mk.injEq] at he1
      obtain ⟨rfl, rfl, rfl⟩ := he1
      obtain ⟨g2, hle⟩ := mono_inv g2
      simp only at hle
      obtain ⟨sel, c3, o3, c4, o4, y, g3, g4, he⟩ := M.bind_inv g2
      simp only [Prod.mk.injEq] at he
      obtain ⟨rfl, rfl, rfl⟩ := he
      have hg2 := hg.2
      rw [Good.append] at hg2
      have hsel := gAtom_snd q _ _ _ _ g3 hg2.1
      constructor
      · intro e
        subst e
        rw [hn] at hK
        simp only [Option.some.injEq, Prod.mk.injEq] at hK
        obtain ⟨rfl, rfl⟩ := hK
        have hqt : Gd.d ρ q = true := hq.2 rfl
        have hgood := Good.under hqt hg.1
        have hm := merge_left (x := x) (Φ := Φ) (keep := keep) (sel := sel) (p1 := q) (p2 := []) (O1 := O2) (O2 := dropK .n O) (by rw [hsel]; exact hqt) hqt (fun k q' s' hk _ => by
          rw [dropK_get] at hk
          split at hk
          · cases hk
          · rename_i hne
            have := h1 k q' s' hk
            cases hd : Gd.d ρ q' with
            | false => simpa using hd
            | true =>
              exfalso
              exact hne (by rw [this.1 hd]; exact Kd.eq_refl _)) _ _ _ _ g4 hg2.2
        exact hf s c _ O2 _ g1' hgood β' a w hR hF Q fun e a' w' K' hk hO' => hQ e a' w' K' hk (hm β _ K' a' w' ((hO'.le hle).ext hE))
      · intro hne
        have hqf : Gd.d ρ q = false := by
          cases hd : Gd.d ρ q with
          | false => rfl
          | true => exact absurd (hq.1 hd).symm hne
        have hm := merge_right (x := x) (Φ := Φ) (keep := keep) (sel := sel) (p1 := q) (p2 := []) (O1 := O2) (O2 := dropK .n O) (by rw [hsel]; exact hqf) rfl (fun k q' s' _ _ => by simp [hqf]) _ _ _ _ g4 hg2.2
        refine hm β _ K a w ⟨fun k q' s' hk => ?_, q0, s0, β', ?_, hE, hR, hF.le hc⟩
        · rw [dropK_get] at hk
          split at hk
          · cases hk
          · exact h1 k q' s' hk
        · rw [dropK_get, if_neg (fun h => hne (Kd.eq_sound h).symm)]
          exact hK

theorem kdOf_n {e : Exit} (h : kdOf e = some .n) : e = .normal := by cases e <;> simp_all [kdOf]

theorem exit_then {Q : Exit → Act → World → Prop} {nx : Act → World → Prop} {e : Exit} {a : Act} {w : World} (h : e = .normal → nx a w) (h' : e ≠ .normal → Q e a w) : Exit.then nx Q e a w := by
  cases e <;> first | exact h rfl | exact h' (by simp)

theorem loopX_ok {cd : Code} {f : St → M Outs} (hf : CodeOk P Φ x ρ cd f) (keep : List Bool) : ∀ n, OkW Φ x ρ (fun Q a w => Code.rounds P cd Q n a w) (fun s => M.mono (loopX keep f n s))
  | 0 => fun s c c' O out h _ β a w _ _ => by
    have := (mono_inv h).1
    simp [loopX, M.fail] at this
  | n + 1 => fun s c c' O out h hg β a w hR hF Q hQ => by
    obtain ⟨h, hle⟩ := mono_inv h
    simp only at hle
    unfold loopX at h
    obtain ⟨O1, c1, o1, c2, o2, y, g1, g2, he⟩ := M.bind_inv h
    simp only [Prod.mk.injEq] at he
    obtain ⟨rfl, rfl, rfl⟩ := he
    rw [Good.append] at hg
    obtain ⟨g2, hle2⟩ := mono_inv g2
    have hfn := loopX_ok hf keep n
    show cd.wp P (Exit.then (Code.rounds P cd Q n) Q) a w
    refine hf s c c1 O1 o1 g1 hg.1 β a w hR hF _ fun e a' w' K hk hO => ?_
    have hb := behind_ok hfn g2 hle2 hg.2 hO hQ
    refine exit_then (fun h0 => ?_) (fun h0 => hQ e a' w' K hk (hb.2 fun e0 => h0 (kdOf_n (e0 ▸ hk))))
    subst h0
    simp only [kdOf, Option.some.injEq] at hk
    exact hb.1 hk.symm

theorem blockX_ok {keep : List Bool} {id : Nat} {O O' : Outs} {c c' : Ctr} {out : List Em} (h : blockX keep id O c = some (O', c', out)) (hc : c.id ≤ c'.id) (hg : Good Φ ρ out) {β : Beta} {a : Act} {w : World} {K : Kd} (hO : OutMt x ρ β c O K a w) :
    OutMt x ρ β c' O' (if (Kd.x id).eq K then .n else K) a w := by
  unfold blockX at h
  obtain ⟨h1, q0, s0, β', hK, hE, hR, hF⟩ := hO
  cases hx : getK (.x id) O with
  | none =>
    rw [hx] at h
    have he := M.pure_inv h
    simp only [Prod.mk.injEq] at he
    obtain ⟨rfl, rfl, rfl⟩ := he
    have hne : ¬ ((Kd.x id).eq K = true) := fun hc => by
      rw [← Kd.eq_sound hc, hx] at hK
      cases hK
    rw [if_neg hne]
    exact ⟨h1, q0, s0, β', hK, hE, hR, hF⟩
  | some p =>
    obtain ⟨qx, sx⟩ := p
    rw [hx] at h
    simp only at h
    have hqx := h1 _ _ _ hx
    cases hn : getK .n O with
    | none =>
      rw [hn] at h
      have he := M.pure_inv h
      simp only [Prod.mk.injEq] at he
      obtain ⟨rfl, rfl, rfl⟩ := he
      refine single_mt ?_
      by_cases hKx : (Kd.x id).eq K = true
      · rw [if_pos hKx]
        have e := Kd.eq_sound hKx
        subst e
        rw [hx] at hK
        simp only [Option.some.injEq, Prod.mk.injEq] at hK
        obtain ⟨rfl, rfl⟩ := hK
        refine ⟨fun k q s hk => ?_, qx, sx, β', by simp [getK, Kd.eq], hE, hR, hF⟩
        unfold getK at hk
        split at hk
        · rename_i hkn
          simp only [Option.some.injEq, Prod.mk.injEq] at hk
          obtain ⟨rfl, rfl⟩ := hk
          have := Kd.eq_sound hkn
          subst this
          simp [hqx]
        · rename_i hkn
          rw [dropK_get] at hk
          split at hk
          · cases hk
          · rename_i hkx
            have := h1 _ _ _ hk
            rw [this]
            constructor
            · intro e; subst e; exact absurd (Kd.eq_refl _) hkx
            · intro e; subst e; exact absurd (Kd.eq_refl _) hkn
      · rw [if_neg hKx]
        have hKn : K ≠ .n := fun e => by subst e; rw [hn] at hK; cases hK
        refine ⟨fun k q s hk => ?_, q0, s0, β', ?_, hE, hR, hF⟩
        · unfold getK at hk
          split at hk
          · rename_i hkn
            simp only [Option.some.injEq, Prod.mk.injEq] at hk
            obtain ⟨rfl, rfl⟩ := hk
            have := Kd.eq_sound hkn
            subst this
            rw [hqx]
            constructor
            · intro e; subst e; exact absurd (Kd.eq_refl _) hKx
            · intro e; exact absurd e.symm hKn
          · rw [dropK_get] at hk
            split at hk
            · cases hk
            · exact h1 _ _ _ hk
        · unfold getK
          rw [if_neg (by rw [Kd.eq_ne hKn]; simp), dropK_get, if_neg hKx]
          exact hK
    | some p =>
      obtain ⟨qn, sn⟩ := p
      rw [hn] at h
      simp only at h
      have hqn := h1 _ _ _ hn
      obtain ⟨an, c1, o1, c2, o2, y, g1, g2, he⟩ := M.bind_inv h
      simp only [Prod.mk.injEq] at he
      obtain ⟨rfl, rfl, rfl⟩ := he
      obtain ⟨ax, c3, o3, c4, o4, y, g3, g4, he⟩ := M.bind_inv g2
      simp only [Prod.mk.injEq] at he
      obtain ⟨rfl, rfl, rfl⟩ := he
      obtain ⟨q, c5, o5, c6, o6, y, g5, g6, he⟩ := M.bind_inv g4
      simp only [Prod.mk.injEq] at he
      obtain ⟨rfl, rfl, rfl⟩ := he
      obtain ⟨s, c7, o7, c8, o8, y, g7, g8, he⟩ := M.bind_inv g6
      simp only [Prod.mk.injEq] at he
      obtain ⟨rfl, rfl, rfl⟩ := he
      have he := M.pure_inv g8
      simp only [Prod.mk.injEq] at he
      obtain ⟨rfl, rfl, rfl⟩ := he
      simp only [Good.append] at hg
      have e1 := gAtom_snd qn _ _ _ _ g1 hg.1
      have e2 := gAtom_snd qx _ _ _ _ g3 hg.2.1
      have e3 := mkOr_snd _ _ _ _ _ _ g5 hg.2.2.1
      have e4 := muxSt_snd (x := x) keep an sn sx _ _ _ _ g7 hg.2.2.2.1
      have hqd : Gd.d ρ [(q, true)] = (Gd.d ρ qn || Gd.d ρ qx) := by simp [e1, e2, e3]
      refine single_mt ?_
      by_cases hKx : (Kd.x id).eq K = true
      · rw [if_pos hKx]
        have e := Kd.eq_sound hKx
        subst e
        rw [hx] at hK
        simp only [Option.some.injEq, Prod.mk.injEq] at hK
        obtain ⟨rfl, rfl⟩ := hK
        have hxt : Gd.d ρ qx = true := hqx.2 rfl
        have hnf : Gd.d ρ qn = false := by
          cases hd : Gd.d ρ qn with
          | false => rfl
          | true => have := hqn.1 hd; cases this
        refine ⟨fun k q' s' hk => ?_, [(q, true)], s, β', by simp [getK, Kd.eq], hE, e4 β' a w (by rw [e1, hnf]; simpa using hR), hF.le hc⟩
        unfold getK at hk
        split at hk
        · rename_i hkn
          simp only [Option.some.injEq, Prod.mk.injEq] at hk
          obtain ⟨rfl, rfl⟩ := hk
          have := Kd.eq_sound hkn
          subst this
          rw [hqd, hxt]
          simp
        · rename_i hkn
          rw [dropK_get, dropK_get] at hk
          split at hk
          · cases hk
          · split at hk
            · cases hk
            · rename_i hkn' hkx
              have := h1 _ _ _ hk
              rw [this]
              constructor
              · intro e; subst e; exact absurd (Kd.eq_refl _) hkx
              · intro e; subst e; exact absurd (Kd.eq_refl _) hkn
      · rw [if_neg hKx]
        have hxf : Gd.d ρ qx = false := by
          cases hd : Gd.d ρ qx with
          | false => rfl
          | true => exact absurd (by rw [hqx.1 hd]; exact Kd.eq_refl _) hKx
        by_cases hKn : K = .n
        · subst hKn
          rw [hn] at hK
          simp only [Option.some.injEq, Prod.mk.injEq] at hK
          obtain ⟨rfl, rfl⟩ := hK
          have hnt : Gd.d ρ qn = true := hqn.2 rfl
          refine ⟨fun k q' s' hk => ?_, [(q, true)], s, β', by simp [getK, Kd.eq], hE, e4 β' a w (by rw [e1, hnt]; simpa using hR), hF.le hc⟩
          unfold getK at hk
          split at hk
          · rename_i hkn
            simp only [Option.some.injEq, Prod.mk.injEq] at hk
            obtain ⟨rfl, rfl⟩ := hk
            have := Kd.eq_sound hkn
            subst this
            rw [hqd, hnt]
            simp
          · rw [dropK_get, dropK_get] at hk
            split at hk
            · cases hk
            · split at hk
              · cases hk
              · exact h1 _ _ _ hk
        · have hnf : Gd.d ρ qn = false := by
            cases hd : Gd.d ρ qn with
            | false => rfl
            | true => exact absurd (hqn.1 hd).symm hKn
          refine ⟨fun k q' s' hk => ?_, q0, s0, β', ?_, hE, hR, hF.le hc⟩
          · unfold getK at hk
            split at hk
            · rename_i hkn
              simp only [Option.some.injEq, Prod.mk.injEq] at hk
              obtain ⟨rfl, rfl⟩ := hk
              have := Kd.eq_sound hkn
              subst this
              rw [hqd, hnf, hxf]
              simp only [Bool.or_self, Bool.false_eq_true, false_iff]
              exact fun e => hKn e.symm
            · rw [dropK_get, dropK_get] at hk
              split at hk
              · cases hk
              · split at hk
                · cases hk
                · exact h1 _ _ _ hk
          · unfold getK
            rw [if_neg (by rw [Kd.eq_ne hKn]; simp), dropK_get, if_neg (by rw [Kd.eq_ne (Ne.symm hKn)]; simp), dropK_get, if_neg hKx]
            exact hK
end

theorem exec_ok {P : Program} {Φ : Funs} {X : Hnd} {x : Cx} (hX : HOk P Φ x.gl X) (hG : ∀ w, Keep x.R x.w0 w → Laid x.gl w) (k : Ctl) (hL : LoopsOk Φ k) : ∀ (cd : Code) (ρ : Env), CodeOk P Φ x ρ cd (exec P X x.gh x.ng k cd)
  | .skip, ρ => fun s c c' O out h hg β a w hR hF Q hQ => by
    have he := M.pure_inv h
    simp only [Prod.mk.injEq] at he
    obtain ⟨rfl, rfl, rfl⟩ := he
    exact wp_skip (hQ _ _ _ _ rfl (OutMt.one (Ext.refl β) hR hF))
  | .label _, ρ => fun s c c' O out h hg β a w hR hF Q hQ => by
    have he := M.pure_inv h
    simp only [Prod.mk.injEq] at he
    obtain ⟨rfl, rfl, rfl⟩ := he
    exact wp_label (hQ _ _ _ _ rfl (OutMt.one (Ext.refl β) hR hF))
  | .ret, ρ => fun s c c' O out h hg β a w hR hF Q hQ => by
    have he := M.pure_inv h
    simp only [Prod.mk.injEq] at he
    obtain ⟨rfl, rfl, rfl⟩ := he
    exact wp_ret (hQ _ _ _ _ rfl (OutMt.one (Ext.refl β) (hR.prune k) hF))
  | .exit id, ρ => fun s c c' O out h hg β a w hR hF Q hQ => by
    have he := M.pure_inv h
    simp only [Prod.mk.injEq] at he
    obtain ⟨rfl, rfl, rfl⟩ := he
    exact wp_exit (hQ _ _ _ _ rfl (OutMt.one (Ext.refl β) hR hF))
  | .region id ops draw, ρ => fun s c c' O out h hg β a w hR hF Q hQ => by
    unfold exec at h
    cases draw
    · simp only [Bool.false_eq_true, if_false] at h
      split at h
      · obtain ⟨s', c1, o1, c2, o2, y, g1, g2, he⟩ := M.bind_inv h
        simp only [Prod.mk.injEq] at he
        obtain ⟨rfl, rfl, rfl⟩ := he
        have he := M.pure_inv g2
        simp only [Prod.mk.injEq] at he
        obtain ⟨rfl, rfl, rfl⟩ := he
        rw [List.append_nil] at hg
        exact wp_region_list (regM_sound hX hG g1 hg hR hF fun β' a' w' he hR' hF' => hQ _ _ _ _ rfl (OutMt.one he hR' hF'))
      obtain ⟨s', c1, o1, c2, o2, y, g1, g2, he⟩ := M.bind_inv h
      simp only [Prod.mk.injEq] at he
      obtain ⟨rfl, rfl, rfl⟩ := he
      have he := M.pure_inv g2
      simp only [Prod.mk.injEq] at he
      obtain ⟨rfl, rfl, rfl⟩ := he
      rw [List.append_nil] at hg
      exact wp_region_list (regL_sound hX hG ops.toList g1 hg hR hF fun β' a' w' he hR' hF' => hQ _ _ _ _ rfl (OutMt.one he hR' hF'))
    · simp only [if_true] at h
      obtain ⟨s', c1, o1, c2, o2, y, g1, g2, he⟩ := M.bind_inv h
      simp only [Prod.mk.injEq] at he
      obtain ⟨rfl, rfl, rfl⟩ := he
      have he := M.pure_inv g2
      simp only [Prod.mk.injEq] at he
      obtain ⟨rfl, rfl, rfl⟩ := he
      rw [List.append_nil] at hg
      exact regD_sound hX hG g1 hg hR hF fun β' a' w' he hR' hF' => hQ _ _ _ _ rfl (OutMt.one he hR' hF')
  | .seq p q, ρ => fun s c c' O out h hg β a w hR hF Q hQ => by
    unfold exec at h
    obtain ⟨O1, c1, o1, c2, o2, y, g1, g2, he⟩ := M.bind_inv h
    simp only [Prod.mk.injEq] at he
    obtain ⟨rfl, rfl, rfl⟩ := he
    rw [Good.append] at hg
    obtain ⟨g2, hle⟩ := mono_inv g2
    refine wp_seq (exec_ok hX hG k hL p ρ s c c1 O1 o1 g1 hg.1 β a w hR hF _ fun e a' w' K hk hO => ?_)
    have hb := behind_ok (exec_ok hX hG k hL q ρ) g2 hle hg.2 hO hQ
    refine exit_then (fun h0 => ?_) (fun h0 => hQ e a' w' K hk (hb.2 fun e0 => h0 (kdOf_n (e0 ▸ hk))))
    subst h0
    simp only [kdOf, Option.some.injEq] at hk
    exact hb.1 hk.symm
  | .cond cc p q, ρ => fun s c c' O out h hg β a w hR hF Q hQ => by
    unfold exec at h
    have hev := rs_mt (Γ := []) (ρ := ρ) rfl (ev_mt hR cc)
    cases hc : condOf (rs [] (ev x.ng s cc)) with
    | none =>
      rw [hc] at h
      simp [M.fail] at h
    | some b =>
    have hcv := mt_bool (condOf_spec hc) hev
    rw [hc] at h
    cases b with
    | c kk =>
      cases kk
      · exact wp_cond_false (by simpa using hcv) (exec_ok hX hG k hL q ρ s c c' O out h hg β a w hR hF Q hQ)
      · exact wp_cond_true (by simpa using hcv) (exec_ok hX hG k hL p ρ s c c' O out h hg β a w hR hF Q hQ)
    | v n =>
      simp only at h
      obtain ⟨O1, c1, o1, c2, o2, y, g1, g2, he⟩ := M.bind_inv h
      simp only [Prod.mk.injEq] at he
      obtain ⟨rfl, rfl, rfl⟩ := he
      obtain ⟨O2, c3, o3, c4, o4, y, g3, g4, he⟩ := M.bind_inv g2
      simp only [Prod.mk.injEq] at he
      obtain ⟨rfl, rfl, rfl⟩ := he
      simp only [Good.append] at hg
      obtain ⟨g1, hle1⟩ := mono_inv g1
      obtain ⟨g3, hle3⟩ := mono_inv g3
      obtain ⟨g4, hle4⟩ := mono_inv g4
      simp only at hle1 hle3 hle4
      obtain ⟨O1', c1', o1', g1', he1⟩ := under_inv g1
      simp only [Prod.mk.injEq] at he1
      obtain ⟨rfl, rfl, rfl⟩ := he1
      obtain ⟨O2', c3', o3', g3', he3⟩ := under_inv g3
      simp only [Prod.mk.injEq] at he3
      obtain ⟨rfl, rfl, rfl⟩ := he3
      cases hb : (B.v n).d ρ
      · have hm := merge_right (x := x) (Φ := Φ) (keep := k.keep) (sel := .v n) (p1 := [(.v n, true)]) (p2 := [(.v n, false)]) (O1 := O1) (O2 := O2) hb (by simp [hb]) (fun k q s _ _ => by simp [hb]) _ _ _ _ g4 hg.2.2
        refine wp_cond_false (by rw [hcv, hb]) (exec_ok hX hG k hL q ρ s _ _ O2 _ g3' (Good.under (by simp [hb]) hg.2.1) β a w hR (hF.le hle1) Q fun e a' w' K hk hO => hQ e a' w' K hk (hm β _ K a' w' (hO.le hle4)))
      · have hm := merge_left (x := x) (Φ := Φ) (keep := k.keep) (sel := .v n) (p1 := [(.v n, true)]) (p2 := [(.v n, false)]) (O1 := O1) (O2 := O2) hb (by simp [hb]) (fun k q s _ _ => by simp [hb]) _ _ _ _ g4 hg.2.2
        refine wp_cond_true (by rw [hcv, hb]) (exec_ok hX hG k hL p ρ s _ _ O1 _ g1' (Good.under (by simp [hb]) hg.1) β a w hR hF Q fun e a' w' K hk hO => hQ e a' w' K hk (hm β _ K a' w' (hO.le (by omega))))
  | .block id p, ρ => fun s c c' O out h hg β a w hR hF Q hQ => by
    unfold exec at h
    obtain ⟨O1, c1, o1, c2, o2, y, g1, g2, he⟩ := M.bind_inv h
    simp only [Prod.mk.injEq] at he
    obtain ⟨rfl, rfl, rfl⟩ := he
    rw [Good.append] at hg
    obtain ⟨g2, hle⟩ := mono_inv g2
    refine wp_block (exec_ok hX hG k hL p ρ s c c1 O1 o1 g1 hg.1 β a w hR hF _ fun e a' w' K hk hO => ?_)
    have hb := blockX_ok g2 hle hg.2 hO
    cases e <;> simp only [kdOf, Option.some.injEq] at hk <;> (try (cases hk; done))
    · subst hk
      rw [if_neg (by simp [Kd.eq])] at hb
      exact hQ _ _ _ _ rfl hb
    · rename_i id'
      subst hk
      unfold Exit.inBlock
      simp only
      by_cases e : id' = id
      · subst e
        rw [if_pos (Kd.eq_refl _)] at hb
        rw [if_pos rfl]
        exact hQ _ _ _ _ rfl hb
      · rw [if_neg (by simp [Kd.eq]; exact fun h => e h.symm)] at hb
        rw [if_neg e]
        exact hQ _ _ _ _ rfl hb
    · subst hk
      rw [if_neg (by simp [Kd.eq])] at hb
      exact hQ _ _ _ _ rfl hb
  | .loop p, ρ => fun s c c' O out h hg β a w hR hF Q hQ => by
    unfold exec at h
    cases hLL : annOf (codeKey p) k.loops with
    | none =>
      rw [hLL] at h
      exact wp_loop_rounds k.turns (loopX_ok (exec_ok hX hG k hL p ρ) k.keep k.turns s c c' O out h hg β a w hR hF Q hQ)
    | some L =>
      rw [hLL] at h
      obtain ⟨m, hm⟩ := annOf_mem hLL
      exact loopM_ok (fun ρ' => exec_ok hX hG k hL p ρ') (hL _ hm) s c c' O out (mono_inv h).1 hg β a w hR hF Q hQ
  | .rangeFunc _ _ _ _, ρ => fun s c c' O out h _ _ _ _ _ _ _ _ => by simp [exec, M.fail] at h
  | .scope _, ρ => fun s c c' O out h _ _ _ _ _ _ _ _ => by simp [exec, M.fail] at h
  | .goto _, ρ => fun s c c' O out h _ _ _ _ _ _ _ _ => by simp [exec, M.fail] at h
  | .refuse _, ρ => fun s c c' O out h _ _ _ _ _ _ _ _ => by simp [exec, M.fail] at h
end Go.Proofs.YtalnndmnnffnmaaGreat.Sx
/-! ## SxO -/
set_option linter.unusedVariables false
set_option linter.unusedSimpArgs false
namespace Go.Proofs.YtalnndmnnffnmaaGreat.Sx
open Go

/-! ### Entering -/
def initTm (ng : Nat) : List Sh → Nat → Nat → Nat → Nat → List SV
  | [], _, _, _, _ => []
  | .val agg l :: ss, i, b, j, m => { g := [], s := .one agg (freshC A.v B.v [] l i b) } :: initTm ng ss (i + nI l) (b + nB l) j m
  | .ptr l :: ss, i, b, j, m => { g := [], s := .one false [.ptr [] (ng + j) 0] } :: initTm ng ss (i + nI l) (b + nB l) (j + 1) m
  | .sli ks :: ss, i, b, j, m => { g := [], s := .one false [.slx m ks (.v i) (.v (i + 1))] } :: initTm ng ss (i + 2) b j (m + 1)
def initHp (ng : Nat) : List Sh → Nat → Nat → Nat → Hl
  | [], _, _, _ => []
  | .val _ l :: ss, i, b, j => initHp ng ss (i + nI l) (b + nB l) j
  | .ptr l :: ss, i, b, j => (ng + j, { g := [], ro := false, cells := freshC A.v B.v [] l i b }) :: initHp ng ss (i + nI l) (b + nB l) (j + 1)
  | .sli _ :: ss, i, b, j => initHp ng ss (i + 2) b j
def argI : List Sh → Nat
  | [] => 0
  | .val _ l :: ss => nI l + argI ss
  | .ptr l :: ss => nI l + argI ss
  | .sli _ :: ss => 2 + argI ss
def argB : List Sh → Nat
  | [] => 0
  | .val _ l :: ss => nB l + argB ss
  | .ptr l :: ss => nB l + argB ss
  | .sli _ :: ss => argB ss

theorem flatArgs_len {w : World} : ∀ {ss : List Sh} {vs : List Value} {is : List Int} {bs : List Bool} {ps : List Rg}, flatArgs ss vs w = some (is, bs, ps) → is.length = argI ss ∧ bs.length = argB ss ∧ ps.length = (ptrShapes ss).length ∧ vs.length = ss.length
  | [], [], is, bs, ps, h => by
    simp only [flatArgs, Option.some.injEq, Prod.mk.injEq] at h
    obtain ⟨rfl, rfl, rfl⟩ := h
    exact ⟨rfl, rfl, rfl, rfl⟩
  | .val agg l :: ss, v :: vs, is, bs, ps, h => by
    unfold flatArgs at h
    split at h
    · rename_i i b is' bs' ps' h1 h2
      simp only [Option.some.injEq, Prod.mk.injEq] at h
      obtain ⟨rfl, rfl, rfl⟩ := h
      obtain ⟨us, hf, _⟩ := flat1_inv h1
      have e1 := flatC_len hf
      have e2 := flatArgs_len h2
      simp only [argI, argB, ptrShapes, List.length_append, List.length_cons] at e1 e2 ⊢
      omega
    · cases h
  | .ptr l :: ss, v :: vs, is, bs, ps, h => by
    unfold flatArgs at h
    split at h
    · rename_i b o is' bs' ps' h2
      split at h
      · rename_i i bb h1
        simp only [Option.some.injEq, Prod.mk.injEq] at h
        obtain ⟨rfl, rfl, rfl⟩ := h
        cases hr : readCells w b o l.length with
        | none => rw [hr] at h1; simp at h1
        | some us =>
          rw [hr] at h1
          simp only [Option.bind_some] at h1
          have e1 := flatC_len h1
          have e2 := flatArgs_len h2
          simp only [argI, argB, ptrShapes, List.length_append, List.length_cons] at e1 e2 ⊢
          omega
      · cases h
    · cases h
  | .sli ks :: ss, v :: vs, is, bs, ps, h => by
    unfold flatArgs at h
    split at h
    · rename_i l n r is' bs' ps' h1 h2
      simp only [Option.some.injEq, Prod.mk.injEq] at h
      obtain ⟨rfl, rfl, rfl⟩ := h
      obtain ⟨g1, g2, g3, g4⟩ := flatArgs_len h2
      exact ⟨by simp only [List.length_cons, g1, argI]; omega, g2, g3, by simp [g4]⟩
    · cases h
  | .sli _ :: _, [], _, _, _, h => by simp [flatArgs] at h
  | [], _ :: _, _, _, _, h => by simp [flatArgs] at h
  | .val _ _ :: _, [], _, _, _, h => by simp [flatArgs] at h
  | .ptr _ :: _, [], _, _, _, h => by simp [flatArgs] at h

/-- What holds as the body begins. -/
theorem init_ok {ρ : Env} {β : Beta} {w : World} (ng : Nat) : ∀ {ss : List Sh} {vs : List Value} {is : List Int} {bs : List Bool} {ps : List Rg} {i b j m : Nat}, flatArgs ss vs w = some (is, bs, ps) → frzL ps w →
    (∀ n, n < argI ss → ρ.i (i + n) = is.getD n 0) → (∀ n, n < argB ss → ρ.b (b + n) = bs.getD n false) → (∀ (k : Nat) (r : Rg), ps[k]? = some r → β (ng + j + k) = some r) → (∀ (k : Nat) (r : Rg), (sliRgs ss vs w)[k]? = some (some r) → β (m + k) = some r) →
    (∀ (t : Nat) (x : SV), (initTm ng ss i b j m)[t]? = some x → x.mt β ρ (vs.getD t undef)) ∧ (initTm ng ss i b j m).length = vs.length ∧ heapMt β ρ (hpOf (initHp ng ss i b j)) w
  | [], [], is, bs, ps, i, b, j, m, h, _, _, _, _, _ => ⟨fun t x hx => by simp [initTm] at hx, rfl, fun id b hb => by simp [initHp, hpOf] at hb⟩
  | .val agg l :: ss, v :: vs, is, bs, ps, i, b, j, m, h, hf, hi, hb, hp, hs => by
    unfold flatArgs at h
    split at h
    · rename_i i1 b1 is' bs' ps' h1 h2
      simp only [Option.some.injEq, Prod.mk.injEq] at h
      obtain ⟨rfl, rfl, rfl⟩ := h
      obtain ⟨us, hfl, _⟩ := flat1_inv h1
      have e1 := flatC_len hfl
      simp only at e1
      obtain ⟨g1, g2, g3⟩ := init_ok ng (i := i + nI l) (b := b + nB l) (j := j) (m := m) h2 hf
        (fun n hn => by
          have := hi (nI l + n) (by simp only [argI]; omega)
          rw [show i + nI l + n = i + (nI l + n) by omega, this, ← e1.1, getD_append_right])
        (fun n hn => by
          have := hb (nB l + n) (by simp only [argB]; omega)
          rw [show b + nB l + n = b + (nB l + n) by omega, this, ← e1.2.1, getD_append_right]) hp (fun k r hk => hs k r (by simpa [sliRgs] using hk))
      obtain ⟨m1, _, _⟩ := fresh1_mt (FI := A.v) (FB := B.v) (β := β) (ρ := ρ) (pp := []) (ps := []) trivial (i := i) (b := b) h1
        (fun n hn => by have := hi n (by simp only [argI]; omega); rwa [getD_append_left _ _ _ _ (by omega)] at this)
        (fun n hn => by have := hb n (by simp only [argB]; omega); rwa [getD_append_left _ _ _ _ (by omega)] at this)
      refine ⟨fun t x hx => ?_, by simp [initTm, g2], g3⟩
      unfold initTm at hx
      cases t with
      | zero => simp at hx; subst hx; exact ⟨fun _ => m1, fun h => (by cases h)⟩
      | succ t => simp at hx; simpa using g1 t x hx
    · cases h
  | .ptr l :: ss, v :: vs, is, bs, ps, i, b, j, m, h, hf, hi, hb, hp, hs => by
    unfold flatArgs at h
    split at h
    · rename_i bk o is' bs' ps' h2
      split at h
      · rename_i i1 b1 h1
        simp only [Option.some.injEq, Prod.mk.injEq] at h
        obtain ⟨rfl, rfl, rfl⟩ := h
        cases hr : readCells w bk o l.length with
        | none => rw [hr] at h1; simp at h1
        | some us =>
          rw [hr] at h1
          simp only [Option.bind_some] at h1
          have e1 := flatC_len h1
          simp only at e1
          have hp0 := hp 0 { blk := bk, off := o, len := l.length, ro := false } (by simp)
          simp only [Nat.add_zero] at hp0
          obtain ⟨g1, g2, g3⟩ := init_ok ng (i := i + nI l) (b := b + nB l) (j := j + 1) (m := m) h2 (fun r hr => hf r (by simp [hr]))
            (fun n hn => by
              have := hi (nI l + n) (by simp only [argI]; omega)
              rw [show i + nI l + n = i + (nI l + n) by omega, this, ← e1.1, getD_append_right])
            (fun n hn => by
              have := hb (nB l + n) (by simp only [argB]; omega)
              rw [show b + nB l + n = b + (nB l + n) by omega, this, ← e1.2.1, getD_append_right])
            (fun k r hk => by have := hp (k + 1) r (by simpa using hk); rwa [show ng + (j + 1) + k = ng + j + (k + 1) by omega]) (fun k r hk => hs k r (by simpa [sliRgs] using hk))
          have m1 := freshC_mt (FI := A.v) (FB := B.v) (β := β) (ρ := ρ) (pp := []) (ps := []) trivial (i := i) (b := b) h1
            (fun n hn => by have := hi n (by simp only [argI]; omega); rwa [getD_append_left _ _ _ _ (by omega)] at this)
            (fun n hn => by have := hb n (by simp only [argB]; omega); rwa [getD_append_left _ _ _ _ (by omega)] at this)
          refine ⟨fun t x hx => ?_, by simp [initTm, g2], fun id bl hbl hg => ?_⟩
          · unfold initTm at hx
            cases t with
            | zero =>
              simp at hx
              subst hx
              exact ⟨fun _ => ⟨_, rfl, _, hp0, by simp [pick]⟩, fun h => (by cases h)⟩
            | succ t => simp at hx; simpa using g1 t x hx
          · unfold initHp hpOf at hbl
            split at hbl
            · rename_i he
              simp only [beq_iff_eq] at he
              subst he
              simp only [Option.some.injEq] at hbl
              subst hbl
              refine ⟨_, hp0, by simp [freshC_length], rfl, cellsAt_of_read hr m1, fun _ n hn => ?_⟩
              exact hf _ (by simp) n (by simpa [freshC_length] using hn)
            · exact g3 id bl hbl hg
      · cases h
    · cases h
  | .sli ks :: ss, v :: vs, is, bs, ps, i, b, j, m, h, hf, hi, hb, hp, hs => by
    unfold flatArgs at h
    split at h
    · rename_i l n r is' bs' ps' h1 h2
      simp only [Option.some.injEq, Prod.mk.injEq] at h
      obtain ⟨rfl, rfl, rfl⟩ := h
      have hcons : sliRgs (.sli ks :: ss) (v :: vs) w = r :: sliRgs ss vs w := by simp only [sliRgs, h1]
      obtain ⟨g1, g2, g3⟩ := init_ok ng (i := i + 2) (b := b) (j := j) (m := m + 1) h2 hf
        (fun n hn => by
          have := hi (2 + n) (by simp only [argI]; omega)
          rw [show i + 2 + n = i + (2 + n) by omega, this, show 2 + n = n + 1 + 1 by omega, List.getD_cons_succ, List.getD_cons_succ])
        (fun n hn => hb n (by simpa [argB] using hn)) hp
        (fun k r hk => by
          have := hs (k + 1) r (by rw [hcons]; simpa using hk)
          rwa [show m + 1 + k = m + (k + 1) by omega])
      refine ⟨fun t x hx => ?_, by simp [initTm, g2], g3⟩
      unfold initTm at hx
      cases t with
      | zero =>
        simp at hx
        subst hx
        have q0 := hi 0 (by simp only [argI]; omega)
        have q1 := hi 1 (by simp only [argI]; omega)
        refine ⟨fun _ => ⟨_, rfl, flatSl_mt h1 (fun r' hr' => ?_) (by simpa [A.d] using q0) (by simpa [A.d] using q1)⟩, fun h => (by cases h)⟩
        have := hs 0 r' (by rw [hcons, hr']; rfl)
        simpa using this
      | succ t => simp at hx; simpa using g1 t x hx
    · cases h
  | [], _ :: _, _, _, _, _, _, _, _, h, _, _, _, _, _ => by simp [flatArgs] at h
  | .val _ _ :: _, [], _, _, _, _, _, _, _, h, _, _, _, _, _ => by simp [flatArgs] at h
  | .ptr _ :: _, [], _, _, _, _, _, _, _, h, _, _, _, _, _ => by simp [flatArgs] at h
  | .sli _ :: _, [], _, _, _, _, _, _, _, h, _, _, _, _, _ => by simp [flatArgs] at h

/-- The tables' and the addresses' places. -/
def beta0 (gl : Gl) (ps : List Rg) (sl : List (Option Rg)) : Beta := fun i => if h : i < gl.length then some (gRg i gl[i]) else if i - gl.length < ps.length then ps[i - gl.length]? else (sl[i - gl.length - ps.length]?).join
theorem beta0_gl {gl : Gl} {ps : List Rg} {sl : List (Option Rg)} {g : Nat} {vs : List Value} (h : gl[g]? = some vs) : beta0 gl ps sl g = some (gRg g vs) := by
  obtain ⟨hlt, he⟩ := List.getElem?_eq_some_iff.1 h
  unfold beta0
  rw [dif_pos hlt, he]
theorem beta0_ps {gl : Gl} {ps : List Rg} {sl : List (Option Rg)} {k : Nat} {r : Rg} (h : ps[k]? = some r) : beta0 gl ps sl (gl.length + k) = some r := by
  have hk := (List.getElem?_eq_some_iff.1 h).1
  unfold beta0
  rw [dif_neg (by omega), if_pos (by omega), Nat.add_sub_cancel_left]
  exact h
theorem beta0_sl {gl : Gl} {ps : List Rg} {sl : List (Option Rg)} {k : Nat} {r : Rg} (h : sl[k]? = some (some r)) : beta0 gl ps sl (gl.length + ps.length + k) = some r := by
  unfold beta0
  rw [dif_neg (by omega), if_neg (by omega), show gl.length + ps.length + k - gl.length - ps.length = k by omega, h]
  rfl
theorem beta0_inv {gl : Gl} {ps : List Rg} {sl : List (Option Rg)} {i : Nat} {r : Rg} (h : beta0 gl ps sl i = some r) :
    (∃ vs, gl[i]? = some vs ∧ r = gRg i vs) ∨ (gl.length ≤ i ∧ ps[i - gl.length]? = some r) ∨ (gl.length + ps.length ≤ i ∧ sl[i - gl.length - ps.length]? = some (some r)) := by
  unfold beta0 at h
  split at h
  · rename_i hlt
    simp only [Option.some.injEq] at h
    exact .inl ⟨_, List.getElem?_eq_getElem hlt, h.symm⟩
  · split at h
    · exact .inr (.inl ⟨by omega, h⟩)
    · refine .inr (.inr ⟨by omega, ?_⟩)
      cases hs : sl[i - gl.length - ps.length]? with
      | none => rw [hs] at h; cases h
      | some o => rw [hs] at h; simp only [Option.join_some] at h; rw [h]
theorem sliRgs_mem {w : World} {r : Rg} : ∀ {ss : List Sh} {vs : List Value}, some r ∈ sliRgs ss vs w → ∃ ks v l n, .sli ks ∈ ss ∧ flatSl w ks v = some (l, n, some r)
  | .sli ks :: ss, v :: vs, h => by
    unfold sliRgs at h
    rcases List.mem_cons.1 h with h | h
    · cases hf : flatSl w ks v with
      | none => rw [hf] at h; cases h
      | some p =>
        obtain ⟨l, n, r'⟩ := p
        rw [hf] at h
        simp only at h
        exact ⟨ks, v, l, n, by simp, by rw [hf, h]⟩
    · obtain ⟨ks', v', l, n, h1, h2⟩ := sliRgs_mem h
      exact ⟨ks', v', l, n, by simp [h1], h2⟩
  | .val _ _ :: ss, v :: vs, h => by
    obtain ⟨ks', v', l, n, h1, h2⟩ := sliRgs_mem (ss := ss) (vs := vs) (by simpa [sliRgs] using h)
    exact ⟨ks', v', l, n, by simp [h1], h2⟩
  | .ptr _ :: ss, v :: vs, h => by
    obtain ⟨ks', v', l, n, h1, h2⟩ := sliRgs_mem (ss := ss) (vs := vs) (by simpa [sliRgs] using h)
    exact ⟨ks', v', l, n, by simp [h1], h2⟩
  | [], _, h => by simp [sliRgs] at h
  | .sli _ :: _, [], h => by simp [sliRgs] at h
  | .val _ _ :: _, [], h => by simp [sliRgs] at h
  | .ptr _ :: _, [], h => by simp [sliRgs] at h
theorem sliRgs_len {w : World} : ∀ {ss : List Sh} {vs : List Value}, vs.length = ss.length → (sliRgs ss vs w).length = nSli ss
  | .sli ks :: ss, v :: vs, h => by simp [sliRgs, nSli, sliRgs_len (ss := ss) (vs := vs) (by simpa using h)]
  | .val _ _ :: ss, v :: vs, h => by simp [sliRgs, nSli, sliRgs_len (ss := ss) (vs := vs) (by simpa using h)]
  | .ptr _ :: ss, v :: vs, h => by simp [sliRgs, nSli, sliRgs_len (ss := ss) (vs := vs) (by simpa using h)]
  | [], _, h => by simp [sliRgs, nSli]
  | .sli _ :: _, [], h => by simp at h
  | .val _ _ :: _, [], h => by simp at h
  | .ptr _ :: _, [], h => by simp at h
theorem apartL_get : ∀ {ps : List Rg}, apartL ps → ∀ {i j : Nat} {r q : Rg}, i < j → ps[i]? = some r → ps[j]? = some q → r.apart q
  | [], _, i, j, r, q, _, h, _ => by simp at h
  | p :: ps, ⟨h1, h2⟩, i, j, r, q, hij, hi, hj => by
    cases j with
    | zero => omega
    | succ j =>
      simp at hj
      cases i with
      | zero => simp at hi; subst hi; exact h1 q (List.mem_of_getElem? hj)
      | succ i => simp at hi; exact apartL_get h2 (by omega) hi hj
theorem Rg.apart_symm {r q : Rg} (h : r.apart q) : q.apart r := by
  unfold Rg.apart at *; omega
theorem ghOf_get : ∀ {gl : Gl} {g id : Nat} {b : Blk}, hpOf (ghOf gl g) id = some b → ∃ vs, gl[id - g]? = some vs ∧ g ≤ id ∧ b = { g := [], ro := true, cells := vs.map ofC }
  | [], g, id, b, h => by simp [ghOf, hpOf] at h
  | vs :: gl, g, id, b, h => by
    unfold ghOf hpOf at h
    split at h
    · rename_i he
      simp only [beq_iff_eq] at he
      subst he
      simp only [Option.some.injEq] at h
      exact ⟨vs, by simp, Nat.le_refl _, h.symm⟩
    · rename_i he
      obtain ⟨us, h1, h2, h3⟩ := ghOf_get h
      refine ⟨us, ?_, by omega, h3⟩
      rw [show id - g = (id - (g + 1)) + 1 by omega]
      simpa using h1
end Go.Proofs.YtalnndmnnffnmaaGreat.Sx
/-! ## SxP -/
set_option linter.unusedVariables false
set_option linter.unusedSimpArgs false
namespace Go.Proofs.YtalnndmnnffnmaaGreat.Sx
open Go

section
variable {P : Program} {Φ : Funs} {X : Hnd} {x : Cx} {ρ : Env}

/-! ### Leaving -/
def plainS (v : SV) : Option S := if v.g.isEmpty then some v.s else none
def rOne (P : Program) (gh : Hl) (ng : Nat) (σ : St) : ResultVar → M S
  | .tmp t => lift (plainS (σ.tm.getD t anySV))
  | .cell a t => xLoad P [] (hpX gh ng σ.hp) t (rs [] (σ.tm.getD a anySV))
def resSem (tmps : Array Value) : ResultVar → Sem Value
  | .tmp t => pure (tmps.getD t undef)
  | .cell a t => do loadVar t (← asAddr (tmps.getD a undef))
theorem slot_getD {β : Beta} {σ : St} {a : Act} {w : World} (h : Rel x ρ β σ a w) (t : Nat) : (σ.tm.getD t anySV).mt β ρ (a.tmps.getD t undef) := by
  rw [List.getD_eq_getElem?_getD]
  cases ht : σ.tm[t]? with
  | none => exact anySV_mt _
  | some v => exact h.slot t v ht
theorem rOne_snd (σ : St) (r : ResultVar) : Snd Φ ρ (rOne P x.gh x.ng σ r) (fun s => ∀ β a w, Rel x ρ β σ a w → ∃ v, (resSem a.tmps r).run P w = .ok v w ∧ s.mt β ρ v) := by
  cases r with
  | tmp t =>
    refine (lift_snd _).mono fun s hs β a w h => ⟨_, rfl, ?_⟩
    unfold plainS at hs
    split at hs
    · rename_i hg
      simp only [Option.some.injEq] at hs
      subst hs
      rw [List.isEmpty_iff] at hg
      exact (slot_getD h t).1 (by rw [hg]; rfl)
    · cases hs
  | cell p t =>
    have hL := pure_load (P := P) (Φ := Φ) (Γ := []) (hp := hpX x.gh x.ng σ.hp) (rv := fun o => match o with | .tmp t => σ.tm.getD t anySV | _ => anySV) (dst := none) (ty := 0) (pos := default) (after := #[]) (guard := none) (ρ := ρ) rfl t (.tmp p)
    refine hL.mono fun s hs β a w h => ?_
    obtain ⟨v, hv, hm⟩ := hs β a w (fun z hz => by
      simp only [Op.operands, List.mem_toArray, List.mem_cons, List.not_mem_nil, or_false] at hz
      subst hz
      exact slot_getD h p) h.hx h.bo.sq
    refine ⟨v, ?_, hm⟩
    simp only [execOp, Instr.loadAt, Act.eval, Sem.run_bind, Sem.run_pure] at hv
    cases hp : a.tmps.getD p undef with
    | pointer q =>
      rw [hp] at hv
      cases q with
      | none => simp [Instr.sureAddr] at hv
      | some q =>
        simp only [Instr.sureAddr, Sem.run_pure, Result.andThen_ok] at hv
        cases hl : (loadVar t q).run P w with
        | ok u w' =>
          rw [hl] at hv
          simp only [Result.andThen_ok, Result.ok.injEq, Next.value.injEq] at hv
          obtain ⟨rfl, rfl⟩ := hv
          simp [resSem, hp, asAddr, hl]
        | halt hh w' => rw [hl] at hv; simp [Result.andThen] at hv
    | _ => rw [hp] at hv; simp [Instr.sureAddr, Result.andThen] at hv
def rAll (P : Program) (gh : Hl) (ng : Nat) (σ : St) : List ResultVar → M (List S)
  | [] => pure []
  | r :: l => do
    let s ← rOne P gh ng σ r
    let ss ← rAll P gh ng σ l
    pure (s :: ss)
theorem rAll_snd (σ : St) : ∀ l : List ResultVar, Snd Φ ρ (rAll P x.gh x.ng σ l) (fun ss => ∀ β a w, Rel x ρ β σ a w → ∃ vs, (l.mapM (resSem a.tmps)).run P w = .ok vs w ∧ mtAll β ρ ss vs)
  | [] => Snd.pure fun β a w _ => ⟨[], rfl, trivial⟩
  | r :: l => by
    unfold rAll
    refine Snd.bind (rOne_snd σ r) fun s hs => Snd.bind (rAll_snd σ l) fun ss hss => Snd.pure fun β a w h => ?_
    obtain ⟨v, hv, hm⟩ := hs β a w h
    obtain ⟨vs, hvs, hms⟩ := hss β a w h
    refine ⟨v :: vs, ?_, hm, hms⟩
    rw [List.mapM_cons]
    simp only [Sem.run_bind, hv, Result.andThen_ok, hvs, Sem.run_pure]
def tupV : List Value → Value
  | [v] => v
  | vs => .tuple vs.toArray
theorem results_run {fn : Func} {tmps : Array Value} {w : World} {vs : List Value} (h : (fn.results.toList.mapM (resSem tmps)).run P w = .ok vs w) :
    (results fn tmps).run P w = .ok (tupV vs) w := by
  have e : (fn.results.mapM (resSem tmps)).run P w = .ok vs.toArray w := by
    rw [Array.mapM_eq_mapM_toList, Sem.run_map, h]
    rfl
  have e2 : results fn tmps = (do
      let vs ← fn.results.mapM (resSem tmps)
      pure (if h : vs.size = 1 then vs[0] else .tuple vs)) := by
    unfold results
    congr 1
  rw [e2, Sem.run_bind, e]
  simp only [Result.andThen_ok]
  match vs with
  | [] => rfl
  | [v] => rfl
  | v :: u :: vs => rfl

/-! ### Answers, as numbers and bools -/
def takeR (ng np : Nat) : List CK → List C → Option (List A × List B)
  | [], [] => some ([], [])
  | .int k :: l, .int k' a :: cs => match takeR ng np l cs with
    | some (as, bs) => if k' == k then some (a :: as, bs) else none
    | none => none
  | .bool :: l, .bool b :: cs => match takeR ng np l cs with
    | some (as, bs) => some (as, b :: bs)
    | none => none
  | .pt k o :: l, .ptr [] id off :: cs => match takeR ng np l cs with
    | some r => if id == ng + k && off == o && Nat.blt k np then some r else none
    | none => none
  | .str :: l, c :: cs => match asStr c, takeR ng np l cs with
    | some q, some (as, bs) => some (q :: as, bs)
    | _, _ => none
  | _, _ => none
theorem takeR_flat {β : Beta} {ps : List Rg} {ng np : Nat} (hnp : ps.length = np) (hb : ∀ (k : Nat) (r : Rg), ps[k]? = some r → β (ng + k) = some r) : ∀ {l : List CK} {cs : List C} {as : List A} {bs : List B} {vs : List Value},
    takeR ng np l cs = some (as, bs) → mtL β ρ cs vs → flatC ps l vs = some (as.map (A.d ρ), bs.map (B.d ρ))
  | l, cs, as, bs, vs, h, hm => by
    induction l generalizing cs as bs vs with
    | nil =>
      cases cs with
      | nil =>
        simp only [takeR, Option.some.injEq, Prod.mk.injEq] at h
        obtain ⟨rfl, rfl⟩ := h
        cases vs with
        | nil => rfl
        | cons _ _ => exact hm.elim
      | cons _ _ => simp [takeR] at h
    | cons ck l ih =>
      cases cs with
      | nil => cases ck <;> simp [takeR] at h
      | cons c cs =>
        cases vs with
        | nil => exact hm.elim
        | cons v vs =>
          obtain ⟨h1, h2⟩ := hm
          unfold takeR at h
          split at h
          · rename_i he1 he2; cases he1
          · rename_i k l' k' a cs' he1 he2
            simp only [List.cons.injEq] at he1 he2
            obtain ⟨rfl, rfl⟩ := he1
            obtain ⟨rfl, rfl⟩ := he2
            obtain ⟨rfl, h3⟩ := h1
            split at h
            · rename_i as' bs' ht
              split at h
              · rename_i hk
                simp only [beq_iff_eq] at hk
                subst hk
                simp only [Option.some.injEq, Prod.mk.injEq] at h
                obtain ⟨rfl, rfl⟩ := h
                unfold flatC
                rw [ih _ _ _ _ ht h2]
                simp [inR_mk h3]
              · cases h
            · cases h
          · rename_i l' b cs' he1 he2
            simp only [List.cons.injEq] at he1 he2
            obtain ⟨rfl, rfl⟩ := he1
            obtain ⟨rfl, rfl⟩ := he2
            have h1 : v = .bool (b.d ρ) := h1
            subst h1
            split at h
            · rename_i as' bs' ht
              simp only [Option.some.injEq, Prod.mk.injEq] at h
              obtain ⟨rfl, rfl⟩ := h
              unfold flatC
              rw [ih _ _ _ _ ht h2]
              simp
            · cases h
          · rename_i k o l' id off cs' he1 he2
            simp only [List.cons.injEq] at he1 he2
            obtain ⟨rfl, rfl⟩ := he1
            obtain ⟨rfl, rfl⟩ := he2
            split at h
            · rename_i r ht
              split at h
              · rename_i hc
                simp only [Bool.and_eq_true, beq_iff_eq, Nat.blt_eq] at hc
                obtain ⟨⟨rfl, rfl⟩, hk⟩ := hc
                simp only [Option.some.injEq] at h
                subst h
                obtain ⟨q, hq, rfl⟩ := h1
                have hlt : k < ps.length := by omega
                have hg := List.getElem?_eq_getElem hlt
                have := hb k _ hg
                simp only [pick] at hq
                rw [this] at hq
                simp only [Option.some.injEq] at hq
                unfold flatC
                rw [hg, ih _ _ _ _ ht h2]
                simp [hq, pick]
              · cases h
            · cases h
          · rename_i l' c' cs' he1 he2
            simp only [List.cons.injEq] at he1 he2
            obtain ⟨rfl, rfl⟩ := he1
            obtain ⟨rfl, rfl⟩ := he2
            split at h
            · rename_i q as' bs' hq ht
              simp only [Option.some.injEq, Prod.mk.injEq] at h
              obtain ⟨rfl, rfl⟩ := h
              obtain ⟨s, rfl, e1, e2⟩ := asStr_mt hq h1
              unfold flatC
              rw [ih _ _ _ _ ht h2]
              simp [inR_mk e2, e1]
            · cases h
          · cases h
def takeTup (ng np : Nat) : List (Bool × List CK) → List S → Option (List A × List B)
  | [], [] => some ([], [])
  | p :: l, .one agg cs :: ss => match takeR ng np p.2 cs, takeTup ng np l ss with
    | some (a, b), some (as, bs) => if agg == p.1 && (agg || p.2.length == 1) then some (a ++ as, b ++ bs) else none
    | _, _ => none
  | _, _ => none
theorem take1_flat {β : Beta} {ps : List Rg} {ng np : Nat} (hnp : ps.length = np) (hb : ∀ (k : Nat) (r : Rg), ps[k]? = some r → β (ng + k) = some r) {agg : Bool} {l : List CK} {cs : List C} {a : List A} {b : List B} {v : Value}
    (h : takeR ng np l cs = some (a, b)) (hc : (agg || l.length == 1) = true) (hm : mt1 β ρ agg cs v) : flat1 ps agg l v = some (a.map (A.d ρ), b.map (B.d ρ)) := by
  unfold flat1
  cases agg
  · obtain ⟨c, rfl, hcm⟩ := hm
    simp only [Bool.false_or, beq_iff_eq] at hc
    match l, hc, h with
    | [ck], _, h =>
      simp only [Bool.false_eq_true, if_false]
      exact takeR_flat (vs := [v]) hnp hb h ⟨hcm, trivial⟩
  · obtain ⟨us, rfl, hcm⟩ := hm
    simp only [if_true]
    exact takeR_flat hnp hb h hcm
theorem takeTup_flat {β : Beta} {ps : List Rg} {ng np : Nat} (hnp : ps.length = np) (hb : ∀ (k : Nat) (r : Rg), ps[k]? = some r → β (ng + k) = some r) : ∀ {l : List (Bool × List CK)} {ss : List S} {as : List A} {bs : List B} {vs : List Value},
    takeTup ng np l ss = some (as, bs) → mtAll β ρ ss vs → flatTup ps l vs = some (as.map (A.d ρ), bs.map (B.d ρ))
  | [], [], as, bs, vs, h, hm => by
    simp only [takeTup, Option.some.injEq, Prod.mk.injEq] at h
    obtain ⟨rfl, rfl⟩ := h
    cases vs with
    | nil => rfl
    | cons _ _ => exact hm.elim
  | p :: l, .one agg cs :: ss, as, bs, vs, h, hm => by
    cases vs with
    | nil => exact hm.elim
    | cons v vs =>
      obtain ⟨h1, h2⟩ := hm
      unfold takeTup at h
      split at h
      · rename_i a b as' bs' ht hr
        split at h
        · rename_i hc
          simp only [Bool.and_eq_true, beq_iff_eq] at hc
          obtain ⟨rfl, hc⟩ := hc
          simp only [Option.some.injEq, Prod.mk.injEq] at h
          obtain ⟨rfl, rfl⟩ := h
          unfold flatTup
          rw [take1_flat hnp hb ht hc h1, takeTup_flat hnp hb hr h2]
          simp
        · cases h
      · cases h
  | [], _ :: _, _, _, _, h, _ => by simp [takeTup] at h
  | _ :: _, [], _, _, _, h, _ => by simp [takeTup] at h
  | _ :: _, .tup _ :: _, _, _, _, h, _ => by simp [takeTup] at h
  | _ :: _, .any :: _, _, _, _, h, _ => by simp [takeTup] at h
def takeRes (ng np : Nat) (s : Sum) (ss : List S) : Option (List A × List B) :=
  if s.tup then (if ss.length == 1 then none else takeTup ng np s.res ss)
  else if s.res.length == 1 && ss.length == 1 then takeTup ng np s.res ss else none
theorem flatTup_one {ps : List Rg} {p : Bool × List CK} {v : Value} : flatTup ps [p] [v] = flat1 ps p.1 p.2 v := by
  unfold flatTup
  cases h : flat1 ps p.1 p.2 v with
  | none => simp
  | some f => simp [flatTup]
theorem takeRes_flat {β : Beta} {ps : List Rg} {ng np : Nat} (hnp : ps.length = np) (hb : ∀ (k : Nat) (r : Rg), ps[k]? = some r → β (ng + k) = some r) {s : Sum} {ss : List S} {as : List A} {bs : List B} {vs : List Value}
    (h : takeRes ng np s ss = some (as, bs)) (hm : mtAll β ρ ss vs) : flatRes ps s (tupV vs) = some (as.map (A.d ρ), bs.map (B.d ρ)) := by
  have hlen : ss.length = vs.length := by
    clear h
    induction ss generalizing vs with
    | nil => cases vs with | nil => rfl | cons _ _ => exact hm.elim
    | cons _ ss ih => cases vs with | nil => exact hm.elim | cons _ vs => simp [ih hm.2]
  unfold takeRes at h
  unfold flatRes
  split at h
  · rename_i ht
    rw [if_pos ht]
    split at h
    · cases h
    · rename_i hl
      simp only [beq_iff_eq] at hl
      have := takeTup_flat hnp hb h hm
      match vs, hlen, this with
      | [], _, this => simpa [tupV] using this
      | [v], hlen, _ => simp at hlen; omega
      | v :: u :: vs, _, this => simpa [tupV] using this
  · rename_i ht
    rw [if_neg ht]
    split at h
    · rename_i hl
      simp only [Bool.and_eq_true, beq_iff_eq] at hl
      have := takeTup_flat hnp hb h hm
      match vs, hlen, this with
      | [v], _, this =>
        match hr : s.res, hl.1 with
        | [p], _ =>
          rw [hr] at this
          rw [flatTup_one] at this
          exact this
      | [], hlen, _ => have := hl.2; rw [hlen] at this; simp at this
      | _ :: _ :: _, hlen, _ => have := hl.2; rw [hlen] at this; simp at this
    · cases h
def takePs (ng : Nat) (hp : Hl) : List (List CK) → Nat → Option (List A × List B)
  | [], _ => some ([], [])
  | l :: ls, j => match hpOf hp (ng + j) with
    | some b => if b.g.isEmpty then match takeC l b.cells, takePs ng hp ls (j + 1) with
      | some (a, bb), some (as, bs) => some (a ++ as, bb ++ bs)
      | _, _ => none
      else none
    | none => none
theorem takePs_flat {β : Beta} {w : World} {ng : Nat} {hp : Hl} (hh : heapMt β ρ (hpOf hp) w) : ∀ {ls : List (List CK)} {ps : List Rg} {j : Nat} {as : List A} {bs : List B}, takePs ng hp ls j = some (as, bs) → lensOk ls ps →
    (∀ (k : Nat) (r : Rg), ps[k]? = some r → β (ng + j + k) = some r) → flatPs w ls ps = some (as.map (A.d ρ), bs.map (B.d ρ))
  | [], [], j, as, bs, h, _, _ => by
    simp only [takePs, Option.some.injEq, Prod.mk.injEq] at h
    obtain ⟨rfl, rfl⟩ := h
    rfl
  | l :: ls, r :: ps, j, as, bs, h, ⟨hl, hls⟩, hb => by
    unfold takePs at h
    split at h
    · rename_i b hbk
      split at h
      · rename_i hg
        rw [List.isEmpty_iff] at hg
        split at h
        · rename_i a bb as' bs' h1 h2
          simp only [Option.some.injEq, Prod.mk.injEq] at h
          obtain ⟨rfl, rfl⟩ := h
          have hb0 := hb 0 r (by simp)
          simp only [Nat.add_zero] at hb0
          obtain ⟨q, hq, hql, _, hc, _⟩ := hh _ b hbk (by rw [hg]; rfl)
          rw [hb0] at hq
          cases hq
          obtain ⟨us, hul, hum, hu⟩ := cellsAt_values hc
          have hrd : readCells w r.blk r.off l.length = some us := by
            rw [← hl, hql, ← hul]; exact readCells_mk hu
          unfold flatPs
          rw [hrd]
          simp only [Option.bind_some]
          rw [takeC_flat h1 hum, takePs_flat hh h2 hls fun k q hk => by have := hb (k + 1) q (by simpa using hk); rwa [show ng + (j + 1) + k = ng + j + (k + 1) by omega]]
          simp
        · cases h
      · cases h
    · cases h
  | [], _ :: _, _, _, _, _, h, _ => h.elim
  | _ :: _, [], _, _, _, _, h, _ => h.elim

/-! ### The end of a body -/
def endSt (keep : List Bool) (O : Outs) : M St :=
  match getK .n O, getK .r O with
  | some (_, s), none => if (dropK .n O).isEmpty then pure s else M.fail
  | none, some (_, s) => if (dropK .r O).isEmpty then pure s else M.fail
  | some (q, s), some (_, t) => if (dropK .r (dropK .n O)).isEmpty then do
      let a ← gAtom q
      muxSt keep a s t
    else M.fail
  | none, none => M.fail
theorem dropK_empty {k K : Kd} {O : Outs} {q : Gd} {s : St} (h : (dropK k O).isEmpty = true) (hK : getK K O = some (q, s)) : k = K := by
  cases he : k.eq K with
  | true => exact Kd.eq_sound he
  | false =>
    have := dropK_get (k := k) (l := K) O
    rw [List.isEmpty_iff] at h
    rw [h, he] at this
    simp [getK, hK] at this
theorem endSt_snd (keep : List Bool) (O : Outs) : Snd Φ ρ (endSt keep O) (fun s => ∀ β c K a w, OutMt x ρ β c O K a w → (K = .n ∨ K = .r) ∧ ∃ β', Ext β β' ∧ Rel x ρ β' s a w ∧ Fresh β' c) := by
  unfold endSt
  split
  · rename_i q s hn hr
    split
    · rename_i he
      refine Snd.pure fun β c K a w ⟨h1, q', s', β', hK, hE, hR, hF⟩ => ?_
      have := dropK_empty he hK
      subst this
      rw [hn] at hK
      simp only [Option.some.injEq, Prod.mk.injEq] at hK
      obtain ⟨rfl, rfl⟩ := hK
      exact ⟨.inl rfl, β', hE, hR, hF⟩
    · exact Snd.fail
  · rename_i q s hn hr
    split
    · rename_i he
      refine Snd.pure fun β c K a w ⟨h1, q', s', β', hK, hE, hR, hF⟩ => ?_
      have := dropK_empty he hK
      subst this
      rw [hr] at hK
      simp only [Option.some.injEq, Prod.mk.injEq] at hK
      obtain ⟨rfl, rfl⟩ := hK
      exact ⟨.inr rfl, β', hE, hR, hF⟩
    · exact Snd.fail
  · rename_i q s qr t hn hr
    split
    · rename_i he
      refine Snd.bind (gAtom_snd q) fun g hg => (muxSt_snd (x := x) keep g s t).mono fun u hu β c K a w ⟨h1, q', s', β', hK, hE, hR, hF⟩ => ?_
      have hqn := h1 _ _ _ hn
      by_cases hKn : K = .n
      · subst hKn
        rw [hn] at hK
        simp only [Option.some.injEq, Prod.mk.injEq] at hK
        obtain ⟨rfl, rfl⟩ := hK
        exact ⟨.inl rfl, β', hE, hu β' a w (by rw [hg, hqn.2 rfl]; simpa using hR), hF⟩
      · have hf : Gd.d ρ q = false := by
          cases hd : Gd.d ρ q with
          | false => rfl
          | true => exact absurd (hqn.1 hd).symm hKn
        have hK2 : getK K (dropK .n O) = some (q', s') := by
          rw [dropK_get, if_neg (fun h => hKn (Kd.eq_sound h).symm)]; exact hK
        have := dropK_empty he hK2
        subst this
        rw [hr] at hK
        simp only [Option.some.injEq, Prod.mk.injEq] at hK
        obtain ⟨rfl, rfl⟩ := hK
        exact ⟨.inr rfl, β', hE, hu β' a w (by rw [hg, hf]; simpa using hR), hF⟩
    · exact Snd.fail
  · exact Snd.fail
end

def sliOk : List Sh → Bool
  | [] => true
  | .sli ks :: ss => !ks.isEmpty && sliOk ss
  | _ :: ss => sliOk ss
theorem sliOk_mem {ks : List CK} : ∀ {ss : List Sh}, sliOk ss = true → .sli ks ∈ ss → ks ≠ []
  | .sli k :: ss, h, hm => by
    simp only [sliOk, Bool.and_eq_true, Bool.not_eq_true'] at h
    rcases List.mem_cons.1 hm with e | hm
    · cases e; intro e; rw [e] at h; simp at h
    · exact sliOk_mem h.2 hm
  | .val _ _ :: ss, h, hm => by
    rcases List.mem_cons.1 hm with e | hm
    · cases e
    · exact sliOk_mem (ss := ss) (by simpa [sliOk] using h) hm
  | .ptr _ :: ss, h, hm => by
    rcases List.mem_cons.1 hm with e | hm
    · cases e
    · exact sliOk_mem (ss := ss) (by simpa [sliOk] using h) hm
  | [], _, hm => by cases hm
def shOk (s : Sum) : Bool := ((ptrShapes s.args).all fun l => !l.isEmpty) && sliOk s.args
theorem flatArgs_mem {w : World} {s : Sum} {vs : List Value} {is : List Int} {bs : List Bool} {ps : List Rg} (h : flatArgs s.args vs w = some (is, bs, ps)) (hne : shOk s = true) : ∀ r, r ∈ ps → (r.ro = false ∧ r.sq = none) ∧ ∃ v, w.cell? ⟨r.blk, r.off, none⟩ = some v :=
  flatArgs_mem' h (by unfold shOk at hne; simp only [Bool.and_eq_true] at hne; exact hne.1)

/-! ### The contract -/
def fnM (P : Program) (X : Hnd) (gl : Gl) (k : Ctl) (fn : Func) (s : Sum) : M (List A × List B) := do
  let body ← lift fn.body
  let O ← exec P X (ghOf gl 0) gl.length k body { tm := initTm gl.length s.args 0 0 0 (gl.length + (ptrShapes s.args).length) ++ List.replicate (fn.ntmps - s.args.length) anySV, hp := initHp gl.length s.args 0 0 0 }
  let σ ← endSt k.keep O
  let xs ← rAll P (ghOf gl 0) gl.length σ fn.results.toList
  let r ← lift (takeRes gl.length (ptrShapes s.args).length s xs)
  let p ← lift (takePs gl.length σ.hp (ptrShapes s.args) 0)
  pure (r.1 ++ p.1, r.2 ++ p.2)
def fnX (P : Program) (X : Hnd) (gl : Gl) (k : Ctl) (fn : Func) (s : Sum) : Option Smry :=
  match fnM P X gl k fn s { i := argI s.args, b := argB s.args, id := gl.length + (ptrShapes s.args).length + nSli s.args } with
  | some (r, _, out) => some { em := out, ri := r.1, rb := r.2 }
  | none => none

def st0 (gl : Gl) (fn : Func) (s : Sum) : St := { tm := initTm gl.length s.args 0 0 0 (gl.length + (ptrShapes s.args).length) ++ List.replicate (fn.ntmps - s.args.length) anySV, hp := initHp gl.length s.args 0 0 0 }
def ctr0 (gl : Gl) (s : Sum) : Ctr := { i := argI s.args, b := argB s.args, id := gl.length + (ptrShapes s.args).length + nSli s.args }
theorem run_gen {P : Program} {Φ : Funs} {X : Hnd} {gl : Gl} (hX : HOk P Φ gl X) {f : Nat} {fn : Func} (hf : P.funcs[f]? = some fn) {k : Ctl} (hK : LoopsOk Φ k) {s : Sum} {body : Code} (hbody : fn.body = some body) (hne : shOk s = true)
    {vs : List Value} {w : World} {is : List Int} {bs : List Bool} {ps : List Rg} (hL : Laid gl w) (hfl : flatArgs s.args vs w = some (is, bs, ps)) (hap : apartL ps) (hfz : frzL ps w) (hag : ∀ q, q ∈ ps → ∀ (g : Nat) (vs : List Value), gl[g]? = some vs → q.apart (gRg g vs)) (hsl : ∀ q, q ∈ ps → ∀ r, some r ∈ sliRgs s.args vs w → q.apart r)
    {ρ : Env} (hi : ∀ n, n < argI s.args → ρ.i (0 + n) = is.getD n 0) (hbb : ∀ n, n < argB s.args → ρ.b (0 + n) = bs.getD n false) {O : Outs} {c3 : Ctr} {o3 : List Em} (g3 : exec P X (ghOf gl 0) gl.length k body (st0 gl fn s) (ctr0 gl s) = some (O, c3, o3)) (hg3 : Good Φ ρ o3)
    {σ : St} {c5 : Ctr} {o5 : List Em} (g5 : endSt k.keep O c3 = some (σ, c5, o5)) (hg5 : Good Φ ρ o5) {xs : List S} {c7 : Ctr} {o7 : List Em} (g7 : rAll P (ghOf gl 0) gl.length σ fn.results.toList c5 = some (xs, c7, o7)) (hg7 : Good Φ ρ o7) :
    Calls P f vs.toArray w fun e w' => ∃ us β' a', e = .returned (tupV us) ∧ mtAll β' ρ xs us ∧ Rel { w0 := w, R := ps, gl := gl, gr := ps } ρ β' σ a' w' := by
  have hlen := flatArgs_len hfl
  -- the walk's frame
  let x : Cx := { w0 := w, R := ps, gl := gl, gr := ps }
  obtain ⟨sl, hsle⟩ : ∃ sl, sl = sliRgs s.args vs w := ⟨_, rfl⟩
  have hslm : ∀ {k : Nat} {r : Rg}, sl[k]? = some (some r) → r.ro = true ∧ r.blk < w.heap.size ∧ ∀ ks l, r.sq = some (ks, l) → l.length = r.len ∧ seqAt w r.blk r.off ks l := fun {k r} hk => by
    obtain ⟨ks, v, l, n, h1, h2⟩ := sliRgs_mem (hsle ▸ List.mem_of_getElem? hk)
    obtain ⟨g1, g2, g3, g4, g5⟩ := flatSl_sq h2
    have hks := sliOk_mem (by unfold shOk at hne; simp only [Bool.and_eq_true] at hne; exact hne.2) h1
    refine ⟨g1, g5 hks, fun ks' l' he => ?_⟩
    rw [g2] at he
    cases he
    exact ⟨g3, g4⟩
  have hbps : ∀ (k : Nat) (r : Rg), ps[k]? = some r → beta0 gl ps sl (gl.length + k) = some r := fun k r hk => beta0_ps hk
  have hpsm := flatArgs_mem hfl hne
  obtain ⟨i1, i2, i3⟩ := init_ok (ρ := ρ) (β := beta0 gl ps sl) gl.length (i := 0) (b := 0) (j := 0) (m := gl.length + (ptrShapes s.args).length) hfl hfz hi hbb (fun k r hk => by rw [Nat.add_zero]; exact hbps k r hk) (fun k r hk => by rw [← hlen.2.2.1]; exact beta0_sl (hsle ▸ hk))
  have hglsq : ∀ (g : Nat) (vs : List Value), (gRg g vs).sq = none := fun _ _ => rfl
  have hbo : BetaOk w.heap.size ps (beta0 gl ps sl) w := by
    refine ⟨fun i j r q hij hi hj => ?_, fun i r hi => ?_, fun i r hi => ?_, fun i r ks l hi hs => ?_⟩
    · rcases beta0_inv hi with ⟨us, h1, rfl⟩ | ⟨h0, h1⟩ | ⟨h0, h1⟩
      · rcases beta0_inv hj with ⟨us', h2, rfl⟩ | ⟨h0', h2⟩ | ⟨h0', h2⟩
        · exact .inl ⟨rfl, rfl⟩
        · exact .inr (Rg.apart_symm (hag q (List.mem_of_getElem? h2) i us h1))
        · exact .inl ⟨rfl, (hslm h2).1⟩
      · rcases beta0_inv hj with ⟨us', h2, rfl⟩ | ⟨h0', h2⟩ | ⟨h0', h2⟩
        · exact .inr (hag r (List.mem_of_getElem? h1) j us' h2)
        · rcases Nat.lt_or_ge i j with h | h
          · exact .inr (apartL_get hap (by omega) h1 h2)
          · exact .inr (Rg.apart_symm (apartL_get hap (by omega) h2 h1))
        · exact .inr (hsl r (List.mem_of_getElem? h1) q (hsle ▸ List.mem_of_getElem? h2))
      · rcases beta0_inv hj with ⟨us', h2, rfl⟩ | ⟨h0', h2⟩ | ⟨h0', h2⟩
        · exact .inl ⟨(hslm h1).1, rfl⟩
        · exact .inr (Rg.apart_symm (hsl q (List.mem_of_getElem? h2) r (hsle ▸ List.mem_of_getElem? h1)))
        · exact .inl ⟨(hslm h1).1, (hslm h2).1⟩
    · rcases beta0_inv hi with ⟨us, h1, rfl⟩ | ⟨h0, h1⟩ | ⟨h0, h1⟩
      · exact (hL i _ h1).1
      · obtain ⟨_, v, hv⟩ := hpsm r (List.mem_of_getElem? h1)
        exact World.block_lt_of_cell? w _ hv
      · exact (hslm h1).2.1
    · rcases beta0_inv hi with ⟨us, h1, rfl⟩ | ⟨h0, h1⟩ | ⟨h0, h1⟩
      · exact .inl rfl
      · exact .inr (.inr ⟨r, List.mem_of_getElem? h1, rfl, Nat.le_refl _, Nat.le_refl _⟩)
      · exact .inl (hslm h1).1
    · rcases beta0_inv hi with ⟨us, h1, rfl⟩ | ⟨h0, h1⟩ | ⟨h0, h1⟩
      · cases hs
      · rw [(hpsm r (List.mem_of_getElem? h1)).1.2] at hs
        cases hs
      · exact ⟨(hslm h1).1, (hslm h1).2.2 ks l hs⟩
  have hgm : heapMt (beta0 gl ps sl) ρ (hpOf (ghOf gl 0)) w := by
    intro id b hb _
    obtain ⟨us, hus, _, rfl⟩ := ghOf_get hb
    rw [Nat.sub_zero] at hus
    refine ⟨_, beta0_gl hus, by simp [gRg], rfl, ?_, fun h => by cases h⟩
    rw [cellsAt_iff]
    intro j c hj
    rw [List.getElem?_map] at hj
    cases hu : us[j]? with
    | none => rw [hu] at hj; simp at hj
    | some u =>
      rw [hu] at hj
      simp only [Option.map_some, Option.some.injEq] at hj
      subst hj
      have hl := (hL id us hus).2 j u hu
      exact ⟨u, by simpa [gRg] using hl.1, ofC_mt hl.2⟩
  have hvl : vs.length = s.args.length := hlen.2.2.2
  have hrel : Rel x ρ (beta0 gl ps sl) (st0 gl fn s) { tmps := vs.toArray ++ Array.replicate (fn.ntmps - vs.toArray.size) undef, defers := [] } w := by
    refine ⟨?_, fun t v ht => ?_, rfl, i3, hgm, fun id b hb => ?_, hbo, Keep.refl _ _, fun g vs hg => beta0_gl hg, hbps⟩
    · simp [st0, i2, hvl]
    · simp only [st0] at ht ⊢
      rcases Nat.lt_or_ge t (initTm gl.length s.args 0 0 0 (gl.length + (ptrShapes s.args).length)).length with h | h
      · rw [List.getElem?_append_left h] at ht
        have := i1 t v ht
        have hlt : t < vs.length := by omega
        rw [List.getD_eq_getElem?_getD, List.getElem?_eq_getElem hlt] at this
        simpa [Array.getElem?_append, hlt] using this
      · rw [List.getElem?_append_right h, List.getElem?_replicate] at ht
        split at ht
        · simp only [Option.some.injEq] at ht
          subst ht
          exact anySV_mt _
        · cases ht
    · obtain ⟨us, _, _, rfl⟩ := ghOf_get hb
      rfl
  have hfresh : Fresh (beta0 gl ps sl) (ctr0 gl s) := by
    intro i hi
    simp only [ctr0] at hi
    cases hb : beta0 gl ps sl i with
    | none => rfl
    | some r =>
      have hsll : sl.length = nSli s.args := by rw [hsle]; exact sliRgs_len hvl
      rcases beta0_inv hb with ⟨us, h1, rfl⟩ | ⟨h0, h1⟩ | ⟨h0, h1⟩
      · have := (List.getElem?_eq_some_iff.1 h1).1; omega
      · have := (List.getElem?_eq_some_iff.1 h1).1; omega
      · have := (List.getElem?_eq_some_iff.1 h1).1; omega
  have hG : ∀ w', Keep ps w w' → Laid gl w' := by
    intro w' hk g us hg
    obtain ⟨h1, h2⟩ := hL g us hg
    refine ⟨by have := hk.size; omega, fun j v hj => ?_⟩
    obtain ⟨h3, h4⟩ := h2 j v hj
    refine ⟨(hk.cell _ h1 fun r hr hin => ?_).trans h3, h4⟩
    have := hag r hr g us hg
    have hlt := (List.getElem?_eq_some_iff.1 hj).1
    unfold inRg at hin
    unfold Rg.apart gRg at this
    simp only at hin this
    omega
  have hrun := exec_ok (x := x) hX hG k hK body ρ _ _ _ O o3 g3 hg3 (beta0 gl ps sl) _ w hrel hfresh
    (bodyPost P fn fun e w' => ∃ us β' a', e = .returned (tupV us) ∧ mtAll β' ρ xs us ∧ Rel x ρ β' σ a' w') fun e a' w' K hk hO => ?_
  · exact calls_of_wp hf hbody hrun
  · obtain ⟨hKK, β', hE, hR, _⟩ := endSt_snd k.keep O _ _ _ _ g5 hg5 (beta0 gl ps sl) c3 K a' w' hO
    obtain ⟨us, hus, hum⟩ := rAll_snd (P := P) (x := x) σ fn.results.toList _ _ _ _ g7 hg7 β' a' w' hR
    have hres := results_run hus
    have hfin : a'.defers = [] ∧ ∃ v, (results fn a'.tmps).run P w' = .ok v w' ∧ ∃ us β' a', Ending.returned v = .returned (tupV us) ∧ mtAll β' ρ xs us ∧ Rel x ρ β' σ a' w' :=
      ⟨hR.df, _, hres, us, β', a', rfl, hum, hR⟩
    rcases hKK with rfl | rfl
    · rw [kdOf_n hk]
      exact hfin
    · cases e <;> simp only [kdOf, Option.some.injEq] at hk <;> (try (cases hk; done))
      exact hfin

theorem contract_gen {P : Program} {Φ : Funs} {X : Hnd} {gl : Gl} (hX : HOk P Φ gl X) {f : Nat} {fn : Func} (hf : P.funcs[f]? = some fn) {k : Ctl} (hK : LoopsOk Φ k) {s : Sum} {S : Smry} (h : fnX P X gl k fn s = some S)
    (hw : wsEm S.em (argI s.args) (argB s.args) = true) (hne : shOk s = true)
    (hob : ∀ (vs : List Value) (w : World) (is : List Int) (bs : List Bool) (ps : List Rg), flatArgs s.args vs w = some (is, bs, ps) → (s.pre = true → (S.run Φ s.pre is bs).2.headD false = true) →
      obAll (envOf (evEm Φ S.em is bs).1 (evEm Φ S.em is bs).2) S.em = true) : Contract P gl f s (S.run Φ s.pre) := by
  intro vs w is bs ps hL hfl hap hfz hag hsl hpre
  have hlen := flatArgs_len hfl
  have hlens := flatArgs_lens hfl
  have ho := hob vs w is bs ps hfl hpre
  have hw' : wsEm S.em is.length bs.length = true := by rw [hlen.1, hlen.2.1]; exact hw
  have hgood := good_of hw' ho
  have hagree := (evEm_spec Φ S.em is bs hw').1
  unfold fnX at h
  split at h
  · rename_i r c' out hm
    simp only [Option.some.injEq] at h
    subst h
    simp only at hgood hagree ho hw' ⊢
    generalize hρ : envOf (evEm Φ out is bs).1 (evEm Φ out is bs).2 = ρ at hgood hagree ho
    unfold fnM at hm
    obtain ⟨body, c1, o1, c2, o2, y, g1, g2, he⟩ := M.bind_inv hm
    simp only [Prod.mk.injEq] at he
    obtain ⟨rfl, rfl, rfl⟩ := he
    obtain ⟨body', hbody, he⟩ := lift_inv g1
    simp only [Prod.mk.injEq] at he
    obtain ⟨rfl, rfl, rfl⟩ := he
    obtain ⟨O, c3, o3, c4, o4, y, g3, g4, he⟩ := M.bind_inv g2
    simp only [Prod.mk.injEq] at he
    obtain ⟨rfl, rfl, rfl⟩ := he
    obtain ⟨σ, c5, o5, c6, o6, y, g5, g6, he⟩ := M.bind_inv g4
    simp only [Prod.mk.injEq] at he
    obtain ⟨rfl, rfl, rfl⟩ := he
    obtain ⟨xs, c7, o7, c8, o8, y, g7, g8, he⟩ := M.bind_inv g6
    simp only [Prod.mk.injEq] at he
    obtain ⟨rfl, rfl, rfl⟩ := he
    obtain ⟨rr, c9, o9, c10, o10, y, g9, g10, he⟩ := M.bind_inv g8
    simp only [Prod.mk.injEq] at he
    obtain ⟨rfl, rfl, rfl⟩ := he
    obtain ⟨rr', hrr, he⟩ := lift_inv g9
    simp only [Prod.mk.injEq] at he
    obtain ⟨rfl, rfl, rfl⟩ := he
    obtain ⟨pp, c11, o11, c12, o12, y, g11, g12, he⟩ := M.bind_inv g10
    simp only [Prod.mk.injEq] at he
    obtain ⟨rfl, rfl, rfl⟩ := he
    obtain ⟨pp', hpp, he⟩ := lift_inv g11
    simp only [Prod.mk.injEq] at he
    obtain ⟨rfl, rfl, rfl⟩ := he
    have he := M.pure_inv g12
    simp only [Prod.mk.injEq] at he
    obtain ⟨rfl, rfl, rfl⟩ := he
    simp only [Good.append] at hgood
    obtain ⟨_, hg3, hg5, hg7, _⟩ := hgood
    have hi : ∀ n, n < argI s.args → ρ.i (0 + n) = is.getD n 0 := fun n hn => by rw [Nat.zero_add]; exact hagree.1 n (by omega)
    have hbb : ∀ n, n < argB s.args → ρ.b (0 + n) = bs.getD n false := fun n hn => by rw [Nat.zero_add]; exact hagree.2 n (by omega)
    refine Calls.mono (run_gen hX hf hK hbody hne hL hfl hap hfz hag hsl hi hbb g3 hg3 g5 hg5 g7 hg7) fun e w' he => ?_
    obtain ⟨us, β', a', rfl, hum, hR⟩ := he
    have hra : ∀ (k : Nat) (r : Rg), ps[k]? = some r → β' (gl.length + k) = some r := hR.ra
    have hfr := takeRes_flat hlen.2.2.1 hra hrr hum
    have hfp := takePs_flat hR.hm hpp hlens (fun k r hk => by rw [Nat.add_zero]; exact hra k r hk)
    refine ⟨_, rfl, hR.kp, _, _, hfr, hfp, ?_, ?_⟩
    · simp only [Smry.run, hρ, List.map_append]
    · simp only [Smry.run, hρ, List.map_append]
      cases s.pre <;> simp
  · cases h

/-! ### A function that answers a new slice of known numbers -/
def tabCells (k : IntKind) : List Int → List C → Bool
  | [], [] => true
  | n :: ns, .int k' (.c m) :: cs => k' == k && n == m && tabCells k ns cs
  | _, _ => false
theorem tabCells_get {k : IntKind} : ∀ {ns : List Int} {cs : List C}, tabCells k ns cs = true → cs.length = ns.length ∧ ∀ (j : Nat) (n : Int), ns[j]? = some n → cs[j]? = some (.int k (.c n))
  | [], [], _ => ⟨rfl, fun j n h => by simp at h⟩
  | n :: ns, c :: cs, h => by
    unfold tabCells at h
    split at h
    · rename_i e; cases e
    · rename_i n' ns' k' m cs' e1 e2
      simp only [List.cons.injEq] at e1 e2
      obtain ⟨rfl, rfl⟩ := e1
      obtain ⟨rfl, rfl⟩ := e2
      simp only [Bool.and_eq_true, beq_iff_eq] at h
      obtain ⟨⟨rfl, rfl⟩, h⟩ := h
      obtain ⟨h1, h2⟩ := tabCells_get h
      refine ⟨by simp [h1], fun j x hj => ?_⟩
      cases j with
      | zero => simp at hj; subst hj; rfl
      | succ j => exact h2 j x (by simpa using hj)
    · cases h
  | [], c :: cs, h => by cases c <;> simp [tabCells] at h
  | n :: ns, [], h => by simp [tabCells] at h
def tabRes (σ : St) (p : IntKind × List Int) : List S → Bool
  | [.one false [.sli id off len cap]] => off == 0 && len == p.2.length && cap == p.2.length && (match hpOf σ.hp id with | some b => b.g.isEmpty && !b.ro && tabCells p.1 p.2 b.cells | none => false)
  | _ => false
def tabSum (p : IntKind × List Int) : Sum := { args := [], tup := false, res := [], pre := false, sl := some p }
def tabX (P : Program) (X : Hnd) (gl : Gl) (k : Ctl) (fn : Func) (p : IntKind × List Int) : Bool :=
  match fn.body with
  | none => false
  | some body => match exec P X (ghOf gl 0) gl.length k body (st0 gl fn (tabSum p)) (ctr0 gl (tabSum p)) with
    | none => false
    | some (O, c3, o3) => match endSt k.keep O c3 with
      | none => false
      | some (σ, c5, o5) => match rAll P (ghOf gl 0) gl.length σ fn.results.toList c5 with
        | none => false
        | some (xs, _, o7) => o3.isEmpty && o5.isEmpty && o7.isEmpty && tabRes σ p xs
theorem contract_tab {P : Program} {Φ : Funs} {X : Hnd} {gl : Gl} (hX : HOk P Φ gl X) {f : Nat} {fn : Func} (hf : P.funcs[f]? = some fn) {k : Ctl} (hK : LoopsOk Φ k) {p : IntKind × List Int} (h : tabX P X gl k fn p = true) : TabContract P gl f p := by
  intro w hL
  unfold tabX at h
  split at h
  · cases h
  · rename_i body hbody
    split at h
    · cases h
    · rename_i O c3 o3 g3
      split at h
      · cases h
      · rename_i σ c5 o5 g5
        split at h
        · cases h
        · rename_i xs c7 o7 g7
          simp only [Bool.and_eq_true, List.isEmpty_iff] at h
          obtain ⟨⟨⟨rfl, rfl⟩, rfl⟩, h⟩ := h
          have hgn : Good Φ (envOf [] []) [] := fun e he => by cases he
          refine Calls.mono (run_gen (s := tabSum p) (vs := []) (is := []) (bs := []) (ps := []) (ρ := envOf [] []) hX hf hK hbody rfl hL rfl trivial (fun r hr => by cases hr) (fun q hq => by cases hq) (fun q hq => by cases hq) (fun n hn => by simp [tabSum, argI] at hn) (fun n hn => by simp [tabSum, argB] at hn) g3 hgn g5 hgn g7 hgn) fun e w' he => ?_
          obtain ⟨us, β', a', rfl, hum, hR⟩ := he
          unfold tabRes at h
          split at h
          · rename_i id off len cap
            simp only [Bool.and_eq_true, beq_iff_eq] at h
            obtain ⟨⟨⟨rfl, rfl⟩, rfl⟩, h⟩ := h
            split at h
            · rename_i b hb
              simp only [Bool.and_eq_true, List.isEmpty_iff, Bool.not_eq_true'] at h
              obtain ⟨⟨hbg, hro⟩, hc⟩ := h
              obtain ⟨r, hr, hlen, hrro, hcells, _⟩ := hR.hm id b hb (by rw [hbg]; rfl)
              match us, hum with
              | [v], ⟨hv, _⟩ =>
                obtain ⟨cc, hcc, hcm⟩ := hv
                simp only [List.cons.injEq, and_true] at hcc
                subst hcc
                obtain ⟨r', hr', rfl⟩ := hcm
                rw [hr] at hr'
                simp only [Option.some.injEq] at hr'
                subst hr'
                obtain ⟨h1, h2⟩ := tabCells_get hc
                refine ⟨r.blk, r.off, by simp [tupV], hR.kp, ?_, hR.bo.place id r hr, fun j n hj => ?_⟩
                · rcases hR.bo.may id r hr with h | h
                  · rw [hrro, hro] at h; cases h
                  · rcases h with h | ⟨q, hq, _⟩
                    · exact h
                    · cases hq
                · rw [cellsAt_iff] at hcells
                  obtain ⟨v, hv1, hv2⟩ := hcells j _ (h2 j n hj)
                  obtain ⟨rfl, hv3⟩ := hv2
                  exact ⟨hv1, hv3⟩
            · cases h
          · cases h

theorem callable_of {P : Program} {f : Nat} {fn : Func} (hf : P.funcs[f]? = some fn) (hn : (fn.name == "runtime.NumGoroutine") = false) (hb : fn.body.isNone = false) : ∀ args w, (callFunc f args).run P w = .ok (.enter f args) w := by
  intro args w
  unfold callFunc
  simp only [Sem.run_bind, run_program, Result.andThen_ok, hf, hn, hb, Bool.false_eq_true, if_false, Sem.run_pure]

def noOb (l : List Em) : Bool := l.all fun | .ob _ _ => false | _ => true
theorem noOb_all {ρ : Env} {l : List Em} (h : noOb l = true) : obAll ρ l = true := by
  unfold obAll noOb at *
  rw [List.all_eq_true] at *
  intro e he
  have := h e he
  cases e <;> simp_all
/-- Nothing is owed. -/
theorem contract_of {P : Program} {Φ : Funs} {X : Hnd} {gl : Gl} (hX : HOk P Φ gl X) {f : Nat} {fn : Func} (hf : P.funcs[f]? = some fn) {k : Ctl} (hK : LoopsOk Φ k) {s : Sum} {S : Smry} (h : fnX P X gl k fn s = some S)
    (hw : (wsEm S.em (argI s.args) (argB s.args) && shOk s && noOb S.em) = true) : Contract P gl f s (S.run Φ s.pre) := by
  simp only [Bool.and_eq_true] at hw
  exact contract_gen hX hf hK h hw.1.1 hw.1.2 fun _ _ _ _ _ _ _ => noOb_all hw.2
/-- What is owed is the function's first answer. -/
theorem contract_pre {P : Program} {Φ : Funs} {X : Hnd} {gl : Gl} (hX : HOk P Φ gl X) {f : Nat} {fn : Func} (hf : P.funcs[f]? = some fn) {k : Ctl} (hK : LoopsOk Φ k) {s : Sum} {S : Smry} (h : fnX P X gl k fn s = some S)
    (hw : (wsEm S.em (argI s.args) (argB s.args) && shOk s && s.pre) = true) : Contract P gl f s (S.run Φ s.pre) := by
  simp only [Bool.and_eq_true] at hw
  refine contract_gen hX hf hK h hw.1.1 hw.1.2 fun vs w is bs ps _ hp => ?_
  have := hp hw.2
  simpa [Smry.run, hw.2] using this
end Go.Proofs.YtalnndmnnffnmaaGreat.Sx
/-! ## SxQ -/
set_option linter.unusedVariables false
set_option linter.unusedSimpArgs false
namespace Go.Proofs.YtalnndmnnffnmaaGreat.Sx
open Go

def rdOps : List Oper → List Nat → List Nat → List Nat
  | [], _, acc => acc
  | o :: l, wr, acc =>
    let acc' := o.op.operands.toList.foldl (fun a x => match x with | .tmp t => if wr.contains t || a.contains t then a else t :: a | _ => a) acc
    rdOps l (match o.dst with | some d => d :: wr | none => wr) acc'
def rdCode : Code → List Nat → List Nat
  | .region _ ops _, acc => rdOps ops.toList [] acc
  | .seq a b, acc => rdCode b (rdCode a acc)
  | .cond c a b, acc => rdCode b (rdCode a (match c with | .tmp t => if acc.contains t then acc else t :: acc | _ => acc))
  | .block _ a, acc => rdCode a acc
  | .loop a, acc => rdCode a acc
  | _, acc => acc
def keepOf (fn : Func) : List Bool :=
  let r := rdCode (fn.body.getD .skip) (fn.results.toList.map fun | .tmp t => t | .cell a _ => a)
  (List.range fn.ntmps).map fun t => r.contains t
def retOf (fn : Func) : List Bool :=
  let r := fn.results.toList.map fun | .tmp t => t | .cell a _ => a
  (List.range fn.ntmps).map fun t => r.contains t
def ctlOf (fn : Func) (gl : Gl) (s : Sum) : Ctl := { keep := keepOf fn, turns := 400, ret := retOf fn, base := gl.length + (ptrShapes s.args).length + nSli s.args }

/-- Tables. -/
def tabS : List (Nat × Sum × Fun) → Sums
  | [], _ => none
  | (f, s, _) :: l, n => if n == f then some s else tabS l n
def tabF : List (Nat × Sum × Fun) → Funs
  | [], _ => fun _ _ => ([], [])
  | (f, _, F) :: l, n => if n == f then F else tabF l n
theorem AllOk.nil {P : Program} {gl : Gl} : AllOk P (tabF []) gl (tabS []) := fun _ _ h => by cases h
theorem AllOk.cons {P : Program} {gl : Gl} {l : List (Nat × Sum × Fun)} {f : Nat} {s : Sum} {F : Fun} (hc : match s.sl with | none => Contract P gl f s F | some p => TabContract P gl f p) (hcall : ∀ args w, (callFunc f args).run P w = .ok (.enter f args) w)
    (hin : ∀ S, s.inl = some S → s.pre = false ∧ ∀ is bs, F is bs = S.run Fun0 false is bs) (h : AllOk P (tabF l) gl (tabS l)) : AllOk P (tabF ((f, s, F) :: l)) gl (tabS ((f, s, F) :: l)) := by
  intro n t ht
  unfold tabS at ht
  unfold tabF
  by_cases e : (n == f) = true
  · rw [if_pos e] at ht ⊢
    simp only [Option.some.injEq] at ht
    simp only [beq_iff_eq] at e
    subst e
    subst ht
    exact ⟨hc, hcall, hin⟩
  · rw [if_neg e] at ht ⊢
    exact h n t ht
def withInl (s : Sum) (S : Smry) : Sum := { s with inl := some S }
def ctlL (fn : Func) (gl : Gl) (s : Sum) (l : List (Nat × LAnn)) : Ctl := { ctlOf fn gl s with loops := l }

/-! ### Loops' functions -/
def callsOf : List Em → List Nat
  | [] => []
  | .call f _ _ _ _ _ _ :: l => f :: callsOf l
  | _ :: l => callsOf l
theorem evEm_congr {Φ Φ' : Funs} : ∀ {l : List Em} {is : List Int} {bs : List Bool}, (∀ f, f ∈ callsOf l → Φ f = Φ' f) → evEm Φ l is bs = evEm Φ' l is bs
  | [], _, _, _ => rfl
  | .di _ _ :: l, is, bs, h => by unfold evEm; exact evEm_congr h
  | .db _ _ :: l, is, bs, h => by unfold evEm; exact evEm_congr h
  | .ob _ _ :: l, is, bs, h => by unfold evEm; exact evEm_congr h
  | .call f ai ab i ni b nb :: l, is, bs, h => by
    unfold evEm
    simp only
    rw [h f (by simp [callsOf])]
    exact evEm_congr fun g hg => h g (by simp [callsOf, hg])
theorem run_congr {Φ Φ' : Funs} {S : Smry} {pre : Bool} (h : ∀ f, f ∈ callsOf S.em → Φ f = Φ' f) : S.run Φ pre = S.run Φ' pre := by
  funext is bs
  unfold Smry.run
  rw [evEm_congr h]
/-- Functions, and loops', each by those behind it. -/
noncomputable def lpF : List LAnn → Funs → Funs
  | [], Φ => Φ
  | L :: l, Φ => fun n => if n == L.id then loopF (L.S.run (lpF l Φ) true) L.nI L.nB else lpF l Φ n
def notIn (n : Nat) (l : List Nat) : Bool := l.all fun m => !(m == n)
theorem notIn_spec {n : Nat} {l : List Nat} (h : notIn n l = true) {m : Nat} (hm : m ∈ l) : m ≠ n := by
  unfold notIn at h
  rw [List.all_eq_true] at h
  have := h m hm
  simpa using this
/-- No loop's number is another one's, or is called ahead. -/
def lpOk : List LAnn → Bool
  | [] => true
  | L :: l => notIn L.id (callsOf L.S.em) && (l.all fun M => !(M.id == L.id) && notIn L.id (callsOf M.S.em)) && lpOk l
theorem lpF_ok {Φ : Funs} : ∀ {l : List LAnn}, lpOk l = true → ∀ L, L ∈ l → lpF l Φ L.id = loopF (L.S.run (lpF l Φ) true) L.nI L.nB
  | [], _, L, h => by cases h
  | M :: l, hk, L, h => by
    simp only [lpOk, Bool.and_eq_true, List.all_eq_true] at hk
    obtain ⟨⟨h1, h2⟩, h3⟩ := hk
    rcases List.mem_cons.1 h with rfl | h
    · have : lpF (L :: l) Φ L.id = loopF (L.S.run (lpF l Φ) true) L.nI L.nB := by simp [lpF]
      rw [this]
      congr 1
      refine run_congr fun f hf => ?_
      have := notIn_spec h1 hf
      simp [lpF, this]
    · have h4 := h2 L h
      simp only [Bool.not_eq_true', beq_eq_false_iff_ne, ne_eq] at h4
      have : lpF (M :: l) Φ L.id = lpF l Φ L.id := by simp [lpF, h4.1]
      rw [this, lpF_ok h3 L h]
      congr 1
      refine run_congr fun f hf => ?_
      have := notIn_spec h4.2 hf
      simp [lpF, this]
theorem lpF_else {Φ : Funs} {n : Nat} : ∀ {l : List LAnn}, (l.all fun L => !(L.id == n)) = true → lpF l Φ n = Φ n
  | [], _ => rfl
  | L :: l, h => by
    simp only [List.all_cons, Bool.and_eq_true] at h
    have h1 : ¬ L.id = n := by simpa using h.1
    have h1' : (n == L.id) = false := by simpa using fun e => h1 (Eq.symm e)
    unfold lpF
    rw [h1']
    simp only [Bool.false_eq_true, if_false]
    exact lpF_else h.2
def apartT (l : List LAnn) (T : List (Nat × Sum × Fun)) : Bool := T.all fun e => l.all fun L => !(L.id == e.1)
theorem tabS_mem {n : Nat} {s : Sum} : ∀ {T : List (Nat × Sum × Fun)}, tabS T n = some s → ∃ e, e ∈ T ∧ e.1 = n
  | [], h => by cases h
  | (f, t, F) :: T, h => by
    unfold tabS at h
    split at h
    · rename_i e
      simp only [beq_iff_eq] at e
      exact ⟨_, List.mem_cons.2 (.inl rfl), e.symm⟩
    · obtain ⟨e, he, h2⟩ := tabS_mem h
      exact ⟨e, by simp [he], h2⟩
/-- With loops' functions besides. -/
theorem AllOk.loops {P : Program} {gl : Gl} {T : List (Nat × Sum × Fun)} (h : AllOk P (tabF T) gl (tabS T)) {l : List LAnn} (ha : apartT l T = true) : AllOk P (lpF l (tabF T)) gl (tabS T) := by
  intro f s hs
  obtain ⟨e, he, rfl⟩ := tabS_mem hs
  unfold apartT at ha
  rw [List.all_eq_true] at ha
  rw [lpF_else (ha e he)]
  exact h _ _ hs
theorem LoopsOk.of {Φ : Funs} {fn : Func} {gl : Gl} {s : Sum} {l : List (Nat × LAnn)} (h : lpOk (l.map (·.2)) = true) : LoopsOk (lpF (l.map (·.2)) Φ) (ctlL fn gl s l) :=
  fun p hp => lpF_ok h p.2 (List.mem_map.2 ⟨p, hp, rfl⟩)
end Go.Proofs.YtalnndmnnffnmaaGreat.Sx
/-! ## SxIn -/
set_option linter.unusedVariables false
set_option linter.unusedSimpArgs false
namespace Go.Proofs.YtalnndmnnffnmaaGreat.Sx
open Go

/-- Cells that name stretches that are known alone. -/
def okC (kn sl : Nat → Bool) : C → Bool
  | .ptr l i _ => kn i && l.all fun p => kn p.2.1
  | .pix i _ _ _ _ _ => kn i
  | .sli i _ _ _ => kn i
  | .slx i _ _ _ => sl i
  | .pxq i _ _ _ _ => sl i
  | .fn l d => (fvIds d).all kn && l.all fun p => (fvIds p.2).all kn
  | .mp _ => false
  | _ => true
def okS (kn sl : Nat → Bool) : S → Bool
  | .one _ l => l.all (okC kn sl)
  | .tup l => l.all fun p => p.2.all (okC kn sl)
  | .any => true
section
variable {kn sl : Nat → Bool} {β β' : Beta} {ρ : Env} (hk : ∀ i r, kn i = true → β i = some r → β' i = some r) (hs : ∀ i r, sl i = true → β i = some r → r.sq.isSome = true → β' i = some r)
include hk
theorem okCap_mt : ∀ {l : List (Nat × Nat)} {vs : List Value}, (l.map (·.1)).all kn = true → capMt β l vs → capMt β' l vs
  | [], [], _, _ => trivial
  | p :: l, v :: vs, h, ⟨⟨r, hr, hv⟩, h2⟩ => by
    simp only [List.map_cons, List.all_cons, Bool.and_eq_true] at h
    exact ⟨⟨r, hk _ _ h.1 hr, hv⟩, okCap_mt h.2 h2⟩
  | [], _ :: _, _, h => h.elim
  | _ :: _, [], _, h => h.elim
theorem okFv_mt {f : FV} {v : Value} (h : (fvIds f).all kn = true) (hm : fvMt β f v) : fvMt β' f v := by
  unfold fvMt at *
  cases f with
  | none => exact hm
  | some p => obtain ⟨vs, h1, h2⟩ := hm; exact ⟨vs, h1, okCap_mt hk h h2⟩
omit hk in
theorem ok_pick {l : List (B × Nat × Nat)} {i o : Nat} (h : kn i = true) (hl : (l.all fun p => kn p.2.1) = true) : kn (pick ρ l i o).1 = true := by
  induction l with
  | nil => exact h
  | cons p l ih =>
    obtain ⟨b, j, q⟩ := p
    simp only [List.all_cons, Bool.and_eq_true] at hl
    unfold pick
    split
    · exact hl.1
    · exact ih hl.2
omit hk in
theorem ok_pickF {l : List (B × FV)} {d : FV} (h : (fvIds d).all kn = true) (hl : (l.all fun p => (fvIds p.2).all kn) = true) : (fvIds (pickF ρ l d)).all kn = true := by
  induction l with
  | nil => exact h
  | cons p l ih =>
    obtain ⟨b, f⟩ := p
    simp only [List.all_cons, Bool.and_eq_true] at hl
    unfold pickF
    split
    · exact hl.1
    · exact ih hl.2
include hs
theorem okC_mt {c : C} {v : Value} (h : okC kn sl c = true) (hm : c.mt β ρ v) : c.mt β' ρ v := by
  cases c with
  | ptr l id off =>
    simp only [okC, Bool.and_eq_true] at h
    obtain ⟨r, hr, hv⟩ := hm
    exact ⟨r, hk _ _ (ok_pick h.1 h.2) hr, hv⟩
  | pix id off s len a k => obtain ⟨h1, h2, r, hr, hv⟩ := hm; exact ⟨h1, h2, r, hk _ _ h hr, hv⟩
  | sli id off len cap => obtain ⟨r, hr, hv⟩ := hm; exact ⟨r, hk _ _ h hr, hv⟩
  | slx id ks q len =>
    obtain ⟨h1, h2, h3⟩ := hm
    refine ⟨h1, h2, ?_⟩
    rcases h3 with h3 | ⟨r, cap, l, hr, hq, h4⟩
    · exact .inl h3
    · exact .inr ⟨r, cap, l, hs _ _ h hr (by rw [hq]; rfl), hq, h4⟩
  | pxq id ks q a k => obtain ⟨h1, r, l, hr, hq, h2⟩ := hm; exact ⟨h1, r, l, hs _ _ h hr (by rw [hq]; rfl), hq, h2⟩
  | fn l d =>
    simp only [okC, Bool.and_eq_true] at h
    exact okFv_mt hk (ok_pickF h.1 h.2) hm
  | mp id => simp [okC] at h
  | _ => exact hm
theorem okL_mt : ∀ {l : List C} {vs : List Value}, l.all (okC kn sl) = true → mtL β ρ l vs → mtL β' ρ l vs
  | [], [], _, _ => trivial
  | c :: l, v :: vs, h, ⟨h1, h2⟩ => by
    simp only [List.all_cons, Bool.and_eq_true] at h
    exact ⟨okC_mt hk hs h.1 h1, okL_mt h.2 h2⟩
  | [], _ :: _, _, h => h.elim
  | _ :: _, [], _, h => h.elim
theorem okCells_mt {w : World} {b : Nat} : ∀ {l : List C} {o : Nat}, l.all (okC kn sl) = true → cellsAt β ρ w b o l → cellsAt β' ρ w b o l
  | [], _, _, _ => trivial
  | c :: l, o, h, ⟨⟨v, hv, h1⟩, h2⟩ => by
    simp only [List.all_cons, Bool.and_eq_true] at h
    exact ⟨⟨v, hv, okC_mt hk hs h.1 h1⟩, okCells_mt h.2 h2⟩
theorem ok1_mt {agg : Bool} {l : List C} {v : Value} (h : l.all (okC kn sl) = true) (hm : mt1 β ρ agg l v) : mt1 β' ρ agg l v := by
  unfold mt1 at *
  cases agg
  · obtain ⟨c, rfl, h1⟩ := hm
    simp only [List.all_cons, List.all_nil, Bool.and_true] at h
    exact ⟨c, rfl, okC_mt hk hs h h1⟩
  · obtain ⟨vs, h1, h2⟩ := hm
    exact ⟨vs, h1, okL_mt hk hs h h2⟩
theorem okT_mt : ∀ {l : List (Bool × List C)} {vs : List Value}, (l.all fun p => p.2.all (okC kn sl)) = true → mtT β ρ l vs → mtT β' ρ l vs
  | [], [], _, _ => trivial
  | p :: l, v :: vs, h, ⟨h1, h2⟩ => by
    simp only [List.all_cons, Bool.and_eq_true] at h
    exact ⟨ok1_mt hk hs h.1 h1, okT_mt h.2 h2⟩
  | [], _ :: _, _, h => h.elim
  | _ :: _, [], _, h => h.elim
theorem okS_mt {s : S} {v : Value} (h : okS kn sl s = true) (hm : s.mt β ρ v) : s.mt β' ρ v := by
  cases s with
  | one agg l => exact ok1_mt hk hs h hm
  | tup l => obtain ⟨vs, h1, h2⟩ := hm; exact ⟨vs, h1, okT_mt hk hs h h2⟩
  | any => trivial
theorem okAll_mt : ∀ {xs : List S} {vs : List Value}, xs.all (okS kn sl) = true → mtAll β ρ xs vs → mtAll β' ρ xs vs
  | [], [], _, _ => trivial
  | x :: xs, v :: vs, h, ⟨h1, h2⟩ => by
    simp only [List.all_cons, Bool.and_eq_true] at h
    exact ⟨okS_mt hk hs h.1 h1, okAll_mt h.2 h2⟩
  | [], _ :: _, _, h => h.elim
  | _ :: _, [], _, h => h.elim
end

/-! ### What is handed in, what comes out -/
def argIds : List S → List Nat
  | [] => []
  | x :: xs => sIds x ++ argIds xs
def calleeHp (ng lo : Nat) (Γ : Gd) (hp : Hp) : List Nat → Hl
  | [] => []
  | i :: l => if Nat.blt i ng || !(Nat.blt i lo) then calleeHp ng lo Γ hp l else match hp i with
    | some b => if Gd.sub b.g Γ && !b.cells.isEmpty then (i, { g := [], ro := b.ro, cells := b.cells }) :: calleeHp ng lo Γ hp l else calleeHp ng lo Γ hp l
    | none => calleeHp ng lo Γ hp l
theorem calleeHp_spec {ng lo : Nat} {Γ : Gd} {hp : Hp} : ∀ {l : List Nat} {i : Nat} {b : Blk}, hpOf (calleeHp ng lo Γ hp l) i = some b → ng ≤ i ∧ i < lo ∧ b.g = [] ∧ b.cells ≠ [] ∧ ∃ b', hp i = some b' ∧ Gd.sub b'.g Γ = true ∧ b.ro = b'.ro ∧ b.cells = b'.cells
  | [], i, b, h => by simp [calleeHp, hpOf] at h
  | j :: l, i, b, h => by
    unfold calleeHp at h
    split at h
    · exact calleeHp_spec h
    · rename_i hj
      simp only [Bool.or_eq_true, Nat.blt_eq, Bool.not_eq_true', not_or, Bool.not_eq_false, Nat.not_lt] at hj
      split at h
      · rename_i b' hb'
        split at h
        · rename_i hc
          simp only [Bool.and_eq_true, Bool.not_eq_true', List.isEmpty_eq_false_iff] at hc
          unfold hpOf at h
          split at h
          · rename_i he
            simp only [beq_iff_eq] at he
            simp only [Option.some.injEq] at h
            subst he; subst h
            exact ⟨hj.1, hj.2, rfl, hc.2, b', hb', hc.1, rfl, rfl⟩
          · exact calleeHp_spec h
        · exact calleeHp_spec h
      · exact calleeHp_spec h
def hasB (h : Hl) (i : Nat) : Bool := match hpOf h i with | some _ => true | none => false
/-- The blocks that were handed in and may have been written. -/
def outOld (h : Hl) : Hl → Option (List (Nat × Blk))
  | [] => some []
  | (i, b) :: l => match outOld h l with
    | none => none
    | some r => if b.ro then some r else match hpOf h i with
      | some b' => if b'.g.isEmpty && !b'.ro then some ((i, b') :: r) else none
      | none => none
/-- New ones. -/
def isNewB (lo : Nat) (b : Blk) (i : Nat) : Bool := Nat.ble lo i && b.g.isEmpty && !b.ro
def outNew (lo : Nat) (h : Hl) : List Nat → List (Nat × Blk)
  | [] => []
  | i :: l => match hpOf h i with
    | some b => if isNewB lo b i then (i, b) :: outNew lo h l else outNew lo h l
    | none => outNew lo h l
def knNew (lo : Nat) (h : Hl) (i : Nat) : Bool := match hpOf h i with | some b => isNewB lo b i | none => false
def tupOf : List S → Option (List (Bool × List C))
  | [] => some []
  | .one agg l :: r => (tupOf r).map ((agg, l) :: ·)
  | _ => none
def tupS : List S → Option S
  | [s] => some s
  | l => (tupOf l).map S.tup
theorem tupOf_mt {β : Beta} {ρ : Env} : ∀ {l : List S} {r : List (Bool × List C)} {vs : List Value}, tupOf l = some r → mtAll β ρ l vs → mtT β ρ r vs
  | [], r, vs, h, hm => by
    simp only [tupOf, Option.some.injEq] at h
    subst h
    cases vs with
    | nil => trivial
    | cons _ _ => exact hm.elim
  | .one agg l :: r, q, vs, h, hm => by
    unfold tupOf at h
    cases hr : tupOf r with
    | none => rw [hr] at h; simp at h
    | some t =>
      rw [hr] at h
      simp only [Option.map_some, Option.some.injEq] at h
      subst h
      cases vs with
      | nil => exact hm.elim
      | cons v vs => exact ⟨hm.1, tupOf_mt hr hm.2⟩
  | .tup _ :: _, _, _, h, _ => by simp [tupOf] at h
  | .any :: _, _, _, h, _ => by simp [tupOf] at h
theorem tupS_mt {β : Beta} {ρ : Env} {l : List S} {s : S} {vs : List Value} (h : tupS l = some s) (hm : mtAll β ρ l vs) : s.mt β ρ (tupV vs) := by
  unfold tupS at h
  split at h
  · rename_i s'
    simp only [Option.some.injEq] at h
    subst h
    match vs, hm with
    | [v], ⟨h1, _⟩ => exact h1
  · rename_i hne
    cases ht : tupOf l with
    | none => rw [ht] at h; simp at h
    | some t =>
      rw [ht] at h
      simp only [Option.map_some, Option.some.injEq] at h
      subst h
      have := tupOf_mt ht hm
      match vs, hm with
      | [], _ => exact ⟨_, rfl, this⟩
      | [v], hm =>
        match l, hm, hne with
        | [s], _, hne => exact (hne s rfl).elim
      | v :: u :: vs, _ => exact ⟨_, rfl, this⟩

def knOf (ng : Nat) (hl : Hl) (i : Nat) : Bool := Nat.blt i ng || hasB hl i
def knEnd (ng lo : Nat) (hl h : Hl) (i : Nat) : Bool := knOf ng hl i || knNew lo h i
def inlOk (ng lo : Nat) (hl : Hl) (xs : List S) : Bool :=
  Nat.ble ng lo && xs.all (okS (knOf ng hl) fun i => Nat.blt i lo) && hl.all fun p => p.2.cells.all (okC (knOf ng hl) fun i => Nat.blt i lo)
def inlW (lo : Nat) (h : Hl) (old : List (Nat × Blk)) : List (Nat × Blk) := old ++ outNew lo h (dedupN (h.map (·.1)))
def inlE (ng lo : Nat) (hl h : Hl) (s : S) (w : List (Nat × Blk)) : Bool :=
  okS (knEnd ng lo hl h) (fun _ => false) s && w.all fun p => p.2.cells.all (okC (knEnd ng lo hl h) fun _ => false)
def inlSt (fn : Func) (xs : List S) (hl : Hl) : St := { tm := xs.map (fun s => { g := [], s := s }) ++ List.replicate (fn.ntmps - xs.length) anySV, hp := hl }
def inlB (P : Program) (H : Hnd) (gl : Gl) (k : Ctl) (fn : Func) (xs : List S) (lo : Nat) (body : Code) (hl : Hl) : M Res :=
  if inlOk gl.length lo hl xs then do
    let O ← M.mono (exec P H (ghOf gl 0) gl.length { k with base := lo } body (inlSt fn xs hl))
    let σ ← M.mono (endSt k.keep O)
    let rs ← M.mono (rAll P (ghOf gl 0) gl.length σ fn.results.toList)
    let s ← lift (tupS rs)
    let old ← lift (outOld σ.hp hl)
    if inlE gl.length lo hl σ.hp s (inlW lo σ.hp old) then pure { s := s, w := inlW lo σ.hp old } else M.fail
  else M.fail
def inlM (P : Program) (H : Hnd) (gl : Gl) (k : Ctl) (fn : Func) (Γ : Gd) (hp : Hp) (xs : List S) : M Res := do
  let lo ← getId
  let body ← lift fn.body
  inlB P H gl k fn xs lo body (calleeHp gl.length lo Γ hp (dedupN (reachH hp 3 (argIds xs))))
end Go.Proofs.YtalnndmnnffnmaaGreat.Sx
/-! ## SxIo -/
set_option linter.unusedVariables false
set_option linter.unusedSimpArgs false
namespace Go.Proofs.YtalnndmnnffnmaaGreat.Sx
open Go

/-- The stretches that a callee is told of. -/
def beIn (β : Beta) (lo : Nat) (hl : Hl) : Beta := fun i => match β i with
  | some r => if i < lo ∧ (r.ro = true ∨ hasB hl i = true) then some r else none
  | none => none
theorem beIn_some {β : Beta} {lo : Nat} {hl : Hl} {i : Nat} {r : Rg} : beIn β lo hl i = some r ↔ β i = some r ∧ i < lo ∧ (r.ro = true ∨ hasB hl i = true) := by
  unfold beIn
  cases h : β i with
  | none => simp
  | some q =>
    simp only
    split
    · rename_i hc
      constructor
      · intro e; cases e; exact ⟨rfl, hc⟩
      · rintro ⟨e, _⟩; exact e
    · rename_i hc
      constructor
      · intro e; cases e
      · rintro ⟨e, h2⟩; cases e; exact absurd h2 hc
/-- All stretches, behind the call. -/
def beOut (β β' : Beta) (lo hi : Nat) : Beta := fun i => if lo ≤ i ∧ i < hi then (match β' i with | some r => if r.ro then none else some r | none => none) else β i
theorem beOut_old {β β' : Beta} {lo hi i : Nat} (h : ¬ (lo ≤ i ∧ i < hi)) : beOut β β' lo hi i = β i := by unfold beOut; rw [if_neg h]
theorem beOut_new {β β' : Beta} {lo hi i : Nat} (h : lo ≤ i ∧ i < hi) {r : Rg} : beOut β β' lo hi i = some r ↔ β' i = some r ∧ r.ro = false := by
  unfold beOut
  rw [if_pos h]
  cases h : β' i with
  | none => simp
  | some q =>
    simp only
    split
    · rename_i hc
      constructor
      · intro e; cases e
      · rintro ⟨e, h2⟩; cases e; rw [hc] at h2; cases h2
    · rename_i hc
      constructor
      · intro e; cases e; exact ⟨rfl, by simpa using hc⟩
      · rintro ⟨e, _⟩; exact e
theorem hasB_some {h : Hl} {i : Nat} : hasB h i = true ↔ ∃ b, hpOf h i = some b := by
  unfold hasB
  cases hpOf h i <;> simp
theorem outOld_spec {h : Hl} : ∀ {l : Hl} {r : List (Nat × Blk)}, outOld h l = some r → (∀ p, p ∈ r → hpOf h p.1 = some p.2 ∧ p.2.g = [] ∧ p.2.ro = false ∧ p.1 ∈ l.map (·.1)) ∧ ∀ i b, (i, b) ∈ l → b.ro = false → i ∈ r.map (·.1)
  | [], r, e => by
    simp only [outOld, Option.some.injEq] at e
    subst e
    exact ⟨fun p hp => (by cases hp), fun i b hb => (by cases hb)⟩
  | (j, b0) :: l, r, e => by
    unfold outOld at e
    split at e
    · cases e
    · rename_i r' hr'
      obtain ⟨h1, h2⟩ := outOld_spec hr'
      split at e
      · rename_i hro
        simp only [Option.some.injEq] at e
        subst e
        refine ⟨fun p hp => ?_, fun i b hb hbr => ?_⟩
        · obtain ⟨a1, a2, a3, a4⟩ := h1 p hp
          exact ⟨a1, a2, a3, by simp only [List.map_cons, List.mem_cons]; exact .inr a4⟩
        · rcases List.mem_cons.1 hb with e | hb
          · cases e; rw [hro] at hbr; cases hbr
          · exact h2 i b hb hbr
      · split at e
        · rename_i b' hb'
          split at e
          · rename_i hc
            simp only [Bool.and_eq_true, List.isEmpty_iff, Bool.not_eq_true'] at hc
            simp only [Option.some.injEq] at e
            subst e
            refine ⟨fun p hp => ?_, fun i b hb hbr => ?_⟩
            · rcases List.mem_cons.1 hp with rfl | hp
              · exact ⟨hb', hc.1, hc.2, by simp⟩
              · obtain ⟨a1, a2, a3, a4⟩ := h1 p hp
                exact ⟨a1, a2, a3, by simp only [List.map_cons, List.mem_cons]; exact .inr a4⟩
            · rcases List.mem_cons.1 hb with e | hb
              · cases e; simp
              · simp only [List.map_cons, List.mem_cons]; exact .inr (h2 i b hb hbr)
          · cases e
        · cases e
theorem isNewB_spec {lo : Nat} {b : Blk} {i : Nat} (h : isNewB lo b i = true) : lo ≤ i ∧ b.g = [] ∧ b.ro = false := by
  unfold isNewB at h
  simp only [Bool.and_eq_true, Nat.ble_eq, List.isEmpty_iff, Bool.not_eq_true'] at h
  exact ⟨h.1.1, h.1.2, h.2⟩
theorem outNew_spec {lo : Nat} {h : Hl} : ∀ {l : List Nat} {p : Nat × Blk}, p ∈ outNew lo h l → hpOf h p.1 = some p.2 ∧ lo ≤ p.1 ∧ p.2.g = [] ∧ p.2.ro = false
  | [], p, hp => by cases hp
  | i :: l, p, hp => by
    unfold outNew at hp
    split at hp
    · rename_i b hb
      split at hp
      · rename_i hc
        rcases List.mem_cons.1 hp with rfl | hp
        · obtain ⟨h1, h2, h3⟩ := isNewB_spec hc
          exact ⟨hb, h1, h2, h3⟩
        · exact outNew_spec hp
      · exact outNew_spec hp
    · exact outNew_spec hp
theorem hpOf_key {h : Hl} {i : Nat} (hm : i ∈ h.map (·.1)) : ∃ b, hpOf h i = some b := by
  cases hc : hpOf h i with
  | some b => exact ⟨b, rfl⟩
  | none => exact absurd hm (hpOf_none hc)
theorem mtAll_len {β : Beta} {ρ : Env} : ∀ {xs : List S} {vs : List Value}, mtAll β ρ xs vs → xs.length = vs.length
  | [], [], _ => rfl
  | _ :: _, _ :: _, h => by simp [mtAll_len h.2]
section
variable {P : Program} {Φ : Funs} {gl : Gl}
/-- What the callee is told of holds where it is called. -/
theorem inl_rel {Γ : Gd} {hp : Hp} {xs : List S} {ρ : Env} {N : Nat} {R : List Rg} {β : Beta} {w : World} {vs : List Value} {lo : Nat} {ids : List Nat} {hl : Hl} (hhl : hl = calleeHp gl.length lo Γ hp ids) (hok : inlOk gl.length lo hl xs = true)
    (hΓ : Gd.d ρ Γ = true) (hm : mtAll β ρ xs vs) (hh : heapMt β ρ hp w) (hb : BetaOk N R β w) (hG : GB gl β w) (fn : Func) {R' : List Rg} (hR' : R' = (hl.map (·.1)).filterMap (beIn β lo hl)) :
    Rel { w0 := w, R := R', gl := gl, gr := [] } ρ (beIn β lo hl) (inlSt fn xs hl) { tmps := vs.toArray ++ Array.replicate (fn.ntmps - vs.toArray.size) undef, defers := [] } w ∧
      (∀ i b, hpOf hl i = some b → ∃ r, β i = some r ∧ beIn β lo hl i = some r ∧ r.ro = b.ro ∧ i < lo ∧ gl.length ≤ i ∧ ∃ j v, w.cell? ⟨r.blk, j, none⟩ = some v) := by
  unfold inlOk at hok
  simp only [Bool.and_eq_true, Nat.ble_eq] at hok
  obtain ⟨⟨hlo, hxs⟩, hcs⟩ := hok
  have hkn : ∀ i r, knOf gl.length hl i = true → β i = some r → beIn β lo hl i = some r := fun i r hk hi => by
    unfold knOf at hk
    simp only [Bool.or_eq_true, Nat.blt_eq] at hk
    rw [beIn_some]
    rcases hk with hk | hk
    · have := hG.2 i _ (List.getElem?_eq_getElem hk)
      rw [hi] at this
      simp only [Option.some.injEq] at this
      exact ⟨hi, by omega, .inl (by rw [this]; rfl)⟩
    · obtain ⟨b, hb'⟩ := hasB_some.1 hk
      rw [hhl] at hb'
      obtain ⟨_, h2, _⟩ := calleeHp_spec hb'
      exact ⟨hi, h2, .inr hk⟩
  have hsl : ∀ i r, Nat.blt i lo = true → β i = some r → r.sq.isSome = true → beIn β lo hl i = some r := fun i r hk hi hs => by
    rw [beIn_some]
    simp only [Nat.blt_eq] at hk
    obtain ⟨p, hp'⟩ := Option.isSome_iff_exists.1 hs
    exact ⟨hi, hk, .inl (hb.sq i r p.1 p.2 hi hp').1⟩
  have hblk : ∀ i b, hpOf hl i = some b → blkMt (beIn β lo hl) ρ w i b ∧ ∃ r, β i = some r ∧ beIn β lo hl i = some r ∧ r.ro = b.ro ∧ i < lo ∧ gl.length ≤ i ∧ ∃ j v, w.cell? ⟨r.blk, j, none⟩ = some v := fun i b hi => by
    have hi' := hi
    rw [hhl] at hi'
    obtain ⟨h1, h2, h3, h4, b', hb', hsub, hro, hc⟩ := calleeHp_spec hi'
    obtain ⟨r, hr, hl', hro', hca, hf⟩ := hh i b' hb' (Gd.sub_d hsub hΓ)
    have hin := beIn_some.2 ⟨hr, h2, .inr (hasB_some.2 ⟨b, hi⟩)⟩
    have hcb : b.cells.all (okC (knOf gl.length hl) fun i => Nat.blt i lo) = true := by
      rw [List.all_eq_true] at hcs
      exact hcs _ (hpOf_mem' hi)
    refine ⟨⟨r, hin, by rw [hl', hc], by rw [hro', hro], okCells_mt hkn hsl hcb (by rw [hc]; exact hca), fun h0 j hj => hf (by rw [← hro]; exact h0) j (by rw [← hc]; exact hj)⟩, r, hr, hin, by rw [hro', hro], h2, h1, ?_⟩
    rw [cellsAt_iff] at hca
    rw [hc] at h4
    obtain ⟨v, hv, _⟩ := hca 0 _ (List.getElem?_eq_getElem (List.length_pos_iff.2 h4))
    exact ⟨_, v, hv⟩
  refine ⟨⟨?_, fun t v ht => ?_, rfl, fun i b hi _ => (hblk i b hi).1, ?_, fun id b hb' => ?_, ⟨fun i j r q hij hi hj => ?_, fun i r hi => ?_, fun i r hi => ?_, fun i r ks l hi hs => ?_⟩, Keep.refl _ _, fun g us hg => ?_, fun j r hr => (by simp at hr)⟩, fun i b hi => (hblk i b hi).2⟩
  · simp [inlSt, mtAll_len hm]
  · have hm' := okAll_mt hkn hsl hxs hm
    have key : ∀ {xs : List S} {vs : List Value} {n : Nat} {t : Nat} {v : SV}, mtAll (beIn β lo hl) ρ xs vs → (xs.map (fun s => ({ g := [], s := s } : SV)) ++ List.replicate n anySV)[t]? = some v → v.mt (beIn β lo hl) ρ ((vs ++ List.replicate n undef).getD t undef) := by
      intro xs
      induction xs with
      | nil =>
        intro vs n t v hm ht
        simp only [List.map_nil, List.nil_append, List.getElem?_replicate] at ht
        split at ht
        · simp only [Option.some.injEq] at ht
          subst ht
          exact anySV_mt _
        · cases ht
      | cons x xs ih =>
        intro vs n t v hm ht
        cases vs with
        | nil => exact hm.elim
        | cons u vs =>
          cases t with
          | zero =>
            simp at ht
            subst ht
            exact ⟨fun _ => by simpa using hm.1, fun h => by cases h⟩
          | succ t =>
            have := ih (vs := vs) (n := n) (t := t) (v := v) hm.2 (by simpa using ht)
            simpa using this
    have hlen := mtAll_len hm
    have := key hm' ht
    rw [hlen] at this
    rw [List.getD_eq_getElem?_getD] at this
    have e : (vs.toArray ++ Array.replicate (fn.ntmps - vs.toArray.size) undef).getD t undef = ((vs ++ List.replicate (fn.ntmps - vs.length) undef)[t]?).getD undef := by
      have : (vs.toArray ++ Array.replicate (fn.ntmps - vs.toArray.size) undef) = (vs ++ List.replicate (fn.ntmps - vs.length) undef).toArray := by
        apply Array.toList_inj.1; simp
      rw [this]
      simp
    rw [e]
    exact this
  · intro id b hb' _
    obtain ⟨us, hus, _, rfl⟩ := ghOf_get hb'
    rw [Nat.sub_zero] at hus
    have hlt : id < gl.length := (List.getElem?_eq_some_iff.1 hus).1
    refine ⟨_, beIn_some.2 ⟨hG.2 id us hus, by omega, .inl rfl⟩, by simp [gRg], rfl, ?_, fun h => by cases h⟩
    rw [cellsAt_iff]
    intro j c hj
    rw [List.getElem?_map] at hj
    cases hu : us[j]? with
    | none => rw [hu] at hj; simp at hj
    | some u =>
      rw [hu] at hj
      simp only [Option.map_some, Option.some.injEq] at hj
      subst hj
      have hl := (hG.1 id us hus).2 j u hu
      exact ⟨u, by simpa [gRg] using hl.1, ofC_mt hl.2⟩
  · obtain ⟨us, _, _, rfl⟩ := ghOf_get hb'
    rfl
  · exact hb.apart i j r q hij (beIn_some.1 hi).1 (beIn_some.1 hj).1
  · exact hb.place i r (beIn_some.1 hi).1
  · obtain ⟨h1, h2, h3⟩ := beIn_some.1 hi
    rcases h3 with h3 | h3
    · exact .inl h3
    · right; right
      obtain ⟨b, hb'⟩ := hasB_some.1 h3
      refine ⟨r, ?_, rfl, Nat.le_refl _, Nat.le_refl _⟩
      rw [hR', List.mem_filterMap]
      exact ⟨i, List.mem_map.2 ⟨_, hpOf_mem' hb', rfl⟩, hi⟩
  · exact hb.sq i r ks l (beIn_some.1 hi).1 hs
  · have hlt : g < gl.length := (List.getElem?_eq_some_iff.1 hg).1
    exact beIn_some.2 ⟨hG.2 g us hg, by omega, .inl rfl⟩
/-- All that was known before, or comes new, is known behind it. -/
theorem inl_post {ρ : Env} {N : Nat} {R : List Rg} {β β' : Beta} {w w' : World} {lo hi : Nat} {hl : Hl} {xs : List S} (hok : inlOk gl.length lo hl xs = true) {σ : St} {old : List (Nat × Blk)} (hold : outOld σ.hp hl = some old) {s : S} (hend : inlE gl.length lo hl σ.hp s (inlW lo σ.hp old) = true)
    {v : Value} (hs : s.mt β' ρ v) (hb : BetaOk N R β w) (hN : N ≤ w.heap.size) (hG : GB gl β w) (hfr : ∀ i, lo ≤ i → i < hi → β i = none)
    (hknown : ∀ i b, hpOf hl i = some b → ∃ r, β i = some r ∧ beIn β lo hl i = some r ∧ r.ro = b.ro ∧ i < lo ∧ gl.length ≤ i ∧ ∃ j v, w.cell? ⟨r.blk, j, none⟩ = some v)
    {R2 : List Rg} (hR2 : ∀ r, r ∈ R2 → ∃ i b, hpOf hl i = some b ∧ β i = some r ∧ r.ro = false ∧ b.ro = false ∧ ∃ j v, w.cell? ⟨r.blk, j, none⟩ = some v) (hE : Ext (beIn β lo hl) β') {a : Act} (hrel : Rel { w0 := w, R := R2, gl := gl, gr := [] } ρ β' σ a w') (hf' : ∀ i, hi ≤ i → β' i = none) :
    RPost N R ρ β w lo hi { s := s, w := inlW lo σ.hp old } v w' := by
  unfold inlOk at hok
  simp only [Bool.and_eq_true, Nat.ble_eq] at hok
  obtain ⟨⟨hlo, _⟩, _⟩ := hok
  unfold inlE at hend
  simp only [Bool.and_eq_true] at hend
  obtain ⟨hend1, hend2⟩ := hend
  obtain ⟨ho1, ho2⟩ := outOld_spec hold
  have hkn : ∀ i r, knEnd gl.length lo hl σ.hp i = true → β' i = some r → beOut β β' lo hi i = some r := fun i r hk hi' => by
    unfold knEnd knOf at hk
    simp only [Bool.or_eq_true, Nat.blt_eq] at hk
    rcases hk with (hk | hk) | hk
    · rw [beOut_old (by omega)]
      have e1 := hrel.gl i _ (List.getElem?_eq_getElem hk)
      have e2 := hG.2 i _ (List.getElem?_eq_getElem hk)
      rw [hi'] at e1
      rw [e2, e1]
    · obtain ⟨b, hb'⟩ := hasB_some.1 hk
      obtain ⟨r', e1, e2, e3, e4, _⟩ := hknown i b hb'
      rw [beOut_old (by omega), e1]
      have := hE i r' e2
      rw [hi'] at this
      exact this.symm
    · unfold knNew at hk
      split at hk
      · rename_i b hb'
        obtain ⟨e1, e2, e3⟩ := isNewB_spec hk
        have hlt : i < hi := by
          rcases Nat.lt_or_ge i hi with h | h
          · exact h
          · rw [hf' i h] at hi'; cases hi'
        obtain ⟨r', g1, _, g3, _⟩ := hrel.hm i b hb' (by rw [e2]; rfl)
        rw [hi'] at g1
        cases g1
        exact (beOut_new ⟨e1, hlt⟩).2 ⟨hi', by rw [g3, e3]⟩
      · cases hk
  have hsl : ∀ i r, (fun _ => false) i = true → β' i = some r → r.sq.isSome = true → beOut β β' lo hi i = some r := fun i r hk => by cases hk
  have hsz := hrel.kp.size
  simp only at hsz
  -- a new stretch is new, or within one that may be written
  have hnew : ∀ i q, lo ≤ i → i < hi → β' i = some q → q.ro = false → w.heap.size ≤ q.blk ∨ ∃ i0 q0, i0 < lo ∧ β i0 = some q0 ∧ β' i0 = some q0 ∧ q0.ro = false ∧ q0.blk = q.blk ∧ q0.off ≤ q.off ∧ q.off + q.len ≤ q0.off + q0.len := fun i q h1 h2 h3 h4 => by
    rcases hrel.bo.may i q h3 with h | h
    · rw [h4] at h; cases h
    · rcases h with h | ⟨q0, hq0, e1, e2, e3⟩
      · exact .inl h
      · right
        obtain ⟨i0, b0, g1, g2, g3, _⟩ := hR2 q0 hq0
        obtain ⟨r', k1, k2, _, k4, _⟩ := hknown i0 b0 g1
        rw [g2] at k1
        cases k1
        exact ⟨i0, q0, k4, g2, hE _ _ k2, g3, e1, e2, e3⟩
  have hold_new : ∀ i j r q, ¬ (lo ≤ i ∧ i < hi) → (lo ≤ j ∧ j < hi) → β i = some r → β' j = some q → q.ro = false → r.apart q := fun i j r q h1 h2 h3 h4 h5 => by
    rcases hnew j q h2.1 h2.2 h4 h5 with h | ⟨i0, q0, e0, e1, e2, e3, e4, e5, e6⟩
    · left
      have := hb.place i r h3
      omega
    · by_cases hi0 : i = i0
      · subst hi0
        rw [h3] at e1
        cases e1
        exact (hrel.bo.apartW (by omega) e2 h4 e3)
      · have := Rg.apart_symm (hb.apartW (i := i0) (j := i) (fun e => hi0 e.symm) e1 h3 e3)
        unfold Rg.apart at *
        omega
  have hb2 : BetaOk N R β w' := hb.keep (W := R2) (fun r hr => by obtain ⟨i, b, _, e2, e3, _⟩ := hR2 r hr; exact ⟨i, e2, e3⟩) hrel.kp
  refine ⟨beOut β β' lo hi, ⟨fun i r hi' => ?_, ⟨fun i j r q hij hi' hj => ?_, fun i r hi' => ?_, fun i r hi' => ?_, fun i r ks l hi' hsq => ?_⟩, ⟨R2, fun r hr => ?_, hrel.kp⟩, fun i hi' => beOut_old (by omega)⟩, okS_mt hkn hsl hend1 hs, fun p hp => ?_⟩
  · by_cases h : lo ≤ i ∧ i < hi
    · rw [hfr i h.1 h.2] at hi'; cases hi'
    · rw [beOut_old h]; exact hi'
  · by_cases h1 : lo ≤ i ∧ i < hi
    · obtain ⟨a1, a2⟩ := (beOut_new h1).1 hi'
      by_cases h2 : lo ≤ j ∧ j < hi
      · obtain ⟨b1, b2⟩ := (beOut_new h2).1 hj
        exact .inr (hrel.bo.apartW hij a1 b1 a2)
      · rw [beOut_old h2] at hj
        exact .inr (Rg.apart_symm (hold_new j i q r h2 h1 hj a1 a2))
    · rw [beOut_old h1] at hi'
      by_cases h2 : lo ≤ j ∧ j < hi
      · obtain ⟨b1, b2⟩ := (beOut_new h2).1 hj
        exact .inr (hold_new i j r q h1 h2 hi' b1 b2)
      · rw [beOut_old h2] at hj
        exact hb.apart i j r q hij hi' hj
  · by_cases h1 : lo ≤ i ∧ i < hi
    · exact hrel.bo.place i r ((beOut_new h1).1 hi').1
    · rw [beOut_old h1] at hi'
      exact hb2.place i r hi'
  · by_cases h1 : lo ≤ i ∧ i < hi
    · obtain ⟨a1, a2⟩ := (beOut_new h1).1 hi'
      rcases hnew i r h1.1 h1.2 a1 a2 with h | ⟨i0, q0, e0, e1, e2, e3, e4, e5, e6⟩
      · exact .inr (.inl (by omega))
      · rcases hb.may i0 q0 e1 with h | h
        · rw [e3] at h; cases h
        · right
          rcases h with h | ⟨q, hq, g1, g2, g3⟩
          · exact .inl (by omega)
          · exact .inr ⟨q, hq, by omega, by omega, by omega⟩
    · rw [beOut_old h1] at hi'
      exact hb.may i r hi'
  · by_cases h1 : lo ≤ i ∧ i < hi
    · obtain ⟨a1, a2⟩ := (beOut_new h1).1 hi'
      have := (hrel.bo.sq i r ks l a1 hsq).1
      rw [a2] at this
      cases this
    · rw [beOut_old h1] at hi'
      exact hb2.sq i r ks l hi' hsq
  · obtain ⟨i, b, e1, e2, e3, e4, e5⟩ := hR2 r hr
    refine ⟨i, ?_, e2, e3, e5⟩
    have := ho2 i b (hpOf_mem' e1) e4
    simp only [inlW, List.map_append, List.mem_append]
    exact .inl this
  · have hcell : p.2.cells.all (okC (knEnd gl.length lo hl σ.hp) fun _ => false) = true := (List.all_eq_true.1 hend2) p hp
    have key : hpOf σ.hp p.1 = some p.2 ∧ p.2.g = [] ∧ knEnd gl.length lo hl σ.hp p.1 = true := by
      simp only [inlW, List.mem_append] at hp
      rcases hp with hp | hp
      · obtain ⟨a1, a2, a3, a4⟩ := ho1 p hp
        refine ⟨a1, a2, ?_⟩
        unfold knEnd knOf
        obtain ⟨b, hb'⟩ := hpOf_key a4
        simp [hasB_some.2 ⟨b, hb'⟩]
      · obtain ⟨a1, a2, a3, a4⟩ := outNew_spec hp
        refine ⟨a1, a3, ?_⟩
        unfold knEnd knNew
        rw [a1]
        simp [isNewB, a2, a3, a4]
    obtain ⟨k1, k2, k3⟩ := key
    obtain ⟨r, hr, hl', hro, hca, hfz⟩ := hrel.hm p.1 p.2 k1 (by rw [k2]; rfl)
    exact ⟨r, hkn p.1 r k3 hr, hl', hro, okCells_mt hkn hsl hcell hca, hfz⟩
theorem inl_ok {H : Hnd} (hH : HOk P Φ gl H) {f : Nat} {fn : Func} (hf : P.funcs[f]? = some fn) (hn : (fn.name == "runtime.NumGoroutine") = false) {k : Ctl} (hK : LoopsOk Φ k) {Γ : Gd} {hp : Hp} {xs : List S} {ρ : Env} {c c' : Ctr} {res : Res} {out : List Em}
    (he : inlM P H gl k fn Γ hp xs c = some (res, c', out)) (hg : Good Φ ρ out) (hΓ : Gd.d ρ Γ = true) {N : Nat} {R : List Rg} {β : Beta} {w : World} {vs : List Value} (hm : mtAll β ρ xs vs) (hh : heapMt β ρ hp w) (hb : BetaOk N R β w) (hN : N ≤ w.heap.size)
    (hG : GB gl β w) (hfr : ∀ i, c.id ≤ i → i < c'.id → β i = none) :
    (∀ args w, (callFunc f args).run P w = .ok (.enter f args) w) ∧ Calls P f vs.toArray w fun e w' => ∃ v, e = .returned v ∧ RPost N R ρ β w c.id c'.id res v w' := by
  unfold inlM at he
  obtain ⟨lo, c1, o1, c2, o2, y, h1, h2, he⟩ := M.bind_inv he
  simp only [Prod.mk.injEq] at he
  obtain ⟨rfl, rfl, rfl⟩ := he
  simp only [getId, Option.some.injEq, Prod.mk.injEq] at h1
  obtain ⟨rfl, rfl, rfl⟩ := h1
  obtain ⟨body, c3, o3, c4, o4, y, h3, h4, he⟩ := M.bind_inv h2
  simp only [Prod.mk.injEq] at he
  obtain ⟨rfl, rfl, rfl⟩ := he
  obtain ⟨body', hbody, he⟩ := lift_inv h3
  simp only [Prod.mk.injEq] at he
  obtain ⟨rfl, rfl, rfl⟩ := he
  obtain ⟨hl, hhl⟩ : ∃ hl, hl = calleeHp gl.length c3.id Γ hp (dedupN (reachH hp 3 (argIds xs))) := ⟨_, rfl⟩
  rw [← hhl] at h4
  unfold inlB at h4
  split at h4
  · rename_i hok
    obtain ⟨O, c5, o5, c6, o6, y, h5, h6, he⟩ := M.bind_inv h4
    simp only [Prod.mk.injEq] at he
    obtain ⟨rfl, rfl, rfl⟩ := he
    obtain ⟨σ, c7, o7, c8, o8, y, h7, h8, he⟩ := M.bind_inv h6
    simp only [Prod.mk.injEq] at he
    obtain ⟨rfl, rfl, rfl⟩ := he
    obtain ⟨rs, c9, o9, c10, o10, y, h9, h10, he⟩ := M.bind_inv h8
    simp only [Prod.mk.injEq] at he
    obtain ⟨rfl, rfl, rfl⟩ := he
    obtain ⟨s, c11, o11, c12, o12, y, h11, h12, he⟩ := M.bind_inv h10
    simp only [Prod.mk.injEq] at he
    obtain ⟨rfl, rfl, rfl⟩ := he
    obtain ⟨s', hts, he⟩ := lift_inv h11
    simp only [Prod.mk.injEq] at he
    obtain ⟨rfl, rfl, rfl⟩ := he
    obtain ⟨old, c13, o13, c14, o14, y, h13, h14, he⟩ := M.bind_inv h12
    simp only [Prod.mk.injEq] at he
    obtain ⟨rfl, rfl, rfl⟩ := he
    obtain ⟨old', hold, he⟩ := lift_inv h13
    simp only [Prod.mk.injEq] at he
    obtain ⟨rfl, rfl, rfl⟩ := he
    split at h14
    · rename_i hend
      have he := M.pure_inv h14
      simp only [Prod.mk.injEq] at he
      obtain ⟨rfl, rfl, rfl⟩ := he
      obtain ⟨h5, le5⟩ := mono_inv h5
      obtain ⟨h7, le7⟩ := mono_inv h7
      obtain ⟨h9, le9⟩ := mono_inv h9
      simp only at le5 le7 le9
      simp only [Good.append] at hg
      obtain ⟨_, _, g5, g7, g9, _⟩ := hg
      obtain ⟨R', hR'⟩ : ∃ R', R' = (hl.map (·.1)).filterMap (beIn β c3.id hl) := ⟨_, rfl⟩
      obtain ⟨hrel, hknown⟩ := inl_rel (Γ := Γ) (hp := hp) hhl hok hΓ hm hh hb hG fn hR'
      have hRm : ∀ r, r ∈ R' → ∃ i b, hpOf hl i = some b ∧ β i = some r ∧ r.ro = b.ro ∧ ∃ j v, w.cell? ⟨r.blk, j, none⟩ = some v := fun r hr => by
        rw [hR', List.mem_filterMap] at hr
        obtain ⟨i, hi, hβ⟩ := hr
        obtain ⟨b, hb'⟩ := hpOf_key hi
        obtain ⟨r', e1, e2, e3, e4, e5, e6⟩ := hknown i b hb'
        rw [e2] at hβ
        cases hβ
        exact ⟨i, b, hb', e1, e3, e6⟩
      -- of these, what may be written
      obtain ⟨R2, hR2⟩ : ∃ R2, R2 = R'.filter fun r => !r.ro := ⟨_, rfl⟩
      have hR2m : ∀ r, r ∈ R2 → ∃ i b, hpOf hl i = some b ∧ β i = some r ∧ r.ro = false ∧ b.ro = false ∧ ∃ j v, w.cell? ⟨r.blk, j, none⟩ = some v := fun r hr => by
        rw [hR2, List.mem_filter] at hr
        obtain ⟨i, b, e1, e2, e3, e4⟩ := hRm r hr.1
        have : r.ro = false := by simpa using hr.2
        exact ⟨i, b, e1, e2, this, by rw [← e3]; exact this, e4⟩
      have hrel2 : Rel { w0 := w, R := R2, gl := gl, gr := [] } ρ (beIn β c3.id hl) (inlSt fn xs hl) { tmps := vs.toArray ++ Array.replicate (fn.ntmps - vs.toArray.size) undef, defers := [] } w := by
        refine ⟨hrel.size, hrel.slot, hrel.df, hrel.hm, hrel.gm, hrel.gro, ⟨hrel.bo.apart, hrel.bo.place, fun i r hi => ?_, hrel.bo.sq⟩, Keep.refl _ _, hrel.gl, hrel.ra⟩
        obtain ⟨e1, e2, e3⟩ := beIn_some.1 hi
        cases hro : r.ro with
        | true => exact .inl rfl
        | false =>
          rcases e3 with e3 | e3
          · rw [hro] at e3; cases e3
          · right; right
            obtain ⟨b, hb'⟩ := hasB_some.1 e3
            refine ⟨r, ?_, rfl, Nat.le_refl _, Nat.le_refl _⟩
            rw [hR2, List.mem_filter]
            refine ⟨?_, by simp [hro]⟩
            rw [hR', List.mem_filterMap]
            exact ⟨i, List.mem_map.2 ⟨_, hpOf_mem' hb', rfl⟩, hi⟩
      have hapG : ∀ r, r ∈ R2 → ∀ (g : Nat) (us : List Value), gl[g]? = some us → r.apart (gRg g us) := fun r hr g us hgu => by
        obtain ⟨i, b, e1, e2, e3, _⟩ := hR2m r hr
        refine hb.apartW (fun e => ?_) e2 (hG.2 g us hgu) e3
        subst e
        rw [hG.2 _ us hgu] at e2
        cases e2
        cases e3
      have hGl : ∀ w', Keep R2 w w' → Laid gl w' := by
        intro w' hk g us hgu
        obtain ⟨e1, e2⟩ := hG.1 g us hgu
        refine ⟨by have := hk.size; omega, fun j v hj => ?_⟩
        obtain ⟨e3, e4⟩ := e2 j v hj
        refine ⟨(hk.cell _ e1 fun r hr hin => ?_).trans e3, e4⟩
        have := hapG r hr g us hgu
        have hlt := (List.getElem?_eq_some_iff.1 hj).1
        unfold inRg at hin
        unfold Rg.apart gRg at this
        simp only at hin this
        omega
      have hfresh : Fresh (beIn β c3.id hl) c3 := fun i hi => by
        cases hx : beIn β c3.id hl i with
        | none => rfl
        | some r => have := (beIn_some.1 hx).2.1; omega
      have hK' : LoopsOk Φ { k with base := c3.id } := hK
      refine ⟨callable_of hf hn (by rw [hbody]; rfl), ?_⟩
      have hrun := exec_ok (x := { w0 := w, R := R2, gl := gl, gr := [] }) hH hGl { k with base := c3.id } hK' body ρ _ _ _ O _ h5 g5 (beIn β c3.id hl) _ w hrel2 hfresh
        (bodyPost P fn fun e w' => ∃ v, e = .returned v ∧ RPost N R ρ β w c3.id c'.id { s := s, w := inlW c3.id σ.hp old } v w') fun e a' w' K hk hO => ?_
      · exact calls_of_wp hf hbody hrun
      · obtain ⟨hKK, β', hE, hR, hF⟩ := endSt_snd k.keep O _ _ _ _ h7 g7 (beIn β c3.id hl) c5 K a' w' hO
        obtain ⟨us, hus, hum⟩ := rAll_snd (P := P) (x := { w0 := w, R := R2, gl := gl, gr := [] }) σ fn.results.toList _ _ _ _ h9 g9 β' a' w' hR
        have hres := results_run hus
        have hfin : a'.defers = [] ∧ ∃ v, (results fn a'.tmps).run P w' = .ok v w' ∧ ∃ v', Ending.returned v = .returned v' ∧ RPost N R ρ β w c3.id c'.id { s := s, w := inlW c3.id σ.hp old } v' w' :=
          ⟨hR.df, _, hres, _, rfl, inl_post hok hold hend (tupS_mt hts hum) hb hN hG hfr hknown hR2m hE hR (fun i hi => hF i (by omega))⟩
        rcases hKK with rfl | rfl
        · rw [kdOf_n hk]
          exact hfin
        · cases e <;> simp only [kdOf, Option.some.injEq] at hk <;> (try (cases hk; done))
          exact hfin
    · simp [M.fail] at h14
  · simp [M.fail] at h4
end
end Go.Proofs.YtalnndmnnffnmaaGreat.Sx
/-! ## SxIp -/
set_option linter.unusedVariables false
set_option linter.unusedSimpArgs false
namespace Go.Proofs.YtalnndmnnffnmaaGreat.Sx
open Go

def ctlI (fn : Func) : Ctl := { keep := keepOf fn, turns := 400, ret := retOf fn, base := 0 }
/-- These functions are entered, to such a depth; others are met by contract. -/
def hndI (P : Program) (gl : Gl) (I : List Nat) (H : Hnd) : Nat → Hnd
  | 0 => H
  | n + 1 => fun f Γ hp xs => if I.contains f then (match P.funcs[f]? with
      | some fn => inlM P (hndI P gl I H n) gl (ctlI fn) fn Γ hp xs
      | none => M.fail) else H f Γ hp xs
def nameOk (P : Program) (I : List Nat) : Bool := I.all fun f => match P.funcs[f]? with
  | some fn => !(fn.name == "runtime.NumGoroutine")
  | none => true
theorem hndI_ok {P : Program} {Φ : Funs} {gl : Gl} {I : List Nat} {H : Hnd} (hH : HOk P Φ gl H) (hI : nameOk P I = true) : ∀ n, HOk P Φ gl (hndI P gl I H n)
  | 0 => hH
  | n + 1 => by
    intro f Γ hp xs ρ c res c' out he hg hΓ N R β w vs hm hh hb hN hG hf
    unfold hndI at he
    by_cases hc : I.contains f = true
    · rw [if_pos hc] at he
      cases hfn : P.funcs[f]? with
      | none => rw [hfn] at he; simp [M.fail] at he
      | some fn =>
        rw [hfn] at he
        have hn : (fn.name == "runtime.NumGoroutine") = false := by
          unfold nameOk at hI
          rw [List.all_eq_true] at hI
          have := hI f (by simpa using hc)
          rw [hfn] at this
          simpa using this
        exact inl_ok (hndI_ok hH hI n) hfn hn (LoopsOk.nil rfl) he hg hΓ hm hh hb hN hG hf
    · rw [if_neg hc] at he
      exact hH f Γ hp xs ρ c res c' out he hg hΓ N R β w vs hm hh hb hN hG hf
/-- By contract, and in place. -/
def hnd (P : Program) (gl : Gl) (I : List Nat) (X : Sums) : Hnd := hndI P gl I (hnd0 X) 12
theorem hnd_ok {P : Program} {Φ : Funs} {gl : Gl} {X : Sums} (hX : AllOk P Φ gl X) {I : List Nat} (hI : nameOk P I = true) : HOk P Φ gl (hnd P gl I X) := hndI_ok (hnd0_ok hX) hI 12

/-! ### What is owed and holds by itself: its conditions cannot all hold -/
def defB (n : Nat) : List Em → Option RB
  | [] => none
  | .db m r :: l => if m == n then some r else defB n l
  | _ :: l => defB n l
theorem defB_spec {Φ : Funs} {ρ : Env} {n : Nat} {r : RB} : ∀ {l : List Em}, defB n l = some r → (∀ e, e ∈ l → match e with | .ob _ _ => True | e => e.ok Φ ρ) → ρ.b n = r.d ρ
  | e :: l, h, hg => by
    unfold defB at h
    split at h
    · rename_i e0; cases e0
    · rename_i m r' l' e0
      simp only [List.cons.injEq] at e0
      obtain ⟨rfl, rfl⟩ := e0
      split at h
      · rename_i hm
        simp only [beq_iff_eq] at hm
        simp only [Option.some.injEq] at h
        subst hm; subst h
        exact hg (.db m r') (by simp)
      · exact defB_spec h fun e he => hg e (by simp [he])
    · rename_i e' l' _ e0
      simp only [List.cons.injEq] at e0
      obtain ⟨rfl, rfl⟩ := e0
      exact defB_spec h fun e he => hg e (by simp [he])
abbrev Lits := List (Nat × Bool)
def litOf (n : Nat) : Lits → Option Bool
  | [] => none
  | (m, b) :: l => if m == n then some b else litOf n l
def knB (k : Lits) : B → Option Bool
  | .c b => some b
  | .v n => litOf n k
def addB (k : Lits) (b : B) (v : Bool) : List (B × Bool) := match knB k b with
  | some w => if w == v then [] else [(.c (!v), v)]
  | none => [(b, v)]
/-- What follows of a definition's worth. -/
def foll (k : Lits) (v : Bool) : RB → List (B × Bool)
  | .not a => addB k a (!v)
  | .and a b => if v then addB k a true ++ addB k b true else match knB k a, knB k b with
    | some true, _ => addB k b false
    | _, some true => addB k a false
    | _, _ => []
  | .or a b => if v then (match knB k a, knB k b with
    | some false, _ => addB k b true
    | _, some false => addB k a true
    | _, _ => []) else addB k a false ++ addB k b false
  | .eqb a b => match knB k a, knB k b with
    | some x, _ => addB k b (v == x)
    | _, some y => addB k a (v == y)
    | _, _ => []
  | .ite c a b => match knB k c with
    | some true => addB k a v
    | some false => addB k b v
    | none => match knB k a, knB k b with
      | some x, some y => if x == v then (if y == v then [] else addB k c true) else (if y == v then addB k c false else [(.c (!v), v)])
      | some x, none => if x == v then [] else addB k c false ++ addB k b v
      | none, some y => if y == v then [] else addB k c true ++ addB k a v
      | none, none => []
  | _ => []
/-- A comparison, as one of three. -/
def cmBase : BinOp → Option (BinOp × Bool)
  | .lss => some (.lss, true)
  | .geq => some (.lss, false)
  | .gtr => some (.gtr, true)
  | .leq => some (.gtr, false)
  | .eql => some (.eql, true)
  | .neq => some (.eql, false)
  | _ => none
abbrev Cms := List (BinOp × A × A × Bool)
/-- A comparison that is known: against the ones before. -/
def cmBad (o : BinOp) (a b : A) (v : Bool) : Cms → Bool
  | [] => false
  | (p, c, d, w) :: l => (p == o && c.eq a && d.eq b && !(w == v)) || cmBad o a b v l
def cmFact (r : RB) (v : Bool) : Option (BinOp × A × A × Bool) := match r with
  | .cm op a b => match cmBase op with
    | some (o, k) => some (o, a, b, k == v)
    | none => none
  | _ => none
/-- Can these not all hold? 'new': what is still to be looked at. -/
def refute (em : List Em) : Nat → Cms → Lits → List (B × Bool) → Bool
  | 0, _, _, _ => false
  | _ + 1, _, _, [] => false
  | n + 1, q, k, (.c b, v) :: l => if b == v then refute em n q k l else true
  | n + 1, q, k, (.v m, v) :: l => match litOf m k with
    | some w => if w == v then refute em n q k l else true
    | none => match defB m em with
      | some r => match cmFact r v with
        | some (o, a, b, w) => cmBad o a b w q || refute em n ((o, a, b, w) :: q) ((m, v) :: k) l
        | none => refute em n q ((m, v) :: k) (foll ((m, v) :: k) v r ++ l)
      | none => refute em n q ((m, v) :: k) l
def CmsOk (ρ : Env) (q : Cms) : Prop := ∀ p, p ∈ q → cmB p.1 (p.2.1.d ρ) (p.2.2.1.d ρ) = p.2.2.2
theorem cmBase_spec {op o : BinOp} {k : Bool} (h : cmBase op = some (o, k)) (x y : Int) : cmB op x y = (k == cmB o x y) := by
  cases op <;> simp only [cmBase, Option.some.injEq, Prod.mk.injEq] at h <;> (try (cases h; done)) <;> obtain ⟨rfl, rfl⟩ := h
  · cases hb : cmB .eql x y <;> rfl
  · show (!(x == y)) = (false == (x == y)); cases (x == y) <;> rfl
  · cases hb : cmB .lss x y <;> rfl
  · show decide (x ≤ y) = (false == decide (x > y))
    by_cases h : x ≤ y
    · have : ¬ x > y := by omega
      simp [h, this]
    · have : x > y := by omega
      simp [h, this]
  · cases hb : cmB .gtr x y <;> rfl
  · show decide (x ≥ y) = (false == decide (x < y))
    by_cases h : x ≥ y
    · have : ¬ x < y := by omega
      simp [h, this]
    · have : x < y := by omega
      simp [h, this]
theorem cmFact_spec {ρ : Env} {r : RB} {v : Bool} {p : BinOp × A × A × Bool} (h : cmFact r v = some p) (hr : r.d ρ = v) : cmB p.1 (p.2.1.d ρ) (p.2.2.1.d ρ) = p.2.2.2 := by
  unfold cmFact at h
  split at h
  · rename_i op a b
    split at h
    · rename_i o k hb
      simp only [Option.some.injEq] at h
      subst h
      simp only
      have := cmBase_spec hb (a.d ρ) (b.d ρ)
      simp only [RB.d] at hr
      rw [hr] at this
      rw [this]
      cases k <;> cases cmB o (a.d ρ) (b.d ρ) <;> rfl
    · cases h
  · cases h
theorem cmBad_spec {ρ : Env} {o : BinOp} {a b : A} {v : Bool} : ∀ {q : Cms}, cmBad o a b v q = true → CmsOk ρ q → cmB o (a.d ρ) (b.d ρ) = v → False
  | (p, c, d, w) :: l, h, hq, hv => by
    simp only [cmBad, Bool.or_eq_true, Bool.and_eq_true, beq_iff_eq, Bool.not_eq_true', beq_eq_false_iff_ne, ne_eq] at h
    rcases h with ⟨⟨⟨rfl, h1⟩, h2⟩, h3⟩ | h
    · have := hq (p, c, d, w) (by simp)
      simp only at this
      rw [A.eq_sound h1, A.eq_sound h2, hv] at this
      exact h3 this.symm
    · exact cmBad_spec h (fun p hp => hq p (by simp [hp])) hv
def LitsOk (ρ : Env) (k : Lits) : Prop := ∀ n b, litOf n k = some b → ρ.b n = b
theorem knB_spec {ρ : Env} {k : Lits} (hk : LitsOk ρ k) {b : B} {v : Bool} (h : knB k b = some v) : b.d ρ = v := by
  cases b with
  | v n => exact hk n v h
  | c x => simp only [knB, Option.some.injEq] at h; exact h
theorem addB_spec {ρ : Env} {k : Lits} (hk : LitsOk ρ k) {b : B} {v : Bool} (h : b.d ρ = v) : ∀ p, p ∈ addB k b v → p.1.d ρ = p.2 := by
  intro p hp
  unfold addB at hp
  split at hp
  · rename_i w hw
    have := knB_spec hk hw
    rw [h] at this
    subst this
    simp at hp
  · simp only [List.mem_singleton] at hp
    subst hp
    exact h
theorem foll_spec {ρ : Env} {k : Lits} (hk : LitsOk ρ k) {v : Bool} {r : RB} (h : r.d ρ = v) : ∀ p, p ∈ foll k v r → p.1.d ρ = p.2 := by
  cases r with
  | not a =>
    intro p hp
    simp only [foll] at hp
    exact addB_spec hk (by simp only [RB.d] at h; rw [← h]; simp) p hp
  | and a b =>
    intro p hp
    simp only [RB.d] at h
    simp only [foll] at hp
    split at hp
    · rename_i hv
      subst hv
      simp only [Bool.and_eq_true] at h
      rcases List.mem_append.1 hp with hp | hp
      · exact addB_spec hk h.1 p hp
      · exact addB_spec hk h.2 p hp
    · rename_i hv
      have hv : v = false := by simpa using hv
      subst hv
      split at hp
      · rename_i ha
        rw [knB_spec hk ha] at h
        exact addB_spec hk (by simpa using h) p hp
      · rename_i hb _
        rw [knB_spec hk hb] at h
        exact addB_spec hk (by simpa using h) p hp
      · cases hp
  | or a b =>
    intro p hp
    simp only [RB.d] at h
    simp only [foll] at hp
    split at hp
    · rename_i hv
      subst hv
      split at hp
      · rename_i ha
        rw [knB_spec hk ha] at h
        exact addB_spec hk (by simpa using h) p hp
      · rename_i hb _
        rw [knB_spec hk hb] at h
        exact addB_spec hk (by simpa using h) p hp
      · cases hp
    · rename_i hv
      have hv : v = false := by simpa using hv
      subst hv
      simp only [Bool.or_eq_false_iff] at h
      rcases List.mem_append.1 hp with hp | hp
      · exact addB_spec hk h.1 p hp
      · exact addB_spec hk h.2 p hp
  | eqb a b =>
    intro p hp
    simp only [RB.d] at h
    simp only [foll] at hp
    split at hp
    · rename_i x ha
      rw [knB_spec hk ha] at h
      refine addB_spec hk ?_ p hp
      rw [← h]
      cases x <;> cases b.d ρ <;> rfl
    · rename_i y hb _
      rw [knB_spec hk hb] at h
      refine addB_spec hk ?_ p hp
      rw [← h]
      cases y <;> cases a.d ρ <;> rfl
    · cases hp
  | ite c a b =>
    intro p hp
    simp only [RB.d] at h
    simp only [foll] at hp
    split at hp
    · rename_i hc
      rw [knB_spec hk hc] at h
      exact addB_spec hk (by simpa using h) p hp
    · rename_i hc
      rw [knB_spec hk hc] at h
      exact addB_spec hk (by simpa using h) p hp
    · split at hp
      · rename_i x y ha hb
        rw [knB_spec hk ha, knB_spec hk hb] at h
        split at hp
        · rename_i hx
          simp only [beq_iff_eq] at hx
          split at hp
          · cases hp
          · rename_i hy
            refine addB_spec hk ?_ p hp
            cases hcd : c.d ρ with
            | true => rfl
            | false => rw [hcd] at h; simp at h; rw [h] at hy; simp at hy
        · rename_i hx
          split at hp
          · rename_i hy
            refine addB_spec hk ?_ p hp
            cases hcd : c.d ρ with
            | false => rfl
            | true => rw [hcd] at h; simp at h; rw [h] at hx; simp at hx
          · rename_i hy
            exfalso
            cases hcd : c.d ρ <;> rw [hcd] at h <;> simp at h
            · rw [h] at hy; simp at hy
            · rw [h] at hx; simp at hx
      · rename_i x ha hb
        rw [knB_spec hk ha] at h
        split at hp
        · cases hp
        · rename_i hx
          have hcd : c.d ρ = false := by
            cases hcd : c.d ρ with
            | false => rfl
            | true => rw [hcd] at h; simp at h; rw [h] at hx; simp at hx
          rw [hcd] at h
          rcases List.mem_append.1 hp with hp | hp
          · exact addB_spec hk hcd p hp
          · exact addB_spec hk (by simpa using h) p hp
      · rename_i y ha hb
        rw [knB_spec hk hb] at h
        split at hp
        · cases hp
        · rename_i hy
          have hcd : c.d ρ = true := by
            cases hcd : c.d ρ with
            | true => rfl
            | false => rw [hcd] at h; simp at h; rw [h] at hy; simp at hy
          rw [hcd] at h
          rcases List.mem_append.1 hp with hp | hp
          · exact addB_spec hk hcd p hp
          · exact addB_spec hk (by simpa using h) p hp
      · cases hp
  | _ => intro p hp; cases hp
theorem refute_spec {Φ : Funs} {ρ : Env} {em : List Em} (hg : ∀ e, e ∈ em → match e with | .ob _ _ => True | e => e.ok Φ ρ) : ∀ {n : Nat} {q : Cms} {k : Lits} {l : List (B × Bool)}, refute em n q k l = true → CmsOk ρ q → LitsOk ρ k → (∀ p, p ∈ l → p.1.d ρ = p.2) → False
  | 0, _, _, _, h, _, _, _ => by simp [refute] at h
  | n + 1, _, _, [], h, _, _, _ => by simp [refute] at h
  | n + 1, q, k, (.c b, v) :: l, h, hq, hk, hl => by
    have h0 := hl _ (List.mem_cons_self)
    simp only [B.d_c] at h0
    subst h0
    unfold refute at h
    simp only [beq_self_eq_true, if_true] at h
    exact refute_spec hg h hq hk fun p hp => hl p (by simp [hp])
  | n + 1, q, k, (.v m, v) :: l, h, hq, hk, hl => by
    have h0 : ρ.b m = v := hl _ (List.mem_cons_self)
    unfold refute at h
    split at h
    · rename_i w hw
      have := hk m w hw
      rw [h0] at this
      subst this
      simp only [beq_self_eq_true, if_true] at h
      exact refute_spec hg h hq hk fun p hp => hl p (by simp [hp])
    · have hk' : LitsOk ρ ((m, v) :: k) := fun n b hn => by
        unfold litOf at hn
        split at hn
        · rename_i he
          simp only [beq_iff_eq] at he
          simp only [Option.some.injEq] at hn
          subst he; subst hn
          exact h0
        · exact hk n b hn
      split at h
      · rename_i r hr
        have hrv : r.d ρ = v := by rw [← defB_spec hr hg]; exact h0
        split at h
        · rename_i o a b w hf
          have hf' := cmFact_spec hf hrv
          simp only at hf'
          rw [Bool.or_eq_true] at h
          rcases h with h | h
          · exact cmBad_spec h hq hf'
          · refine refute_spec hg h (fun p hp => ?_) hk' fun p hp => hl p (by simp [hp])
            rcases List.mem_cons.1 hp with rfl | hp
            · exact hf'
            · exact hq p hp
        · refine refute_spec hg h hq hk' fun p hp => ?_
          rcases List.mem_append.1 hp with hp | hp
          · exact foll_spec hk' hrv p hp
          · exact hl p (by simp [hp])
      · exact refute_spec hg h hq hk' fun p hp => hl p (by simp [hp])
/-- All that is owed holds by itself. -/
def selfOb (em : List Em) : Bool := em.all fun
  | .ob g b => refute em 400 [] [] (g ++ [(b, false)])
  | _ => true
theorem selfOb_all {Φ : Funs} {ρ : Env} {em : List Em} (hg : ∀ e, e ∈ em → match e with | .ob _ _ => True | e => e.ok Φ ρ) (h : selfOb em = true) : obAll ρ em = true := by
  unfold obAll
  unfold selfOb at h
  rw [List.all_eq_true] at h ⊢
  intro e he
  have := h e he
  cases e with
  | ob g b =>
    simp only at this ⊢
    cases hgd : Gd.d ρ g with
    | false => rfl
    | true =>
      cases hb : b.d ρ with
      | true => rfl
      | false =>
        refine (refute_spec hg this (fun p hp => by cases hp) (fun n b h => by cases h) fun p hp => ?_).elim
        rcases List.mem_append.1 hp with hp | hp
        · unfold Gd.d at hgd
          rw [List.all_eq_true] at hgd
          simpa using hgd p hp
        · simp only [List.mem_singleton] at hp
          subst hp
          exact hb
  | _ => rfl
theorem contract_self {P : Program} {Φ : Funs} {X : Hnd} {gl : Gl} (hX : HOk P Φ gl X) {f : Nat} {fn : Func} (hf : P.funcs[f]? = some fn) {k : Ctl} (hK : LoopsOk Φ k) {s : Sum} {S : Smry} (h : fnX P X gl k fn s = some S)
    (hw : (wsEm S.em (argI s.args) (argB s.args) && shOk s && selfOb S.em) = true) : Contract P gl f s (S.run Φ s.pre) := by
  simp only [Bool.and_eq_true] at hw
  obtain ⟨⟨h1, h2⟩, h3⟩ := hw
  refine contract_gen hX hf hK h h1 h2 fun vs w is bs ps hfl _ => ?_
  have hlen := flatArgs_len hfl
  exact selfOb_all (Φ := Φ) (evEm_spec Φ S.em is bs (by rw [hlen.1, hlen.2.1]; exact h1)).2 h3
end Go.Proofs.YtalnndmnnffnmaaGreat.Sx
/-! ## SxT -/
set_option linter.unusedVariables false
set_option linter.unusedSimpArgs false
namespace Go.Proofs.YtalnndmnnffnmaaGreat.Sx
open Go

/-- What is emitted, as equations; what is owed is left out. -/
def Em.eqn (Φ : Funs) (ρ : Env) : Em → Prop
  | .di n r => ρ.i n = r.d ρ
  | .db n r => ρ.b n = r.d ρ
  | .call f ai ab i0 ni b0 nb =>
    (∀ j, j < ni → ρ.i (i0 + j) = (Φ f (ai.map (A.d ρ)) (ab.map (B.d ρ))).1.getD j 0) ∧
    (∀ j, j < nb → ρ.b (b0 + j) = (Φ f (ai.map (A.d ρ)) (ab.map (B.d ρ))).2.getD j false)
  | .ob _ _ => True
def eqns (Φ : Funs) (ρ : Env) : List Em → Prop
  | [] => True
  | e :: l => e.eqn Φ ρ ∧ eqns Φ ρ l
theorem eqns_of {Φ : Funs} {ρ : Env} : ∀ {l : List Em}, (∀ e, e ∈ l → match e with | .ob _ _ => True | e => e.ok Φ ρ) → eqns Φ ρ l
  | [], _ => trivial
  | e :: l, h => by
    refine ⟨?_, eqns_of fun e he => h e (by simp [he])⟩
    have := h e (by simp)
    cases e with
    | di n r => exact this
    | db n r => exact this
    | call f ai ab i0 ni b0 nb => exact this
    | ob g b => trivial
/-- The numbers and bools that a list holds, one by one. -/
def headsI (ρ : Env) : List Int → Nat → Prop
  | [], _ => True
  | x :: l, n => ρ.i n = x ∧ headsI ρ l (n + 1)
def headsB (ρ : Env) : List Bool → Nat → Prop
  | [], _ => True
  | x :: l, n => ρ.b n = x ∧ headsB ρ l (n + 1)
theorem headsI_of {ρ : Env} : ∀ {l : List Int} {k : Nat}, (∀ n, n < l.length → ρ.i (k + n) = l.getD n 0) → headsI ρ l k
  | [], _, _ => trivial
  | x :: l, k, h => ⟨by simpa using h 0 (by simp), headsI_of fun n hn => by have := h (n + 1) (by simpa using hn); rw [show k + 1 + n = k + (n + 1) by omega, this]; simp⟩
theorem headsB_of {ρ : Env} : ∀ {l : List Bool} {k : Nat}, (∀ n, n < l.length → ρ.b (k + n) = l.getD n false) → headsB ρ l k
  | [], _, _ => trivial
  | x :: l, k, h => ⟨by simpa using h 0 (by simp), headsB_of fun n hn => by have := h (n + 1) (by simpa using hn); rw [show k + 1 + n = k + (n + 1) by omega, this]; simp⟩
theorem Smry.run_spec {Φ : Funs} {S : Smry} {is : List Int} {bs : List Bool} (hw : wsEm S.em is.length bs.length = true) : ∃ ρ : Env, S.run Φ false is bs = (S.ri.map (A.d ρ), S.rb.map (B.d ρ)) ∧ headsI ρ is 0 ∧ headsB ρ bs 0 ∧ eqns Φ ρ S.em := by
  obtain ⟨h1, h2⟩ := evEm_spec Φ S.em is bs hw
  refine ⟨envOf (evEm Φ S.em is bs).1 (evEm Φ S.em is bs).2, rfl, headsI_of fun n hn => ?_, headsB_of fun n hn => ?_, eqns_of fun e he => ?_⟩
  · rw [Nat.zero_add]; exact h1.1 n hn
  · rw [Nat.zero_add]; exact h1.2 n hn
  · have := h2 e he
    cases e <;> simp_all

/-! ### Arithmetic of kinds, as remainders -/
theorem wrap_u8 (n : Int) : IntKind.wrap .u8 n = n % 256 := by simp [IntKind.wrap, IntKind.signed, IntKind.bits]
theorem wrap_u16 (n : Int) : IntKind.wrap .u16 n = n % 65536 := by simp [IntKind.wrap, IntKind.signed, IntKind.bits]
theorem wrap_i64 (n : Int) : IntKind.wrap .i64 n = if n % 18446744073709551616 ≥ 9223372036854775808 then n % 18446744073709551616 - 18446744073709551616 else n % 18446744073709551616 := by simp [IntKind.wrap, IntKind.signed, IntKind.bits]
def allR (f : Nat → Bool) : Nat → Nat → Bool
  | 0, lo => f lo
  | k + 1, lo => allR f k lo && allR f k (lo + 2 ^ k)
theorem allR_spec {f : Nat → Bool} : ∀ {k lo : Nat}, allR f k lo = true → ∀ n, lo ≤ n → n < lo + 2 ^ k → f n = true
  | 0, lo, h, n, h1, h2 => by
    have : n = lo := by simp at h2; omega
    rw [this]; exact h
  | k + 1, lo, h, n, h1, h2 => by
    simp only [allR, Bool.and_eq_true] at h
    rw [Nat.pow_succ] at h2
    by_cases hn : n < lo + 2 ^ k
    · exact allR_spec h.1 n h1 hn
    · exact allR_spec h.2 n (by omega) (by omega)
theorem u8_all {p : Int → Bool} (h : allR (fun n => p n) 8 0 = true) (x : Int) : p (x % 256) = true := by
  have h1 : 0 ≤ x % 256 := Int.emod_nonneg _ (by decide)
  have h2 : x % 256 < 256 := Int.emod_lt_of_pos _ (by decide)
  have := allR_spec h (x % 256).toNat (Nat.zero_le _) (by omega)
  rwa [Int.toNat_of_nonneg h1] at this
theorem ofInt8 (x : Int) : BitVec.ofInt 8 (x % 256) = BitVec.ofInt 8 x := by
  apply BitVec.eq_of_toNat_eq; simp
theorem ofInt16 (x : Int) : BitVec.ofInt 16 (x % 65536) = BitVec.ofInt 16 x := by
  apply BitVec.eq_of_toNat_eq; simp
theorem and8 (x c : Int) : arI .and .u8 x c = arI .and .u8 (x % 256) c := by
  show IntKind.wrap .u8 _ = IntKind.wrap .u8 _
  show IntKind.wrap .u8 ↑(BitVec.ofInt 8 x &&& BitVec.ofInt 8 c).toNat = IntKind.wrap .u8 ↑(BitVec.ofInt 8 (x % 256) &&& BitVec.ofInt 8 c).toNat
  rw [ofInt8]
theorem and8_1 (x : Int) : arI .and .u8 x 1 = x % 256 % 2 := by
  rw [and8]; exact of_decide_eq_true (u8_all (p := fun y => decide (arI .and .u8 y 1 = y % 2)) (by kernel_rfl) x)
theorem and8_15 (x : Int) : arI .and .u8 x 15 = x % 256 % 16 := by
  rw [and8]; exact of_decide_eq_true (u8_all (p := fun y => decide (arI .and .u8 y 15 = y % 16)) (by kernel_rfl) x)
theorem and8_127 (x : Int) : arI .and .u8 x 127 = x % 256 % 128 := by
  rw [and8]; exact of_decide_eq_true (u8_all (p := fun y => decide (arI .and .u8 y 127 = y % 128)) (by kernel_rfl) x)
theorem and8_128 (x : Int) : arI .and .u8 x 128 = 128 * (x % 256 / 128) := by
  rw [and8]; exact of_decide_eq_true (u8_all (p := fun y => decide (arI .and .u8 y 128 = 128 * (y / 128))) (by kernel_rfl) x)
theorem and8_64 (x : Int) : arI .and .u8 x 64 = 64 * (x % 256 / 64 % 2) := by
  rw [and8]; exact of_decide_eq_true (u8_all (p := fun y => decide (arI .and .u8 y 64 = 64 * (y / 64 % 2))) (by kernel_rfl) x)
theorem or16 (x c : Int) : arI .or .u16 x c = arI .or .u16 (x % 65536) c := by
  show IntKind.wrap .u16 ↑(BitVec.ofInt 16 x ||| BitVec.ofInt 16 c).toNat = IntKind.wrap .u16 ↑(BitVec.ofInt 16 (x % 65536) ||| BitVec.ofInt 16 c).toNat
  rw [ofInt16]
theorem or16_top (x : Int) : arI .or .u16 x 32768 = if x % 65536 < 32768 then x % 65536 + 32768 else x % 65536 := by
  rw [or16]
  have h1 : 0 ≤ x % 65536 := Int.emod_nonneg _ (by decide)
  have h2 : x % 65536 < 65536 := Int.emod_lt_of_pos _ (by decide)
  generalize x % 65536 = y at h1 h2 ⊢
  obtain ⟨n, rfl⟩ := Int.eq_ofNat_of_zero_le h1
  have hn : n < 65536 := by omega
  show IntKind.wrap .u16 ↑(BitVec.ofInt 16 n ||| BitVec.ofInt 16 32768).toNat = _
  rw [wrap_u16, BitVec.toNat_or]
  have e1 : (BitVec.ofInt 16 (n : Int)).toNat = n := by simp; omega
  have e2 : (BitVec.ofInt 16 (32768 : Int)).toNat = 32768 := by decide
  rw [e1, e2]
  have e3 : n ||| 32768 = if n < 32768 then n + 32768 else n := by
    split
    · rename_i h
      have := Nat.two_pow_add_eq_or_of_lt (i := 15) (b := n) (by simpa using h) 1
      rw [Nat.or_comm]
      simp at this
      omega
    · rename_i h
      have := Nat.two_pow_add_eq_or_of_lt (i := 15) (b := n - 32768) (by simp; omega) 1
      simp at this
      have h3 : n = 32768 ||| (n - 32768) := by omega
      rw [h3, Nat.or_comm, ← Nat.or_assoc, Nat.or_self]
  rw [e3]
  split <;> split <;> omega
theorem shr8_1 (x : Int) : arI .shr .u8 x 1 = x / 2 := by
  show x.fdiv (2 ^ min (Int.toNat 1) 8) = x / 2
  rw [show ((2 : Int) ^ min (Int.toNat 1) 8) = 2 by decide]
  exact Int.fdiv_eq_ediv_of_nonneg x (by decide)
theorem rem_nn {k : IntKind} {x c : Int} (hx : 0 ≤ x) : arI .rem k x c = x % c := Int.tmod_eq_emod_of_nonneg hx
theorem quo8_nn {x c : Int} (hx : 0 ≤ x) : arI .quo .u8 x c = x / c % 256 := by
  show IntKind.wrap .u8 (x.tdiv c) = _
  rw [wrap_u8, Int.tdiv_eq_ediv_of_nonneg hx]
theorem add8 (x y : Int) : arI .add .u8 x y = (x + y) % 256 := wrap_u8 _
theorem sub8 (x y : Int) : arI .sub .u8 x y = (x - y) % 256 := wrap_u8 _
theorem mul8 (x y : Int) : arI .mul .u8 x y = (x * y) % 256 := wrap_u8 _
theorem add16 (x y : Int) : arI .add .u16 x y = (x + y) % 65536 := wrap_u16 _
theorem sub16 (x y : Int) : arI .sub .u16 x y = (x - y) % 65536 := wrap_u16 _
theorem mul16 (x y : Int) : arI .mul .u16 x y = (x * y) % 65536 := wrap_u16 _
theorem add64 (x y : Int) : arI .add .i64 x y = IntKind.wrap .i64 (x + y) := rfl
theorem sub64 (x y : Int) : arI .sub .i64 x y = IntKind.wrap .i64 (x - y) := rfl
theorem mul64 (x y : Int) : arI .mul .i64 x y = IntKind.wrap .i64 (x * y) := rfl
theorem rem_eq (k : IntKind) (x c : Int) : arI .rem k x c = if 0 ≤ x then x % c else -((-x) % c) := by
  show x.tmod c = _
  split
  · rename_i h; exact Int.tmod_eq_emod_of_nonneg h
  · rename_i h
    rw [show x.tmod c = -((-x).tmod c) by rw [Int.neg_tmod, Int.neg_neg], Int.tmod_eq_emod_of_nonneg (by omega)]
theorem tdiv_eq (x c : Int) : x.tdiv c = if 0 ≤ x then x / c else -((-x) / c) := by
  split
  · rename_i h; exact Int.tdiv_eq_ediv_of_nonneg h
  · rename_i h
    rw [show x.tdiv c = -((-x).tdiv c) by rw [Int.neg_tdiv, Int.neg_neg], Int.tdiv_eq_ediv_of_nonneg (by omega)]
theorem quo8_eq (x c : Int) : arI .quo .u8 x c = (if 0 ≤ x then x / c else -((-x) / c)) % 256 := by
  show IntKind.wrap .u8 (x.tdiv c) = _
  rw [wrap_u8, tdiv_eq]
theorem quo16_eq (x c : Int) : arI .quo .u16 x c = (if 0 ≤ x then x / c else -((-x) / c)) % 65536 := by
  show IntKind.wrap .u16 (x.tdiv c) = _
  rw [wrap_u16, tdiv_eq]
theorem wrap_i64_if (n : Int) : IntKind.wrap .i64 n = if -9223372036854775808 ≤ n ∧ n < 9223372036854775808 then n else IntKind.wrap .i64 n := by
  split
  · rename_i h
    rw [wrap_i64]
    split <;> omega
  · rfl
theorem wrap_i64_in {n : Int} (h1 : -9223372036854775808 ≤ n) (h2 : n < 9223372036854775808) : IntKind.wrap .i64 n = n := by
  rw [wrap_i64]
  split <;> omega
theorem lt0 {p : Nat → Prop} : (∀ j, j < 0 → p j) ↔ True := by simp
theorem lt1 {p : Nat → Prop} : (∀ j, j < 1 → p j) ↔ p 0 := by simp
end Go.Proofs.YtalnndmnnffnmaaGreat.Sx
/-! ## SxKc -/
set_option linter.unusedVariables false
set_option linter.unusedSimpArgs false
namespace Go.Proofs.YtalnndmnnffnmaaGreat.Sx
open Go

def constV : S → Option Value
  | .one false [.val v] => some v
  | .one false [.int k (.c n)] => some (.int k n)
  | .one false [.bool (.c b)] => some (.bool b)
  | _ => none
def constVs : List S → Option (List Value)
  | [] => some []
  | x :: xs => match constV x, constVs xs with
    | some v, some vs => some (v :: vs)
    | _, _ => none
theorem constVs_mt {β : Beta} {ρ : Env} : ∀ {xs : List S} {us vs : List Value}, constVs xs = some us → mtAll β ρ xs vs → vs = us
  | [], us, vs, h, hm => by
    simp only [constVs, Option.some.injEq] at h
    subst h
    cases vs with
    | nil => rfl
    | cons _ _ => exact hm.elim
  | x :: xs, us, vs, h, hm => by
    unfold constVs at h
    split at h
    · rename_i v us' h1 h2
      simp only [Option.some.injEq] at h
      subst h
      cases vs with
      | nil => exact hm.elim
      | cons u vs =>
        obtain ⟨m1, m2⟩ := hm
        rw [constVs_mt h2 m2]
        congr 1
        unfold constV at h1
        split at h1
        · simp only [Option.some.injEq] at h1
          subst h1
          exact (mt_cell rfl m1).1
        · simp only [Option.some.injEq] at h1
          subst h1
          exact (mt_int rfl m1).1
        · simp only [Option.some.injEq] at h1
          subst h1
          exact mt_bool rfl m1
        · cases h1
    · cases h
/-- Known functions: what they answer to which arguments. -/
abbrev Kn := Nat → List Value → Option Value
def KnOk (P : Program) (gl : Gl) (G : Kn) : Prop := ∀ f args v, G f args = some v → (∀ args w, (callFunc f args).run P w = .ok (.enter f args) w) ∧ ∀ w, Laid gl w → Calls P f args.toArray w fun e w' => e = .returned v ∧ w' = w
def hndG (G : Kn) (H : Hnd) : Hnd := fun f Γ hp xs => match (constVs xs).bind (G f) with
  | some v => pure { s := ofV v, w := [] }
  | none => H f Γ hp xs
theorem hndG_ok {P : Program} {Φ : Funs} {gl : Gl} {G : Kn} (hG : KnOk P gl G) {H : Hnd} (hH : HOk P Φ gl H) : HOk P Φ gl (hndG G H) := by
  intro f Γ hp xs ρ c res c' out he hg hΓ N R β w vs hm hh hb hN hGB hf
  unfold hndG at he
  cases hc : (constVs xs).bind (G f) with
  | none =>
    rw [hc] at he
    exact hH f Γ hp xs ρ c res c' out he hg hΓ N R β w vs hm hh hb hN hGB hf
  | some v =>
    rw [hc] at he
    have he := M.pure_inv he
    simp only [Prod.mk.injEq] at he
    obtain ⟨rfl, rfl, rfl⟩ := he
    cases hx : constVs xs with
    | none => rw [hx] at hc; simp at hc
    | some us =>
      rw [hx] at hc
      simp only [Option.bind_some] at hc
      have := constVs_mt hx hm
      subst this
      obtain ⟨h1, h2⟩ := hG f _ v hc
      exact ⟨h1, Calls.mono (h2 w hGB.1) fun e w' ⟨e1, e2⟩ => by
        subst e1 e2
        exact ⟨v, rfl, β, Step.refl hb _ _ _, ofV_mt v, fun p hp => by cases hp⟩⟩

/-! ### A function of an octet -/
def litsI : List A → Option (List Int)
  | [] => some []
  | .c k :: l => (litsI l).map (k :: ·)
  | _ => none
def litsB : List B → Option (List Bool)
  | [] => some []
  | .c k :: l => (litsB l).map (k :: ·)
  | _ => none
theorem litsI_spec {ρ : Env} : ∀ {l : List A} {r : List Int}, litsI l = some r → l.map (A.d ρ) = r
  | [], r, h => by simp only [litsI, Option.some.injEq] at h; subst h; rfl
  | .c k :: l, r, h => by
    unfold litsI at h
    cases hl : litsI l with
    | none => rw [hl] at h; simp at h
    | some t =>
      rw [hl] at h
      simp only [Option.map_some, Option.some.injEq] at h
      subst h
      simp [litsI_spec hl]
  | .v _ :: _, _, h => by simp [litsI] at h
theorem litsB_spec {ρ : Env} : ∀ {l : List B} {r : List Bool}, litsB l = some r → l.map (B.d ρ) = r
  | [], r, h => by simp only [litsB, Option.some.injEq] at h; subst h; rfl
  | .c k :: l, r, h => by
    unfold litsB at h
    cases hl : litsB l with
    | none => rw [hl] at h; simp at h
    | some t =>
      rw [hl] at h
      simp only [Option.map_some, Option.some.injEq] at h
      subst h
      simp [litsB_spec hl]
  | .v _ :: _, _, h => by simp [litsB] at h
def caseX (P : Program) (H : Hnd) (gl : Gl) (k : Ctl) (fn : Func) (cks : List CK) (n : Nat) : Option Fl :=
  match inlM P H gl k fn [] (fun _ => none) [.one false [.int .u8 (.c (.ofNat n))]] { i := 0, b := 0, id := gl.length } with
  | some (res, _, out) => if out.isEmpty then (match res.s with
      | .one true cs => match takeR gl.length 0 cks cs with
        | some (as, bs) => match litsI as, litsB bs with
          | some is, some bs => some (is, bs)
          | _, _ => none
        | none => none
      | _ => none) else none
  | none => none
def sum8 (cks : List CK) : Sum := { args := [.val false [.int .u8]], tup := false, res := [(true, cks)], pre := false }
theorem contract8 {P : Program} {Φ : Funs} {H : Hnd} {gl : Gl} (hH : HOk P Φ gl H) {f : Nat} {fn : Func} (hf : P.funcs[f]? = some fn) (hn : (fn.name == "runtime.NumGoroutine") = false) {k : Ctl} (hK : LoopsOk Φ k) {cks : List CK} {F : Nat → Fl}
    (h : ∀ n, n < 256 → caseX P H gl k fn cks n = some (F n)) : Contract P gl f (sum8 cks) (fun is _ => F (is.getD 0 0).toNat) := by
  intro vs w is bs ps hL hfl hap hfz hag hsl hpre
  have hin : ∃ n : Nat, n < 256 ∧ vs = [.int .u8 n] ∧ is = [(n : Int)] ∧ ps = [] := by
    match vs, hfl with
    | [], hfl => simp [sum8, flatArgs] at hfl
    | v :: u :: vs, hfl => simp [sum8, flatArgs] at hfl
    | [v], hfl =>
      simp only [sum8, flatArgs, flat1, Bool.false_eq_true, if_false] at hfl
      unfold flatC at hfl
      split at hfl
      · rename_i i1 b1 is' bs' ps' e1 e2
        simp only [Option.some.injEq, Prod.mk.injEq] at hfl e2
        obtain ⟨rfl, rfl, rfl⟩ := hfl
        obtain ⟨rfl, rfl, rfl⟩ := e2
        split at e1
        · rename_i k' n is bs hv
          split at e1
          · rename_i hc
            simp only [flatC, Option.some.injEq, Prod.mk.injEq] at hv e1
            obtain ⟨rfl, rfl⟩ := hv
            obtain ⟨rfl, rfl⟩ := e1
            simp only [Bool.and_eq_true, beq_iff_eq] at hc
            obtain ⟨rfl, hr⟩ := hc
            have hr := inR_spec hr
            unfold InR IntKind.min IntKind.max at hr
            simp [IntKind.signed, IntKind.bits] at hr
            obtain ⟨m, rfl⟩ := Int.eq_ofNat_of_zero_le hr.1
            exact ⟨m, by omega, rfl, rfl, rfl⟩
          · cases e1
        · cases e1
      · cases hfl
  obtain ⟨n, hn8, rfl, rfl, rfl⟩ := hin
  have hcx := h n hn8
  unfold caseX at hcx
  split at hcx
  · rename_i res c' out hrun
    split at hcx
    · rename_i hemp
      simp only [List.isEmpty_iff] at hemp
      subst hemp
      split at hcx
      · rename_i cs hcs
        split at hcx
        · rename_i as bs' htr
          split at hcx
          · rename_i is2 bs2 hli hlb
            simp only [Option.some.injEq] at hcx
            obtain ⟨ρ⟩ : Nonempty Env := ⟨{ i := fun _ => 0, b := fun _ => false }⟩
            obtain ⟨β, hβ⟩ : ∃ β : Beta, β = beta0 gl [] [] := ⟨_, rfl⟩
            have hinv : ∀ i r, β i = some r → ∃ us, gl[i]? = some us ∧ r = gRg i us := fun i r hi => by
              rw [hβ] at hi
              rcases beta0_inv hi with h | ⟨_, h⟩ | ⟨_, h⟩
              · exact h
              · simp at h
              · simp at h
            have hbo : BetaOk w.heap.size [] β w := by
              refine ⟨fun i j r q hij hi hj => ?_, fun i r hi => ?_, fun i r hi => ?_, fun i r ks l hi hs => ?_⟩
              · obtain ⟨_, _, rfl⟩ := hinv i r hi
                obtain ⟨_, _, rfl⟩ := hinv j q hj
                exact .inl ⟨rfl, rfl⟩
              · obtain ⟨us, hus, rfl⟩ := hinv i r hi
                exact (hL i us hus).1
              · obtain ⟨_, _, rfl⟩ := hinv i r hi
                exact .inl rfl
              · obtain ⟨_, _, rfl⟩ := hinv i r hi
                cases hs
            have hm : mtAll β ρ [.one false [.int .u8 (.c (.ofNat n))]] [.int .u8 n] := by
              refine ⟨⟨_, rfl, rfl, ?_⟩, trivial⟩
              unfold InR IntKind.min IntKind.max
              simp [IntKind.signed, IntKind.bits]
              omega
            obtain ⟨_, hcalls⟩ := inl_ok hH hf hn hK hrun Good.nil (Γ := []) rfl hm (fun id b hb => by cases hb) hbo (Nat.le_refl _) ⟨hL, fun g us hg => by rw [hβ]; exact beta0_gl hg⟩ (fun i h1 h2 => by
              cases hx : β i with
              | none => rfl
              | some r =>
                obtain ⟨us, hus, _⟩ := hinv i r hx
                have := (List.getElem?_eq_some_iff.1 hus).1
                simp only at h1
                omega)
            refine Calls.mono hcalls fun e w' ⟨v, he, β', hst, hsm, _⟩ => ⟨v, he, ?_, ?_⟩
            · obtain ⟨W, hW, hk⟩ := hst.kp
              have : W = [] := by
                rw [List.eq_nil_iff_forall_not_mem]
                intro r hr
                obtain ⟨id, _, hid, hro, _⟩ := hW r hr
                obtain ⟨_, _, rfl⟩ := hinv id r hid
                cases hro
              rw [this] at hk
              exact hk
            · rw [hcs] at hsm
              obtain ⟨us, rfl, hus⟩ := hsm
              have hflt := takeR_flat (ps := []) (np := 0) rfl (fun k r hk => by simp at hk) htr hus
              refine ⟨(is2, bs2), ([], []), ?_, rfl, ?_, ?_⟩
              · show flat1 [] true cks (.agg us) = _
                unfold flat1
                simp only [if_true]
                rw [hflt, litsI_spec hli, litsB_spec hlb]
              · simp [← hcx]
              · simp [sum8, ← hcx]
          · cases hcx
        · cases hcx
      · cases hcx
    · cases hcx
  · cases hcx
def flEq (a : Option Fl) (b : Fl) : Bool := match a with | some x => x.1 == b.1 && x.2 == b.2 | none => false
theorem flEq_spec {a : Option Fl} {b : Fl} (h : flEq a b = true) : a = some b := by
  unfold flEq at h
  split at h
  · rename_i x
    simp only [Bool.and_eq_true, beq_iff_eq] at h
    obtain ⟨h1, h2⟩ := h
    obtain ⟨x1, x2⟩ := x
    simp only at h1 h2
    rw [h1, h2]
  · cases h
theorem all8 {P : Program} {H : Hnd} {gl : Gl} {k : Ctl} {fn : Func} {cks : List CK} {F : Nat → Fl} (h : allR (fun n => flEq (caseX P H gl k fn cks n) (F n)) 8 0 = true) : ∀ n, n < 256 → caseX P H gl k fn cks n = some (F n) :=
  fun n hn => flEq_spec (allR_spec h n (Nat.zero_le _) (by simpa using hn))
end Go.Proofs.YtalnndmnnffnmaaGreat.Sx
/-! ## SxU -/
set_option linter.unusedVariables false
set_option linter.unusedSimpArgs false
namespace Go.Proofs.YtalnndmnnffnmaaGreat.Sx
open Go Go.ChangeShapes Go.WideShapes Go.ChangeAt Go.RowKit

/-! ### Which cells a type has -/
def ckFields (P : Program) (g : TypeId → Option (List CK)) : List Field → Nat → Option (List CK)
  | [], _ => some []
  | f :: fs, off => if f.offset == off then (match g f.type with
      | some l => if l.length == P.cellsOf f.type then (match ckFields P g fs (off + l.length) with
          | some r => some (l ++ r)
          | none => none) else none
      | none => none) else none
def repCK (l : List CK) : Nat → List CK
  | 0 => []
  | n + 1 => l ++ repCK l n
def ckOf (P : Program) : Nat → TypeId → Option (List CK)
  | 0, _ => none
  | n + 1, t => match P.underlying t with
    | some .bool => some [.bool]
    | some (.int k) => some [.int k]
    | some (.struct fs) => match ckFields P (ckOf P n) fs.toList 0 with
      | some l => if l.length == P.cellsOf t then some l else none
      | none => none
    | some (.array m e) => match ckOf P n e with
      | some l => if l.length == P.cellsOf e && m * l.length == P.cellsOf t then some (repCK l m) else none
      | none => none
    | _ => none
def shOf (P : Program) (t : TypeId) : Option Sh := match P.underlying t with
  | some .bool => some (.val false [.bool])
  | some (.int k) => some (.val false [.int k])
  | some (.struct _) => (ckOf P 8 t).map (.val true ·)
  | some (.array _ _) => (ckOf P 8 t).map (.val true ·)
  | some (.slice e) => match ckOf P 8 e with
    | some ks => if ks.length == P.cellsOf e && !ks.isEmpty then some (.sli ks) else none
    | none => none
  | _ => none
def shsOf (P : Program) : List TypeId → Option (List Sh)
  | [] => some []
  | t :: ts => match shOf P t, shsOf P ts with
    | some s, some ss => some (s :: ss)
    | _, _ => none

theorem flatC_append {ps : List Rg} : ∀ {l1 : List CK} {v1 : List Value} {l2 : List CK} {v2 : List Value} {f1 f2 : Fl}, flatC ps l1 v1 = some f1 → flatC ps l2 v2 = some f2 → ∃ f, flatC ps (l1 ++ l2) (v1 ++ v2) = some f
  | [], [], l2, v2, f1, f2, _, h2 => ⟨f2, h2⟩
  | .int k :: l1, v :: v1, l2, v2, f1, f2, h1, h2 => by
    unfold flatC at h1
    split at h1
    · rename_i k' n is bs hv
      split at h1
      · rename_i hc
        obtain ⟨f, hf⟩ := flatC_append hv h2
        refine ⟨(n :: f.1, f.2), ?_⟩
        simp only [List.cons_append, flatC, hf]
        rw [if_pos hc]
      · cases h1
    · cases h1
  | .bool :: l1, v :: v1, l2, v2, f1, f2, h1, h2 => by
    unfold flatC at h1
    split at h1
    · rename_i b is bs hv
      obtain ⟨f, hf⟩ := flatC_append hv h2
      exact ⟨(f.1, b :: f.2), by simp only [List.cons_append, flatC, hf]⟩
    · cases h1
  | .pt k o :: l1, v :: v1, l2, v2, f1, f2, h1, h2 => by
    unfold flatC at h1
    split at h1
    · rename_i a r is bs hr hv
      split at h1
      · rename_i hc
        obtain ⟨f, hf⟩ := flatC_append hv h2
        refine ⟨(f.1, f.2), ?_⟩
        simp only [List.cons_append, flatC, hf, hr]
        rw [if_pos hc]
      · cases h1
    · cases h1
  | .str :: l1, v :: v1, l2, v2, f1, f2, h1, h2 => by
    unfold flatC at h1
    split at h1
    · rename_i s is bs hv
      split at h1
      · rename_i hc
        obtain ⟨f, hf⟩ := flatC_append hv h2
        refine ⟨(encS s :: f.1, f.2), ?_⟩
        simp only [List.cons_append, flatC, hf]
        rw [if_pos hc]
      · cases h1
    · cases h1
  | .str :: _, [], _, _, _, _, h1, _ => by simp [flatC] at h1
  | [], _ :: _, _, _, _, _, h1, _ => by simp [flatC] at h1
  | .int _ :: _, [], _, _, _, _, h1, _ => by simp [flatC] at h1
  | .bool :: _, [], _, _, _, _, h1, _ => by simp [flatC] at h1
  | .pt _ _ :: _, [], _, _, _, _, h1, _ => by simp [flatC] at h1

section
variable {H : Type} {enc : TypeId × Value → H} {P : Program} {w : World} {base : Nat} {spare : Nat → Bool} {held : Bool}
theorem ckFields_flat {g : TypeId → Option (List CK)} {n : Nat} (hg : ∀ (t : TypeId) (l : List CK) (cs : List Value) (x : DataW H × List MemPlace), g t = some l → DataW.trod enc P w base spare held n t cs = some x → ∃ f, flatC [] l cs = some f) {cs : List Value} : ∀ {fs : List Field} {off : Nat} {l : List CK},
    ckFields P g fs off = some l → (∀ f, f ∈ fs → ∃ x, DataW.trod enc P w base spare held n f.type ((cs.drop f.offset).take (P.cellsOf f.type)) = some x) → ∃ f, flatC [] l ((cs.drop off).take l.length) = some f
  | [], off, l, h, _ => by
    simp only [ckFields, Option.some.injEq] at h
    subst h
    exact ⟨_, rfl⟩
  | f :: fs, off, l, h, hx => by
    unfold ckFields at h
    split at h
    · rename_i ho
      simp only [beq_iff_eq] at ho
      split at h
      · rename_i l1 hl1
        split at h
        · rename_i hlen
          simp only [beq_iff_eq] at hlen
          split at h
          · rename_i r hr
            simp only [Option.some.injEq] at h
            subst h
            obtain ⟨x, hx1⟩ := hx f (by simp)
            obtain ⟨f1, hf1⟩ := hg _ _ _ _ hl1 hx1
            obtain ⟨f2, hf2⟩ := ckFields_flat hg hr (fun g hm => hx g (by simp [hm]))
            obtain ⟨f3, hf3⟩ := flatC_append hf1 hf2
            refine ⟨f3, ?_⟩
            rw [List.length_append, List.take_add, List.drop_drop, ← ho, hlen]
            rw [← ho, hlen] at hf3
            exact hf3
          · cases h
        · cases h
      · cases h
    · cases h
theorem repCK_length (l : List CK) : ∀ m, (repCK l m).length = m * l.length
  | 0 => by simp [repCK]
  | m + 1 => by rw [repCK, List.length_append, repCK_length l m, Nat.add_mul]; omega
theorem repCK_flat {l : List CK} {cs : List Value} : ∀ {m off : Nat}, (∀ i, i < m → ∃ f, flatC [] l ((cs.drop (off + i * l.length)).take l.length) = some f) → ∃ f, flatC [] (repCK l m) ((cs.drop off).take (m * l.length)) = some f
  | 0, off, _ => ⟨_, by simp [repCK]; rfl⟩
  | m + 1, off, h => by
    obtain ⟨f1, hf1⟩ := h 0 (by omega)
    obtain ⟨f2, hf2⟩ := repCK_flat (l := l) (cs := cs) (m := m) (off := off + l.length) (fun i hi => by
      have := h (i + 1) (by omega)
      rwa [show off + (i + 1) * l.length = off + l.length + i * l.length by rw [Nat.add_mul]; omega] at this)
    simp only [Nat.zero_mul, Nat.add_zero] at hf1
    obtain ⟨f3, hf3⟩ := flatC_append hf1 hf2
    refine ⟨f3, ?_⟩
    rw [show (m + 1) * l.length = l.length + m * l.length by rw [Nat.add_mul]; omega, List.take_add, List.drop_drop]
    exact hf3
/-- What is read through a type of plain cells is numbers and bools. -/
theorem ckOf_flat : ∀ (m : Nat) (n : Nat) (t : TypeId) (l : List CK) (cs : List Value) (x : DataW H × List MemPlace), ckOf P m t = some l → DataW.trod enc P w base spare held n t cs = some x → ∃ f, flatC [] l cs = some f
  | 0, n, t, l, cs, x, h, _ => by simp [ckOf] at h
  | m + 1, n, t, l, cs, x, h, hx => by
    unfold ckOf at h
    split at h
    · rename_i ht
      simp only [Option.some.injEq] at h
      subst h
      obtain ⟨b, rfl, _⟩ := DataW.trod_bool ht hx
      exact ⟨_, rfl⟩
    · rename_i k ht
      simp only [Option.some.injEq] at h
      subst h
      obtain ⟨v, rfl, _, hwf⟩ := DataW.trod_int ht hx
      refine ⟨([v], []), ?_⟩
      have : inR k v = true := by simpa [Lit.wf, inR] using hwf
      simp [flatC, this]
    · rename_i fs ht
      split at h
      · rename_i l' hl
        split at h
        · rename_i hlen
          simp only [beq_iff_eq] at hlen
          simp only [Option.some.injEq] at h
          subst h
          obtain ⟨xs, n', rfl, _, hcs, hxl, hf⟩ := DataW.trod_struct ht hx
          have := ckFields_flat (cs := cs) (fun t l cs x h1 h2 => ckOf_flat m n' t l cs x h1 h2) hl (fun f hm => by
            obtain ⟨i, hi⟩ := List.getElem?_of_mem hm
            have hi' : fs[i]? = some f := by simpa using hi
            have := hf i f hi'
            have hlt : i < xs.length := by rw [hxl]; exact (Array.getElem?_eq_some_iff.1 hi').1
            exact ⟨xs[i], by rw [this]; exact List.getElem?_eq_getElem hlt⟩)
          simpa [hlen, ← hcs] using this
        · cases h
      · cases h
    · rename_i k e ht
      split at h
      · rename_i l' hl
        split at h
        · rename_i hc
          simp only [Bool.and_eq_true, beq_iff_eq] at hc
          simp only [Option.some.injEq] at h
          subst h
          obtain ⟨xs, n', rfl, _, hcs, hxl, hf⟩ := DataW.trod_array ht hx
          have := repCK_flat (l := l') (cs := cs) (m := k) (off := 0) (fun i hi => by
            have h1 := hf i hi
            have hlt : i < xs.length := by omega
            rw [List.getElem?_eq_getElem hlt] at h1
            rw [Nat.zero_add, hc.1]
            exact ckOf_flat m n' e l' _ _ hl h1)
          rw [hc.2, ← hcs] at this
          simpa using this
        · cases h
      · cases h
    · cases h

theorem flatC_dec : ∀ {l : List CK} {vs : List Value} {f : Fl}, flatC [] l vs = some f → vs.length = l.length ∧ ∀ (k : Nat) (ck : CK), l[k]? = some ck → ∃ v n, vs[k]? = some v ∧ decV ck v = some n
  | [], [], f, h => ⟨rfl, fun k ck hk => by simp at hk⟩
  | .int kd :: l, v :: vs, f, h => by
    unfold flatC at h
    split at h
    · rename_i k' n is bs hf
      split at h
      · rename_i hc
        obtain ⟨h1, h2⟩ := flatC_dec hf
        refine ⟨by simp [h1], fun k ck hk => ?_⟩
        cases k with
        | zero => simp at hk; subst hk; exact ⟨_, n, by simp; rfl, by simp only [decV]; rw [if_pos hc]⟩
        | succ k => simp at hk; simpa using h2 k ck hk
      · cases h
    · cases h
  | .bool :: l, v :: vs, f, h => by
    unfold flatC at h
    split at h
    · rename_i b is bs hf
      obtain ⟨h1, h2⟩ := flatC_dec hf
      refine ⟨by simp [h1], fun k ck hk => ?_⟩
      cases k with
      | zero => simp at hk; subst hk; exact ⟨_, _, by simp; rfl, rfl⟩
      | succ k => simp at hk; simpa using h2 k ck hk
    · cases h
  | .pt k o :: l, v :: vs, f, h => by
    unfold flatC at h
    split at h
    · rename_i a r is bs hr hf
      simp at hr
    · cases h
  | .str :: l, v :: vs, f, h => by
    unfold flatC at h
    split at h
    · rename_i s is bs hf
      split at h
      · rename_i hc
        obtain ⟨h1, h2⟩ := flatC_dec hf
        refine ⟨by simp [h1], fun k ck hk => ?_⟩
        cases k with
        | zero => simp at hk; subst hk; exact ⟨_, encS s, by simp; rfl, by simp only [decV]; rw [if_pos hc]⟩
        | succ k => simp at hk; simpa using h2 k ck hk
      · cases h
    · cases h
  | .str :: _, [], f, h => by simp [flatC] at h
  | [], _ :: _, f, h => by simp [flatC] at h
  | .int _ :: _, [], f, h => by simp [flatC] at h
  | .bool :: _, [], f, h => by simp [flatC] at h
  | .pt _ _ :: _, [], f, h => by simp [flatC] at h
theorem read_dec {ks : List CK} {b : Nat} {w : World} : ∀ {n o j : Nat}, (∀ i, i < n → ∃ ck v m, ks[(j + i) % ks.length]? = some ck ∧ w.cell? ⟨b, o + i, none⟩ = some v ∧ decV ck v = some m) → ∃ us l, readCells w b o n = some us ∧ decVs ks j us = some l
  | 0, o, j, _ => ⟨[], [], rfl, rfl⟩
  | n + 1, o, j, h => by
    obtain ⟨ck, v, m, h1, h2, h3⟩ := h 0 (by omega)
    rw [Nat.add_zero] at h1 h2
    obtain ⟨us, l, g1, g2⟩ := read_dec (ks := ks) (b := b) (w := w) (n := n) (o := o + 1) (j := j + 1) fun i hi => by
      obtain ⟨ck, v, m, h1, h2, h3⟩ := h (i + 1) (by omega)
      exact ⟨ck, v, m, by rw [show j + 1 + i = j + (i + 1) by omega]; exact h1, by rw [show o + 1 + i = o + (i + 1) by omega]; exact h2, h3⟩
    exact ⟨v :: us, m :: l, by simp only [readCells, h2, g1], by simp only [decVs, h1, g2, h3, Option.map_some]⟩
theorem cells?_get {w : World} {base : Nat} {a : Addr} {n : Nat} {cs : List Value} (h : w.cells? base a n = some cs) : ∀ k, k < n → ∃ v, cs[k]? = some v ∧ w.cell? (a.add k) = some v := by
  unfold World.cells? at h
  split at h
  · intro k hk
    have := mapM_some_get h k k (by simp [hk])
    have hl := mapM_some_length h
    simp at hl
    have hkl : k < cs.length := by omega
    exact ⟨cs[k], List.getElem?_eq_getElem hkl, by rw [this]; exact List.getElem?_eq_getElem hkl⟩
  · cases h
theorem flatSl_trod {fuel : Nat} {t e : TypeId} {ks : List CK} {v : Value} {x : DataW H × List MemPlace} (ht : P.underlying t = some (.slice e)) (hk : ckOf P 8 e = some ks) (hlen : ks.length = P.cellsOf e) (hne : ks ≠ [])
    (h : DataW.trod enc P w base spare held fuel t [v] = some x) : ∃ l n r, flatSl w ks v = some (l, n, r) := by
  rcases DataW.trod_slice ht h with ⟨h1, _⟩ | ⟨a, len, cap, elems, rest, n, rfl, h1, _, _, hl, hc, _, hel, _⟩
  · simp only [List.cons.injEq, and_true] at h1
    subst h1
    exact ⟨[], 0, none, by simp [flatSl]⟩
  · simp only [List.cons.injEq, and_true] at h1
    subst h1
    have hpos : 0 < ks.length := List.length_pos_iff.2 hne
    by_cases h0 : len = 0
    · subst h0
      exact ⟨[], 0, none, by simp [flatSl]⟩
    · -- an element's cells
      have cell : ∀ i, i < len → ∀ k, k < ks.length → ∃ ck v m, ks[k]? = some ck ∧ w.cell? ((a.add (i * P.cellsOf e)).add k) = some v ∧ decV ck v = some m := by
        intro i hi k hkl
        have h2 := hel i hi
        cases hcs : w.cells? base (a.add (i * P.cellsOf e)) (P.cellsOf e) with
        | none =>
          rw [hcs] at h2
          simp only [Option.bind_none] at h2
          have : elems[i]? = none := h2.symm
          rw [List.getElem?_eq_none_iff] at this
          omega
        | some cs =>
          rw [hcs] at h2
          simp only [Option.bind_some] at h2
          have hi' : i < elems.length := by omega
          rw [List.getElem?_eq_getElem hi'] at h2
          obtain ⟨f, hf⟩ := ckOf_flat 8 _ _ _ _ _ hk h2
          obtain ⟨g1, g2⟩ := flatC_dec hf
          obtain ⟨v, m, g3, g4⟩ := g2 k _ (List.getElem?_eq_getElem hkl)
          obtain ⟨v', g5, g6⟩ := cells?_get hcs k (by omega)
          rw [g3] at g5
          cases g5
          exact ⟨_, v, m, List.getElem?_eq_getElem hkl, g6, g4⟩
      have hspot : a.spot = none := by
        obtain ⟨ck, v, m, _, hv, _⟩ := cell 0 (by omega) 0 hpos
        simp only [Nat.zero_mul, Addr.add, if_true] at hv
        unfold World.cell? at hv
        split at hv
        · split at hv
          · cases hv
          · rename_i hs; simpa using hs
        · cases hv
      obtain ⟨b, o, sp⟩ := a
      simp only at hspot
      subst hspot
      obtain ⟨us, l, g1, g2⟩ := read_dec (ks := ks) (b := b) (w := w) (n := len * ks.length) (o := o) (j := 0) fun i hi => by
        have hdiv : i / ks.length < len := (Nat.div_lt_iff_lt_mul hpos).2 hi
        have hmod : i % ks.length < ks.length := Nat.mod_lt _ hpos
        obtain ⟨ck, v, m, k1, k2, k3⟩ := cell (i / ks.length) hdiv (i % ks.length) hmod
        refine ⟨ck, v, m, by rw [Nat.zero_add]; exact k1, ?_, k3⟩
        rw [add_lit, add_lit, ← hlen] at k2
        have := Nat.div_add_mod i ks.length
        rw [Nat.mul_comm] at this
        rwa [Nat.add_assoc, this] at k2
      have hin : inR .i64 (len : Int) = true := by
        refine inR_mk ⟨?_, ?_⟩
        · show -9223372036854775808 ≤ (len : Int); omega
        · show (len : Int) ≤ 9223372036854775807
          unfold maxLen at hc
          omega
      refine ⟨l, len, some { blk := b, off := o, len := len * ks.length, ro := true, sq := some (ks, l) }, ?_⟩
      unfold flatSl
      have : (len == 0) = false := by simpa using h0
      simp only [this, Bool.false_eq_true, if_false, hin, if_true, g1, Option.bind_some, g2]

theorem shOf_flat {r : Reach} {b0 : Nat} {t : TypeId} {s : Sh} {v : Value} {d : DataW H} {p : List MemPlace} (h : shOf P t = some s) (hv : Value.okWide P w r b0 t v) (hd : DataW.Trod enc P w base spare held t v d p) : (∃ agg l f, s = .val agg l ∧ flat1 [] agg l v = some f) ∨ ∃ ks l n r, s = .sli ks ∧ flatSl w ks v = some (l, n, r) := by
  obtain ⟨n, hn⟩ := hd
  unfold shOf at h
  split at h
  · rename_i ht
    simp only [Option.some.injEq] at h
    subst h
    obtain ⟨b, rfl⟩ := okWide_bool ht hv
    exact .inl ⟨_, _, _, rfl, rfl⟩
  · rename_i k ht
    simp only [Option.some.injEq] at h
    subst h
    obtain ⟨m, rfl⟩ := okWide_int ht hv
    obtain ⟨m', hm, _, hwf⟩ := DataW.trod_int ht hn
    have e : m = m' := by simpa [Value.cells] using hm
    subst e
    have : inR k m = true := by simpa [Lit.wf, inR] using hwf
    exact .inl ⟨_, _, ([m], []), rfl, by simp [flat1, flatC, this]⟩
  · rename_i fs ht
    cases hc : ckOf P 8 t with
    | none => rw [hc] at h; cases h
    | some l =>
      rw [hc] at h
      simp only [Option.map_some, Option.some.injEq] at h
      subst h
      obtain ⟨cs, rfl, _⟩ := okWide_struct ht hv
      obtain ⟨f, hf⟩ := ckOf_flat 8 _ _ _ _ _ hc hn
      exact .inl ⟨_, _, f, rfl, hf⟩
  · rename_i k e ht
    cases hc : ckOf P 8 t with
    | none => rw [hc] at h; cases h
    | some l =>
      rw [hc] at h
      simp only [Option.map_some, Option.some.injEq] at h
      subst h
      obtain ⟨f, hf⟩ := ckOf_flat 8 _ _ _ _ _ hc hn
      obtain ⟨_, _, _, _, hcs, _⟩ := DataW.trod_array ht hn
      have hagg : ∃ cs, v = .agg cs := by
        simp only [Value.okWide, ht] at hv
        obtain ⟨cs, h1, _⟩ := hv
        exact ⟨cs, h1⟩
      obtain ⟨cs, rfl⟩ := hagg
      exact .inl ⟨_, _, f, rfl, hf⟩
  · rename_i e ht
    cases hc : ckOf P 8 e with
    | none => rw [hc] at h; cases h
    | some ks =>
      rw [hc] at h
      simp only at h
      split at h
      · rename_i hk
        simp only [Bool.and_eq_true, beq_iff_eq, Bool.not_eq_true', List.isEmpty_eq_false_iff] at hk
        simp only [Option.some.injEq] at h
        subst h
        obtain ⟨a, len, cap, rfl⟩ := okWide_slice ht hv
        obtain ⟨l, m, q, hq⟩ := flatSl_trod ht hc hk.1 hk.2 hn
        exact .inr ⟨_, l, m, q, rfl, hq⟩
      · cases h
  · cases h

/-- All arguments, taken as numbers and bools. -/
theorem flat_of_trod {r : Reach} {b0 : Nat} : ∀ {ts : List TypeId} {ss : List Sh} {vs : List Value} {ds : List (DataW H)} {p : List MemPlace}, shsOf P ts = some ss → (∀ (j : Nat) t v, ts[j]? = some t → vs[j]? = some v → Value.okWide P w r b0 t v) →
    DataW.TrodAll enc P w base spare held ts vs ds p → ∃ is bs, flatArgs ss vs w = some (is, bs, []) ∧ ptrShapes ss = []
  | [], ss, vs, ds, p, h, _, hA => by
    simp only [shsOf, Option.some.injEq] at h
    subst h
    obtain ⟨rfl, _, _⟩ := trodAll_nil hA
    exact ⟨[], [], rfl, rfl⟩
  | t :: ts, ss, vs, ds, p, h, hv, hA => by
    unfold shsOf at h
    split at h
    · rename_i s ss' hs hss
      simp only [Option.some.injEq] at h
      subst h
      obtain ⟨v, vs', d, ds', p', q, rfl, rfl, rfl, h1, h2⟩ := trodAll_cons hA
      obtain ⟨is, bs, hr, hp⟩ := flat_of_trod hss (fun j t v hj hvj => hv (j + 1) t v (by simpa using hj) (by simpa using hvj)) h2
      rcases shOf_flat hs (hv 0 t v (by simp) (by simp)) h1 with ⟨agg, l, f, rfl, hf⟩ | ⟨ks, l, n, q, rfl, hf⟩
      · refine ⟨f.1 ++ is, f.2 ++ bs, ?_, hp⟩
        simp only [flatArgs, hf, hr]
      · refine ⟨Sx.enc l :: n :: is, bs, ?_, hp⟩
        simp only [flatArgs, hf, hr]
    · cases h

theorem trodAll_len : ∀ {ts : List TypeId} {vs : List Value} {ds : List (DataW H)} {p : List MemPlace}, DataW.TrodAll enc P w base spare held ts vs ds p → vs.length = ts.length ∧ ds.length = ts.length
  | [], vs, ds, p, h => by obtain ⟨rfl, rfl, _⟩ := trodAll_nil h; exact ⟨rfl, rfl⟩
  | t :: ts, vs, ds, p, h => by
    obtain ⟨v, vs', d, ds', p', q, rfl, rfl, rfl, _, h2⟩ := trodAll_cons h
    have := trodAll_len h2
    simp [this.1, this.2]
/-- Arguments read the same where what they lead to stays. -/
theorem trodAll_stays (hl : laidOutB P = true) {W W' : World} {sp' : Nat → Bool} : ∀ {ts : List TypeId} {vs : List Value} {ds : List (DataW H)} {ps : List MemPlace}, (∀ t, t ∈ ts → P.readableRec t = true ∧ t < P.types.size) →
    DataW.TrodAll enc P W base (fun _ => true) true ts vs ds ps → (∀ p ∈ ps, W.sameAt W' p) → (∀ p ∈ ps, sp' p.block = true) → DataW.TrodAll enc P W' base sp' true ts vs ds ps
  | [], vs, ds, ps, _, h, _, _ => by obtain ⟨rfl, rfl, rfl⟩ := trodAll_nil h; exact trodAll_mk0
  | t :: ts, vs, ds, ps, hr, h, hs, hp => by
    obtain ⟨v, vs', d, ds', p', q, rfl, rfl, rfl, h1, h2⟩ := trodAll_cons h
    obtain ⟨hr1, hr2⟩ := hr t (by simp)
    exact trodAll_cons_mk (WideElems.Trod_stays hl hr1 hr2 h1 (fun p hm => hs p (by simp [hm])) (fun p hm => hp p (by simp [hm])))
      (trodAll_stays hl (fun t hm => hr t (by simp [hm])) h2 (fun p hm => hs p (by simp [hm])) (fun p hm => hp p (by simp [hm])))
end

/-! ### Which numbers come in -/
def rngC : List CK → List Int → Prop
  | [], [] => True
  | .int k :: l, n :: is => (k.min ≤ n ∧ n ≤ k.max) ∧ rngC l is
  | .bool :: l, is => rngC l is
  | .pt _ _ :: l, is => rngC l is
  | .str :: l, n :: is => (∃ s : ByteArray, n = encS s ∧ InR .i64 s.size) ∧ rngC l is
  | _, _ => False
def rngK : List CK → (List Int → Prop) → List Int → Prop
  | [], k, is => k is
  | .int kd :: l, k, n :: is => (kd.min ≤ n ∧ n ≤ kd.max) ∧ rngK l k is
  | .int _ :: _, _, [] => False
  | .bool :: l, k, is => rngK l k is
  | .pt _ _ :: l, k, is => rngK l k is
  | .str :: l, k, n :: is => (∃ s : ByteArray, n = encS s ∧ InR .i64 s.size) ∧ rngK l k is
  | .str :: _, _, [] => False
def inCK : CK → Int → Prop
  | .int k, m => InR k m
  | .bool, m => m = 0 ∨ m = 1
  | .pt _ _, _ => False
  | .str, m => ∃ s : ByteArray, m = encS s ∧ InR .i64 s.size
def slRng (ks : List CK) (q n : Int) : Prop := 0 ≤ n ∧ n ≤ 9223372036854775807 ∧ ∃ l, q = enc l ∧ l.length = n.toNat * ks.length ∧ ∀ (j : Nat) (m : Int), l[j]? = some m → ∃ ck, ks[j % ks.length]? = some ck ∧ inCK ck m
def rngA : List Sh → List Int → Prop
  | [], is => is = []
  | .val _ l :: ss, is => rngK l (rngA ss) is
  | .ptr l :: ss, is => rngK l (rngA ss) is
  | .sli ks :: ss, q :: n :: is => slRng ks q n ∧ rngA ss is
  | .sli _ :: _, [] => False
  | .sli _ :: _, [_] => False
theorem rngK_of {k : List Int → Prop} : ∀ {l : List CK} {i1 i2 : List Int}, rngC l i1 → k i2 → rngK l k (i1 ++ i2)
  | [], [], i2, _, h => h
  | .int kd :: l, n :: i1, i2, h1, h2 => ⟨h1.1, rngK_of h1.2 h2⟩
  | .bool :: l, i1, i2, h1, h2 => rngK_of (l := l) (by cases i1 <;> exact h1) h2
  | .pt _ _ :: l, i1, i2, h1, h2 => rngK_of (l := l) (by cases i1 <;> exact h1) h2
  | .str :: l, n :: i1, i2, h1, h2 => ⟨h1.1, rngK_of h1.2 h2⟩
  | .str :: _, [], _, h, _ => h.elim
  | [], _ :: _, _, h, _ => h.elim
  | .int _ :: _, [], _, h, _ => h.elim
theorem rngC_append : ∀ {l1 l2 : List CK} {i1 i2 : List Int}, rngC l1 i1 → rngC l2 i2 → rngC (l1 ++ l2) (i1 ++ i2)
  | [], l2, [], i2, _, h => h
  | .int k :: l1, l2, n :: i1, i2, h1, h2 => ⟨h1.1, rngC_append h1.2 h2⟩
  | .bool :: l1, l2, i1, i2, h1, h2 => by
    have h1' : rngC l1 i1 := by cases i1 <;> exact h1
    have := rngC_append h1' h2
    cases hi : i1 ++ i2 <;> rw [hi] at this <;> exact this
  | .pt _ _ :: l1, l2, i1, i2, h1, h2 => by
    have h1' : rngC l1 i1 := by cases i1 <;> exact h1
    have := rngC_append h1' h2
    cases hi : i1 ++ i2 <;> rw [hi] at this <;> exact this
  | .str :: l1, l2, n :: i1, i2, h1, h2 => ⟨h1.1, rngC_append h1.2 h2⟩
  | .str :: _, _, [], _, h, _ => h.elim
  | [], _, _ :: _, _, h, _ => h.elim
  | .int _ :: _, _, [], _, h, _ => h.elim
theorem flatC_rng {ps : List Rg} : ∀ {l : List CK} {vs : List Value} {f : Fl}, flatC ps l vs = some f → rngC l f.1
  | [], [], f, h => by simp only [flatC, Option.some.injEq] at h; subst h; trivial
  | .int k :: l, v :: vs, f, h => by
    unfold flatC at h
    split at h
    · rename_i k' n is bs hv
      split at h
      · rename_i hc
        simp only [Option.some.injEq] at h
        subst h
        simp only [Bool.and_eq_true, beq_iff_eq] at hc
        have h2 := hc.2
        simp only [inR, Bool.and_eq_true, decide_eq_true_eq] at h2
        exact ⟨h2, flatC_rng hv⟩
      · cases h
    · cases h
  | .bool :: l, v :: vs, f, h => by
    unfold flatC at h
    split at h
    · rename_i b is bs hv
      simp only [Option.some.injEq] at h
      subst h
      have := flatC_rng hv
      cases is <;> exact this
    · cases h
  | .pt k o :: l, v :: vs, f, h => by
    unfold flatC at h
    split at h
    · rename_i a r is bs hr hv
      split at h
      · simp only [Option.some.injEq] at h
        subst h
        have := flatC_rng hv
        cases is <;> exact this
      · cases h
    · cases h
  | .str :: l, v :: vs, f, h => by
    unfold flatC at h
    split at h
    · rename_i s is bs hv
      split at h
      · rename_i hc
        simp only [Option.some.injEq] at h
        subst h
        exact ⟨⟨s, rfl, inR_spec hc⟩, flatC_rng hv⟩
      · cases h
    · cases h
  | .str :: _, [], _, h => by simp [flatC] at h
  | [], _ :: _, _, h => by simp [flatC] at h
  | .int _ :: _, [], _, h => by simp [flatC] at h
  | .bool :: _, [], _, h => by simp [flatC] at h
  | .pt _ _ :: _, [], _, h => by simp [flatC] at h
theorem flatSl_rng {w : World} {ks : List CK} {v : Value} {l : List Int} {n : Int} {r : Option Rg} (h : flatSl w ks v = some (l, n, r)) : slRng ks (enc l) n := by
  unfold flatSl at h
  split at h
  · rename_i p len cap
    split at h
    · simp only [Option.some.injEq, Prod.mk.injEq] at h
      obtain ⟨rfl, rfl, rfl⟩ := h
      exact ⟨by omega, by omega, [], rfl, by simp, fun j m hj => by simp at hj⟩
    · split at h
      · rename_i b o
        split at h
        · rename_i hin
          split at h
          · rename_i l' hl
            simp only [Option.some.injEq, Prod.mk.injEq] at h
            obtain ⟨rfl, rfl, rfl⟩ := h
            cases hrd : readCells w b o (len * ks.length) with
            | none => rw [hrd] at hl; simp at hl
            | some us =>
              rw [hrd] at hl
              simp only [Option.bind_some] at hl
              obtain ⟨g1, g2⟩ := readCells_get hrd
              obtain ⟨g3, g4⟩ := seq_of_read (b := b) (o := o) (w := w) hl g2
              refine ⟨by omega, (inR_spec hin).2, l', rfl, by rw [Int.toNat_natCast]; omega, fun j m hj => ?_⟩
              obtain ⟨ck, v, k1, k2, k3⟩ := g4 j m hj
              refine ⟨ck, by simpa using k1, ?_⟩
              cases ck with
              | int k => exact k3.2
              | bool => exact k3.1
              | str => obtain ⟨s, _, k4, k5⟩ := k3; exact ⟨s, k4, k5⟩
              | pt _ _ => exact k3
          · cases h
        · cases h
      · cases h
  · cases h
theorem flatArgs_rng {w : World} : ∀ {ss : List Sh} {vs : List Value} {is : List Int} {bs : List Bool} {ps : List Rg}, flatArgs ss vs w = some (is, bs, ps) → rngA ss is
  | [], [], is, bs, ps, h => by
    simp only [flatArgs, Option.some.injEq, Prod.mk.injEq] at h
    exact h.1.symm
  | .val agg l :: ss, v :: vs, is, bs, ps, h => by
    unfold flatArgs at h
    split at h
    · rename_i i b is' bs' ps' h1 h2
      simp only [Option.some.injEq, Prod.mk.injEq] at h
      obtain ⟨rfl, _⟩ := h
      obtain ⟨us, hf, _⟩ := flat1_inv h1
      exact rngK_of (flatC_rng hf) (flatArgs_rng h2)
    · cases h
  | .ptr l :: ss, v :: vs, is, bs, ps, h => by
    unfold flatArgs at h
    split at h
    · rename_i b o is' bs' ps' h2
      split at h
      · rename_i i bb h1
        simp only [Option.some.injEq, Prod.mk.injEq] at h
        obtain ⟨rfl, _⟩ := h
        cases hr : readCells w b o l.length with
        | none => rw [hr] at h1; simp at h1
        | some us =>
          rw [hr] at h1
          simp only [Option.bind_some] at h1
          exact rngK_of (flatC_rng h1) (flatArgs_rng h2)
      · cases h
    · cases h
  | .sli ks :: ss, v :: vs, is, bs, ps, h => by
    unfold flatArgs at h
    split at h
    · rename_i l n r is' bs' ps' h1 h2
      simp only [Option.some.injEq, Prod.mk.injEq] at h
      obtain ⟨rfl, _⟩ := h
      exact ⟨flatSl_rng h1, flatArgs_rng h2⟩
    · cases h
  | [], _ :: _, _, _, _, h => by simp [flatArgs] at h
  | .val _ _ :: _, [], _, _, _, h => by simp [flatArgs] at h
  | .ptr _ :: _, [], _, _, _, h => by simp [flatArgs] at h
  | .sli _ :: _, [], _, _, _, h => by simp [flatArgs] at h
theorem len_cons {α : Type} {l : List α} {n : Nat} (h : l.length = n + 1) : ∃ a t, l = a :: t ∧ t.length = n := by
  cases l with
  | nil => simp at h
  | cons a t => exact ⟨a, t, rfl, by simpa using h⟩
theorem len_nil {α : Type} {l : List α} (h : l.length = 0) : l = [] := List.eq_nil_of_length_eq_zero h
theorem Smry.ob_spec {Φ : Funs} {S : Smry} {is : List Int} {bs : List Bool} (hw : wsEm S.em is.length bs.length = true) (h : ∀ ρ, headsI ρ is 0 → headsB ρ bs 0 → eqns Φ ρ S.em → obAll ρ S.em = true) :
    obAll (envOf (evEm Φ S.em is bs).1 (evEm Φ S.em is bs).2) S.em = true := by
  obtain ⟨h1, h2⟩ := evEm_spec Φ S.em is bs hw
  refine h _ (headsI_of fun n hn => ?_) (headsB_of fun n hn => ?_) (eqns_of fun e he => ?_)
  · rw [Nat.zero_add]; exact h1.1 n hn
  · rw [Nat.zero_add]; exact h1.2 n hn
  · have := h2 e he
    cases e <;> simp_all

/-! ### What stays -/
theorem Keep.sameAt {w w' : World} (h : Keep [] w w') {p : MemPlace} (hp : p.block < w.heap.size) : w.sameAt w' p := by
  cases p with
  | cell b off => exact h.cell ⟨b, off, none⟩ hp fun r hr => by cases hr
  | map b => exact h.blk b hp fun r hr => by cases hr
theorem Keep.keptBut {w w' : World} (h : Keep [] w w') (may : MemPlace → Prop) : w.keptBut w' may := by
  refine ⟨h.os, h.output, fun i hi => ?_⟩
  rw [h.blk i hi fun r hr => by cases hr]
  cases hw : w.heap[i]? with
  | none => trivial
  | some o =>
    cases o <;> simp

/-! ### Tables, as their row lays them -/
theorem trod_ints {H : Type} {enc : TypeId × Value → H} {P : Program} {w : World} {base : Nat} {spare : Nat → Bool} {held : Bool} {fuel : Nat} {t e : TypeId} {n : Nat} {k : IntKind} (ht : P.underlying t = some (.array n e)) (he : P.underlying e = some (.int k)) (hc : P.cellsOf e = 1) (hct : P.cellsOf t = n)
    {l : List Int} {cs : List Value} {p : List MemPlace} (h : DataW.trod enc P w base spare held fuel t cs = some (.agg (l.map fun m => .lit (.int k m)), p)) : cs = l.map (Value.int k) := by
  obtain ⟨xs, m, rfl, hx, hcs, hxl, hf⟩ := DataW.trod_array ht h
  obtain ⟨hx1, _⟩ := Prod.mk.inj hx
  simp only [DataW.agg.injEq] at hx1
  have hll : l.length = n := by
    have := congrArg List.length hx1
    simpa [hxl] using this
  apply List.ext_getElem?
  intro i
  by_cases hi : i < n
  · have h1 := hf i hi
    have hix : i < xs.length := by omega
    rw [List.getElem?_eq_getElem hix, hc, Nat.mul_one] at h1
    obtain ⟨v, hv, hxv, _⟩ := DataW.trod_int he h1
    have hil : i < l.length := by omega
    have e1 : (l.map fun m => (DataW.lit (.int k m) : DataW H))[i]? = (xs.map (·.1))[i]? := by rw [hx1]
    rw [List.getElem?_map, List.getElem?_map, List.getElem?_eq_getElem hix, List.getElem?_eq_getElem hil] at e1
    simp only [Option.map_some, Option.some.injEq, hxv, DataW.lit.injEq, Lit.int.injEq, true_and] at e1
    have hic : i < cs.length := by omega
    have e2 : cs[i]? = some (.int k v) := by
      have := congrArg (·[0]?) hv
      simpa [List.getElem?_take, List.getElem?_drop] using this
    rw [e2, List.getElem?_map, List.getElem?_eq_getElem hil, e1]
    rfl
  · rw [List.getElem?_eq_none (by omega), List.getElem?_eq_none (by simp; omega)]

/-! ### The law's answer, as the row asks it -/
theorem law_post {P : Program} {fn : Func} {s : ChangeSpec} {H : Type} {enc : TypeId × Value → H} {W W' : World} {args : Array Value} {ds gs : List (DataW H)} {before p : List MemPlace} (hl : laidOutB P = true) (hpar : ∀ t, t ∈ fn.params.toList → P.readableRec t = true ∧ t < P.types.size)
    {tb : TypeId} (hres : fn.resultTypes = #[tb]) (hb : P.underlying tb = some .bool) (hvars : s.vars = []) (hW : DataW.Whole enc P fn.params.toList s.vars false W args.toList ds gs before) (hA : DataW.TrodAll enc P W 0 (fun _ => true) true fn.params.toList args.toList ds p) (hbe : before = p) (hgs : gs = [])
    (hfn : s.fn H (ds ++ []) = { results := [.lit (.bool true)], args := ds }) (hk : Keep [] W W') : s.post enc P fn false true false false W args (.bool true) W' := by
  subst hbe hgs
  have hlt : ∀ x ∈ before, x.block < W.heap.size := fun x hx => hW.lt x hx
  have hsame : ∀ x ∈ before, W.sameAt W' x := fun x hx => hk.sameAt (hlt x hx)
  refine ⟨ds, [], before, [], before, [], hW, ?_, ?_, ?_, ?_, fun h => by cases h⟩
  · rw [hfn, hres]
    exact trodAll_mk1 (shut_bool hb true)
  · rw [hfn]
    exact trodAll_stays hl hpar hA hsame (fun x hx => by simpa using hlt x hx)
  · rw [hvars, hfn]
    rfl
  · exact hk.keptBut _
end Go.Proofs.YtalnndmnnffnmaaGreat.Sx
/-! ## SxY -/
set_option linter.unusedVariables false
set_option linter.unusedSimpArgs false
namespace Go.Proofs.YtalnndmnnffnmaaGreat.Sx
open Go

theorem Smry.run_specT {Φ : Funs} {S : Smry} {is : List Int} {bs : List Bool} (hw : wsEm S.em is.length bs.length = true) : ∃ ρ : Env, S.run Φ true is bs = (S.ri.map (A.d ρ), obAll ρ S.em :: S.rb.map (B.d ρ)) ∧ headsI ρ is 0 ∧ headsB ρ bs 0 ∧ eqns Φ ρ S.em := by
  obtain ⟨h1, h2⟩ := evEm_spec Φ S.em is bs hw
  refine ⟨envOf (evEm Φ S.em is bs).1 (evEm Φ S.em is bs).2, rfl, headsI_of fun n hn => ?_, headsB_of fun n hn => ?_, eqns_of fun e he => ?_⟩
  · rw [Nat.zero_add]; exact h1.1 n hn
  · rw [Nat.zero_add]; exact h1.2 n hn
  · have := h2 e he
    cases e <;> simp_all

/-- What is owed, one by one. -/
def obs (ρ : Env) : List Em → Bool
  | [] => true
  | .ob g b :: l => (!(Gd.d ρ g) || b.d ρ) && obs ρ l
  | .di _ _ :: l => obs ρ l
  | .db _ _ :: l => obs ρ l
  | .call _ _ _ _ _ _ _ :: l => obs ρ l
theorem obAll_eq {ρ : Env} : ∀ {l : List Em}, obAll ρ l = obs ρ l
  | [] => rfl
  | e :: l => by
    have ih := obAll_eq (ρ := ρ) (l := l)
    unfold obAll at ih ⊢
    cases e <;> simp [obs, ih]

theorem loop_rule {F : Fun} {nI nB : Nat} (Inv : List Int → List Bool → Prop) (mu : List Int → List Bool → Nat) (Post : Fl → Prop)
    (step : ∀ is bs, Inv is bs → ∃ c rb, (F is bs).2 = true :: c :: rb ∧ (c = false → Post ((F is bs).1.drop nI, rb.drop nB)) ∧
      (c = true → Inv ((F is bs).1.take nI) (rb.take nB) ∧ mu ((F is bs).1.take nI) (rb.take nB) < mu is bs)) :
    ∀ is bs, Inv is bs → ∃ o, loopF F nI nB is bs = (o.1, true :: o.2) ∧ Post o := by
  have key : ∀ n is bs, mu is bs ≤ n → Inv is bs → ∃ m o, LRun F nI nB m is bs o ∧ Post o := by
    intro n
    induction n with
    | zero =>
      intro is bs hn hi
      obtain ⟨c, rb, h1, h2, h3⟩ := step is bs hi
      cases c
      · exact ⟨1, _, .stop h1, h2 rfl⟩
      · have := (h3 rfl).2; omega
    | succ n ih =>
      intro is bs hn hi
      obtain ⟨c, rb, h1, h2, h3⟩ := step is bs hi
      cases c
      · exact ⟨1, _, .stop h1, h2 rfl⟩
      · obtain ⟨h4, h5⟩ := h3 rfl
        obtain ⟨m, o, h6, h7⟩ := ih _ _ (by omega) h4
        exact ⟨m + 1, o, .turn h1 h6, h7⟩
  intro is bs hi
  obtain ⟨m, o, h1, h2⟩ := key _ is bs (Nat.le_refl _) hi
  exact ⟨o, loopF_of h1, h2⟩

theorem cm_eql (x y : Int) : cmB .eql x y = (x == y) := rfl
theorem cm_neq (x y : Int) : cmB .neq x y = (x != y) := rfl
theorem cm_lss (x y : Int) : cmB .lss x y = decide (x < y) := rfl
theorem cm_leq (x y : Int) : cmB .leq x y = decide (x ≤ y) := rfl
theorem cm_gtr (x y : Int) : cmB .gtr x y = decide (y < x) := rfl
theorem cm_geq (x y : Int) : cmB .geq x y = decide (y ≤ x) := rfl
theorem lt2 {p : Nat → Prop} : (∀ j, j < 2 → p j) ↔ p 0 ∧ p 1 := by
  refine ⟨fun h => ⟨h 0 (by decide), h 1 (by decide)⟩, fun h j hj => ?_⟩
  have : j = 0 ∨ j = 1 := by omega
  rcases this with rfl | rfl
  · exact h.1
  · exact h.2
/-- 'for all j below n', written out. -/
def upto (p : Nat → Prop) : Nat → Nat → Prop
  | _, 0 => True
  | k, n + 1 => p k ∧ upto p (k + 1) n
theorem upto_of {p : Nat → Prop} : ∀ {n k : Nat}, (∀ j, k ≤ j → j < k + n → p j) → upto p k n
  | 0, _, _ => trivial
  | n + 1, k, h => ⟨h k (Nat.le_refl _) (by omega), upto_of fun j h1 h2 => h j (by omega) (by omega)⟩
theorem of_upto {p : Nat → Prop} : ∀ {n k : Nat}, upto p k n → ∀ j, k ≤ j → j < k + n → p j
  | 0, k, _, j, h1, h2 => by omega
  | n + 1, k, h, j, h1, h2 => by
    rcases Nat.eq_or_lt_of_le h1 with e | e
    · subst e; exact h.1
    · exact of_upto h.2 j e (by omega)
theorem ltn {p : Nat → Prop} (n : Nat) : (∀ j, j < n → p j) ↔ upto p 0 n :=
  ⟨fun h => upto_of fun j _ h2 => h j (by omega), fun h j hj => of_upto h j (Nat.zero_le _) (by omega)⟩
end Go.Proofs.YtalnndmnnffnmaaGreat.Sx
/-! ## SxPr -/
set_option linter.unusedVariables false
set_option linter.unusedSimpArgs false
namespace Go.Proofs.YtalnndmnnffnmaaGreat.Sx
open Go

/-- What is known of a number in two runs: they are the same; the first one's, and the second one's, value. -/
structure Lb (α : Type) where
  s : Bool
  a : Option α
  b : Option α
def Lb.ok {α : Type} (l : Lb α) (x y : α) : Prop := (l.s = true → x = y) ∧ (∀ v, l.a = some v → x = v) ∧ ∀ v, l.b = some v → y = v
def Lb.top {α : Type} : Lb α := ⟨false, none, none⟩
def Lb.cst {α : Type} (v : α) : Lb α := ⟨true, some v, some v⟩
def Lb.eqv {α : Type} : Lb α := ⟨true, none, none⟩
theorem Lb.top_ok {α : Type} {x y : α} : (Lb.top : Lb α).ok x y := ⟨fun h => (by cases h), ⟨fun _ h => (by cases h), fun _ h => (by cases h)⟩⟩
theorem Lb.cst_ok {α : Type} {v : α} : (Lb.cst v).ok v v := ⟨fun _ => rfl, fun _ h => (by cases h; rfl), fun _ h => (by cases h; rfl)⟩

/-- One known value is known in both runs, if these are the same; two known ones may be the same. -/
def Lb.nrm {α : Type} [DecidableEq α] (l : Lb α) : Lb α :=
  match l with
  | ⟨true, none, none⟩ => ⟨true, none, none⟩
  | ⟨true, some v, _⟩ => ⟨true, some v, some v⟩
  | ⟨true, none, some v⟩ => ⟨true, some v, some v⟩
  | ⟨false, some v, some w⟩ => ⟨decide (v = w), some v, some w⟩
  | ⟨false, none, none⟩ => ⟨false, none, none⟩
  | ⟨false, some v, none⟩ => ⟨false, some v, none⟩
  | ⟨false, none, some v⟩ => ⟨false, none, some v⟩
theorem Lb.nrm_ok {α : Type} [DecidableEq α] {l : Lb α} {x y : α} (h : l.ok x y) : l.nrm.ok x y := by
  obtain ⟨s, a, b⟩ := l
  obtain ⟨h1, h2, h3⟩ := h
  simp only at h1 h2 h3
  cases s
  · cases a <;> cases b
    · exact ⟨h1, h2, h3⟩
    · exact ⟨h1, h2, h3⟩
    · exact ⟨h1, h2, h3⟩
    · rename_i v w
      refine ⟨fun h => ?_, h2, h3⟩
      rw [h2 v rfl, h3 w rfl]
      exact of_decide_eq_true h
  · have e := h1 rfl
    subst e
    cases a
    · cases b
      · exact ⟨h1, h2, h3⟩
      · rename_i v
        exact ⟨h1, h3, h3⟩
    · rename_i v
      exact ⟨h1, h2, h2⟩

def joinO {α : Type} [DecidableEq α] (x y : Option α) : Option α :=
  match x, y with
  | some u, some v => if u = v then some u else none
  | _, _ => none
theorem joinO_l {α : Type} [DecidableEq α] {x y : Option α} {v : α} (h : joinO x y = some v) : x = some v ∧ y = some v := by
  unfold joinO at h
  split at h
  · split at h
    · rename_i e; subst e; cases h; exact ⟨rfl, rfl⟩
    · cases h
  · cases h
def iteO {α : Type} [DecidableEq α] (c : Option Bool) (x y : Option α) : Option α :=
  match c with
  | some true => x
  | some false => y
  | none => joinO x y
theorem iteO_ok {α : Type} [DecidableEq α] {c : Option Bool} {x y : Option α} {c' : Bool} {x' y' : α} (hc : ∀ v, c = some v → c' = v) (hx : ∀ v, x = some v → x' = v) (hy : ∀ v, y = some v → y' = v) :
    ∀ v, iteO c x y = some v → (if c' then x' else y') = v := by
  intro v h
  unfold iteO at h
  split at h
  · rw [hc true rfl]; exact hx v h
  · rw [hc false rfl]; exact hy v h
  · obtain ⟨h1, h2⟩ := joinO_l h
    cases c'
    · exact hy v h2
    · exact hx v h1
def iteL {α : Type} [DecidableEq α] (c : Lb Bool) (x y : Lb α) : Lb α :=
  Lb.nrm ⟨match c.a, c.b with
    | some true, some true => x.s
    | some false, some false => y.s
    | _, _ => c.s && x.s && y.s, iteO c.a x.a y.a, iteO c.b x.b y.b⟩
theorem iteL_ok {α : Type} [DecidableEq α] {c : Lb Bool} {x y : Lb α} {c1 c2 : Bool} {x1 x2 y1 y2 : α} (hc : c.ok c1 c2) (hx : x.ok x1 x2) (hy : y.ok y1 y2) :
    (iteL c x y).ok (if c1 then x1 else y1) (if c2 then x2 else y2) := by
  refine Lb.nrm_ok ⟨fun h => ?_, iteO_ok hc.2.1 hx.2.1 hy.2.1, iteO_ok hc.2.2 hx.2.2 hy.2.2⟩
  simp only at h
  split at h
  · rename_i e1 e2
    rw [hc.2.1 _ e1, hc.2.2 _ e2]
    exact hx.1 h
  · rename_i e1 e2
    rw [hc.2.1 _ e1, hc.2.2 _ e2]
    exact hy.1 h
  · simp only [Bool.and_eq_true] at h
    rw [hc.1 h.1.1, hx.1 h.1.2, hy.1 h.2]

def op2 {α β γ : Type} (f : α → β → γ) : Option α → Option β → Option γ
  | some x, some y => some (f x y)
  | _, _ => none
theorem op2_ok {α β γ : Type} {f : α → β → γ} {x : Option α} {y : Option β} {x' : α} {y' : β} (hx : ∀ v, x = some v → x' = v) (hy : ∀ v, y = some v → y' = v) :
    ∀ v, op2 f x y = some v → f x' y' = v := by
  intro v h
  unfold op2 at h
  split at h
  · rw [hx _ rfl, hy _ rfl]; exact Option.some.inj h
  · cases h
def op2L {α β γ : Type} [DecidableEq γ] (f : α → β → γ) (x : Lb α) (y : Lb β) : Lb γ := Lb.nrm ⟨x.s && y.s, op2 f x.a y.a, op2 f x.b y.b⟩
theorem op2L_ok {α β γ : Type} [DecidableEq γ] {f : α → β → γ} {x : Lb α} {y : Lb β} {x1 x2 : α} {y1 y2 : β} (hx : x.ok x1 x2) (hy : y.ok y1 y2) : (op2L f x y).ok (f x1 y1) (f x2 y2) := by
  refine Lb.nrm_ok ⟨fun h => ?_, op2_ok hx.2.1 hy.2.1, op2_ok hx.2.2 hy.2.2⟩
  simp only [Bool.and_eq_true] at h
  rw [hx.1 h.1, hy.1 h.2]
def op1L {α β : Type} (f : α → β) (x : Lb α) : Lb β := ⟨x.s, x.a.map f, x.b.map f⟩
theorem op1L_ok {α β : Type} {f : α → β} {x : Lb α} {x1 x2 : α} (hx : x.ok x1 x2) : (op1L f x).ok (f x1) (f x2) := by
  refine ⟨fun h => by rw [hx.1 h], fun v h => ?_, fun v h => ?_⟩
  · simp only [op1L, Option.map_eq_some_iff] at h
    obtain ⟨u, h1, h2⟩ := h
    rw [hx.2.1 u h1]; exact h2
  · simp only [op1L, Option.map_eq_some_iff] at h
    obtain ⟨u, h1, h2⟩ := h
    rw [hx.2.2 u h1]; exact h2
def same2 {α β γ : Type} (x : Lb α) (y : Lb β) : Lb γ := ⟨x.s && y.s, none, none⟩
theorem same2_ok {α β γ : Type} {f : α → β → γ} {x : Lb α} {y : Lb β} {x1 x2 : α} {y1 y2 : β} (hx : x.ok x1 x2) (hy : y.ok y1 y2) : (same2 x y : Lb γ).ok (f x1 y1) (f x2 y2) := by
  refine ⟨fun h => ?_, fun v h => (by cases h), fun v h => (by cases h)⟩
  simp only [same2, Bool.and_eq_true] at h
  rw [hx.1 h.1, hy.1 h.2]

/-! ### Nothing comes of nothing -/
theorem and_zero_l (k : IntKind) (y : Int) : arI .and k 0 y = 0 := by
  show IntKind.wrap k ↑(BitVec.ofInt k.bits 0 &&& BitVec.ofInt k.bits y).toNat = 0
  simp
  cases k <;> rfl
theorem and_zero_r (k : IntKind) (x : Int) : arI .and k x 0 = 0 := by
  show IntKind.wrap k ↑(BitVec.ofInt k.bits x &&& BitVec.ofInt k.bits 0).toNat = 0
  simp
  cases k <;> rfl
theorem andNot_zero (k : IntKind) (y : Int) : arI .andNot k 0 y = 0 := by
  show IntKind.wrap k ↑(BitVec.ofInt k.bits 0 &&& ~~~ BitVec.ofInt k.bits y).toNat = 0
  simp
  cases k <;> rfl
def isZ : Option Int → Bool
  | some (.ofNat 0) => true
  | _ => false
theorem isZ_spec {x : Option Int} (h : isZ x = true) : x = some 0 := by
  unfold isZ at h
  split at h
  · rfl
  · cases h
def arO (op : BinOp) (k : IntKind) (x y : Option Int) : Option Int :=
  match op with
  | .and => if isZ x || isZ y then some 0 else op2 (arI .and k) x y
  | .andNot => if isZ x then some 0 else op2 (arI .andNot k) x y
  | op => op2 (arI op k) x y
theorem arO_ok {op : BinOp} {k : IntKind} {x y : Option Int} {x' y' : Int} (hx : ∀ v, x = some v → x' = v) (hy : ∀ v, y = some v → y' = v) : ∀ v, arO op k x y = some v → arI op k x' y' = v := by
  intro v h
  unfold arO at h
  split at h
  · split at h
    · rename_i hz
      simp only [Bool.or_eq_true] at hz
      cases h
      rcases hz with hz | hz
      · rw [hx _ (isZ_spec hz)]; exact and_zero_l k y'
      · rw [hy _ (isZ_spec hz)]; exact and_zero_r k x'
    · exact op2_ok hx hy v h
  · split at h
    · rename_i hz
      cases h
      rw [hx _ (isZ_spec hz)]; exact andNot_zero k y'
    · exact op2_ok hx hy v h
  · exact op2_ok hx hy v h
def arL (op : BinOp) (k : IntKind) (x y : Lb Int) : Lb Int := Lb.nrm ⟨x.s && y.s, arO op k x.a y.a, arO op k x.b y.b⟩
theorem arL_ok {op : BinOp} {k : IntKind} {x y : Lb Int} {x1 x2 y1 y2 : Int} (hx : x.ok x1 x2) (hy : y.ok y1 y2) : (arL op k x y).ok (arI op k x1 y1) (arI op k x2 y2) := by
  refine Lb.nrm_ok ⟨fun h => ?_, arO_ok hx.2.1 hy.2.1, arO_ok hx.2.2 hy.2.2⟩
  simp only [Bool.and_eq_true] at h
  rw [hx.1 h.1, hy.1 h.2]
def andO : Option Bool → Option Bool → Option Bool
  | some false, _ => some false
  | some true, y => y
  | none, some false => some false
  | none, _ => none
def orO : Option Bool → Option Bool → Option Bool
  | some true, _ => some true
  | some false, y => y
  | none, some true => some true
  | none, _ => none
theorem andO_ok {x y : Option Bool} {x' y' : Bool} (hx : ∀ v, x = some v → x' = v) (hy : ∀ v, y = some v → y' = v) : ∀ v, andO x y = some v → (x' && y') = v := by
  intro v h
  unfold andO at h
  split at h
  · cases h; rw [hx _ rfl]; rfl
  · rw [hx _ rfl, hy _ h]; simp
  · cases h; rw [hy _ rfl]; simp
  · cases h
theorem orO_ok {x y : Option Bool} {x' y' : Bool} (hx : ∀ v, x = some v → x' = v) (hy : ∀ v, y = some v → y' = v) : ∀ v, orO x y = some v → (x' || y') = v := by
  intro v h
  unfold orO at h
  split at h
  · cases h; rw [hx _ rfl]; rfl
  · rw [hx _ rfl, hy _ h]; simp
  · cases h; rw [hy _ rfl]; simp
  · cases h
def andL (x y : Lb Bool) : Lb Bool := Lb.nrm ⟨x.s && y.s, andO x.a y.a, andO x.b y.b⟩
def orL (x y : Lb Bool) : Lb Bool := Lb.nrm ⟨x.s && y.s, orO x.a y.a, orO x.b y.b⟩
theorem andL_ok {x y : Lb Bool} {x1 x2 y1 y2 : Bool} (hx : x.ok x1 x2) (hy : y.ok y1 y2) : (andL x y).ok (x1 && y1) (x2 && y2) := by
  refine Lb.nrm_ok ⟨fun h => ?_, andO_ok hx.2.1 hy.2.1, andO_ok hx.2.2 hy.2.2⟩
  simp only [Bool.and_eq_true] at h
  rw [hx.1 h.1, hy.1 h.2]
theorem orL_ok {x y : Lb Bool} {x1 x2 y1 y2 : Bool} (hx : x.ok x1 x2) (hy : y.ok y1 y2) : (orL x y).ok (x1 || y1) (x2 || y2) := by
  refine Lb.nrm_ok ⟨fun h => ?_, orO_ok hx.2.1 hy.2.1, orO_ok hx.2.2 hy.2.2⟩
  simp only [Bool.and_eq_true] at h
  rw [hx.1 h.1, hy.1 h.2]

/-! ### Trees: numbers to what is known -/
inductive Tr (α : Type) where
  | e
  | n (x : α) (l r : Tr α)
def Tr.get {α : Type} (d : α) : Tr α → Nat → α
  | .e, _ => d
  | .n x l r, i => match Nat.ble i 1 with
    | true => x
    | false => match Nat.beq (i % 2) 0 with
      | true => l.get d (i / 2)
      | false => r.get d (i / 2)
def Tr.set {α : Type} : Tr α → Nat → α → Tr α
  | .e, i, x => match Nat.ble i 1 with
    | true => .n x .e .e
    | false => .e
  | .n y l r, i, x => match Nat.ble i 1 with
    | true => .n x l r
    | false => match Nat.beq (i % 2) 0 with
      | true => .n y (l.set (i / 2) x) r
      | false => .n y l (r.set (i / 2) x)
theorem Tr.get_set_ne {α : Type} {d x : α} : ∀ {t : Tr α} {i j : Nat}, 1 ≤ i → 1 ≤ j → i ≠ j → (t.set i x).get d j = t.get d j
  | .e, i, j, hi, hj, hn => by
    unfold Tr.set
    split
    · rename_i h
      rw [Nat.ble_eq] at h
      have : Nat.ble j 1 = false := by rw [← Bool.not_eq_true, Nat.ble_eq]; omega
      unfold Tr.get
      simp only [this]
      split <;> unfold Tr.get <;> rfl
    · rfl
  | .n y l r, i, j, hi, hj, hn => by
    unfold Tr.set
    split
    · rename_i h
      rw [Nat.ble_eq] at h
      have : Nat.ble j 1 = false := by rw [← Bool.not_eq_true, Nat.ble_eq]; omega
      unfold Tr.get
      simp only [this]
    · rename_i h
      have h' : ¬ i ≤ 1 := by rw [← Nat.ble_eq]; simp [h]
      split
      · rename_i h2
        rw [Nat.beq_eq] at h2
        unfold Tr.get
        split
        · rfl
        · rename_i h3
          have h3' : ¬ j ≤ 1 := by rw [← Nat.ble_eq]; simp [h3]
          split
          · rename_i h4
            rw [Nat.beq_eq] at h4
            exact Tr.get_set_ne (by omega) (by omega) (by omega)
          · rfl
      · rename_i h2
        have h2' : ¬ i % 2 = 0 := by rw [← Nat.beq_eq]; simp [h2]
        unfold Tr.get
        split
        · rfl
        · rename_i h3
          have h3' : ¬ j ≤ 1 := by rw [← Nat.ble_eq]; simp [h3]
          split
          · rfl
          · rename_i h4
            have h4' : ¬ j % 2 = 0 := by rw [← Nat.beq_eq]; simp [h4]
            exact Tr.get_set_ne (by omega) (by omega) (by omega)
theorem Tr.get_set_eq {α : Type} {d x : α} : ∀ {t : Tr α} {i : Nat}, (t.set i x).get d i = x ∨ (t.set i x).get d i = d
  | .e, i => by
    unfold Tr.set
    split
    · rename_i h
      left
      unfold Tr.get
      simp only [h]
    · right; rfl
  | .n y l r, i => by
    unfold Tr.set
    split
    · rename_i h
      left
      unfold Tr.get
      simp only [h]
    · rename_i h
      split
      · rename_i h2
        unfold Tr.get
        simp only [h, h2]
        exact Tr.get_set_eq
      · rename_i h2
        unfold Tr.get
        simp only [h, h2]
        exact Tr.get_set_eq

/-! ### What was emitted, in two runs -/
/-- What is known so far: of how many numbers, of how many bools. -/
structure PrS where
  ni : Nat
  nb : Nat
  ti : Tr (Lb Int)
  tb : Tr (Lb Bool)
def PrS.i (σ : PrS) (n : Nat) : Lb Int := σ.ti.get Lb.top (n + 1)
def PrS.b (σ : PrS) (n : Nat) : Lb Bool := σ.tb.get Lb.top (n + 1)
def Rl {α : Type} (d : α) (n : Nat) (f : Nat → Lb α) (l m : List α) : Prop := l.length = n ∧ m.length = n ∧ ∀ j, j < n → (f j).ok (l.getD j d) (m.getD j d)
def PrS.ok (σ : PrS) (is1 : List Int) (bs1 : List Bool) (is2 : List Int) (bs2 : List Bool) : Prop := Rl 0 σ.ni σ.i is1 is2 ∧ Rl false σ.nb σ.b bs1 bs2
theorem Rl.get {α : Type} {d : α} {n : Nat} {f : Nat → Lb α} {l m : List α} (h : Rl d n f l m) (hf : ∀ j, n ≤ j → f j = Lb.top) (j : Nat) : (f j).ok (l.getD j d) (m.getD j d) := by
  by_cases hj : j < n
  · exact h.2.2 j hj
  · rw [hf j (by omega)]; exact Lb.top_ok
def AI (σ : PrS) : A → Lb Int
  | .v n => match Nat.blt n σ.ni with
    | true => σ.i n
    | false => Lb.cst 0
  | .c k => Lb.cst k
def BI (σ : PrS) : B → Lb Bool
  | .v n => match Nat.blt n σ.nb with
    | true => σ.b n
    | false => Lb.cst false
  | .c k => Lb.cst k
theorem getD_ge {α : Type} {d : α} {l : List α} {j : Nat} (h : l.length ≤ j) : l.getD j d = d := by
  rw [List.getD_eq_getElem?_getD, List.getElem?_eq_none h]; rfl
theorem AI_ok {σ : PrS} {is1 : List Int} {bs1 : List Bool} {is2 : List Int} {bs2 : List Bool} (h : σ.ok is1 bs1 is2 bs2) (x : A) : (AI σ x).ok (x.d (envOf is1 bs1)) (x.d (envOf is2 bs2)) := by
  cases x with
  | v n =>
    cases hn : Nat.blt n σ.ni with
    | true =>
      simp only [AI, hn]
      rw [Nat.blt_eq] at hn
      exact h.1.2.2 n hn
    | false =>
      simp only [AI, hn]
      have hn' : ¬ n < σ.ni := by rw [← Nat.blt_eq]; simp [hn]
      show (Lb.cst 0).ok (is1.getD n 0) (is2.getD n 0)
      rw [getD_ge (by rw [h.1.1]; omega), getD_ge (by rw [h.1.2.1]; omega)]
      exact Lb.cst_ok
  | c k => exact Lb.cst_ok
theorem BI_ok {σ : PrS} {is1 : List Int} {bs1 : List Bool} {is2 : List Int} {bs2 : List Bool} (h : σ.ok is1 bs1 is2 bs2) (x : B) : (BI σ x).ok (x.d (envOf is1 bs1)) (x.d (envOf is2 bs2)) := by
  cases x with
  | v n =>
    cases hn : Nat.blt n σ.nb with
    | true =>
      simp only [BI, hn]
      rw [Nat.blt_eq] at hn
      exact h.2.2.2 n hn
    | false =>
      simp only [BI, hn]
      have hn' : ¬ n < σ.nb := by rw [← Nat.blt_eq]; simp [hn]
      show (Lb.cst false).ok (bs1.getD n false) (bs2.getD n false)
      rw [getD_ge (by rw [h.2.1]; omega), getD_ge (by rw [h.2.2.1]; omega)]
      exact Lb.cst_ok
  | c k => exact Lb.cst_ok
def RI.lb (σ : PrS) : RI → Lb Int
  | .ar op k a b => arL op k (AI σ a) (AI σ b)
  | .cv k a => op1L (IntKind.wrap k) (AI σ a)
  | .ite c a b => iteL (BI σ c) (AI σ a) (AI σ b)
  | .mn a b => op2L (fun x y => if y < x then y else x) (AI σ a) (AI σ b)
  | .mx a b => op2L (fun x y => if y > x then y else x) (AI σ a) (AI σ b)
  | .tab l a => op1L (fun x : Int => l.getD x.toNat 0) (AI σ a)
  | .get q a s k => same2 (AI σ q) (AI σ a)
  | .lenq q s => ⟨(AI σ q).s, none, none⟩
def RB.lb (σ : PrS) : RB → Lb Bool
  | .cm op a b => op2L (cmB op) (AI σ a) (AI σ b)
  | .not a => op1L (fun x => !x) (BI σ a)
  | .and a b => andL (BI σ a) (BI σ b)
  | .or a b => orL (BI σ a) (BI σ b)
  | .eqb a b => op2L (fun x y => x == y) (BI σ a) (BI σ b)
  | .ite c a b => iteL (BI σ c) (BI σ a) (BI σ b)
  | .getb q a s k => same2 (AI σ q) (AI σ a)
theorem RI.lb_ok {σ : PrS} {is1 : List Int} {bs1 : List Bool} {is2 : List Int} {bs2 : List Bool} (h : σ.ok is1 bs1 is2 bs2) (r : RI) : (r.lb σ).ok (r.d (envOf is1 bs1)) (r.d (envOf is2 bs2)) := by
  cases r with
  | ar op k a b => exact arL_ok (AI_ok h a) (AI_ok h b)
  | cv k a => exact op1L_ok (AI_ok h a)
  | ite c a b => exact iteL_ok (BI_ok h c) (AI_ok h a) (AI_ok h b)
  | mn a b => exact op2L_ok (f := fun x y => if y < x then y else x) (AI_ok h a) (AI_ok h b)
  | mx a b => exact op2L_ok (f := fun x y => if y > x then y else x) (AI_ok h a) (AI_ok h b)
  | tab l a => exact op1L_ok (f := fun x : Int => l.getD x.toNat 0) (AI_ok h a)
  | get q a s k => exact same2_ok (f := fun q a => (dec q).getD (a.toNat * s + k) 0) (AI_ok h q) (AI_ok h a)
  | lenq q s => exact ⟨fun e => (by simp only [RI.d]; rw [(AI_ok h q).1 e]), fun v e => (by cases e), fun v e => (by cases e)⟩
theorem RB.lb_ok {σ : PrS} {is1 : List Int} {bs1 : List Bool} {is2 : List Int} {bs2 : List Bool} (h : σ.ok is1 bs1 is2 bs2) (r : RB) : (r.lb σ).ok (r.d (envOf is1 bs1)) (r.d (envOf is2 bs2)) := by
  cases r with
  | cm op a b => exact op2L_ok (AI_ok h a) (AI_ok h b)
  | not a => exact op1L_ok (f := fun x => !x) (BI_ok h a)
  | and a b => exact andL_ok (BI_ok h a) (BI_ok h b)
  | or a b => exact orL_ok (BI_ok h a) (BI_ok h b)
  | eqb a b => exact op2L_ok (f := fun x y => x == y) (BI_ok h a) (BI_ok h b)
  | ite c a b => exact iteL_ok (BI_ok h c) (BI_ok h a) (BI_ok h b)
  | getb q a s k => exact same2_ok (f := fun q a => (dec q).getD (a.toNat * s + k) 0 != 0) (AI_ok h q) (AI_ok h a)

def PrS.pushI (σ : PrS) (x : Lb Int) : PrS := { σ with ni := σ.ni + 1, ti := σ.ti.set (σ.ni + 1) x }
def PrS.pushB (σ : PrS) (x : Lb Bool) : PrS := { σ with nb := σ.nb + 1, tb := σ.tb.set (σ.nb + 1) x }
theorem getD_snoc_lt {α : Type} {d x : α} {l : List α} {j : Nat} (h : j < l.length) : (l ++ [x]).getD j d = l.getD j d := getD_append_left _ _ _ _ h
theorem getD_snoc_eq {α : Type} {d x : α} {l : List α} : (l ++ [x]).getD l.length d = x := by simp
theorem Rl.push {α : Type} {d x y : α} {n : Nat} {t : Tr (Lb α)} {u : Lb α} {l m : List α} (h : Rl d n (fun j => t.get Lb.top (j + 1)) l m) (hu : u.ok x y) :
    Rl d (n + 1) (fun j => (t.set (n + 1) u).get Lb.top (j + 1)) (l ++ [x]) (m ++ [y]) := by
  obtain ⟨h1, h2, h3⟩ := h
  refine ⟨by simp [h1], by simp [h2], fun j hj => ?_⟩
  simp only
  by_cases e : j = n
  · have e1 : (l ++ [x]).getD j d = x := by rw [e, ← h1]; exact getD_snoc_eq
    have e2 : (m ++ [y]).getD j d = y := by rw [e, ← h2]; exact getD_snoc_eq
    rw [e1, e2, e]
    rcases Tr.get_set_eq (d := Lb.top) (x := u) (t := t) (i := n + 1) with h | h
    · rw [h]; exact hu
    · rw [h]; exact Lb.top_ok
  · rw [getD_snoc_lt (by omega), getD_snoc_lt (by omega), Tr.get_set_ne (by omega) (by omega) (by omega)]
    exact h3 j (by omega)
theorem PrS.pushI_ok {σ : PrS} {is1 : List Int} {bs1 : List Bool} {is2 : List Int} {bs2 : List Bool} {u : Lb Int} {x y : Int} (h : σ.ok is1 bs1 is2 bs2) (hu : u.ok x y) : (σ.pushI u).ok (is1 ++ [x]) bs1 (is2 ++ [y]) bs2 :=
  ⟨Rl.push h.1 hu, h.2⟩
theorem PrS.pushB_ok {σ : PrS} {is1 : List Int} {bs1 : List Bool} {is2 : List Int} {bs2 : List Bool} {u : Lb Bool} {x y : Bool} (h : σ.ok is1 bs1 is2 bs2) (hu : u.ok x y) : (σ.pushB u).ok is1 (bs1 ++ [x]) is2 (bs2 ++ [y]) :=
  ⟨h.1, Rl.push h.2 hu⟩
def PrS.pushIs (σ : PrS) : Nat → List (Lb Int) → PrS
  | 0, _ => σ
  | n + 1, [] => (σ.pushI Lb.top).pushIs n []
  | n + 1, x :: l => (σ.pushI x).pushIs n l
def PrS.pushBs (σ : PrS) : Nat → List (Lb Bool) → PrS
  | 0, _ => σ
  | n + 1, [] => (σ.pushB Lb.top).pushBs n []
  | n + 1, x :: l => (σ.pushB x).pushBs n l
/-- What is known of two lists, one by one. -/
def Pw {α : Type} (d : α) (ls : List (Lb α)) (l m : List α) : Prop := ∀ j, (ls.getD j Lb.top).ok (l.getD j d) (m.getD j d)
theorem Pw.nil {α : Type} {d : α} {l m : List α} : Pw d [] l m := fun j => by simpa using Lb.top_ok
theorem Pw.cons {α : Type} {d x y : α} {u : Lb α} {ls : List (Lb α)} {l m : List α} (hu : u.ok x y) (h : Pw d ls l m) : Pw d (u :: ls) (x :: l) (y :: m) := by
  intro j
  cases j with
  | zero => simpa using hu
  | succ j => simpa using h j
theorem Pw.tail {α : Type} {d : α} {ls : List (Lb α)} {l m : List α} (h : Pw d ls l m) : Pw d ls.tail l.tail m.tail := fun j => by
  have := h (j + 1)
  cases ls <;> cases l <;> cases m <;> simpa using this
theorem padTo_succ {α : Type} {d : α} {n : Nat} {l : List α} : padTo d (n + 1) l = l.getD 0 d :: padTo d n l.tail := by
  cases l <;> simp [padTo]
theorem PrS.pushIs_ok : ∀ {n : Nat} {σ : PrS} {is1 : List Int} {bs1 : List Bool} {is2 : List Int} {bs2 : List Bool} {ls : List (Lb Int)} {l m : List Int}, σ.ok is1 bs1 is2 bs2 → Pw 0 ls l m →
    (σ.pushIs n ls).ok (is1 ++ padTo 0 n l) bs1 (is2 ++ padTo 0 n m) bs2
  | 0, σ, is1, bs1, is2, bs2, ls, l, m, h, hp => by simpa [padTo, PrS.pushIs] using h
  | n + 1, σ, is1, bs1, is2, bs2, ls, l, m, h, hp => by
    rw [padTo_succ, padTo_succ, show is1 ++ l.getD 0 0 :: padTo 0 n l.tail = (is1 ++ [l.getD 0 0]) ++ padTo 0 n l.tail by simp, show is2 ++ m.getD 0 0 :: padTo 0 n m.tail = (is2 ++ [m.getD 0 0]) ++ padTo 0 n m.tail by simp]
    cases ls with
    | nil => exact PrS.pushIs_ok (PrS.pushI_ok h (hp 0)) hp.tail
    | cons u ls => exact PrS.pushIs_ok (PrS.pushI_ok h (hp 0)) hp.tail
theorem PrS.pushBs_ok : ∀ {n : Nat} {σ : PrS} {is1 : List Int} {bs1 : List Bool} {is2 : List Int} {bs2 : List Bool} {ls : List (Lb Bool)} {l m : List Bool}, σ.ok is1 bs1 is2 bs2 → Pw false ls l m →
    (σ.pushBs n ls).ok is1 (bs1 ++ padTo false n l) is2 (bs2 ++ padTo false n m)
  | 0, σ, is1, bs1, is2, bs2, ls, l, m, h, hp => by simpa [padTo, PrS.pushBs] using h
  | n + 1, σ, is1, bs1, is2, bs2, ls, l, m, h, hp => by
    rw [padTo_succ, padTo_succ, show bs1 ++ l.getD 0 false :: padTo false n l.tail = (bs1 ++ [l.getD 0 false]) ++ padTo false n l.tail by simp, show bs2 ++ m.getD 0 false :: padTo false n m.tail = (bs2 ++ [m.getD 0 false]) ++ padTo false n m.tail by simp]
    cases ls with
    | nil => exact PrS.pushBs_ok (PrS.pushB_ok h (hp 0)) hp.tail
    | cons u ls => exact PrS.pushBs_ok (PrS.pushB_ok h (hp 0)) hp.tail

/-- What is known of a function's answers, from what is known of its arguments. -/
abbrev PF := List (Lb Int) → List (Lb Bool) → List (Lb Int) × List (Lb Bool)
def POk (F : Fun) (p : PF) : Prop := ∀ li lb is1 bs1 is2 bs2, is1.length = li.length → is2.length = li.length → bs1.length = lb.length → bs2.length = lb.length → Pw 0 li is1 is2 → Pw false lb bs1 bs2 → Pw 0 (p li lb).1 (F is1 bs1).1 (F is2 bs2).1 ∧ Pw false (p li lb).2 (F is1 bs1).2 (F is2 bs2).2
def prEm (T : Nat → PF) : List Em → PrS → PrS
  | [], σ => σ
  | .di _ r :: l, σ => prEm T l (σ.pushI (r.lb σ))
  | .db _ r :: l, σ => prEm T l (σ.pushB (r.lb σ))
  | .call f ai ab _ ni _ nb :: l, σ =>
    match T f (ai.map (AI σ)) (ab.map (BI σ)) with
    | (oi, ob) => prEm T l ((σ.pushIs ni oi).pushBs nb ob)
  | .ob _ _ :: l, σ => prEm T l σ
theorem Pw.map {α β : Type} {d : α} {f : β → Lb α} {g h : β → α} : ∀ {l : List β}, (∀ x, (f x).ok (g x) (h x)) → Pw d (l.map f) (l.map g) (l.map h)
  | [], _ => Pw.nil
  | x :: l, hx => Pw.cons (hx x) (Pw.map hx)
theorem prEm_ok {Φ : Funs} {T : Nat → PF} (hT : ∀ f, POk (Φ f) (T f)) : ∀ {l : List Em} {σ : PrS} {is1 : List Int} {bs1 : List Bool} {is2 : List Int} {bs2 : List Bool}, σ.ok is1 bs1 is2 bs2 →
    (prEm T l σ).ok (evEm Φ l is1 bs1).1 (evEm Φ l is1 bs1).2 (evEm Φ l is2 bs2).1 (evEm Φ l is2 bs2).2
  | [], σ, is1, bs1, is2, bs2, h => h
  | .di _ r :: l, σ, is1, bs1, is2, bs2, h => prEm_ok hT (l := l) (PrS.pushI_ok h (r.lb_ok h))
  | .db _ r :: l, σ, is1, bs1, is2, bs2, h => prEm_ok hT (l := l) (PrS.pushB_ok h (r.lb_ok h))
  | .call f ai ab _ ni _ nb :: l, σ, is1, bs1, is2, bs2, h => by
    have h1 := hT f (ai.map (AI σ)) (ab.map (BI σ)) (ai.map (A.d (envOf is1 bs1))) (ab.map (B.d (envOf is1 bs1))) (ai.map (A.d (envOf is2 bs2))) (ab.map (B.d (envOf is2 bs2))) (by simp) (by simp) (by simp) (by simp) (Pw.map (AI_ok h)) (Pw.map (BI_ok h))
    simp only [prEm, evEm]
    exact prEm_ok hT (PrS.pushBs_ok (PrS.pushIs_ok h h1.1) h1.2)
  | .ob _ _ :: l, σ, is1, bs1, is2, bs2, h => prEm_ok hT (l := l) h
/-- What is known at the beginning. -/
def PrS.of (li : List (Lb Int)) (lb : List (Lb Bool)) : PrS := (PrS.pushIs ⟨0, 0, .e, .e⟩ li.length li).pushBs lb.length lb
theorem PrS.of_ok {li : List (Lb Int)} {lb : List (Lb Bool)} {is1 is2 : List Int} {bs1 bs2 : List Bool} (hi : Pw 0 li is1 is2) (hb : Pw false lb bs1 bs2)
    (h1 : is1.length = li.length) (h2 : is2.length = li.length) (h3 : bs1.length = lb.length) (h4 : bs2.length = lb.length) : (PrS.of li lb).ok is1 bs1 is2 bs2 := by
  have e : ∀ {α : Type} (d : α) (l : List α), padTo d l.length l = l := by
    intro α d l
    induction l with
    | nil => rfl
    | cons x l ih => simp [padTo, ih]
  have h0 : (⟨0, 0, .e, .e⟩ : PrS).ok [] [] [] [] := ⟨⟨rfl, rfl, fun j hj => absurd hj (Nat.not_lt_zero j)⟩, rfl, rfl, fun j hj => absurd hj (Nat.not_lt_zero j)⟩
  have := PrS.pushBs_ok (n := lb.length) (PrS.pushIs_ok (n := li.length) h0 hi) hb
  rw [← h1, e 0 is1, h1, ← h2, e 0 is2, h2, ← h3, e false bs1, h3, ← h4, e false bs2, h4] at this
  exact this
def PF.nil : PF := fun _ _ => ([], [])
theorem POk.nil {F : Fun} : POk F PF.nil := fun _ _ _ _ _ _ _ _ _ _ _ _ => ⟨Pw.nil, Pw.nil⟩
def Smry.pr (T : Nat → PF) (pre : Bool) (S : Smry) : PF := fun li lb =>
  match prEm T S.em (PrS.of li lb) with
  | σ => (S.ri.map (AI σ), (if pre then [Lb.top] else []) ++ S.rb.map (BI σ))
theorem Smry.pr_ok {Φ : Funs} {T : Nat → PF} (hT : ∀ f, POk (Φ f) (T f)) {pre : Bool} {S : Smry} : POk (S.run Φ pre) (S.pr T pre) := by
  intro li lb is1 bs1 is2 bs2 h1 h2 h3 h4 hi hb
  have h := prEm_ok hT (l := S.em) (PrS.of_ok hi hb h1 h2 h3 h4)
  unfold Smry.pr Smry.run
  simp only
  refine ⟨Pw.map (AI_ok h), ?_⟩
  cases pre
  · simpa using Pw.map (BI_ok h)
  · simp only [if_true, List.cons_append, List.nil_append]
    exact Pw.cons Lb.top_ok (Pw.map (BI_ok h))
def tabP : List (Nat × PF) → Nat → PF
  | [], _ => PF.nil
  | (f, p) :: l, n => if Nat.beq n f then p else tabP l n
end Go.Proofs.YtalnndmnnffnmaaGreat.Sx
/-! ## SxVa -/
set_option linter.unusedVariables false
set_option linter.unusedSimpArgs false
namespace Go.Proofs.YtalnndmnnffnmaaGreat.Sx
open Go

/-- What is known of a number: which ones it may be; an octet's mask that it lies within. -/
structure VI where
  vs : Option (List Int)
  mm : Option Int
def VI.ok (l : VI) (x : Int) : Prop := (∀ L, l.vs = some L → x ∈ L) ∧ ∀ m, l.mm = some m → arI .and .u8 x m = x
def VI.top : VI := ⟨none, none⟩
def VI.cst (v : Int) : VI := ⟨some [v], none⟩
def VI.of (L : List Int) : VI := ⟨some L, none⟩
def VI.msk (m : Int) : VI := ⟨none, some m⟩
abbrev VB := Option Bool
def VB.ok (l : VB) (x : Bool) : Prop := ∀ v, l = some v → x = v
theorem VI.top_ok {x : Int} : VI.top.ok x := ⟨fun L h => (by cases h), fun m h => (by cases h)⟩
theorem VI.cst_ok {v : Int} : (VI.cst v).ok v := ⟨fun L h => (by cases h; simp), fun m h => (by cases h)⟩
theorem VI.of_ok {L : List Int} {x : Int} (h : x ∈ L) : (VI.of L).ok x := ⟨fun M e => (by cases e; exact h), fun m h => (by cases h)⟩
theorem VI.msk_ok {m x : Int} (h : arI .and .u8 x m = x) : (VI.msk m).ok x := ⟨fun M e => (by cases e), fun m h' => (by cases h'; exact h)⟩
theorem VB.none_ok {x : Bool} : VB.ok none x := fun v h => by cases h
theorem VB.some_ok {x : Bool} : VB.ok (some x) x := fun v h => by cases h; rfl

/-! ### Few values -/
def dedI : List Int → List Int → List Int
  | [], acc => acc
  | x :: l, acc => if acc.any (fun y => decide (x = y)) then dedI l acc else dedI l (x :: acc)
theorem dedI_mem {x : Int} : ∀ {l acc : List Int}, x ∈ l ∨ x ∈ acc → x ∈ dedI l acc
  | [], acc, h => by rcases h with h | h; cases h; exact h
  | y :: l, acc, h => by
    unfold dedI
    split
    · rename_i hc
      simp only [List.any_eq_true, decide_eq_true_eq] at hc
      obtain ⟨z, hz, rfl⟩ := hc
      refine dedI_mem ?_
      rcases h with h | h
      · rcases List.mem_cons.1 h with rfl | h
        · exact .inr hz
        · exact .inl h
      · exact .inr h
    · refine dedI_mem ?_
      rcases h with h | h
      · rcases List.mem_cons.1 h with rfl | h
        · exact .inr (by simp)
        · exact .inl h
      · exact .inr (by simp [h])
def small (l : List Int) : Option (List Int) := if Nat.ble l.length 300 then some l else none
theorem small_l {l L : List Int} (h : small l = some L) : l = L := by
  unfold small at h
  split at h
  · exact Option.some.inj h
  · cases h
def map1 (f : Int → Int) (x : Option (List Int)) : Option (List Int) :=
  match x with
  | some L => small (dedI (L.map f) [])
  | none => none
theorem map1_ok {f : Int → Int} {x : Option (List Int)} {v : Int} (hx : ∀ L, x = some L → v ∈ L) : ∀ L, map1 f x = some L → f v ∈ L := by
  intro L h
  unfold map1 at h
  split at h
  · rename_i M
    rw [← small_l h]
    exact dedI_mem (.inl (List.mem_map.2 ⟨v, hx M rfl, rfl⟩))
  · cases h
def map2 (f : Int → Int → Int) (x y : Option (List Int)) : Option (List Int) :=
  match x, y with
  | some L, some M => if Nat.ble (L.length * M.length) 100 then small (dedI (L.flatMap fun a => M.map fun b => f a b) []) else none
  | _, _ => none
theorem map2_ok {f : Int → Int → Int} {x y : Option (List Int)} {v w : Int} (hx : ∀ L, x = some L → v ∈ L) (hy : ∀ L, y = some L → w ∈ L) : ∀ L, map2 f x y = some L → f v w ∈ L := by
  intro L h
  unfold map2 at h
  split at h
  · rename_i M N
    split at h
    · rw [← small_l h]
      exact dedI_mem (.inl (List.mem_flatMap.2 ⟨v, hx M rfl, List.mem_map.2 ⟨w, hy N rfl, rfl⟩⟩))
    · cases h
  · cases h
/-- All of them give the same truth. -/
def tru1 (f : Int → Bool) (x : Option (List Int)) : VB :=
  match x with
  | some (a :: L) => match f a with
    | true => if L.all f then some true else none
    | false => if L.any f then none else some false
  | _ => none
theorem tru1_ok {f : Int → Bool} {x : Option (List Int)} {v : Int} (hx : ∀ L, x = some L → v ∈ L) : VB.ok (tru1 f x) (f v) := by
  intro b h
  unfold tru1 at h
  split at h
  · rename_i a L
    have hm := hx _ rfl
    split at h
    · rename_i ha
      split at h
      · rename_i hl
        cases h
        rcases List.mem_cons.1 hm with rfl | hm
        · exact ha
        · exact (List.all_eq_true.1 hl) v hm
      · cases h
    · rename_i ha
      split at h
      · cases h
      · rename_i hl
        cases h
        rcases List.mem_cons.1 hm with rfl | hm
        · exact ha
        · cases e : f v
          · rfl
          · exact absurd (List.any_eq_true.2 ⟨v, hm, e⟩) hl
  · cases h
def tru2 (f : Int → Int → Bool) (x y : Option (List Int)) : VB :=
  match x, y with
  | some (a :: L), some (b :: M) => if Nat.ble ((L.length + 1) * (M.length + 1)) 200 then
      match f a b with
      | true => if (a :: L).all (fun x => (b :: M).all (f x)) then some true else none
      | false => if (a :: L).any (fun x => (b :: M).any (f x)) then none else some false
    else none
  | _, _ => none
theorem tru2_ok {f : Int → Int → Bool} {x y : Option (List Int)} {v w : Int} (hx : ∀ L, x = some L → v ∈ L) (hy : ∀ L, y = some L → w ∈ L) : VB.ok (tru2 f x y) (f v w) := by
  intro b h
  unfold tru2 at h
  split at h
  · rename_i a L c M
    have hm := hx _ rfl
    have hn := hy _ rfl
    split at h
    · split at h
      · split at h
        · rename_i hl
          cases h
          exact List.all_eq_true.1 (List.all_eq_true.1 hl v hm) w hn
        · cases h
      · split at h
        · cases h
        · rename_i hl
          cases h
          cases e : f v w
          · rfl
          · exact absurd (List.any_eq_true.2 ⟨v, hm, List.any_eq_true.2 ⟨w, hn, e⟩⟩) hl
    · cases h
  · cases h

/-! ### Masks -/
theorem and8_nat (x m : Int) : arI .and .u8 x m = ((BitVec.ofInt 8 x &&& BitVec.ofInt 8 m).toNat : Int) := by
  show IntKind.wrap .u8 ↑(BitVec.ofInt 8 x &&& BitVec.ofInt 8 m).toNat = _
  rw [wrap_u8]
  have := (BitVec.ofInt 8 x &&& BitVec.ofInt 8 m).isLt
  omega
theorem ofInt_nat8 (b : BitVec 8) : BitVec.ofInt 8 (b.toNat : Int) = b := by
  apply BitVec.eq_of_toNat_eq
  have := b.isLt
  simp
theorem or8_nat (x m : Int) : arI .or .u8 x m = ((BitVec.ofInt 8 x ||| BitVec.ofInt 8 m).toNat : Int) := by
  show IntKind.wrap .u8 ↑(BitVec.ofInt 8 x ||| BitVec.ofInt 8 m).toNat = _
  rw [wrap_u8]
  have := (BitVec.ofInt 8 x ||| BitVec.ofInt 8 m).isLt
  omega
theorem andNot8_nat (x m : Int) : arI .andNot .u8 x m = ((BitVec.ofInt 8 x &&& ~~~ BitVec.ofInt 8 m).toNat : Int) := by
  show IntKind.wrap .u8 ↑(BitVec.ofInt 8 x &&& ~~~ BitVec.ofInt 8 m).toNat = _
  rw [wrap_u8]
  have := (BitVec.ofInt 8 x &&& ~~~ BitVec.ofInt 8 m).isLt
  omega
theorem mk_iff {x m : Int} : arI .and .u8 x m = x ↔ ∃ b : BitVec 8, x = (b.toNat : Int) ∧ b &&& BitVec.ofInt 8 m = b := by
  rw [and8_nat]
  constructor
  · intro h
    refine ⟨BitVec.ofInt 8 x &&& BitVec.ofInt 8 m, h.symm, ?_⟩
    rw [BitVec.and_assoc, BitVec.and_self]
  · rintro ⟨b, rfl, h⟩
    rw [ofInt_nat8, h]
theorem mk_and_l {x y m : Int} (h : arI .and .u8 x m = x) : arI .and .u8 (arI .and .u8 x y) m = arI .and .u8 x y := by
  obtain ⟨b, rfl, hb⟩ := mk_iff.1 h
  refine mk_iff.2 ⟨b &&& BitVec.ofInt 8 y, by rw [and8_nat, ofInt_nat8], ?_⟩
  rw [BitVec.and_assoc, BitVec.and_comm (BitVec.ofInt 8 y), ← BitVec.and_assoc, hb]
theorem mk_and_r {x y m : Int} (h : arI .and .u8 y m = y) : arI .and .u8 (arI .and .u8 x y) m = arI .and .u8 x y := by
  obtain ⟨b, rfl, hb⟩ := mk_iff.1 h
  refine mk_iff.2 ⟨BitVec.ofInt 8 x &&& b, by rw [and8_nat, ofInt_nat8], ?_⟩
  rw [BitVec.and_assoc, hb]
theorem mk_andNot {x y m : Int} (h : arI .and .u8 x m = x) : arI .and .u8 (arI .andNot .u8 x y) m = arI .andNot .u8 x y := by
  obtain ⟨b, rfl, hb⟩ := mk_iff.1 h
  refine mk_iff.2 ⟨b &&& ~~~ BitVec.ofInt 8 y, by rw [andNot8_nat, ofInt_nat8], ?_⟩
  rw [BitVec.and_assoc, BitVec.and_comm (~~~ BitVec.ofInt 8 y), ← BitVec.and_assoc, hb]
theorem mk_or {x y m : Int} (h : arI .and .u8 x m = x) (h' : arI .and .u8 y m = y) : arI .and .u8 (arI .or .u8 x y) m = arI .or .u8 x y := by
  obtain ⟨b, rfl, hb⟩ := mk_iff.1 h
  obtain ⟨c, rfl, hc⟩ := mk_iff.1 h'
  refine mk_iff.2 ⟨b ||| c, by rw [or8_nat, ofInt_nat8, ofInt_nat8], ?_⟩
  have : (b ||| c) &&& BitVec.ofInt 8 m = (b &&& BitVec.ofInt 8 m) ||| (c &&& BitVec.ofInt 8 m) := by
    rw [BitVec.and_comm, BitVec.and_or_distrib_left, BitVec.and_comm, BitVec.and_comm (BitVec.ofInt 8 m)]
  rw [this, hb, hc]
def VI.within (l : VI) (m : Int) : Bool := (match l.mm with
    | some k => decide (k = m)
    | none => false) || (match l.vs with
    | some L => L.all fun x => decide (arI .and .u8 x m = x)
    | none => false)
theorem VI.within_ok {l : VI} {m x : Int} (h : l.within m = true) (hx : l.ok x) : arI .and .u8 x m = x := by
  unfold VI.within at h
  simp only [Bool.or_eq_true] at h
  rcases h with h | h
  · split at h
    · rename_i k hk
      have := of_decide_eq_true h
      subst this
      exact hx.2 _ hk
    · cases h
  · split at h
    · rename_i L hL
      exact of_decide_eq_true (List.all_eq_true.1 h x (hx.1 L hL))
    · cases h
def isC : VI → Option Int
  | ⟨some [c], _⟩ => some c
  | _ => none
theorem isC_ok {l : VI} {c x : Int} (h : isC l = some c) (hx : l.ok x) : x = c := by
  unfold isC at h
  split at h
  · cases h
    simpa using hx.1 _ rfl
  · cases h
def mkOf (op : BinOp) (k : IntKind) (x y : VI) : Option Int :=
  match op, k with
  | .and, .u8 => match x.mm, y.mm, isC x, isC y with
    | some m, _, _, _ => some m
    | none, some m, _, _ => some m
    | none, none, some c, _ => if decide (arI .and .u8 c c = c) then some c else none
    | none, none, none, some c => if decide (arI .and .u8 c c = c) then some c else none
    | none, none, none, none => none
  | .andNot, .u8 => x.mm
  | .or, .u8 => match x.mm, y.mm with
    | some m, _ => if y.within m then some m else none
    | none, some m => if x.within m then some m else none
    | none, none => none
  | _, _ => none
theorem mkOf_ok {op : BinOp} {k : IntKind} {x y : VI} {v w : Int} (hx : x.ok v) (hy : y.ok w) : ∀ m, mkOf op k x y = some m → arI .and .u8 (arI op k v w) m = arI op k v w := by
  intro m h
  unfold mkOf at h
  split at h
  · split at h
    · rename_i e; cases h; exact mk_and_l (hx.2 _ e)
    · rename_i e; cases h; exact mk_and_r (hy.2 _ e)
    · rename_i e
      split at h
      · rename_i hd; cases h
        have := isC_ok e hx
        subst this
        exact mk_and_l (of_decide_eq_true hd)
      · cases h
    · rename_i e
      split at h
      · rename_i hd; cases h
        have := isC_ok e hy
        subst this
        exact mk_and_r (of_decide_eq_true hd)
      · cases h
    · cases h
  · exact mk_andNot (hx.2 _ h)
  · split at h
    · rename_i e
      split at h
      · rename_i hw; cases h
        exact mk_or (hx.2 _ e) (VI.within_ok hw hy)
      · cases h
    · rename_i e
      split at h
      · rename_i hw; cases h
        exact mk_or (VI.within_ok hw hx) (hy.2 _ e)
      · cases h
    · cases h
  · cases h

def arV (op : BinOp) (k : IntKind) (x y : VI) : VI := ⟨map2 (arI op k) x.vs y.vs, mkOf op k x y⟩
theorem arV_ok {op : BinOp} {k : IntKind} {x y : VI} {v w : Int} (hx : x.ok v) (hy : y.ok w) : (arV op k x y).ok (arI op k v w) := ⟨map2_ok hx.1 hy.1, mkOf_ok hx hy⟩
def op1V (f : Int → Int) (x : VI) : VI := ⟨map1 f x.vs, none⟩
theorem op1V_ok {f : Int → Int} {x : VI} {v : Int} (hx : x.ok v) : (op1V f x).ok (f v) := ⟨map1_ok hx.1, fun m h => by cases h⟩
def op2V (f : Int → Int → Int) (x y : VI) : VI := ⟨map2 f x.vs y.vs, none⟩
theorem op2V_ok {f : Int → Int → Int} {x y : VI} {v w : Int} (hx : x.ok v) (hy : y.ok w) : (op2V f x y).ok (f v w) := ⟨map2_ok hx.1 hy.1, fun m h => by cases h⟩
def uniO (x y : Option (List Int)) : Option (List Int) :=
  match x, y with
  | some L, some M => small (dedI L M)
  | _, _ => none
theorem uniO_ok {x y : Option (List Int)} {v : Int} (h : (∀ L, x = some L → v ∈ L) ∨ ∀ L, y = some L → v ∈ L) : ∀ L, uniO x y = some L → v ∈ L := by
  intro L e
  unfold uniO at e
  split at e
  · rename_i M N
    rw [← small_l e]
    refine dedI_mem ?_
    rcases h with h | h
    · exact .inl (h M rfl)
    · exact .inr (h N rfl)
  · cases e
/-- One of both. -/
def VI.join (x y : VI) : VI := ⟨uniO x.vs y.vs, match x.mm, y.mm with
  | some m, _ => if y.within m then some m else none
  | none, some m => if x.within m then some m else none
  | none, none => none⟩
theorem VI.join_ok {x y : VI} {v : Int} (h : x.ok v ∨ y.ok v) : (x.join y).ok v := by
  refine ⟨uniO_ok (h.imp (·.1) (·.1)), fun m e => ?_⟩
  simp only [VI.join] at e
  split at e
  · rename_i k hk
    split at e
    · rename_i hw; cases e
      rcases h with h | h
      · exact h.2 _ hk
      · exact VI.within_ok hw h
    · cases e
  · rename_i k _ hk
    split at e
    · rename_i hw; cases e
      rcases h with h | h
      · exact VI.within_ok hw h
      · exact h.2 _ hk
    · cases e
  · cases e
def iteV (c : VB) (x y : VI) : VI := match c with
  | some true => x
  | some false => y
  | none => x.join y
theorem iteV_ok {c : VB} {x y : VI} {b : Bool} {v w : Int} (hc : c.ok b) (hx : x.ok v) (hy : y.ok w) : (iteV c x y).ok (if b then v else w) := by
  unfold iteV
  split
  · rw [hc true rfl]; exact hx
  · rw [hc false rfl]; exact hy
  · cases b
    · exact VI.join_ok (.inr hy)
    · exact VI.join_ok (.inl hx)

/-! ### What was emitted -/
structure VaS where
  ni : Nat
  nb : Nat
  ti : Tr VI
  tb : Tr VB
def VaS.i (σ : VaS) (n : Nat) : VI := σ.ti.get VI.top (n + 1)
def VaS.b (σ : VaS) (n : Nat) : VB := σ.tb.get none (n + 1)
def Vl {α β : Type} (ok : β → α → Prop) (d : α) (n : Nat) (f : Nat → β) (l : List α) : Prop := l.length = n ∧ ∀ j, j < n → ok (f j) (l.getD j d)
def VaS.ok (σ : VaS) (is : List Int) (bs : List Bool) : Prop := Vl VI.ok 0 σ.ni σ.i is ∧ Vl VB.ok false σ.nb σ.b bs
def AV (σ : VaS) : A → VI
  | .v n => match Nat.blt n σ.ni with
    | true => σ.i n
    | false => VI.cst 0
  | .c k => VI.cst k
def BV (σ : VaS) : B → VB
  | .v n => match Nat.blt n σ.nb with
    | true => σ.b n
    | false => some false
  | .c k => some k
theorem AV_ok {σ : VaS} {is : List Int} {bs : List Bool} (h : σ.ok is bs) (x : A) : (AV σ x).ok (x.d (envOf is bs)) := by
  cases x with
  | v n =>
    cases hn : Nat.blt n σ.ni with
    | true =>
      simp only [AV, hn]
      rw [Nat.blt_eq] at hn
      exact h.1.2 n hn
    | false =>
      simp only [AV, hn]
      have hn' : ¬ n < σ.ni := by rw [← Nat.blt_eq]; simp [hn]
      show (VI.cst 0).ok (is.getD n 0)
      rw [getD_ge (by rw [h.1.1]; omega)]
      exact VI.cst_ok
  | c k => exact VI.cst_ok
theorem BV_ok {σ : VaS} {is : List Int} {bs : List Bool} (h : σ.ok is bs) (x : B) : VB.ok (BV σ x) (x.d (envOf is bs)) := by
  cases x with
  | v n =>
    cases hn : Nat.blt n σ.nb with
    | true =>
      simp only [BV, hn]
      rw [Nat.blt_eq] at hn
      exact h.2.2 n hn
    | false =>
      simp only [BV, hn]
      have hn' : ¬ n < σ.nb := by rw [← Nat.blt_eq]; simp [hn]
      show VB.ok (some false) (bs.getD n false)
      rw [getD_ge (by rw [h.2.1]; omega)]
      exact VB.some_ok
  | c k => exact VB.some_ok
def RI.va (σ : VaS) : RI → VI
  | .ar op k a b => arV op k (AV σ a) (AV σ b)
  | .cv k a => op1V (IntKind.wrap k) (AV σ a)
  | .ite c a b => iteV (BV σ c) (AV σ a) (AV σ b)
  | .mn a b => op2V (fun x y => if y < x then y else x) (AV σ a) (AV σ b)
  | .mx a b => op2V (fun x y => if y > x then y else x) (AV σ a) (AV σ b)
  | .tab l a => op1V (fun x : Int => l.getD x.toNat 0) (AV σ a)
  | .get q a s k => op2V (fun q a => (dec q).getD (a.toNat * s + k) 0) (AV σ q) (AV σ a)
  | .lenq q s => op1V (fun q => ((dec q).length / s : Nat)) (AV σ q)
def mapB (f : Bool → Bool) (x : VB) : VB := x.map f
theorem mapB_ok {f : Bool → Bool} {x : VB} {b : Bool} (h : x.ok b) : VB.ok (mapB f x) (f b) := fun v e => by
  simp only [mapB, Option.map_eq_some_iff] at e
  obtain ⟨u, h1, h2⟩ := e
  rw [h u h1]; exact h2
def RB.va (σ : VaS) : RB → VB
  | .cm op a b => tru2 (cmB op) (AV σ a).vs (AV σ b).vs
  | .not a => mapB (fun x => !x) (BV σ a)
  | .and a b => andO (BV σ a) (BV σ b)
  | .or a b => orO (BV σ a) (BV σ b)
  | .eqb a b => op2 (fun x y : Bool => x == y) (BV σ a) (BV σ b)
  | .ite c a b => iteO (BV σ c) (BV σ a) (BV σ b)
  | .getb q a s k => tru2 (fun q a => (dec q).getD (a.toNat * s + k) 0 != 0) (AV σ q).vs (AV σ a).vs
theorem RI.va_ok {σ : VaS} {is : List Int} {bs : List Bool} (h : σ.ok is bs) (r : RI) : (r.va σ).ok (r.d (envOf is bs)) := by
  cases r with
  | ar op k a b => exact arV_ok (AV_ok h a) (AV_ok h b)
  | cv k a => exact op1V_ok (AV_ok h a)
  | ite c a b => exact iteV_ok (BV_ok h c) (AV_ok h a) (AV_ok h b)
  | mn a b => exact op2V_ok (f := fun x y => if y < x then y else x) (AV_ok h a) (AV_ok h b)
  | mx a b => exact op2V_ok (f := fun x y => if y > x then y else x) (AV_ok h a) (AV_ok h b)
  | tab l a => exact op1V_ok (f := fun x : Int => l.getD x.toNat 0) (AV_ok h a)
  | get q a s k => exact op2V_ok (f := fun q a => (dec q).getD (a.toNat * s + k) 0) (AV_ok h q) (AV_ok h a)
  | lenq q s => exact op1V_ok (f := fun q => ((dec q).length / s : Nat)) (AV_ok h q)
theorem RB.va_ok {σ : VaS} {is : List Int} {bs : List Bool} (h : σ.ok is bs) (r : RB) : VB.ok (r.va σ) (r.d (envOf is bs)) := by
  cases r with
  | cm op a b => exact tru2_ok (AV_ok h a).1 (AV_ok h b).1
  | not a => exact mapB_ok (f := fun x => !x) (BV_ok h a)
  | and a b => exact andO_ok (BV_ok h a) (BV_ok h b)
  | or a b => exact orO_ok (BV_ok h a) (BV_ok h b)
  | eqb a b => exact op2_ok (f := fun x y : Bool => x == y) (BV_ok h a) (BV_ok h b)
  | ite c a b => exact iteO_ok (BV_ok h c) (BV_ok h a) (BV_ok h b)
  | getb q a s k => exact tru2_ok (f := fun q a => (dec q).getD (a.toNat * s + k) 0 != 0) (AV_ok h q).1 (AV_ok h a).1
def VaS.pushI (σ : VaS) (x : VI) : VaS := { σ with ni := σ.ni + 1, ti := σ.ti.set (σ.ni + 1) x }
def VaS.pushB (σ : VaS) (x : VB) : VaS := { σ with nb := σ.nb + 1, tb := σ.tb.set (σ.nb + 1) x }
theorem Vl.push {α β : Type} {ok : β → α → Prop} {d x : α} {n : Nat} {t : Tr β} {tp : β} (htp : ∀ x, ok tp x) {u : β} {l : List α} (h : Vl ok d n (fun j => t.get tp (j + 1)) l) (hu : ok u x) :
    Vl ok d (n + 1) (fun j => (t.set (n + 1) u).get tp (j + 1)) (l ++ [x]) := by
  obtain ⟨h1, h3⟩ := h
  refine ⟨by simp [h1], fun j hj => ?_⟩
  simp only
  by_cases e : j = n
  · have e1 : (l ++ [x]).getD j d = x := by rw [e, ← h1]; exact getD_snoc_eq
    rw [e1, e]
    rcases Tr.get_set_eq (d := tp) (x := u) (t := t) (i := n + 1) with h | h
    · rw [h]; exact hu
    · rw [h]; exact htp x
  · rw [getD_snoc_lt (by omega), Tr.get_set_ne (by omega) (by omega) (by omega)]
    exact h3 j (by omega)
theorem VaS.pushI_ok {σ : VaS} {is : List Int} {bs : List Bool} {u : VI} {x : Int} (h : σ.ok is bs) (hu : u.ok x) : (σ.pushI u).ok (is ++ [x]) bs := ⟨Vl.push (fun _ => VI.top_ok) h.1 hu, h.2⟩
theorem VaS.pushB_ok {σ : VaS} {is : List Int} {bs : List Bool} {u : VB} {x : Bool} (h : σ.ok is bs) (hu : u.ok x) : (σ.pushB u).ok is (bs ++ [x]) := ⟨h.1, Vl.push (fun _ => VB.none_ok) h.2 hu⟩
def VaS.pushIs (σ : VaS) : Nat → List VI → VaS
  | 0, _ => σ
  | n + 1, [] => (σ.pushI VI.top).pushIs n []
  | n + 1, x :: l => (σ.pushI x).pushIs n l
def VaS.pushBs (σ : VaS) : Nat → List VB → VaS
  | 0, _ => σ
  | n + 1, [] => (σ.pushB none).pushBs n []
  | n + 1, x :: l => (σ.pushB x).pushBs n l
def Vw {α β : Type} (ok : β → α → Prop) (tp : β) (d : α) (ls : List β) (l : List α) : Prop := ∀ j, ok (ls.getD j tp) (l.getD j d)
abbrev VwI := Vw VI.ok VI.top 0
abbrev VwB := Vw VB.ok none false
theorem VwI.nil {l : List Int} : VwI [] l := fun j => by simpa using VI.top_ok
theorem VwB.nil {l : List Bool} : VwB [] l := fun j => by simpa using VB.none_ok
theorem Vw.cons {α β : Type} {ok : β → α → Prop} {tp : β} {d x : α} {u : β} {ls : List β} {l : List α} (hu : ok u x) (h : Vw ok tp d ls l) : Vw ok tp d (u :: ls) (x :: l) := by
  intro j
  cases j with
  | zero => simpa using hu
  | succ j => simpa using h j
theorem Vw.tail {α β : Type} {ok : β → α → Prop} {tp : β} {d : α} {ls : List β} {l : List α} (h : Vw ok tp d ls l) : Vw ok tp d ls.tail l.tail := fun j => by
  have := h (j + 1)
  cases ls <;> cases l <;> simpa using this
theorem VaS.pushIs_ok : ∀ {n : Nat} {σ : VaS} {is : List Int} {bs : List Bool} {ls : List VI} {l : List Int}, σ.ok is bs → VwI ls l → (σ.pushIs n ls).ok (is ++ padTo 0 n l) bs
  | 0, σ, is, bs, ls, l, h, hp => by simpa [padTo, VaS.pushIs] using h
  | n + 1, σ, is, bs, ls, l, h, hp => by
    rw [padTo_succ, show is ++ l.getD 0 0 :: padTo 0 n l.tail = (is ++ [l.getD 0 0]) ++ padTo 0 n l.tail by simp]
    cases ls with
    | nil => exact VaS.pushIs_ok (VaS.pushI_ok h (hp 0)) hp.tail
    | cons u ls => exact VaS.pushIs_ok (VaS.pushI_ok h (hp 0)) hp.tail
theorem VaS.pushBs_ok : ∀ {n : Nat} {σ : VaS} {is : List Int} {bs : List Bool} {ls : List VB} {l : List Bool}, σ.ok is bs → VwB ls l → (σ.pushBs n ls).ok is (bs ++ padTo false n l)
  | 0, σ, is, bs, ls, l, h, hp => by simpa [padTo, VaS.pushBs] using h
  | n + 1, σ, is, bs, ls, l, h, hp => by
    rw [padTo_succ, show bs ++ l.getD 0 false :: padTo false n l.tail = (bs ++ [l.getD 0 false]) ++ padTo false n l.tail by simp]
    cases ls with
    | nil => exact VaS.pushBs_ok (VaS.pushB_ok h (hp 0)) hp.tail
    | cons u ls => exact VaS.pushBs_ok (VaS.pushB_ok h (hp 0)) hp.tail

/-- What is known of a function's answers, from what is known of its arguments. -/
abbrev VF := List VI → List VB → List VI × List VB
def VOk (F : Fun) (p : VF) : Prop := ∀ li lb is bs, is.length = li.length → bs.length = lb.length → VwI li is → VwB lb bs → VwI (p li lb).1 (F is bs).1 ∧ VwB (p li lb).2 (F is bs).2
def VF.nil : VF := fun _ _ => ([], [])
theorem VOk.nil {F : Fun} : VOk F VF.nil := fun _ _ _ _ _ _ _ _ => ⟨VwI.nil, VwB.nil⟩
def vaEm (T : Nat → VF) : List Em → VaS → VaS
  | [], σ => σ
  | .di _ r :: l, σ => vaEm T l (σ.pushI (r.va σ))
  | .db _ r :: l, σ => vaEm T l (σ.pushB (r.va σ))
  | .call f ai ab _ ni _ nb :: l, σ =>
    match T f (ai.map (AV σ)) (ab.map (BV σ)) with
    | (oi, ob) => vaEm T l ((σ.pushIs ni oi).pushBs nb ob)
  | .ob _ _ :: l, σ => vaEm T l σ
theorem VwI.map {β : Type} {f : β → VI} {g : β → Int} : ∀ {l : List β}, (∀ x, (f x).ok (g x)) → VwI (l.map f) (l.map g)
  | [], _ => VwI.nil
  | x :: l, hx => Vw.cons (hx x) (VwI.map hx)
theorem VwB.map {β : Type} {f : β → VB} {g : β → Bool} : ∀ {l : List β}, (∀ x, VB.ok (f x) (g x)) → VwB (l.map f) (l.map g)
  | [], _ => VwB.nil
  | x :: l, hx => Vw.cons (hx x) (VwB.map hx)
theorem vaEm_ok {Φ : Funs} {T : Nat → VF} (hT : ∀ f, VOk (Φ f) (T f)) : ∀ {l : List Em} {σ : VaS} {is : List Int} {bs : List Bool}, σ.ok is bs → (vaEm T l σ).ok (evEm Φ l is bs).1 (evEm Φ l is bs).2
  | [], σ, is, bs, h => h
  | .di _ r :: l, σ, is, bs, h => vaEm_ok hT (l := l) (VaS.pushI_ok h (r.va_ok h))
  | .db _ r :: l, σ, is, bs, h => vaEm_ok hT (l := l) (VaS.pushB_ok h (r.va_ok h))
  | .call f ai ab _ ni _ nb :: l, σ, is, bs, h => by
    have h1 := hT f (ai.map (AV σ)) (ab.map (BV σ)) (ai.map (A.d (envOf is bs))) (ab.map (B.d (envOf is bs))) (by simp) (by simp) (VwI.map (AV_ok h)) (VwB.map (BV_ok h))
    simp only [vaEm, evEm]
    exact vaEm_ok hT (VaS.pushBs_ok (VaS.pushIs_ok h h1.1) h1.2)
  | .ob _ _ :: l, σ, is, bs, h => vaEm_ok hT (l := l) h
def VaS.of (li : List VI) (lb : List VB) : VaS := (VaS.pushIs ⟨0, 0, .e, .e⟩ li.length li).pushBs lb.length lb
theorem padTo_self {α : Type} (d : α) : ∀ (l : List α), padTo d l.length l = l
  | [] => rfl
  | x :: l => by simp [padTo, padTo_self d l]
theorem VaS.of_ok {li : List VI} {lb : List VB} {is : List Int} {bs : List Bool} (hi : VwI li is) (hb : VwB lb bs) (h1 : is.length = li.length) (h3 : bs.length = lb.length) : (VaS.of li lb).ok is bs := by
  have h0 : (⟨0, 0, .e, .e⟩ : VaS).ok [] [] := ⟨⟨rfl, fun j hj => absurd hj (Nat.not_lt_zero j)⟩, rfl, fun j hj => absurd hj (Nat.not_lt_zero j)⟩
  have := VaS.pushBs_ok (n := lb.length) (VaS.pushIs_ok (n := li.length) h0 hi) hb
  rw [← h1, padTo_self, h1, ← h3, padTo_self, h3] at this
  exact this
/-- What is owed is paid, as far as is known. -/
def obV (σ : VaS) (l : List Em) : Bool := l.all fun
  | .ob g b => g.any (fun p => match BV σ p.1 with
      | some v => v != p.2
      | none => false) || (match BV σ b with
      | some true => true
      | _ => false)
  | _ => true
theorem obV_ok {σ : VaS} {is : List Int} {bs : List Bool} (h : σ.ok is bs) {l : List Em} (ho : obV σ l = true) : obAll (envOf is bs) l = true := by
  unfold obAll
  unfold obV at ho
  rw [List.all_eq_true] at ho ⊢
  intro e he
  have := ho e he
  cases e with
  | ob g b =>
    simp only [Bool.or_eq_true] at this ⊢
    rcases this with h1 | h1
    · left
      rw [List.any_eq_true] at h1
      obtain ⟨p, hp, h2⟩ := h1
      split at h2
      · rename_i v hv
        have h3 := BV_ok h p.1 v hv
        simp only [bne_iff_ne, ne_eq] at h2
        simp only [Bool.not_eq_true']
        cases hg : Gd.d (envOf is bs) g
        · rfl
        · unfold Gd.d at hg
          rw [List.all_eq_true] at hg
          have := hg p hp
          simp only [beq_iff_eq] at this
          exact absurd (h3.symm.trans this) h2
      · cases h2
    · right
      split at h1
      · rename_i hv
        exact BV_ok h b true hv
      · cases h1
  | _ => rfl
/-- A function's summary, seen so. -/
def Smry.va (T : Nat → VF) (pre : Bool) (S : Smry) : VF := fun li lb =>
  match vaEm T S.em (VaS.of li lb) with
  | σ => (S.ri.map (AV σ), (if pre then [if obV σ S.em then some true else none] else []) ++ S.rb.map (BV σ))
theorem Smry.va_ok {Φ : Funs} {T : Nat → VF} (hT : ∀ f, VOk (Φ f) (T f)) {pre : Bool} {S : Smry} : VOk (S.run Φ pre) (S.va T pre) := by
  intro li lb is bs h1 h2 hi hb
  have h := vaEm_ok hT (l := S.em) (VaS.of_ok hi hb h1 h2)
  unfold Smry.va Smry.run
  simp only
  refine ⟨VwI.map (AV_ok h), ?_⟩
  cases pre
  · simpa using VwB.map (BV_ok h)
  · simp only [if_true, List.cons_append, List.nil_append]
    refine Vw.cons ?_ (VwB.map (BV_ok h))
    split
    · rename_i ho
      rw [obV_ok h ho]; exact VB.some_ok
    · exact VB.none_ok

/-! ### Less is known -/
/-- What is known by the second one is known by the first one. -/
def VI.le (x y : VI) : Bool := (match y.vs with
    | none => true
    | some M => match x.vs with
      | some L => L.all fun a => M.any fun b => decide (a = b)
      | none => false) && (match y.mm with
    | none => true
    | some m => x.within m)
theorem VI.le_ok {x y : VI} {v : Int} (h : x.le y = true) (hx : x.ok v) : y.ok v := by
  unfold VI.le at h
  simp only [Bool.and_eq_true] at h
  refine ⟨fun M hM => ?_, fun m hm => ?_⟩
  · have h1 := h.1
    rw [hM] at h1
    simp only at h1
    split at h1
    · rename_i L hL
      have := List.all_eq_true.1 h1 v (hx.1 L hL)
      rw [List.any_eq_true] at this
      obtain ⟨b, hb, e⟩ := this
      rw [of_decide_eq_true e]; exact hb
    · cases h1
  · have h2 := h.2
    rw [hm] at h2
    exact VI.within_ok h2 hx
def VB.le (x y : VB) : Bool := match y with
  | none => true
  | some v => match x with
    | some u => u == v
    | none => false
theorem VB.le_ok {x y : VB} {v : Bool} (h : VB.le x y = true) (hx : VB.ok x v) : VB.ok y v := by
  intro u e
  subst e
  unfold VB.le at h
  simp only at h
  split at h
  · rename_i w
    simp only [beq_iff_eq] at h
    subst h
    exact hx _ rfl
  · cases h
def leI : List VI → List VI → Bool
  | [], [] => true
  | x :: l, y :: m => x.le y && leI l m
  | _, _ => false
def leB : List VB → List VB → Bool
  | [], [] => true
  | x :: l, y :: m => VB.le x y && leB l m
  | _, _ => false
theorem leI_ok : ∀ {l m : List VI} {is : List Int}, leI l m = true → VwI l is → VwI m is ∧ l.length = m.length
  | [], [], is, _, h => ⟨h, rfl⟩
  | x :: l, y :: m, is, h, hw => by
    unfold leI at h
    simp only [Bool.and_eq_true] at h
    have ih := leI_ok (is := is.tail) h.2 hw.tail
    refine ⟨fun j => ?_, by simp [ih.2]⟩
    cases j with
    | zero => exact VI.le_ok h.1 (hw 0)
    | succ j =>
      have := ih.1 j
      cases is <;> simpa using this
  | [], _ :: _, _, h, _ => by cases h
  | _ :: _, [], _, h, _ => by cases h
theorem leB_ok : ∀ {l m : List VB} {is : List Bool}, leB l m = true → VwB l is → VwB m is ∧ l.length = m.length
  | [], [], is, _, h => ⟨h, rfl⟩
  | x :: l, y :: m, is, h, hw => by
    unfold leB at h
    simp only [Bool.and_eq_true] at h
    have ih := leB_ok (is := is.tail) h.2 hw.tail
    refine ⟨fun j => ?_, by simp [ih.2]⟩
    cases j with
    | zero => exact VB.le_ok h.1 (hw 0)
    | succ j =>
      have := ih.1 j
      cases is <;> simpa using this
  | [], _ :: _, _, h, _ => by cases h
  | _ :: _, [], _, h, _ => by cases h
/-- Looked at once: of such arguments come such answers. -/
def VF.memo (p : VF) (si : List VI) (sb : List VB) (o : List VI × List VB) : VF := fun li lb => if leI li si && leB lb sb then o else p li lb
theorem VOk.memo {F : Fun} {p : VF} {si : List VI} {sb : List VB} {o : List VI × List VB} (h : VOk F p) (ho : leI (p si sb).1 o.1 = true ∧ leB (p si sb).2 o.2 = true) : VOk F (p.memo si sb o) := by
  intro li lb is bs h1 h2 hi hb
  unfold VF.memo
  split
  · rename_i hc
    simp only [Bool.and_eq_true] at hc
    have ei := leI_ok hc.1 hi
    have eb := leB_ok hc.2 hb
    have := h si sb is bs (by rw [h1, ei.2]) (by rw [h2, eb.2]) ei.1 eb.1
    exact ⟨(leI_ok ho.1 this.1).1, (leB_ok ho.2 this.2).1⟩
  · exact h li lb is bs h1 h2 hi hb
/-- One number's values, one by one. -/
def joinIs : List VI → List VI → List VI
  | x :: l, y :: m => x.join y :: joinIs l m
  | _, _ => []
def joinBs : List VB → List VB → List VB
  | x :: l, y :: m => joinO x y :: joinBs l m
  | _, _ => []
theorem joinIs_l : ∀ {l m : List VI} {is : List Int}, VwI l is ∨ VwI m is → VwI (joinIs l m) is
  | [], m, is, h => by unfold joinIs; exact VwI.nil
  | _ :: _, [], is, h => by unfold joinIs; exact VwI.nil
  | x :: l, y :: m, is, h => by
    have ih := joinIs_l (l := l) (m := m) (is := is.tail) (h.imp Vw.tail Vw.tail)
    intro j
    cases j with
    | zero => exact VI.join_ok (h.imp (fun h => h 0) (fun h => h 0))
    | succ j =>
      have := ih j
      cases is <;> simpa [joinIs] using this
theorem joinO_ok {x y : VB} {v : Bool} (h : VB.ok x v ∨ VB.ok y v) : VB.ok (joinO x y) v := by
  intro u e
  obtain ⟨h1, h2⟩ := joinO_l e
  rcases h with h | h
  · exact h u h1
  · exact h u h2
theorem joinBs_l : ∀ {l m : List VB} {is : List Bool}, VwB l is ∨ VwB m is → VwB (joinBs l m) is
  | [], m, is, h => by unfold joinBs; exact VwB.nil
  | _ :: _, [], is, h => by unfold joinBs; exact VwB.nil
  | x :: l, y :: m, is, h => by
    have ih := joinBs_l (l := l) (m := m) (is := is.tail) (h.imp Vw.tail Vw.tail)
    intro j
    cases j with
    | zero => exact joinO_ok (h.imp (fun h => h 0) (fun h => h 0))
    | succ j =>
      have := ih j
      cases is <;> simpa [joinBs] using this
def setV {α : Type} (x : α) : Nat → List α → List α
  | _, [] => []
  | 0, _ :: l => x :: l
  | n + 1, y :: l => y :: setV x n l
theorem setV_length {α : Type} {x : α} : ∀ {n : Nat} {l : List α}, (setV x n l).length = l.length
  | _, [] => by cases ‹Nat› <;> rfl
  | 0, _ :: l => rfl
  | n + 1, y :: l => by simp [setV, setV_length (n := n) (l := l)]
theorem setV_ok {x : VI} {v : Int} : ∀ {n : Nat} {l : List VI} {is : List Int}, VwI l is → (is.getD n 0 = v) → x.ok v → VwI (setV x n l) is
  | n, [], is, h, _, _ => by cases n <;> exact h
  | 0, y :: l, is, h, e, hx => by
    intro j
    cases j with
    | zero => simp only [setV, List.getD_cons_zero]; rw [e]; exact hx
    | succ j => have := h (j + 1); simpa [setV] using this
  | n + 1, y :: l, is, h, e, hx => by
    have ih := setV_ok (n := n) (l := l) (is := is.tail) (Vw.tail h) (by cases is <;> simpa using e) hx
    intro j
    cases j with
    | zero => exact h 0
    | succ j =>
      have := ih j
      cases is <;> simpa [setV] using this
def splitL (p : VF) (n : Nat) (li : List VI) (lb : List VB) : List Int → List VI × List VB
  | [] => ([], [])
  | [v] => p (setV (VI.cst v) n li) lb
  | v :: L => match p (setV (VI.cst v) n li) lb, splitL p n li lb L with
    | o, r => (joinIs o.1 r.1, joinBs o.2 r.2)
theorem splitL_ok {F : Fun} {p : VF} (h : VOk F p) {n : Nat} {li : List VI} {lb : List VB} {is : List Int} {bs : List Bool} (h1 : is.length = li.length) (h2 : bs.length = lb.length) (hi : VwI li is) (hb : VwB lb bs) :
    ∀ {L : List Int}, is.getD n 0 ∈ L → VwI (splitL p n li lb L).1 (F is bs).1 ∧ VwB (splitL p n li lb L).2 (F is bs).2
  | [], hm => by cases hm
  | [v], hm => by
    simp only [List.mem_singleton] at hm
    exact h _ _ is bs (by rw [setV_length]; exact h1) h2 (setV_ok hi hm VI.cst_ok) hb
  | v :: w :: L, hm => by
    unfold splitL
    simp only
    by_cases e : is.getD n 0 = v
    · have := h (setV (VI.cst v) n li) lb is bs (by rw [setV_length]; exact h1) h2 (setV_ok hi e VI.cst_ok) hb
      exact ⟨joinIs_l (.inl this.1), joinBs_l (.inl this.2)⟩
    · have := splitL_ok h h1 h2 hi hb (L := w :: L) (by rcases List.mem_cons.1 hm with h | h; exact absurd h e; exact h)
      exact ⟨joinIs_l (.inr this.1), joinBs_l (.inr this.2)⟩
def VF.split (p : VF) (n : Nat) : VF := fun li lb => match (li.getD n VI.top).vs with
  | some L => splitL p n li lb L
  | none => p li lb
theorem VOk.split {F : Fun} {p : VF} (h : VOk F p) (n : Nat) : VOk F (p.split n) := by
  intro li lb is bs h1 h2 hi hb
  unfold VF.split
  split
  · rename_i L hL
    exact splitL_ok h h1 h2 hi hb ((hi n).1 L hL)
  · exact h li lb is bs h1 h2 hi hb
/-- A table of such functions. -/
def tabV : List (Nat × VF) → Nat → VF
  | [], _ => VF.nil
  | (f, p) :: l, n => if Nat.beq n f then p else tabV l n
theorem tabV_nil : ∀ f, VOk (tabF [] f) (tabV [] f) := fun _ => VOk.nil
theorem tabV_cons {l : List (Nat × Sum × Fun)} {m : List (Nat × VF)} {f : Nat} {s : Sum} {F : Fun} {p : VF} (h : VOk F p) (ht : ∀ f, VOk (tabF l f) (tabV m f)) : ∀ g, VOk (tabF ((f, s, F) :: l) g) (tabV ((f, p) :: m) g) := by
  intro g
  unfold tabF tabV
  by_cases e : g = f
  · rw [if_pos (by simpa using e), if_pos (by simpa using e)]; exact h
  · rw [if_neg (by simpa using e), if_neg (by simpa using e)]; exact ht g

/-! ### Loops, turn by turn -/
theorem getD_drop {α : Type} {d : α} : ∀ {n j : Nat} {l : List α}, (l.drop n).getD j d = l.getD (n + j) d
  | 0, j, l => by simp
  | n + 1, j, [] => by simp
  | n + 1, j, x :: l => by rw [Nat.succ_add]; simp
theorem getD_take {α : Type} {d : α} : ∀ {n j : Nat} {l : List α}, (l.take n).getD j d = if j < n then l.getD j d else d
  | 0, j, l => by simp
  | n + 1, j, [] => by simp
  | n + 1, 0, x :: l => by simp
  | n + 1, j + 1, x :: l => by simpa using getD_take (n := n) (j := j) (l := l)
theorem Vw.drop {α β : Type} {ok : β → α → Prop} {tp : β} {d : α} {ls : List β} {l : List α} (n : Nat) (h : Vw ok tp d ls l) : Vw ok tp d (ls.drop n) (l.drop n) := fun j => by
  rw [getD_drop, getD_drop]; exact h (n + j)
theorem Vw.take {α β : Type} {ok : β → α → Prop} {tp : β} {d : α} {ls : List β} {l : List α} (htp : ∀ x, ok tp x) (n : Nat) (h : Vw ok tp d ls l) : Vw ok tp d (ls.take n) (l.take n) := fun j => by
  rw [getD_take, getD_take]
  split
  · exact h j
  · exact htp _
def Smry.vaLoop (T : Nat → VF) (S : Smry) (nI nB : Nat) : Nat → VF
  | 0 => VF.nil
  | n + 1 => fun li lb => match S.va T true li lb with
    | (oi, some true :: some true :: ob) => S.vaLoop T nI nB n (oi.take nI) (ob.take nB)
    | (oi, some true :: some false :: ob) => (oi.drop nI, some true :: ob.drop nB)
    | _ => ([], [])
theorem Smry.vaLoop_run {Φ : Funs} {T : Nat → VF} (hT : ∀ f, VOk (Φ f) (T f)) {S : Smry} {nI nB : Nat} : ∀ {n : Nat} {li : List VI} {lb : List VB} {is : List Int} {bs : List Bool}, is.length = li.length → bs.length = lb.length → VwI li is → VwB lb bs →
    S.vaLoop T nI nB n li lb = ([], []) ∨ ∃ m o, LRun (S.run Φ true) nI nB m is bs o ∧ VwI (S.vaLoop T nI nB n li lb).1 o.1 ∧ VwB (S.vaLoop T nI nB n li lb).2 (true :: o.2)
  | 0, li, lb, is, bs, h1, h2, hi, hb => .inl rfl
  | n + 1, li, lb, is, bs, h1, h2, hi, hb => by
    have hv := Smry.va_ok hT (pre := true) (S := S) li lb is bs h1 h2 hi hb
    have e1 : (S.va T true li lb).1.length = (S.run Φ true is bs).1.length := by simp [Smry.va, Smry.run]
    have e2 : (S.va T true li lb).2.length = (S.run Φ true is bs).2.length := by simp [Smry.va, Smry.run]
    unfold Smry.vaLoop
    generalize S.va T true li lb = q at hv e1 e2 ⊢
    obtain ⟨oi, ob⟩ := q
    simp only at hv e1 e2 ⊢
    obtain ⟨hv1, hv2⟩ := hv
    cases hr : (S.run Φ true is bs).2 with
    | nil =>
      rw [hr] at e2
      have : ob = [] := List.eq_nil_of_length_eq_zero e2
      subst this
      exact .inl rfl
    | cons b0 rb0 =>
      cases rb0 with
      | nil =>
        rw [hr] at e2
        match ob, e2 with
        | [x], _ =>
          left
          split <;> simp_all
      | cons b1 rb =>
        rw [hr] at e2 hv2
        split
        · rename_i x oi' ob' he
          simp only [Prod.mk.injEq] at he
          obtain ⟨rfl, rfl⟩ := he
          have a0 := hv2 0 true rfl
          have a1 := hv2 1 true rfl
          simp only [List.getD_cons_zero, List.getD_cons_succ] at a0 a1
          subst a0; subst a1
          have hv3 : VwB ob' rb := (Vw.tail (Vw.tail hv2))
          simp only [List.length_cons, Nat.add_right_cancel_iff] at e2
          rcases Smry.vaLoop_run hT (S := S) (nI := nI) (nB := nB) (n := n) (li := oi.take nI) (lb := ob'.take nB) (is := (S.run Φ true is bs).1.take nI) (bs := rb.take nB)
            (by simp [e1]) (by simp [e2]) (Vw.take (fun _ => VI.top_ok) nI hv1) (Vw.take (fun _ => VB.none_ok) nB hv3) with h | ⟨m, o, hm, h3, h4⟩
          · exact .inl h
          · exact .inr ⟨m + 1, o, .turn hr hm, h3, h4⟩
        · rename_i x oi' ob' he
          simp only [Prod.mk.injEq] at he
          obtain ⟨rfl, rfl⟩ := he
          have a0 := hv2 0 true rfl
          have a1 := hv2 1 false rfl
          simp only [List.getD_cons_zero, List.getD_cons_succ] at a0 a1
          subst a0; subst a1
          have hv3 : VwB ob' rb := (Vw.tail (Vw.tail hv2))
          exact .inr ⟨1, _, .stop hr, Vw.drop nI hv1, Vw.cons VB.some_ok (Vw.drop nB hv3)⟩
        · exact .inl rfl
theorem Smry.vaLoop_ok {Φ : Funs} {T : Nat → VF} (hT : ∀ f, VOk (Φ f) (T f)) {S : Smry} {nI nB n : Nat} : VOk (loopF (S.run Φ true) nI nB) (S.vaLoop T nI nB n) := by
  intro li lb is bs h1 h2 hi hb
  rcases Smry.vaLoop_run hT (S := S) (nI := nI) (nB := nB) (n := n) h1 h2 hi hb with h | ⟨m, o, hm, h3, h4⟩
  · rw [h]; exact ⟨VwI.nil, VwB.nil⟩
  · rw [loopF_of hm]; exact ⟨h3, h4⟩
/-- A function with loops: of each loop so many turns are looked at. -/
def lpV : List LAnn → Nat → (Nat → VF) → Nat → VF
  | [], _, T => T
  | L :: l, k, T => fun n => if n == L.id then L.S.vaLoop (lpV l k T) L.nI L.nB k else lpV l k T n
theorem lpV_ok {Φ : Funs} {T : Nat → VF} {k : Nat} (hT : ∀ f, VOk (Φ f) (T f)) : ∀ {l : List LAnn} (f : Nat), VOk (lpF l Φ f) (lpV l k T f)
  | [], f => hT f
  | L :: l, f => by
    unfold lpF lpV
    split
    · exact Smry.vaLoop_ok (lpV_ok hT)
    · exact lpV_ok hT f
/-- A function that is known at each number. -/
def VF.at0 (F : Nat → Fl) : VF := fun li _ => match li with
  | [⟨some [.ofNat v], _⟩] => ((F v).1.map VI.cst, (F v).2.map some)
  | _ => ([], [])
theorem VF.at0_ok {F : Nat → Fl} : VOk (fun is _ => F (is.getD 0 0).toNat) (VF.at0 F) := by
  intro li lb is bs h1 h2 hi hb
  unfold VF.at0
  split
  · rename_i v _
    have := (hi 0).1 _ rfl
    simp only [List.mem_singleton] at this
    simp only
    rw [this, show (Int.ofNat v).toNat = v from rfl]
    have e1 : ∀ (l : List Int), VwI (l.map VI.cst) l := fun l => by
      have := VwI.map (f := VI.cst) (g := id) (l := l) (fun x => VI.cst_ok)
      simpa using this
    have e2 : ∀ (l : List Bool), VwB (l.map some) l := fun l => by
      have := VwB.map (f := some) (g := id) (l := l) (fun x => VB.some_ok)
      simpa using this
    exact ⟨e1 _, e2 _⟩
  · exact ⟨VwI.nil, VwB.nil⟩
end Go.Proofs.YtalnndmnnffnmaaGreat.Sx
