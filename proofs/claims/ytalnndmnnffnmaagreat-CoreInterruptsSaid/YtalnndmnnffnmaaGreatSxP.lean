/-
  SX, part P: a function's contract. No condition.
-/
import Derived.Test.YtalnndmnnffnmaaGreatSxO
set_option linter.unusedVariables false
set_option linter.unusedSimpArgs false
namespace Go.Proofs.YtalnndmnnffnmaaGreat.Sx
open Go

section
variable {P : Program} {Φ : Funs} {X : Hnd} {x : Cx} {ρ : Env}

/-! ### Leaving -/
def plainS (v : SV) : Option S := if v.g.isEmpty then some v.s else none
def rOne (P : Program) (gh : Hl) (ng : Nat) (σ : St) : ResultVar → M S
  | .tmp t => lift (plainS (σ.tm.getD t anySV))
  | .cell a t => xLoad P [] (hpX gh ng σ.hp) t (rs [] (σ.tm.getD a anySV))
def resSem (tmps : Array Value) : ResultVar → Sem Value
  | .tmp t => pure (tmps.getD t undef)
  | .cell a t => do loadVar t (← asAddr (tmps.getD a undef))
theorem slot_getD {β : Beta} {σ : St} {a : Act} {w : World} (h : Rel x ρ β σ a w) (t : Nat) : (σ.tm.getD t anySV).mt β ρ (a.tmps.getD t undef) := by
  rw [List.getD_eq_getElem?_getD]
  cases ht : σ.tm[t]? with
  | none => exact anySV_mt _
  | some v => exact h.slot t v ht
theorem rOne_snd (σ : St) (r : ResultVar) : Snd Φ ρ (rOne P x.gh x.ng σ r) (fun s => ∀ β a w, Rel x ρ β σ a w → ∃ v, (resSem a.tmps r).run P w = .ok v w ∧ s.mt β ρ v) := by
  cases r with
  | tmp t =>
    refine (lift_snd _).mono fun s hs β a w h => ⟨_, rfl, ?_⟩
    unfold plainS at hs
    split at hs
    · rename_i hg
      simp only [Option.some.injEq] at hs
      subst hs
      rw [List.isEmpty_iff] at hg
      exact (slot_getD h t).1 (by rw [hg]; rfl)
    · cases hs
  | cell p t =>
    have hL := pure_load (P := P) (Φ := Φ) (Γ := []) (hp := hpX x.gh x.ng σ.hp) (rv := fun o => match o with | .tmp t => σ.tm.getD t anySV | _ => anySV) (dst := none) (ty := 0) (pos := default) (after := #[]) (guard := none) (ρ := ρ) rfl t (.tmp p)
    refine hL.mono fun s hs β a w h => ?_
    obtain ⟨v, hv, hm⟩ := hs β a w (fun z hz => by
      simp only [Op.operands, List.mem_toArray, List.mem_cons, List.not_mem_nil, or_false] at hz
      subst hz
      exact slot_getD h p) h.hx h.bo.sq
    refine ⟨v, ?_, hm⟩
    simp only [execOp, Instr.loadAt, Act.eval, Sem.run_bind, Sem.run_pure] at hv
    cases hp : a.tmps.getD p undef with
    | pointer q =>
      rw [hp] at hv
      cases q with
      | none => simp [Instr.sureAddr] at hv
      | some q =>
        simp only [Instr.sureAddr, Sem.run_pure, Result.andThen_ok] at hv
        cases hl : (loadVar t q).run P w with
        | ok u w' =>
          rw [hl] at hv
          simp only [Result.andThen_ok, Result.ok.injEq, Next.value.injEq] at hv
          obtain ⟨rfl, rfl⟩ := hv
          simp [resSem, hp, asAddr, hl]
        | halt hh w' => rw [hl] at hv; simp [Result.andThen] at hv
    | _ => rw [hp] at hv; simp [Instr.sureAddr, Result.andThen] at hv
def rAll (P : Program) (gh : Hl) (ng : Nat) (σ : St) : List ResultVar → M (List S)
  | [] => pure []
  | r :: l => do
    let s ← rOne P gh ng σ r
    let ss ← rAll P gh ng σ l
    pure (s :: ss)
theorem rAll_snd (σ : St) : ∀ l : List ResultVar, Snd Φ ρ (rAll P x.gh x.ng σ l) (fun ss => ∀ β a w, Rel x ρ β σ a w → ∃ vs, (l.mapM (resSem a.tmps)).run P w = .ok vs w ∧ mtAll β ρ ss vs)
  | [] => Snd.pure fun β a w _ => ⟨[], rfl, trivial⟩
  | r :: l => by
    unfold rAll
    refine Snd.bind (rOne_snd σ r) fun s hs => Snd.bind (rAll_snd σ l) fun ss hss => Snd.pure fun β a w h => ?_
    obtain ⟨v, hv, hm⟩ := hs β a w h
    obtain ⟨vs, hvs, hms⟩ := hss β a w h
    refine ⟨v :: vs, ?_, hm, hms⟩
    rw [List.mapM_cons]
    simp only [Sem.run_bind, hv, Result.andThen_ok, hvs, Sem.run_pure]
def tupV : List Value → Value
  | [v] => v
  | vs => .tuple vs.toArray
theorem results_run {fn : Func} {tmps : Array Value} {w : World} {vs : List Value} (h : (fn.results.toList.mapM (resSem tmps)).run P w = .ok vs w) :
    (results fn tmps).run P w = .ok (tupV vs) w := by
  have e : (fn.results.mapM (resSem tmps)).run P w = .ok vs.toArray w := by
    rw [Array.mapM_eq_mapM_toList, Sem.run_map, h]
    rfl
  have e2 : results fn tmps = (do
      let vs ← fn.results.mapM (resSem tmps)
      pure (if h : vs.size = 1 then vs[0] else .tuple vs)) := by
    unfold results
    congr 1
  rw [e2, Sem.run_bind, e]
  simp only [Result.andThen_ok]
  match vs with
  | [] => rfl
  | [v] => rfl
  | v :: u :: vs => rfl

/-! ### Answers, as numbers and bools -/
def takeR (ng np : Nat) : List CK → List C → Option (List A × List B)
  | [], [] => some ([], [])
  | .int k :: l, .int k' a :: cs => match takeR ng np l cs with
    | some (as, bs) => if k' == k then some (a :: as, bs) else none
    | none => none
  | .bool :: l, .bool b :: cs => match takeR ng np l cs with
    | some (as, bs) => some (as, b :: bs)
    | none => none
  | .pt k o :: l, .ptr [] id off :: cs => match takeR ng np l cs with
    | some r => if id == ng + k && off == o && Nat.blt k np then some r else none
    | none => none
  | .str :: l, c :: cs => match asStr c, takeR ng np l cs with
    | some q, some (as, bs) => some (q :: as, bs)
    | _, _ => none
  | _, _ => none
theorem takeR_flat {β : Beta} {ps : List Rg} {ng np : Nat} (hnp : ps.length = np) (hb : ∀ (k : Nat) (r : Rg), ps[k]? = some r → β (ng + k) = some r) : ∀ {l : List CK} {cs : List C} {as : List A} {bs : List B} {vs : List Value},
    takeR ng np l cs = some (as, bs) → mtL β ρ cs vs → flatC ps l vs = some (as.map (A.d ρ), bs.map (B.d ρ))
  | l, cs, as, bs, vs, h, hm => by
    induction l generalizing cs as bs vs with
    | nil =>
      cases cs with
      | nil =>
        simp only [takeR, Option.some.injEq, Prod.mk.injEq] at h
        obtain ⟨rfl, rfl⟩ := h
        cases vs with
        | nil => rfl
        | cons _ _ => exact hm.elim
      | cons _ _ => simp [takeR] at h
    | cons ck l ih =>
      cases cs with
      | nil => cases ck <;> simp [takeR] at h
      | cons c cs =>
        cases vs with
        | nil => exact hm.elim
        | cons v vs =>
          obtain ⟨h1, h2⟩ := hm
          unfold takeR at h
          split at h
          · rename_i he1 he2; cases he1
          · rename_i k l' k' a cs' he1 he2
            simp only [List.cons.injEq] at he1 he2
            obtain ⟨rfl, rfl⟩ := he1
            obtain ⟨rfl, rfl⟩ := he2
            obtain ⟨rfl, h3⟩ := h1
            split at h
            · rename_i as' bs' ht
              split at h
              · rename_i hk
                simp only [beq_iff_eq] at hk
                subst hk
                simp only [Option.some.injEq, Prod.mk.injEq] at h
                obtain ⟨rfl, rfl⟩ := h
                unfold flatC
                rw [ih _ _ _ _ ht h2]
                simp [inR_mk h3]
              · cases h
            · cases h
          · rename_i l' b cs' he1 he2
            simp only [List.cons.injEq] at he1 he2
            obtain ⟨rfl, rfl⟩ := he1
            obtain ⟨rfl, rfl⟩ := he2
            have h1 : v = .bool (b.d ρ) := h1
            subst h1
            split at h
            · rename_i as' bs' ht
              simp only [Option.some.injEq, Prod.mk.injEq] at h
              obtain ⟨rfl, rfl⟩ := h
              unfold flatC
              rw [ih _ _ _ _ ht h2]
              simp
            · cases h
          · rename_i k o l' id off cs' he1 he2
            simp only [List.cons.injEq] at he1 he2
            obtain ⟨rfl, rfl⟩ := he1
            obtain ⟨rfl, rfl⟩ := he2
            split at h
            · rename_i r ht
              split at h
              · rename_i hc
                simp only [Bool.and_eq_true, beq_iff_eq, Nat.blt_eq] at hc
                obtain ⟨⟨rfl, rfl⟩, hk⟩ := hc
                simp only [Option.some.injEq] at h
                subst h
                obtain ⟨q, hq, rfl⟩ := h1
                have hlt : k < ps.length := by omega
                have hg := List.getElem?_eq_getElem hlt
                have := hb k _ hg
                simp only [pick] at hq
                rw [this] at hq
                simp only [Option.some.injEq] at hq
                unfold flatC
                rw [hg, ih _ _ _ _ ht h2]
                simp [hq, pick]
              · cases h
            · cases h
          · rename_i l' c' cs' he1 he2
            simp only [List.cons.injEq] at he1 he2
            obtain ⟨rfl, rfl⟩ := he1
            obtain ⟨rfl, rfl⟩ := he2
            split at h
            · rename_i q as' bs' hq ht
              simp only [Option.some.injEq, Prod.mk.injEq] at h
              obtain ⟨rfl, rfl⟩ := h
              obtain ⟨s, rfl, e1, e2⟩ := asStr_mt hq h1
              unfold flatC
              rw [ih _ _ _ _ ht h2]
              simp [inR_mk e2, e1]
            · cases h
          · cases h
def takeTup (ng np : Nat) : List (Bool × List CK) → List S → Option (List A × List B)
  | [], [] => some ([], [])
  | p :: l, .one agg cs :: ss => match takeR ng np p.2 cs, takeTup ng np l ss with
    | some (a, b), some (as, bs) => if agg == p.1 && (agg || p.2.length == 1) then some (a ++ as, b ++ bs) else none
    | _, _ => none
  | _, _ => none
theorem take1_flat {β : Beta} {ps : List Rg} {ng np : Nat} (hnp : ps.length = np) (hb : ∀ (k : Nat) (r : Rg), ps[k]? = some r → β (ng + k) = some r) {agg : Bool} {l : List CK} {cs : List C} {a : List A} {b : List B} {v : Value}
    (h : takeR ng np l cs = some (a, b)) (hc : (agg || l.length == 1) = true) (hm : mt1 β ρ agg cs v) : flat1 ps agg l v = some (a.map (A.d ρ), b.map (B.d ρ)) := by
  unfold flat1
  cases agg
  · obtain ⟨c, rfl, hcm⟩ := hm
    simp only [Bool.false_or, beq_iff_eq] at hc
    match l, hc, h with
    | [ck], _, h =>
      simp only [Bool.false_eq_true, if_false]
      exact takeR_flat (vs := [v]) hnp hb h ⟨hcm, trivial⟩
  · obtain ⟨us, rfl, hcm⟩ := hm
    simp only [if_true]
    exact takeR_flat hnp hb h hcm
theorem takeTup_flat {β : Beta} {ps : List Rg} {ng np : Nat} (hnp : ps.length = np) (hb : ∀ (k : Nat) (r : Rg), ps[k]? = some r → β (ng + k) = some r) : ∀ {l : List (Bool × List CK)} {ss : List S} {as : List A} {bs : List B} {vs : List Value},
    takeTup ng np l ss = some (as, bs) → mtAll β ρ ss vs → flatTup ps l vs = some (as.map (A.d ρ), bs.map (B.d ρ))
  | [], [], as, bs, vs, h, hm => by
    simp only [takeTup, Option.some.injEq, Prod.mk.injEq] at h
    obtain ⟨rfl, rfl⟩ := h
    cases vs with
    | nil => rfl
    | cons _ _ => exact hm.elim
  | p :: l, .one agg cs :: ss, as, bs, vs, h, hm => by
    cases vs with
    | nil => exact hm.elim
    | cons v vs =>
      obtain ⟨h1, h2⟩ := hm
      unfold takeTup at h
      split at h
      · rename_i a b as' bs' ht hr
        split at h
        · rename_i hc
          simp only [Bool.and_eq_true, beq_iff_eq] at hc
          obtain ⟨rfl, hc⟩ := hc
          simp only [Option.some.injEq, Prod.mk.injEq] at h
          obtain ⟨rfl, rfl⟩ := h
          unfold flatTup
          rw [take1_flat hnp hb ht hc h1, takeTup_flat hnp hb hr h2]
          simp
        · cases h
      · cases h
  | [], _ :: _, _, _, _, h, _ => by simp [takeTup] at h
  | _ :: _, [], _, _, _, h, _ => by simp [takeTup] at h
  | _ :: _, .tup _ :: _, _, _, _, h, _ => by simp [takeTup] at h
  | _ :: _, .any :: _, _, _, _, h, _ => by simp [takeTup] at h
def takeRes (ng np : Nat) (s : Sum) (ss : List S) : Option (List A × List B) :=
  if s.tup then (if ss.length == 1 then none else takeTup ng np s.res ss)
  else if s.res.length == 1 && ss.length == 1 then takeTup ng np s.res ss else none
theorem flatTup_one {ps : List Rg} {p : Bool × List CK} {v : Value} : flatTup ps [p] [v] = flat1 ps p.1 p.2 v := by
  unfold flatTup
  cases h : flat1 ps p.1 p.2 v with
  | none => simp
  | some f => simp [flatTup]
theorem takeRes_flat {β : Beta} {ps : List Rg} {ng np : Nat} (hnp : ps.length = np) (hb : ∀ (k : Nat) (r : Rg), ps[k]? = some r → β (ng + k) = some r) {s : Sum} {ss : List S} {as : List A} {bs : List B} {vs : List Value}
    (h : takeRes ng np s ss = some (as, bs)) (hm : mtAll β ρ ss vs) : flatRes ps s (tupV vs) = some (as.map (A.d ρ), bs.map (B.d ρ)) := by
  have hlen : ss.length = vs.length := by
    clear h
    induction ss generalizing vs with
    | nil => cases vs with | nil => rfl | cons _ _ => exact hm.elim
    | cons _ ss ih => cases vs with | nil => exact hm.elim | cons _ vs => simp [ih hm.2]
  unfold takeRes at h
  unfold flatRes
  split at h
  · rename_i ht
    rw [if_pos ht]
    split at h
    · cases h
    · rename_i hl
      simp only [beq_iff_eq] at hl
      have := takeTup_flat hnp hb h hm
      match vs, hlen, this with
      | [], _, this => simpa [tupV] using this
      | [v], hlen, _ => simp at hlen; omega
      | v :: u :: vs, _, this => simpa [tupV] using this
  · rename_i ht
    rw [if_neg ht]
    split at h
    · rename_i hl
      simp only [Bool.and_eq_true, beq_iff_eq] at hl
      have := takeTup_flat hnp hb h hm
      match vs, hlen, this with
      | [v], _, this =>
        match hr : s.res, hl.1 with
        | [p], _ =>
          rw [hr] at this
          rw [flatTup_one] at this
          exact this
      | [], hlen, _ => have := hl.2; rw [hlen] at this; simp at this
      | _ :: _ :: _, hlen, _ => have := hl.2; rw [hlen] at this; simp at this
    · cases h
def takePs (ng : Nat) (hp : Hl) : List (List CK) → Nat → Option (List A × List B)
  | [], _ => some ([], [])
  | l :: ls, j => match hpOf hp (ng + j) with
    | some b => if b.g.isEmpty then match takeC l b.cells, takePs ng hp ls (j + 1) with
      | some (a, bb), some (as, bs) => some (a ++ as, bb ++ bs)
      | _, _ => none
      else none
    | none => none
theorem takePs_flat {β : Beta} {w : World} {ng : Nat} {hp : Hl} (hh : heapMt β ρ (hpOf hp) w) : ∀ {ls : List (List CK)} {ps : List Rg} {j : Nat} {as : List A} {bs : List B}, takePs ng hp ls j = some (as, bs) → lensOk ls ps →
    (∀ (k : Nat) (r : Rg), ps[k]? = some r → β (ng + j + k) = some r) → flatPs w ls ps = some (as.map (A.d ρ), bs.map (B.d ρ))
  | [], [], j, as, bs, h, _, _ => by
    simp only [takePs, Option.some.injEq, Prod.mk.injEq] at h
    obtain ⟨rfl, rfl⟩ := h
    rfl
  | l :: ls, r :: ps, j, as, bs, h, ⟨hl, hls⟩, hb => by
    unfold takePs at h
    split at h
    · rename_i b hbk
      split at h
      · rename_i hg
        rw [List.isEmpty_iff] at hg
        split at h
        · rename_i a bb as' bs' h1 h2
          simp only [Option.some.injEq, Prod.mk.injEq] at h
          obtain ⟨rfl, rfl⟩ := h
          have hb0 := hb 0 r (by simp)
          simp only [Nat.add_zero] at hb0
          obtain ⟨q, hq, hql, _, hc, _⟩ := hh _ b hbk (by rw [hg]; rfl)
          rw [hb0] at hq
          cases hq
          obtain ⟨us, hul, hum, hu⟩ := cellsAt_values hc
          have hrd : readCells w r.blk r.off l.length = some us := by
            rw [← hl, hql, ← hul]; exact readCells_mk hu
          unfold flatPs
          rw [hrd]
          simp only [Option.bind_some]
          rw [takeC_flat h1 hum, takePs_flat hh h2 hls fun k q hk => by have := hb (k + 1) q (by simpa using hk); rwa [show ng + (j + 1) + k = ng + j + (k + 1) by omega]]
          simp
        · cases h
      · cases h
    · cases h
  | [], _ :: _, _, _, _, _, h, _ => h.elim
  | _ :: _, [], _, _, _, _, h, _ => h.elim

/-! ### The end of a body -/
def endSt (keep : List Bool) (O : Outs) : M St :=
  match getK .n O, getK .r O with
  | some (_, s), none => if (dropK .n O).isEmpty then pure s else M.fail
  | none, some (_, s) => if (dropK .r O).isEmpty then pure s else M.fail
  | some (q, s), some (_, t) => if (dropK .r (dropK .n O)).isEmpty then do
      let a ← gAtom q
      muxSt keep a s t
    else M.fail
  | none, none => M.fail
theorem dropK_empty {k K : Kd} {O : Outs} {q : Gd} {s : St} (h : (dropK k O).isEmpty = true) (hK : getK K O = some (q, s)) : k = K := by
  cases he : k.eq K with
  | true => exact Kd.eq_sound he
  | false =>
    have := dropK_get (k := k) (l := K) O
    rw [List.isEmpty_iff] at h
    rw [h, he] at this
    simp [getK, hK] at this
theorem endSt_snd (keep : List Bool) (O : Outs) : Snd Φ ρ (endSt keep O) (fun s => ∀ β c K a w, OutMt x ρ β c O K a w → (K = .n ∨ K = .r) ∧ ∃ β', Ext β β' ∧ Rel x ρ β' s a w ∧ Fresh β' c) := by
  unfold endSt
  split
  · rename_i q s hn hr
    split
    · rename_i he
      refine Snd.pure fun β c K a w ⟨h1, q', s', β', hK, hE, hR, hF⟩ => ?_
      have := dropK_empty he hK
      subst this
      rw [hn] at hK
      simp only [Option.some.injEq, Prod.mk.injEq] at hK
      obtain ⟨rfl, rfl⟩ := hK
      exact ⟨.inl rfl, β', hE, hR, hF⟩
    · exact Snd.fail
  · rename_i q s hn hr
    split
    · rename_i he
      refine Snd.pure fun β c K a w ⟨h1, q', s', β', hK, hE, hR, hF⟩ => ?_
      have := dropK_empty he hK
      subst this
      rw [hr] at hK
      simp only [Option.some.injEq, Prod.mk.injEq] at hK
      obtain ⟨rfl, rfl⟩ := hK
      exact ⟨.inr rfl, β', hE, hR, hF⟩
    · exact Snd.fail
  · rename_i q s qr t hn hr
    split
    · rename_i he
      refine Snd.bind (gAtom_snd q) fun g hg => (muxSt_snd (x := x) keep g s t).mono fun u hu β c K a w ⟨h1, q', s', β', hK, hE, hR, hF⟩ => ?_
      have hqn := h1 _ _ _ hn
      by_cases hKn : K = .n
      · subst hKn
        rw [hn] at hK
        simp only [Option.some.injEq, Prod.mk.injEq] at hK
        obtain ⟨rfl, rfl⟩ := hK
        exact ⟨.inl rfl, β', hE, hu β' a w (by rw [hg, hqn.2 rfl]; simpa using hR), hF⟩
      · have hf : Gd.d ρ q = false := by
          cases hd : Gd.d ρ q with
          | false => rfl
          | true => exact absurd (hqn.1 hd).symm hKn
        have hK2 : getK K (dropK .n O) = some (q', s') := by
          rw [dropK_get, if_neg (fun h => hKn (Kd.eq_sound h).symm)]; exact hK
        have := dropK_empty he hK2
        subst this
        rw [hr] at hK
        simp only [Option.some.injEq, Prod.mk.injEq] at hK
        obtain ⟨rfl, rfl⟩ := hK
        exact ⟨.inr rfl, β', hE, hu β' a w (by rw [hg, hf]; simpa using hR), hF⟩
    · exact Snd.fail
  · exact Snd.fail
end

def sliOk : List Sh → Bool
  | [] => true
  | .sli ks :: ss => !ks.isEmpty && sliOk ss
  | _ :: ss => sliOk ss
theorem sliOk_mem {ks : List CK} : ∀ {ss : List Sh}, sliOk ss = true → .sli ks ∈ ss → ks ≠ []
  | .sli k :: ss, h, hm => by
    simp only [sliOk, Bool.and_eq_true, Bool.not_eq_true'] at h
    rcases List.mem_cons.1 hm with e | hm
    · cases e; intro e; rw [e] at h; simp at h
    · exact sliOk_mem h.2 hm
  | .val _ _ :: ss, h, hm => by
    rcases List.mem_cons.1 hm with e | hm
    · cases e
    · exact sliOk_mem (ss := ss) (by simpa [sliOk] using h) hm
  | .ptr _ :: ss, h, hm => by
    rcases List.mem_cons.1 hm with e | hm
    · cases e
    · exact sliOk_mem (ss := ss) (by simpa [sliOk] using h) hm
  | [], _, hm => by cases hm
def shOk (s : Sum) : Bool := ((ptrShapes s.args).all fun l => !l.isEmpty) && sliOk s.args
theorem flatArgs_mem {w : World} {s : Sum} {vs : List Value} {is : List Int} {bs : List Bool} {ps : List Rg} (h : flatArgs s.args vs w = some (is, bs, ps)) (hne : shOk s = true) : ∀ r, r ∈ ps → (r.ro = false ∧ r.sq = none) ∧ ∃ v, w.cell? ⟨r.blk, r.off, none⟩ = some v :=
  flatArgs_mem' h (by unfold shOk at hne; simp only [Bool.and_eq_true] at hne; exact hne.1)

/-! ### The contract -/
def fnM (P : Program) (X : Hnd) (gl : Gl) (k : Ctl) (fn : Func) (s : Sum) : M (List A × List B) := do
  let body ← lift fn.body
  let O ← exec P X (ghOf gl 0) gl.length k body { tm := initTm gl.length s.args 0 0 0 (gl.length + (ptrShapes s.args).length) ++ List.replicate (fn.ntmps - s.args.length) anySV, hp := initHp gl.length s.args 0 0 0 }
  let σ ← endSt k.keep O
  let xs ← rAll P (ghOf gl 0) gl.length σ fn.results.toList
  let r ← lift (takeRes gl.length (ptrShapes s.args).length s xs)
  let p ← lift (takePs gl.length σ.hp (ptrShapes s.args) 0)
  pure (r.1 ++ p.1, r.2 ++ p.2)
def fnX (P : Program) (X : Hnd) (gl : Gl) (k : Ctl) (fn : Func) (s : Sum) : Option Smry :=
  match fnM P X gl k fn s { i := argI s.args, b := argB s.args, id := gl.length + (ptrShapes s.args).length + nSli s.args } with
  | some (r, _, out) => some { em := out, ri := r.1, rb := r.2 }
  | none => none

def st0 (gl : Gl) (fn : Func) (s : Sum) : St := { tm := initTm gl.length s.args 0 0 0 (gl.length + (ptrShapes s.args).length) ++ List.replicate (fn.ntmps - s.args.length) anySV, hp := initHp gl.length s.args 0 0 0 }
def ctr0 (gl : Gl) (s : Sum) : Ctr := { i := argI s.args, b := argB s.args, id := gl.length + (ptrShapes s.args).length + nSli s.args }
theorem run_gen {P : Program} {Φ : Funs} {X : Hnd} {gl : Gl} (hX : HOk P Φ gl X) {f : Nat} {fn : Func} (hf : P.funcs[f]? = some fn) {k : Ctl} (hK : LoopsOk Φ k) {s : Sum} {body : Code} (hbody : fn.body = some body) (hne : shOk s = true)
    {vs : List Value} {w : World} {is : List Int} {bs : List Bool} {ps : List Rg} (hL : Laid gl w) (hfl : flatArgs s.args vs w = some (is, bs, ps)) (hap : apartL ps) (hfz : frzL ps w) (hag : ∀ q, q ∈ ps → ∀ (g : Nat) (vs : List Value), gl[g]? = some vs → q.apart (gRg g vs)) (hsl : ∀ q, q ∈ ps → ∀ r, some r ∈ sliRgs s.args vs w → q.apart r)
    {ρ : Env} (hi : ∀ n, n < argI s.args → ρ.i (0 + n) = is.getD n 0) (hbb : ∀ n, n < argB s.args → ρ.b (0 + n) = bs.getD n false) {O : Outs} {c3 : Ctr} {o3 : List Em} (g3 : exec P X (ghOf gl 0) gl.length k body (st0 gl fn s) (ctr0 gl s) = some (O, c3, o3)) (hg3 : Good Φ ρ o3)
    {σ : St} {c5 : Ctr} {o5 : List Em} (g5 : endSt k.keep O c3 = some (σ, c5, o5)) (hg5 : Good Φ ρ o5) {xs : List S} {c7 : Ctr} {o7 : List Em} (g7 : rAll P (ghOf gl 0) gl.length σ fn.results.toList c5 = some (xs, c7, o7)) (hg7 : Good Φ ρ o7) :
    Calls P f vs.toArray w fun e w' => ∃ us β' a', e = .returned (tupV us) ∧ mtAll β' ρ xs us ∧ Rel { w0 := w, R := ps, gl := gl, gr := ps } ρ β' σ a' w' := by
  have hlen := flatArgs_len hfl
  -- the walk's frame
  let x : Cx := { w0 := w, R := ps, gl := gl, gr := ps }
  obtain ⟨sl, hsle⟩ : ∃ sl, sl = sliRgs s.args vs w := ⟨_, rfl⟩
  have hslm : ∀ {k : Nat} {r : Rg}, sl[k]? = some (some r) → r.ro = true ∧ r.blk < w.heap.size ∧ ∀ ks l, r.sq = some (ks, l) → l.length = r.len ∧ seqAt w r.blk r.off ks l := fun {k r} hk => by
    obtain ⟨ks, v, l, n, h1, h2⟩ := sliRgs_mem (hsle ▸ List.mem_of_getElem? hk)
    obtain ⟨g1, g2, g3, g4, g5⟩ := flatSl_sq h2
    have hks := sliOk_mem (by unfold shOk at hne; simp only [Bool.and_eq_true] at hne; exact hne.2) h1
    refine ⟨g1, g5 hks, fun ks' l' he => ?_⟩
    rw [g2] at he
    cases he
    exact ⟨g3, g4⟩
  have hbps : ∀ (k : Nat) (r : Rg), ps[k]? = some r → beta0 gl ps sl (gl.length + k) = some r := fun k r hk => beta0_ps hk
  have hpsm := flatArgs_mem hfl hne
  obtain ⟨i1, i2, i3⟩ := init_ok (ρ := ρ) (β := beta0 gl ps sl) gl.length (i := 0) (b := 0) (j := 0) (m := gl.length + (ptrShapes s.args).length) hfl hfz hi hbb (fun k r hk => by rw [Nat.add_zero]; exact hbps k r hk) (fun k r hk => by rw [← hlen.2.2.1]; exact beta0_sl (hsle ▸ hk))
  have hglsq : ∀ (g : Nat) (vs : List Value), (gRg g vs).sq = none := fun _ _ => rfl
  have hbo : BetaOk w.heap.size ps (beta0 gl ps sl) w := by
    refine ⟨fun i j r q hij hi hj => ?_, fun i r hi => ?_, fun i r hi => ?_, fun i r ks l hi hs => ?_⟩
    · rcases beta0_inv hi with ⟨us, h1, rfl⟩ | ⟨h0, h1⟩ | ⟨h0, h1⟩
      · rcases beta0_inv hj with ⟨us', h2, rfl⟩ | ⟨h0', h2⟩ | ⟨h0', h2⟩
        · exact .inl ⟨rfl, rfl⟩
        · exact .inr (Rg.apart_symm (hag q (List.mem_of_getElem? h2) i us h1))
        · exact .inl ⟨rfl, (hslm h2).1⟩
      · rcases beta0_inv hj with ⟨us', h2, rfl⟩ | ⟨h0', h2⟩ | ⟨h0', h2⟩
        · exact .inr (hag r (List.mem_of_getElem? h1) j us' h2)
        · rcases Nat.lt_or_ge i j with h | h
          · exact .inr (apartL_get hap (by omega) h1 h2)
          · exact .inr (Rg.apart_symm (apartL_get hap (by omega) h2 h1))
        · exact .inr (hsl r (List.mem_of_getElem? h1) q (hsle ▸ List.mem_of_getElem? h2))
      · rcases beta0_inv hj with ⟨us', h2, rfl⟩ | ⟨h0', h2⟩ | ⟨h0', h2⟩
        · exact .inl ⟨(hslm h1).1, rfl⟩
        · exact .inr (Rg.apart_symm (hsl q (List.mem_of_getElem? h2) r (hsle ▸ List.mem_of_getElem? h1)))
        · exact .inl ⟨(hslm h1).1, (hslm h2).1⟩
    · rcases beta0_inv hi with ⟨us, h1, rfl⟩ | ⟨h0, h1⟩ | ⟨h0, h1⟩
      · exact (hL i _ h1).1
      · obtain ⟨_, v, hv⟩ := hpsm r (List.mem_of_getElem? h1)
        exact World.block_lt_of_cell? w _ hv
      · exact (hslm h1).2.1
    · rcases beta0_inv hi with ⟨us, h1, rfl⟩ | ⟨h0, h1⟩ | ⟨h0, h1⟩
      · exact .inl rfl
      · exact .inr (.inr ⟨r, List.mem_of_getElem? h1, rfl, Nat.le_refl _, Nat.le_refl _⟩)
      · exact .inl (hslm h1).1
    · rcases beta0_inv hi with ⟨us, h1, rfl⟩ | ⟨h0, h1⟩ | ⟨h0, h1⟩
      · cases hs
      · rw [(hpsm r (List.mem_of_getElem? h1)).1.2] at hs
        cases hs
      · exact ⟨(hslm h1).1, (hslm h1).2.2 ks l hs⟩
  have hgm : heapMt (beta0 gl ps sl) ρ (hpOf (ghOf gl 0)) w := by
    intro id b hb _
    obtain ⟨us, hus, _, rfl⟩ := ghOf_get hb
    rw [Nat.sub_zero] at hus
    refine ⟨_, beta0_gl hus, by simp [gRg], rfl, ?_, fun h => by cases h⟩
    rw [cellsAt_iff]
    intro j c hj
    rw [List.getElem?_map] at hj
    cases hu : us[j]? with
    | none => rw [hu] at hj; simp at hj
    | some u =>
      rw [hu] at hj
      simp only [Option.map_some, Option.some.injEq] at hj
      subst hj
      have hl := (hL id us hus).2 j u hu
      exact ⟨u, by simpa [gRg] using hl.1, ofC_mt hl.2⟩
  have hvl : vs.length = s.args.length := hlen.2.2.2
  have hrel : Rel x ρ (beta0 gl ps sl) (st0 gl fn s) { tmps := vs.toArray ++ Array.replicate (fn.ntmps - vs.toArray.size) undef, defers := [] } w := by
    refine ⟨?_, fun t v ht => ?_, rfl, i3, hgm, fun id b hb => ?_, hbo, Keep.refl _ _, fun g vs hg => beta0_gl hg, hbps⟩
    · simp [st0, i2, hvl]
    · simp only [st0] at ht ⊢
      rcases Nat.lt_or_ge t (initTm gl.length s.args 0 0 0 (gl.length + (ptrShapes s.args).length)).length with h | h
      · rw [List.getElem?_append_left h] at ht
        have := i1 t v ht
        have hlt : t < vs.length := by omega
        rw [List.getD_eq_getElem?_getD, List.getElem?_eq_getElem hlt] at this
        simpa [Array.getElem?_append, hlt] using this
      · rw [List.getElem?_append_right h, List.getElem?_replicate] at ht
        split at ht
        · simp only [Option.some.injEq] at ht
          subst ht
          exact anySV_mt _
        · cases ht
    · obtain ⟨us, _, _, rfl⟩ := ghOf_get hb
      rfl
  have hfresh : Fresh (beta0 gl ps sl) (ctr0 gl s) := by
    intro i hi
    simp only [ctr0] at hi
    cases hb : beta0 gl ps sl i with
    | none => rfl
    | some r =>
      have hsll : sl.length = nSli s.args := by rw [hsle]; exact sliRgs_len hvl
      rcases beta0_inv hb with ⟨us, h1, rfl⟩ | ⟨h0, h1⟩ | ⟨h0, h1⟩
      · have := (List.getElem?_eq_some_iff.1 h1).1; omega
      · have := (List.getElem?_eq_some_iff.1 h1).1; omega
      · have := (List.getElem?_eq_some_iff.1 h1).1; omega
  have hG : ∀ w', Keep ps w w' → Laid gl w' := by
    intro w' hk g us hg
    obtain ⟨h1, h2⟩ := hL g us hg
    refine ⟨by have := hk.size; omega, fun j v hj => ?_⟩
    obtain ⟨h3, h4⟩ := h2 j v hj
    refine ⟨(hk.cell _ h1 fun r hr hin => ?_).trans h3, h4⟩
    have := hag r hr g us hg
    have hlt := (List.getElem?_eq_some_iff.1 hj).1
    unfold inRg at hin
    unfold Rg.apart gRg at this
    simp only at hin this
    omega
  have hrun := exec_ok (x := x) hX hG k hK body ρ _ _ _ O o3 g3 hg3 (beta0 gl ps sl) _ w hrel hfresh
    (bodyPost P fn fun e w' => ∃ us β' a', e = .returned (tupV us) ∧ mtAll β' ρ xs us ∧ Rel x ρ β' σ a' w') fun e a' w' K hk hO => ?_
  · exact calls_of_wp hf hbody hrun
  · obtain ⟨hKK, β', hE, hR, _⟩ := endSt_snd k.keep O _ _ _ _ g5 hg5 (beta0 gl ps sl) c3 K a' w' hO
    obtain ⟨us, hus, hum⟩ := rAll_snd (P := P) (x := x) σ fn.results.toList _ _ _ _ g7 hg7 β' a' w' hR
    have hres := results_run hus
    have hfin : a'.defers = [] ∧ ∃ v, (results fn a'.tmps).run P w' = .ok v w' ∧ ∃ us β' a', Ending.returned v = .returned (tupV us) ∧ mtAll β' ρ xs us ∧ Rel x ρ β' σ a' w' :=
      ⟨hR.df, _, hres, us, β', a', rfl, hum, hR⟩
    rcases hKK with rfl | rfl
    · rw [kdOf_n hk]
      exact hfin
    · cases e <;> simp only [kdOf, Option.some.injEq] at hk <;> (try (cases hk; done))
      exact hfin

theorem contract_gen {P : Program} {Φ : Funs} {X : Hnd} {gl : Gl} (hX : HOk P Φ gl X) {f : Nat} {fn : Func} (hf : P.funcs[f]? = some fn) {k : Ctl} (hK : LoopsOk Φ k) {s : Sum} {S : Smry} (h : fnX P X gl k fn s = some S)
    (hw : wsEm S.em (argI s.args) (argB s.args) = true) (hne : shOk s = true)
    (hob : ∀ (vs : List Value) (w : World) (is : List Int) (bs : List Bool) (ps : List Rg), flatArgs s.args vs w = some (is, bs, ps) → (s.pre = true → (S.run Φ s.pre is bs).2.headD false = true) →
      obAll (envOf (evEm Φ S.em is bs).1 (evEm Φ S.em is bs).2) S.em = true) : Contract P gl f s (S.run Φ s.pre) := by
  intro vs w is bs ps hL hfl hap hfz hag hsl hpre
  have hlen := flatArgs_len hfl
  have hlens := flatArgs_lens hfl
  have ho := hob vs w is bs ps hfl hpre
  have hw' : wsEm S.em is.length bs.length = true := by rw [hlen.1, hlen.2.1]; exact hw
  have hgood := good_of hw' ho
  have hagree := (evEm_spec Φ S.em is bs hw').1
  unfold fnX at h
  split at h
  · rename_i r c' out hm
    simp only [Option.some.injEq] at h
    subst h
    simp only at hgood hagree ho hw' ⊢
    generalize hρ : envOf (evEm Φ out is bs).1 (evEm Φ out is bs).2 = ρ at hgood hagree ho
    unfold fnM at hm
    obtain ⟨body, c1, o1, c2, o2, y, g1, g2, he⟩ := M.bind_inv hm
    simp only [Prod.mk.injEq] at he
    obtain ⟨rfl, rfl, rfl⟩ := he
    obtain ⟨body', hbody, he⟩ := lift_inv g1
    simp only [Prod.mk.injEq] at he
    obtain ⟨rfl, rfl, rfl⟩ := he
    obtain ⟨O, c3, o3, c4, o4, y, g3, g4, he⟩ := M.bind_inv g2
    simp only [Prod.mk.injEq] at he
    obtain ⟨rfl, rfl, rfl⟩ := he
    obtain ⟨σ, c5, o5, c6, o6, y, g5, g6, he⟩ := M.bind_inv g4
    simp only [Prod.mk.injEq] at he
    obtain ⟨rfl, rfl, rfl⟩ := he
    obtain ⟨xs, c7, o7, c8, o8, y, g7, g8, he⟩ := M.bind_inv g6
    simp only [Prod.mk.injEq] at he
    obtain ⟨rfl, rfl, rfl⟩ := he
    obtain ⟨rr, c9, o9, c10, o10, y, g9, g10, he⟩ := M.bind_inv g8
    simp only [Prod.mk.injEq] at he
    obtain ⟨rfl, rfl, rfl⟩ := he
    obtain ⟨rr', hrr, he⟩ := lift_inv g9
    simp only [Prod.mk.injEq] at he
    obtain ⟨rfl, rfl, rfl⟩ := he
    obtain ⟨pp, c11, o11, c12, o12, y, g11, g12, he⟩ := M.bind_inv g10
    simp only [Prod.mk.injEq] at he
    obtain ⟨rfl, rfl, rfl⟩ := he
    obtain ⟨pp', hpp, he⟩ := lift_inv g11
    simp only [Prod.mk.injEq] at he
    obtain ⟨rfl, rfl, rfl⟩ := he
    have he := M.pure_inv g12
    simp only [Prod.mk.injEq] at he
    obtain ⟨rfl, rfl, rfl⟩ := he
    simp only [Good.append] at hgood
    obtain ⟨_, hg3, hg5, hg7, _⟩ := hgood
    have hi : ∀ n, n < argI s.args → ρ.i (0 + n) = is.getD n 0 := fun n hn => by rw [Nat.zero_add]; exact hagree.1 n (by omega)
    have hbb : ∀ n, n < argB s.args → ρ.b (0 + n) = bs.getD n false := fun n hn => by rw [Nat.zero_add]; exact hagree.2 n (by omega)
    refine Calls.mono (run_gen hX hf hK hbody hne hL hfl hap hfz hag hsl hi hbb g3 hg3 g5 hg5 g7 hg7) fun e w' he => ?_
    obtain ⟨us, β', a', rfl, hum, hR⟩ := he
    have hra : ∀ (k : Nat) (r : Rg), ps[k]? = some r → β' (gl.length + k) = some r := hR.ra
    have hfr := takeRes_flat hlen.2.2.1 hra hrr hum
    have hfp := takePs_flat hR.hm hpp hlens (fun k r hk => by rw [Nat.add_zero]; exact hra k r hk)
    refine ⟨_, rfl, hR.kp, _, _, hfr, hfp, ?_, ?_⟩
    · simp only [Smry.run, hρ, List.map_append]
    · simp only [Smry.run, hρ, List.map_append]
      cases s.pre <;> simp
  · cases h

/-! ### A function that answers a new slice of known numbers -/
def tabCells (k : IntKind) : List Int → List C → Bool
  | [], [] => true
  | n :: ns, .int k' (.c m) :: cs => k' == k && n == m && tabCells k ns cs
  | _, _ => false
theorem tabCells_get {k : IntKind} : ∀ {ns : List Int} {cs : List C}, tabCells k ns cs = true → cs.length = ns.length ∧ ∀ (j : Nat) (n : Int), ns[j]? = some n → cs[j]? = some (.int k (.c n))
  | [], [], _ => ⟨rfl, fun j n h => by simp at h⟩
  | n :: ns, c :: cs, h => by
    unfold tabCells at h
    split at h
    · rename_i e; cases e
    · rename_i n' ns' k' m cs' e1 e2
      simp only [List.cons.injEq] at e1 e2
      obtain ⟨rfl, rfl⟩ := e1
      obtain ⟨rfl, rfl⟩ := e2
      simp only [Bool.and_eq_true, beq_iff_eq] at h
      obtain ⟨⟨rfl, rfl⟩, h⟩ := h
      obtain ⟨h1, h2⟩ := tabCells_get h
      refine ⟨by simp [h1], fun j x hj => ?_⟩
      cases j with
      | zero => simp at hj; subst hj; rfl
      | succ j => exact h2 j x (by simpa using hj)
    · cases h
  | [], c :: cs, h => by cases c <;> simp [tabCells] at h
  | n :: ns, [], h => by simp [tabCells] at h
def tabRes (σ : St) (p : IntKind × List Int) : List S → Bool
  | [.one false [.sli id off len cap]] => off == 0 && len == p.2.length && cap == p.2.length && (match hpOf σ.hp id with | some b => b.g.isEmpty && !b.ro && tabCells p.1 p.2 b.cells | none => false)
  | _ => false
def tabSum (p : IntKind × List Int) : Sum := { args := [], tup := false, res := [], pre := false, sl := some p }
def tabX (P : Program) (X : Hnd) (gl : Gl) (k : Ctl) (fn : Func) (p : IntKind × List Int) : Bool :=
  match fn.body with
  | none => false
  | some body => match exec P X (ghOf gl 0) gl.length k body (st0 gl fn (tabSum p)) (ctr0 gl (tabSum p)) with
    | none => false
    | some (O, c3, o3) => match endSt k.keep O c3 with
      | none => false
      | some (σ, c5, o5) => match rAll P (ghOf gl 0) gl.length σ fn.results.toList c5 with
        | none => false
        | some (xs, _, o7) => o3.isEmpty && o5.isEmpty && o7.isEmpty && tabRes σ p xs
theorem contract_tab {P : Program} {Φ : Funs} {X : Hnd} {gl : Gl} (hX : HOk P Φ gl X) {f : Nat} {fn : Func} (hf : P.funcs[f]? = some fn) {k : Ctl} (hK : LoopsOk Φ k) {p : IntKind × List Int} (h : tabX P X gl k fn p = true) : TabContract P gl f p := by
  intro w hL
  unfold tabX at h
  split at h
  · cases h
  · rename_i body hbody
    split at h
    · cases h
    · rename_i O c3 o3 g3
      split at h
      · cases h
      · rename_i σ c5 o5 g5
        split at h
        · cases h
        · rename_i xs c7 o7 g7
          simp only [Bool.and_eq_true, List.isEmpty_iff] at h
          obtain ⟨⟨⟨rfl, rfl⟩, rfl⟩, h⟩ := h
          have hgn : Good Φ (envOf [] []) [] := fun e he => by cases he
          refine Calls.mono (run_gen (s := tabSum p) (vs := []) (is := []) (bs := []) (ps := []) (ρ := envOf [] []) hX hf hK hbody rfl hL rfl trivial (fun r hr => by cases hr) (fun q hq => by cases hq) (fun q hq => by cases hq) (fun n hn => by simp [tabSum, argI] at hn) (fun n hn => by simp [tabSum, argB] at hn) g3 hgn g5 hgn g7 hgn) fun e w' he => ?_
          obtain ⟨us, β', a', rfl, hum, hR⟩ := he
          unfold tabRes at h
          split at h
          · rename_i id off len cap
            simp only [Bool.and_eq_true, beq_iff_eq] at h
            obtain ⟨⟨⟨rfl, rfl⟩, rfl⟩, h⟩ := h
            split at h
            · rename_i b hb
              simp only [Bool.and_eq_true, List.isEmpty_iff, Bool.not_eq_true'] at h
              obtain ⟨⟨hbg, hro⟩, hc⟩ := h
              obtain ⟨r, hr, hlen, hrro, hcells, _⟩ := hR.hm id b hb (by rw [hbg]; rfl)
              match us, hum with
              | [v], ⟨hv, _⟩ =>
                obtain ⟨cc, hcc, hcm⟩ := hv
                simp only [List.cons.injEq, and_true] at hcc
                subst hcc
                obtain ⟨r', hr', rfl⟩ := hcm
                rw [hr] at hr'
                simp only [Option.some.injEq] at hr'
                subst hr'
                obtain ⟨h1, h2⟩ := tabCells_get hc
                refine ⟨r.blk, r.off, by simp [tupV], hR.kp, ?_, hR.bo.place id r hr, fun j n hj => ?_⟩
                · rcases hR.bo.may id r hr with h | h
                  · rw [hrro, hro] at h; cases h
                  · rcases h with h | ⟨q, hq, _⟩
                    · exact h
                    · cases hq
                · rw [cellsAt_iff] at hcells
                  obtain ⟨v, hv1, hv2⟩ := hcells j _ (h2 j n hj)
                  obtain ⟨rfl, hv3⟩ := hv2
                  exact ⟨hv1, hv3⟩
            · cases h
          · cases h

theorem callable_of {P : Program} {f : Nat} {fn : Func} (hf : P.funcs[f]? = some fn) (hn : (fn.name == "runtime.NumGoroutine") = false) (hb : fn.body.isNone = false) : ∀ args w, (callFunc f args).run P w = .ok (.enter f args) w := by
  intro args w
  unfold callFunc
  simp only [Sem.run_bind, run_program, Result.andThen_ok, hf, hn, hb, Bool.false_eq_true, if_false, Sem.run_pure]

def noOb (l : List Em) : Bool := l.all fun | .ob _ _ => false | _ => true
theorem noOb_all {ρ : Env} {l : List Em} (h : noOb l = true) : obAll ρ l = true := by
  unfold obAll noOb at *
  rw [List.all_eq_true] at *
  intro e he
  have := h e he
  cases e <;> simp_all
/-- Nothing is owed. -/
theorem contract_of {P : Program} {Φ : Funs} {X : Hnd} {gl : Gl} (hX : HOk P Φ gl X) {f : Nat} {fn : Func} (hf : P.funcs[f]? = some fn) {k : Ctl} (hK : LoopsOk Φ k) {s : Sum} {S : Smry} (h : fnX P X gl k fn s = some S)
    (hw : (wsEm S.em (argI s.args) (argB s.args) && shOk s && noOb S.em) = true) : Contract P gl f s (S.run Φ s.pre) := by
  simp only [Bool.and_eq_true] at hw
  exact contract_gen hX hf hK h hw.1.1 hw.1.2 fun _ _ _ _ _ _ _ => noOb_all hw.2
/-- What is owed is the function's first answer. -/
theorem contract_pre {P : Program} {Φ : Funs} {X : Hnd} {gl : Gl} (hX : HOk P Φ gl X) {f : Nat} {fn : Func} (hf : P.funcs[f]? = some fn) {k : Ctl} (hK : LoopsOk Φ k) {s : Sum} {S : Smry} (h : fnX P X gl k fn s = some S)
    (hw : (wsEm S.em (argI s.args) (argB s.args) && shOk s && s.pre) = true) : Contract P gl f s (S.run Φ s.pre) := by
  simp only [Bool.and_eq_true] at hw
  refine contract_gen hX hf hK h hw.1.1 hw.1.2 fun vs w is bs ps _ hp => ?_
  have := hp hw.2
  simpa [Smry.run, hw.2] using this
end Go.Proofs.YtalnndmnnffnmaaGreat.Sx
