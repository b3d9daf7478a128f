/-
  Merged texts (SxP, SxRf, SxRg, SxRh, SxRi, SxRj, SxQ, SxRk, SxIn, SxIo). No condition.
-/
import Derived.Test.YtgbgibbonhklgaaCm5
set_option linter.unusedVariables false
set_option linter.unusedSimpArgs false
namespace Go.Proofs.Ytgbgibbonhklgaa.Sx
open Go

section
variable {P : Program} {Φ : Funs} {X : Hnd} {x : Cx} {ρ : Env}

/-! ### Leaving -/
def plainS (v : SV) : Option S := if v.g.isEmpty then some v.s else none
def rOne (P : Program) (gh : Hl) (ng : Nat) (σ : St) : ResultVar → M S
  | .tmp t => lift (plainS (σ.tm.getD t anySV))
  | .cell a t => xLoad P [] (hpX gh ng σ.hp) t (rs [] (σ.tm.getD a anySV))
def resSem (tmps : Array Value) : ResultVar → Sem Value
  | .tmp t => pure (tmps.getD t undef)
  | .cell a t => do loadVar t (← asAddr (tmps.getD a undef))
theorem slot_getD {β : Beta} {σ : St} {a : Act} {w : World} (h : Rel x ρ β σ a w) (t : Nat) : (σ.tm.getD t anySV).mt β ρ (a.tmps.getD t undef) := by
  rw [List.getD_eq_getElem?_getD]
  cases ht : σ.tm[t]? with
  | none => exact anySV_mt _
  | some v => exact h.slot t v ht
theorem rOne_snd (σ : St) (r : ResultVar) : Snd Φ ρ (rOne P x.gh x.ng σ r) (fun s => ∀ β a w, Rel x ρ β σ a w → ∃ v, (resSem a.tmps r).run P w = .ok v w ∧ s.mt β ρ v) := by
  cases r with
  | tmp t =>
    refine (lift_snd _).mono fun s hs β a w h => ⟨_, rfl, ?_⟩
    unfold plainS at hs
    split at hs
    · rename_i hg
      simp only [Option.some.injEq] at hs
      subst hs
      rw [List.isEmpty_iff] at hg
      exact (slot_getD h t).1 (by rw [hg]; rfl)
    · cases hs
  | cell p t =>
    have hL := pure_load (P := P) (Φ := Φ) (Γ := []) (hp := hpX x.gh x.ng σ.hp) (rv := fun o => match o with | .tmp t => σ.tm.getD t anySV | _ => anySV) (dst := none) (ty := 0) (pos := default) (after := #[]) (guard := none) (ρ := ρ) rfl t (.tmp p)
    refine hL.mono fun s hs β a w h => ?_
    obtain ⟨v, hv, hm⟩ := hs β a w (fun z hz => by
      simp only [Op.operands, List.mem_toArray, List.mem_cons, List.not_mem_nil, or_false] at hz
      subst hz
      exact slot_getD h p) h.hx h.bo.sq
    refine ⟨v, ?_, hm⟩
    simp only [execOp, Instr.loadAt, Act.eval, Sem.run_bind, Sem.run_pure] at hv
    cases hp : a.tmps.getD p undef with
    | pointer q =>
      rw [hp] at hv
      cases q with
      | none => simp [Instr.sureAddr] at hv
      | some q =>
        simp only [Instr.sureAddr, Sem.run_pure, Result.andThen_ok] at hv
        cases hl : (loadVar t q).run P w with
        | ok u w' =>
          rw [hl] at hv
          simp only [Result.andThen_ok, Result.ok.injEq, Next.value.injEq] at hv
          obtain ⟨rfl, rfl⟩ := hv
          simp [resSem, hp, asAddr, hl]
        | halt hh w' => rw [hl] at hv; simp [Result.andThen] at hv
    | _ => rw [hp] at hv; simp [Instr.sureAddr, Result.andThen] at hv
def rAll (P : Program) (gh : Hl) (ng : Nat) (σ : St) : List ResultVar → M (List S)
  | [] => pure []
  | r :: l => do
    let s ← rOne P gh ng σ r
    let ss ← rAll P gh ng σ l
    pure (s :: ss)
theorem rAll_snd (σ : St) : ∀ l : List ResultVar, Snd Φ ρ (rAll P x.gh x.ng σ l) (fun ss => ∀ β a w, Rel x ρ β σ a w → ∃ vs, (l.mapM (resSem a.tmps)).run P w = .ok vs w ∧ mtAll β ρ ss vs)
  | [] => Snd.pure fun β a w _ => ⟨[], rfl, trivial⟩
  | r :: l => by
    unfold rAll
    refine Snd.bind (rOne_snd σ r) fun s hs => Snd.bind (rAll_snd σ l) fun ss hss => Snd.pure fun β a w h => ?_
    obtain ⟨v, hv, hm⟩ := hs β a w h
    obtain ⟨vs, hvs, hms⟩ := hss β a w h
    refine ⟨v :: vs, ?_, hm, hms⟩
    rw [List.mapM_cons]
    simp only [Sem.run_bind, hv, Result.andThen_ok, hvs, Sem.run_pure]
def tupV : List Value → Value
  | [v] => v
  | vs => .tuple vs.toArray
theorem results_run {fn : Func} {tmps : Array Value} {w : World} {vs : List Value} (h : (fn.results.toList.mapM (resSem tmps)).run P w = .ok vs w) :
    (results fn tmps).run P w = .ok (tupV vs) w := by
  have e : (fn.results.mapM (resSem tmps)).run P w = .ok vs.toArray w := by
    rw [Array.mapM_eq_mapM_toList, Sem.run_map, h]
    rfl
  have e2 : results fn tmps = (do
      let vs ← fn.results.mapM (resSem tmps)
      pure (if h : vs.size = 1 then vs[0] else .tuple vs)) := by
    unfold results
    congr 1
  rw [e2, Sem.run_bind, e]
  simp only [Result.andThen_ok]
  match vs with
  | [] => rfl
  | [v] => rfl
  | v :: u :: vs => rfl

/-! ### Answers, aS numbers and bools -/
def takeR (ng np : Nat) (hp : Hp) : List CK → List C → Option (List A × List B)
  | [], [] => some ([], [])
  | .int k :: l, .int k' a :: cs => match takeR ng np hp l cs with
    | some (aS, bs) => if k' == k then some (a :: aS, bs) else none
    | none => none
  | .bool :: l, .bool b :: cs => match takeR ng np hp l cs with
    | some (aS, bs) => some (aS, b :: bs)
    | none => none
  | .pt k o :: l, .ptr [] id off :: cs => match takeR ng np hp l cs with
    | some r => if id == ng + k && off == o && Nat.blt k np then some r else none
    | none => none
  | .str :: l, c :: cs => match asStr c, takeR ng np hp l cs with
    | some q, some (aS, bs) => some (q :: aS, bs)
    | _, _ => none
  | .sl ks :: l, c :: cs => match slNum [] hp ks c, takeR ng np hp l cs with
    | some p, some (aS, bs) => if slHot hp c == 2 then none else some (p.1 :: p.2 :: aS, bs)
    | _, _ => none
  | _, _ => none
/-- Where an answered slice lies: in what is only read, or a row. -/
def Lies (β : Beta) (l : List Rg) : Prop := ∀ r', r' ∈ l → ∃ i r0, β i = some r0 ∧ r'.within r0 ∧ (r0.ro = true ∨ r0.row = true)
theorem Lies.nil {β : Beta} : Lies β [] := fun _ h => by cases h
theorem Lies.append {β : Beta} {l m : List Rg} (h : Lies β l) (h' : Lies β m) : Lies β (l ++ m) := fun r hr => (List.mem_append.1 hr).elim (h r) (h' r)
theorem takeR_flat {β : Beta} {w : World} {hp : Hp} (hh : heapMt β ρ hp w) (hsq : SqOk β w) {ps : List Rg} {ng np : Nat} (hnp : ps.length = np) (hb : ∀ (k : Nat) (r : Rg), ps[k]? = some r → β (ng + k) = some r) : ∀ {l : List CK} {cs : List C} {aS : List A} {bs : List B} {vs : List Value},
    takeR ng np hp l cs = some (aS, bs) → mtL β ρ cs vs → flatC w ps l vs = some (aS.map (A.d ρ), bs.map (B.d ρ)) ∧ Lies β (rgC w l vs)
  | l, cs, aS, bs, vs, h, hm => by
    induction l generalizing cs aS bs vs with
    | nil =>
      cases cs with
      | nil =>
        simp only [takeR, Option.some.injEq, Prod.mk.injEq] at h
        obtain ⟨rfl, rfl⟩ := h
        cases vs with
        | nil => exact ⟨rfl, Lies.nil⟩
        | cons _ _ => exact hm.elim
      | cons _ _ => simp [takeR] at h
    | cons ck l ih =>
      cases cs with
      | nil => cases ck <;> simp [takeR] at h
      | cons c cs =>
        cases vs with
        | nil => exact hm.elim
        | cons v vs =>
          obtain ⟨h1, h2⟩ := hm
          unfold takeR at h
          split at h
          · rename_i he1 he2; cases he1
          · rename_i k l' k' a cs' he1 he2
            simp only [List.cons.injEq] at he1 he2
            obtain ⟨rfl, rfl⟩ := he1
            obtain ⟨rfl, rfl⟩ := he2
            obtain ⟨rfl, h3⟩ := h1
            split at h
            · rename_i as' bs' ht
              split at h
              · rename_i hk
                simp only [beq_iff_eq] at hk
                subst hk
                simp only [Option.some.injEq, Prod.mk.injEq] at h
                obtain ⟨rfl, rfl⟩ := h
                obtain ⟨i1, i2⟩ := ih _ _ _ _ ht h2
                refine ⟨?_, i2⟩
                unfold flatC
                rw [i1]
                simp [inR_mk h3]
              · cases h
            · cases h
          · rename_i l' b cs' he1 he2
            simp only [List.cons.injEq] at he1 he2
            obtain ⟨rfl, rfl⟩ := he1
            obtain ⟨rfl, rfl⟩ := he2
            have h1 : v = .bool (b.d ρ) := h1
            subst h1
            split at h
            · rename_i as' bs' ht
              simp only [Option.some.injEq, Prod.mk.injEq] at h
              obtain ⟨rfl, rfl⟩ := h
              obtain ⟨i1, i2⟩ := ih _ _ _ _ ht h2
              refine ⟨?_, i2⟩
              unfold flatC
              rw [i1]
              simp
            · cases h
          · rename_i k o l' id off cs' he1 he2
            simp only [List.cons.injEq] at he1 he2
            obtain ⟨rfl, rfl⟩ := he1
            obtain ⟨rfl, rfl⟩ := he2
            split at h
            · rename_i r ht
              split at h
              · rename_i hc
                simp only [Bool.and_eq_true, beq_iff_eq, Nat.blt_eq] at hc
                obtain ⟨⟨rfl, rfl⟩, hk⟩ := hc
                simp only [Option.some.injEq] at h
                subst h
                obtain ⟨q, hq, rfl⟩ := h1
                have hlt : k < ps.length := by omega
                have hg := List.getElem?_eq_getElem hlt
                have := hb k _ hg
                simp only [pick] at hq
                rw [this] at hq
                simp only [Option.some.injEq] at hq
                obtain ⟨i1, i2⟩ := ih _ _ _ _ ht h2
                refine ⟨?_, i2⟩
                unfold flatC
                rw [hg, i1]
                simp [hq, pick]
              · cases h
            · cases h
          · rename_i l' c' cs' he1 he2
            simp only [List.cons.injEq] at he1 he2
            obtain ⟨rfl, rfl⟩ := he1
            obtain ⟨rfl, rfl⟩ := he2
            split at h
            · rename_i q as' bs' hq ht
              simp only [Option.some.injEq, Prod.mk.injEq] at h
              obtain ⟨rfl, rfl⟩ := h
              obtain ⟨s, rfl, e1, e2⟩ := asStr_mt hq h1
              obtain ⟨i1, i2⟩ := ih _ _ _ _ ht h2
              refine ⟨?_, i2⟩
              unfold flatC
              rw [i1]
              simp [inR_mk e2, e1]
            · cases h
          · rename_i ks l' c' cs' he1 he2
            simp only [List.cons.injEq] at he1 he2
            obtain ⟨rfl, rfl⟩ := he1
            obtain ⟨rfl, rfl⟩ := he2
            split at h
            · rename_i q as' bs' hq ht
              split at h
              · cases h
              · rename_i hot
                simp only [Option.some.injEq, Prod.mk.injEq] at h
                obtain ⟨rfl, rfl⟩ := h
                obtain ⟨ll, r, e1, e2, e3⟩ := slNum_flat (Γ := []) rfl hh hsq hq h1
                obtain ⟨i1, i2⟩ := ih _ _ _ _ ht h2
                constructor
                · unfold flatC
                  rw [i1, e1]
                  simp [e2]
                · unfold rgC
                  rw [e1]
                  refine Lies.append ?_ i2
                  cases r with
                  | none => exact Lies.nil
                  | some r' =>
                    intro r2 hr2
                    simp only [List.mem_singleton] at hr2
                    subst hr2
                    obtain ⟨i, r0, k1, k2, k3⟩ := e3 _ rfl
                    refine ⟨i, r0, k1, k2, ?_⟩
                    rcases k3 with k3 | k3 | k3
                    · exact .inl k3
                    · exact .inr k3.1
                    · rw [k3] at hot; exact absurd rfl hot
            · cases h
          · cases h
def takeTup (ng np : Nat) (hp : Hp) : List (Bool × List CK) → List S → Option (List A × List B)
  | [], [] => some ([], [])
  | p :: l, .one agg cs :: ss => match takeR ng np hp p.2 cs, takeTup ng np hp l ss with
    | some (a, b), some (aS, bs) => if agg == p.1 && (agg || p.2.length == 1) then some (a ++ aS, b ++ bs) else none
    | _, _ => none
  | _, _ => none
theorem take1_flat {β : Beta} {w : World} {hp : Hp} (hh : heapMt β ρ hp w) (hsq : SqOk β w) {ps : List Rg} {ng np : Nat} (hnp : ps.length = np) (hb : ∀ (k : Nat) (r : Rg), ps[k]? = some r → β (ng + k) = some r) {agg : Bool} {l : List CK} {cs : List C} {a : List A} {b : List B} {v : Value}
    (h : takeR ng np hp l cs = some (a, b)) (hc : (agg || l.length == 1) = true) (hm : mt1 β ρ agg cs v) : flat1 w ps agg l v = some (a.map (A.d ρ), b.map (B.d ρ)) ∧ Lies β (rg1 w agg l v) := by
  unfold flat1 rg1
  cases agg
  · obtain ⟨c, rfl, hcm⟩ := hm
    simp only [Bool.false_or, beq_iff_eq] at hc
    match l, hc, h with
    | [ck], _, h =>
      simp only [Bool.false_eq_true, if_false]
      exact takeR_flat (vs := [v]) hh hsq hnp hb h ⟨hcm, trivial⟩
  · obtain ⟨us, rfl, hcm⟩ := hm
    simp only [if_true]
    exact takeR_flat hh hsq hnp hb h hcm
theorem takeTup_flat {β : Beta} {w : World} {hp : Hp} (hh : heapMt β ρ hp w) (hsq : SqOk β w) {ps : List Rg} {ng np : Nat} (hnp : ps.length = np) (hb : ∀ (k : Nat) (r : Rg), ps[k]? = some r → β (ng + k) = some r) : ∀ {l : List (Bool × List CK)} {ss : List S} {aS : List A} {bs : List B} {vs : List Value},
    takeTup ng np hp l ss = some (aS, bs) → mtAll β ρ ss vs → flatTup w ps l vs = some (aS.map (A.d ρ), bs.map (B.d ρ)) ∧ Lies β (rgTup w l vs)
  | [], [], aS, bs, vs, h, hm => by
    simp only [takeTup, Option.some.injEq, Prod.mk.injEq] at h
    obtain ⟨rfl, rfl⟩ := h
    cases vs with
    | nil => exact ⟨rfl, Lies.nil⟩
    | cons _ _ => exact hm.elim
  | p :: l, .one agg cs :: ss, aS, bs, vs, h, hm => by
    cases vs with
    | nil => exact hm.elim
    | cons v vs =>
      obtain ⟨h1, h2⟩ := hm
      unfold takeTup at h
      split at h
      · rename_i a b as' bs' ht hr
        split at h
        · rename_i hc
          simp only [Bool.and_eq_true, beq_iff_eq] at hc
          obtain ⟨rfl, hc⟩ := hc
          simp only [Option.some.injEq, Prod.mk.injEq] at h
          obtain ⟨rfl, rfl⟩ := h
          obtain ⟨i1, i2⟩ := take1_flat hh hsq hnp hb ht hc h1
          obtain ⟨j1, j2⟩ := takeTup_flat hh hsq hnp hb hr h2
          refine ⟨?_, i2.append j2⟩
          unfold flatTup
          rw [i1, j1]
          simp
        · cases h
      · cases h
  | [], _ :: _, _, _, _, h, _ => by simp [takeTup] at h
  | _ :: _, [], _, _, _, h, _ => by simp [takeTup] at h
  | _ :: _, .tup _ :: _, _, _, _, h, _ => by simp [takeTup] at h
  | _ :: _, .any :: _, _, _, _, h, _ => by simp [takeTup] at h
def takeRes (ng np : Nat) (hp : Hp) (s : Sum) (ss : List S) : Option (List A × List B) :=
  if s.tup then (if ss.length == 1 then none else takeTup ng np hp s.res ss)
  else if s.res.length == 1 && ss.length == 1 then takeTup ng np hp s.res ss else none
theorem flatTup_one {w : World} {ps : List Rg} {p : Bool × List CK} {v : Value} : flatTup w ps [p] [v] = flat1 w ps p.1 p.2 v := by
  unfold flatTup
  cases h : flat1 w ps p.1 p.2 v with
  | none => simp
  | some f => simp [flatTup]
theorem takeRes_flat {β : Beta} {w : World} {hp : Hp} (hh : heapMt β ρ hp w) (hsq : SqOk β w) {ps : List Rg} {ng np : Nat} (hnp : ps.length = np) (hb : ∀ (k : Nat) (r : Rg), ps[k]? = some r → β (ng + k) = some r) {s : Sum} {ss : List S} {aS : List A} {bs : List B} {vs : List Value}
    (h : takeRes ng np hp s ss = some (aS, bs)) (hm : mtAll β ρ ss vs) : flatRes w ps s (tupV vs) = some (aS.map (A.d ρ), bs.map (B.d ρ)) ∧ Lies β (resRgs w s (tupV vs)) := by
  have hlen : ss.length = vs.length := by
    clear h
    induction ss generalizing vs with
    | nil => cases vs with | nil => rfl | cons _ _ => exact hm.elim
    | cons _ ss ih => cases vs with | nil => exact hm.elim | cons _ vs => simp [ih hm.2]
  unfold takeRes at h
  unfold flatRes resRgs
  split at h
  · rename_i ht
    rw [if_pos ht, if_pos ht]
    split at h
    · cases h
    · rename_i hl
      simp only [beq_iff_eq] at hl
      have := takeTup_flat hh hsq hnp hb h hm
      match vs, hlen, this with
      | [], _, this => simpa [tupV] using this
      | [v], hlen, _ => simp at hlen; omega
      | v :: u :: vs, _, this => simpa [tupV] using this
  · rename_i ht
    rw [if_neg ht, if_neg ht]
    split at h
    · rename_i hl
      simp only [Bool.and_eq_true, beq_iff_eq] at hl
      have := takeTup_flat hh hsq hnp hb h hm
      match vs, hlen, this with
      | [v], _, this =>
        match hr : s.res, hl.1 with
        | [p], _ =>
          rw [hr] at this
          rw [flatTup_one] at this
          exact ⟨this.1, by have := this.2; simpa [rgTup, tupV] using this⟩
      | [], hlen, _ => have := hl.2; rw [hlen] at this; simp at this
      | _ :: _ :: _, hlen, _ => have := hl.2; rw [hlen] at this; simp at this
    · cases h
def takePs (ng : Nat) (hp : Hl) : List (List CK) → Nat → Option (List A × List B)
  | [], _ => some ([], [])
  | l :: ls, j => match hpOf hp (ng + j) with
    | some b => if b.g.isEmpty then match takeC [] (hpOf hp) l b.cells, takePs ng hp ls (j + 1) with
      | some (a, bb), some (aS, bs) => some (a ++ aS, bb ++ bs)
      | _, _ => none
      else none
    | none => none
theorem takePs_flat {β : Beta} {w : World} {ng : Nat} {hp : Hl} (hh : heapMt β ρ (hpOf hp) w) (hsq : SqOk β w) : ∀ {ls : List (List CK)} {ps : List Rg} {j : Nat} {aS : List A} {bs : List B}, takePs ng hp ls j = some (aS, bs) → lensOk ls ps →
    (∀ (k : Nat) (r : Rg), ps[k]? = some r → r.row = false ∧ β (ng + j + k) = some r) → flatPs w ls ps = some (aS.map (A.d ρ), bs.map (B.d ρ))
  | [], [], j, aS, bs, h, _, _ => by
    simp only [takePs, Option.some.injEq, Prod.mk.injEq] at h
    obtain ⟨rfl, rfl⟩ := h
    rfl
  | l :: ls, r :: ps, j, aS, bs, h, ⟨hl, hls⟩, hb => by
    unfold takePs at h
    split at h
    · rename_i b hbk
      split at h
      · rename_i hg
        rw [List.isEmpty_iff] at hg
        split at h
        · rename_i a bb as' bs' h1 h2
          simp only [Option.some.injEq, Prod.mk.injEq] at h
          obtain ⟨rfl, rfl⟩ := h
          obtain ⟨hrow, hb0⟩ := hb 0 r (by simp)
          simp only [Nat.add_zero] at hb0
          have hmb := hh _ b hbk (by rw [hg]; rfl)
          have hv : vecOf b.cells = none := by
            cases hv : vecOf b.cells with
            | none => rfl
            | some y =>
              obtain ⟨_, q, _, _, hq, hq2, _⟩ := (blkMt_row hv).1 hmb
              rw [hb0] at hq
              cases hq
              rw [hrow] at hq2
              cases hq2
          obtain ⟨q, hq, _, hql, _, hc, _⟩ := (blkMt_cs hv).1 hmb
          rw [hb0] at hq
          cases hq
          obtain ⟨us, hul, hum, hu⟩ := cellsAt_values hc
          have hrd : readCells w r.blk r.off l.length = some us := by
            rw [← hl, hql, ← hul]; exact readCells_mk hu
          unfold flatPs
          rw [hrd]
          simp only [Option.bind_some]
          rw [(takeC_flat (Γ := []) rfl hh hsq h1 hum).1, takePs_flat hh hsq h2 hls fun k q hk => by have := hb (k + 1) q (by simpa using hk); rwa [show ng + (j + 1) + k = ng + j + (k + 1) by omega]]
          simp
        · cases h
      · cases h
    · cases h
  | [], _ :: _, _, _, _, _, h, _ => h.elim
  | _ :: _, [], _, _, _, _, h, _ => h.elim

/-! ### The end of a body -/
def endSt (keep : Kp) (O : Outs) : M St :=
  match getK .n O, getK .r O with
  | some (_, s), none => if (dropK .n O).isEmpty then pure s else M.fail
  | none, some (_, s) => if (dropK .r O).isEmpty then pure s else M.fail
  | some (q, s), some (_, t) => if (dropK .r (dropK .n O)).isEmpty then do
      let a ← gAtom q
      M.mono (joinSt keep a s t)
    else M.fail
  | none, none => M.fail
theorem dropK_empty {k K : Kd} {O : Outs} {q : Gd} {s : St} (h : (dropK k O).isEmpty = true) (hK : getK K O = some (q, s)) : k = K := by
  cases he : k.eq K with
  | true => exact Kd.eq_sound he
  | false =>
    have := dropK_get (k := k) (l := K) O
    rw [List.isEmpty_iff] at h
    rw [h, he] at this
    simp [getK, hK] at this
theorem endSt_ok {keep : Kp} (hx : GrOk x keep) {O : Outs} {u : St} {c c' : Ctr} {out : List Em} (h : endSt keep O c = some (u, c', out)) (hg : Good Φ ρ out) {β : Beta} {K : Kd} {a : Act} {w : World} (hO : OutMt x ρ β c O K a w) : (K = .n ∨ K = .r) ∧ ∃ β', Ext β β' ∧ Rel x ρ β' u a w ∧ Fresh β' c' := by
  obtain ⟨h1, q', s', β', hK, hE, hR, hF⟩ := hO
  unfold endSt at h
  cases hn : getK .n O with
  | none => cases hr : getK .r O with
    | none => rw [hn, hr] at h; simp [M.fail] at h
    | some p =>
      obtain ⟨q, s⟩ := p
      rw [hn, hr] at h
      simp only at h
      split at h
      · rename_i he
        have hp := M.pure_inv h
        simp only [Prod.mk.injEq] at hp
        obtain ⟨rfl, rfl, rfl⟩ := hp
        have := dropK_empty he hK
        subst this
        rw [hr] at hK
        simp only [Option.some.injEq, Prod.mk.injEq] at hK
        obtain ⟨rfl, rfl⟩ := hK
        exact ⟨.inr rfl, β', hE, hR, hF⟩
      · simp [M.fail] at h
  | some p =>
    obtain ⟨q, s⟩ := p
    cases hr : getK .r O with
    | none =>
      rw [hn, hr] at h
      simp only at h
      split at h
      · rename_i he
        have hp := M.pure_inv h
        simp only [Prod.mk.injEq] at hp
        obtain ⟨rfl, rfl, rfl⟩ := hp
        have := dropK_empty he hK
        subst this
        rw [hn] at hK
        simp only [Option.some.injEq, Prod.mk.injEq] at hK
        obtain ⟨rfl, rfl⟩ := hK
        exact ⟨.inl rfl, β', hE, hR, hF⟩
      · simp [M.fail] at h
    | some p =>
      obtain ⟨qr, t⟩ := p
      rw [hn, hr] at h
      simp only at h
      split at h
      · rename_i he
        obtain ⟨g, c1, o1, c2, o2, y, g1, g2, hee⟩ := M.bind_inv h
        simp only [Prod.mk.injEq] at hee
        obtain ⟨rfl, rfl, rfl⟩ := hee
        rw [Good.append] at hg
        have hgd := gAtom_snd q _ _ _ _ g1 hg.1
        have hid := gAtom_id g1
        obtain ⟨hle, hj⟩ := joinSt_ok (Φ := Φ) (x := x) (ρ := ρ) hx g2 hg.2
        have hqn := h1 _ _ _ hn
        have hF1 : Fresh β' c1 := hF.le (by omega)
        by_cases hKn : K = .n
        · subst hKn
          rw [hn] at hK
          simp only [Option.some.injEq, Prod.mk.injEq] at hK
          obtain ⟨rfl, rfl⟩ := hK
          obtain ⟨β2, f1, f2, f3⟩ := hj β' a w (by rw [hgd, hqn.2 rfl]; simpa using hR) hF1
          exact ⟨.inl rfl, β2, hE.trans f1, f2, f3⟩
        · have hf : Gd.d ρ q = false := by
            cases hd : Gd.d ρ q with
            | false => rfl
            | true => exact absurd (hqn.1 hd).symm hKn
          have hK2 : getK K (dropK .n O) = some (q', s') := by
            rw [dropK_get, if_neg (fun h => hKn (Kd.eq_sound h).symm)]; exact hK
          have := dropK_empty he hK2
          subst this
          rw [hr] at hK
          simp only [Option.some.injEq, Prod.mk.injEq] at hK
          obtain ⟨rfl, rfl⟩ := hK
          obtain ⟨β2, f1, f2, f3⟩ := hj β' a w (by rw [hgd, hf]; simpa using hR) hF1
          exact ⟨.inr rfl, β2, hE.trans f1, f2, f3⟩
      · simp [M.fail] at h
end

def ckNe : CK → Bool
  | .sl ks => !ks.isEmpty
  | _ => true
def shOk (s : Sum) : Bool := ((ptrShapes s.args).all fun l => !l.isEmpty && noSl l) && s.res.all fun p => p.2.all ckNe
theorem shOk_ne {s : Sum} (h : shOk s = true) : ((ptrShapes s.args).all fun l => !l.isEmpty) = true := by
  unfold shOk at h
  simp only [Bool.and_eq_true, List.all_eq_true] at h ⊢
  exact fun l hl => (h.1 l hl).1
theorem shOk_no {s : Sum} (h : shOk s = true) : ∀ l, l ∈ ptrShapes s.args → nSl l = 0 := by
  unfold shOk at h
  simp only [Bool.and_eq_true, List.all_eq_true, noSl, beq_iff_eq] at h
  exact fun l hl => (h.1 l hl).2
theorem flatSl_pos {w : World} {ks : List CK} {v : Value} {l : List Int} {n : Int} {r : Rg} (h : flatSl w ks v = some (l, n, some r)) (hk : ks.isEmpty = false) : r.len ≠ 0 := by
  unfold flatSl at h
  split at h
  · split at h
    · cases h
    split at h
    · simp only [Option.some.injEq, Prod.mk.injEq] at h
      cases h.2.2
    · rename_i h0
      simp only [beq_iff_eq] at h0
      split at h
      · split at h
        · split at h
          · simp only [Option.some.injEq, Prod.mk.injEq] at h
            obtain ⟨_, _, rfl⟩ := h
            have : 0 < ks.length := List.length_pos_iff.2 (fun e => by rw [e] at hk; cases hk)
            have := Nat.mul_pos (Nat.pos_of_ne_zero h0) this
            simp only
            omega
          · cases h
        · cases h
      · cases h
  · cases h
theorem rgC_pos {w : World} {r : Rg} : ∀ {l : List CK} {vs : List Value}, l.all ckNe = true → r ∈ rgC w l vs → r.len ≠ 0
  | [], _, _, h => by simp [rgC] at h
  | ck :: l, [], _, h => by cases ck <;> simp [rgC] at h
  | ck :: l, v :: vs, hc, h => by
    simp only [List.all_cons, Bool.and_eq_true] at hc
    cases ck with
    | sl ks =>
      simp only [rgC, List.mem_append] at h
      rcases h with h | h
      · split at h
        · rename_i l' n r' hf
          simp only [List.mem_singleton] at h
          subst h
          exact flatSl_pos hf (by simpa [ckNe] using hc.1)
        · cases h
      · exact rgC_pos hc.2 h
    | _ => exact rgC_pos (vs := vs) hc.2 (by simpa only [rgC] using h)
theorem rg1_pos {w : World} {r : Rg} {agg : Bool} {l : List CK} {v : Value} (hc : l.all ckNe = true) (h : r ∈ rg1 w agg l v) : r.len ≠ 0 := by
  unfold rg1 at h
  split at h
  · split at h
    · exact rgC_pos hc h
    · cases h
  · exact rgC_pos hc h
theorem rgTup_pos {w : World} {r : Rg} : ∀ {l : List (Bool × List CK)} {vs : List Value}, (l.all fun p => p.2.all ckNe) = true → r ∈ rgTup w l vs → r.len ≠ 0
  | p :: l, v :: vs, hc, h => by
    simp only [List.all_cons, Bool.and_eq_true] at hc
    simp only [rgTup, List.mem_append] at h
    exact h.elim (rg1_pos hc.1) (rgTup_pos hc.2)
  | [], _, _, h => by simp [rgTup] at h
  | _ :: _, [], _, h => by simp [rgTup] at h
theorem resRgs_pos {w : World} {r : Rg} {s : Sum} {v : Value} (hs : shOk s = true) (h : r ∈ resRgs w s v) : r.len ≠ 0 := by
  unfold shOk at hs
  simp only [Bool.and_eq_true] at hs
  have hs := hs.2
  unfold resRgs at h
  split at h
  · split at h
    · exact rgTup_pos hs h
    · cases h
  · split at h
    · rename_i p hp
      rw [hp] at hs
      simp only [List.all_cons, List.all_nil, Bool.and_true] at hs
      exact rg1_pos hs h
    · cases h
theorem flatArgs_mem {w : World} {s : Sum} {vs : List Value} {is : List Int} {bs : List Bool} {ps : List Rg} (h : flatArgs s.args vs w = some (is, bs, ps)) (hne : shOk s = true) : ∀ r, r ∈ ps → (r.ro = false ∧ r.sq = none ∧ r.row = false) ∧ ∃ v, w.cell? ⟨r.blk, r.off, none⟩ = some v :=
  flatArgs_mem' h (shOk_ne hne)

/-! ### The contract -/
def fnM (P : Program) (X : Hnd) (gl : Gl) (k : Ctl) (fn : Func) (s : Sum) : M (List A × List B) := do
  let body ← lift fn.body
  let O ← exec P X (ghOf gl 0) gl.length k body { tm := initTm gl.length s.args 0 0 0 ++ List.replicate (fn.ntmps - s.args.length) anySV, hp := initHp gl.length s.args 0 0 0 }
  let σ ← endSt k.keep O
  let xs ← rAll P (ghOf gl 0) gl.length σ fn.results.toList
  let r ← lift (takeRes gl.length (ptrShapes s.args).length (hpOf σ.hp) s xs)
  let p ← lift (takePs gl.length σ.hp (ptrShapes s.args) 0)
  pure (r.1 ++ p.1, r.2 ++ p.2)
def fnX (P : Program) (X : Hnd) (gl : Gl) (k : Ctl) (fn : Func) (s : Sum) : Option Smry :=
  match fnM P X gl k fn s { i := argI s.args, b := argB s.args, id := gl.length + (ptrShapes s.args).length + argS s.args } with
  | some (r, _, out) => some { em := out, ri := r.1, rb := r.2 }
  | none => none

def st0 (gl : Gl) (fn : Func) (s : Sum) : St := { tm := initTm gl.length s.args 0 0 0 ++ List.replicate (fn.ntmps - s.args.length) anySV, hp := initHp gl.length s.args 0 0 0 }
def ctr0 (gl : Gl) (s : Sum) : Ctr := { i := argI s.args, b := argB s.args, id := gl.length + (ptrShapes s.args).length + argS s.args }
/-- What is done at loops over functions is right, wherever a function is walked. -/
def EAll (P : Program) (Φ : Funs) (gl : Gl) (k : Ctl) : Prop := ∀ x : Cx, x.gl = gl → x.rl = none → x.lr = none → x.ds = [] → GrOk x k.keep → (∀ w, Keep x.R x.w0 w → Laid gl w) → EOk P Φ x k.E
theorem EAll.nil {P : Program} {Φ : Funs} {gl : Gl} {k : Ctl} (h : k.E = {}) : EAll P Φ gl k := fun _ _ _ _ _ _ _ => EOk.nil h
/-- What never changes in a function's walk. -/
def fnCx (gl : Gl) (s : Sum) (vs : List Value) (w : World) (ps : List Rg) : Cx :=
  { w0 := w, R := ps, gl := gl, gr := ps, Q := fun r => ∃ q, (q ∈ argRgs s.args vs w ∨ ∃ (g : Nat) (us : List Value), gl[g]? = some us ∧ q = gRg g us) ∧ r.within q, b0 := beta0 gl ps (argRgs s.args vs w), gi := fun j => gl.length + j }
theorem Rg.within_refl (r : Rg) : r.within r := ⟨rfl, Nat.le_refl _, Nat.le_refl _⟩
theorem run_gen {P : Program} {Φ : Funs} {X : Hnd} {gl : Gl} (hX : HOk P Φ gl X) {f : Nat} {fn : Func} (hf : P.funcs[f]? = some fn) {k : Ctl} (hK : LoopsOk Φ k) (hEA : EAll P Φ gl k) {s : Sum} {body : Code} (hbody : fn.body = some body) (hne : shOk s = true)
    {vs : List Value} {w : World} {is : List Int} {bs : List Bool} {ps : List Rg} (hL : Laid gl w) (hfl : flatArgs s.args vs w = some (is, bs, ps)) (hap : apartL ps) (hfz : frzL ps w) (hag : ∀ q, q ∈ ps → ∀ (g : Nat) (vs : List Value), gl[g]? = some vs → q.apart (gRg g vs)) (hsl : ∀ q, q ∈ ps → ∀ r, r ∈ argRgs s.args vs w → q.apart r)
    {ρ : Env} (hi : ∀ n, n < argI s.args → ρ.i (0 + n) = is.getD n 0) (hbb : ∀ n, n < argB s.args → ρ.b (0 + n) = bs.getD n false) {O : Outs} {c3 : Ctr} {o3 : List Em} (g3 : exec P X (ghOf gl 0) gl.length k body (st0 gl fn s) (ctr0 gl s) = some (O, c3, o3)) (hg3 : Good Φ ρ o3)
    {σ : St} {c5 : Ctr} {o5 : List Em} (g5 : endSt k.keep O c3 = some (σ, c5, o5)) (hg5 : Good Φ ρ o5) {xs : List S} {c7 : Ctr} {o7 : List Em} (g7 : rAll P (ghOf gl 0) gl.length σ fn.results.toList c5 = some (xs, c7, o7)) (hg7 : Good Φ ρ o7) :
    Calls P f vs.toArray w fun e w' => ∃ us β' a', e = .returned (tupV us) ∧ mtAll β' ρ xs us ∧ Rel (fnCx gl s vs w ps) ρ β' σ a' w' := by
  have hlen := flatArgs_len hfl
  -- the walk's frame
  let x : Cx := fnCx gl s vs w ps
  have hx : GrOk x k.keep := fun _ q hq => List.mem_iff_getElem?.1 hq
  obtain ⟨sl, hsle⟩ : ∃ sl, sl = argRgs s.args vs w := ⟨_, rfl⟩
  have hslm : ∀ {k : Nat} {r : Rg}, sl[k]? = some r → r.ro = true ∧ r.row = false ∧ (r.len = 0 ∨ r.blk < w.heap.size) ∧ ∀ ks l, r.sq = some (ks, l) → l.length = r.len ∧ seqAt w r.blk r.off ks l := fun {k r} hk => by
    obtain ⟨g1, g2, ks, q, g3, g4, g5⟩ := argRgs_sq (hsle ▸ List.mem_of_getElem? hk)
    refine ⟨g1, g2, ?_, fun ks' l' he => ?_⟩
    · cases q with
      | nil => exact .inl (by simpa using g4.symm)
      | cons n q =>
        obtain ⟨_, v, _, hv, _⟩ := g5 0 n rfl
        exact .inr (World.block_lt_of_cell? w ⟨r.blk, r.off + 0, none⟩ hv)
    · rw [g3] at he
      cases he
      exact ⟨g4, g5⟩
  have hbps : ∀ (k : Nat) (r : Rg), ps[k]? = some r → beta0 gl ps sl (gl.length + k) = some r := fun k r hk => beta0_ps hk
  have hpsm := flatArgs_mem hfl hne
  obtain ⟨i1, i2, i3⟩ := init_ok (ρ := ρ) (β := beta0 gl ps sl) gl.length (i := 0) (b := 0) (j := 0) hfl hfz hi hbb (fun k r hk => by rw [Nat.add_zero]; exact hbps k r hk) (shOk_no hne) (fun r hr => beta0_sl (hsle ▸ hr))
  have hglsq : ∀ (g : Nat) (vs : List Value), (gRg g vs).sq = none := fun _ _ => rfl
  have hbo : BetaOk w.heap.size ps x.Q (beta0 gl ps sl) w := by
    refine ⟨fun i j r q hij hi hj => ?_, fun i r hi => ?_, fun i r hi => ?_, fun i r ks l hi hs => ?_, fun i r hi hro => ?_, fun r q hq hw => ?_, fun i r hi hrow => ?_⟩
    · rcases beta0_inv hi with ⟨us, h1, rfl⟩ | ⟨h0, h1⟩ | ⟨h0, h1⟩
      · rcases beta0_inv hj with ⟨us', h2, rfl⟩ | ⟨h0', h2⟩ | ⟨h0', h2⟩
        · exact .inl ⟨rfl, rfl⟩
        · exact .inr (Rg.apart_symm (hag q (List.mem_of_getElem? h2) i us h1))
        · exact .inl ⟨rfl, (hslm h2).1⟩
      · rcases beta0_inv hj with ⟨us', h2, rfl⟩ | ⟨h0', h2⟩ | ⟨h0', h2⟩
        · exact .inr (hag r (List.mem_of_getElem? h1) j us' h2)
        · rcases Nat.lt_or_ge i j with h | h
          · exact .inr (apartL_get hap (by omega) h1 h2)
          · exact .inr (Rg.apart_symm (apartL_get hap (by omega) h2 h1))
        · exact .inr (hsl r (List.mem_of_getElem? h1) q (hsle ▸ List.mem_of_getElem? h2))
      · rcases beta0_inv hj with ⟨us', h2, rfl⟩ | ⟨h0', h2⟩ | ⟨h0', h2⟩
        · exact .inl ⟨(hslm h1).1, rfl⟩
        · exact .inr (Rg.apart_symm (hsl q (List.mem_of_getElem? h2) r (hsle ▸ List.mem_of_getElem? h1)))
        · exact .inl ⟨(hslm h1).1, (hslm h2).1⟩
    · rcases beta0_inv hi with ⟨us, h1, rfl⟩ | ⟨h0, h1⟩ | ⟨h0, h1⟩
      · exact .inr (hL i _ h1).1
      · obtain ⟨_, v, hv⟩ := hpsm r (List.mem_of_getElem? h1)
        exact .inr (World.block_lt_of_cell? w _ hv)
      · exact (hslm h1).2.2.1
    · rcases beta0_inv hi with ⟨us, h1, rfl⟩ | ⟨h0, h1⟩ | ⟨h0, h1⟩
      · exact .inl rfl
      · exact .inr (.inr ⟨r, List.mem_of_getElem? h1, rfl, Nat.le_refl _, Nat.le_refl _⟩)
      · exact .inl (hslm h1).1
    · rcases beta0_inv hi with ⟨us, h1, rfl⟩ | ⟨h0, h1⟩ | ⟨h0, h1⟩
      · cases hs
      · rw [(hpsm r (List.mem_of_getElem? h1)).1.2.1] at hs
        cases hs
      · exact ⟨(hslm h1).1, (hslm h1).2.1, (hslm h1).2.2.2 ks l hs⟩
    · rcases beta0_inv hi with ⟨us, h1, rfl⟩ | ⟨h0, h1⟩ | ⟨h0, h1⟩
      · exact .inr ⟨_, .inr ⟨i, us, h1, rfl⟩, Rg.within_refl _⟩
      · rw [(hpsm r (List.mem_of_getElem? h1)).1.1] at hro
        cases hro
      · exact .inr ⟨r, .inl (hsle ▸ List.mem_of_getElem? h1), Rg.within_refl _⟩
    · obtain ⟨p, hp, hpw⟩ := hq
      exact ⟨p, hp, Rg.within_trans hw hpw⟩
    · exfalso
      rcases beta0_inv hi with ⟨us, h1, rfl⟩ | ⟨h0, h1⟩ | ⟨h0, h1⟩
      · cases hrow
      · rw [(hpsm r (List.mem_of_getElem? h1)).1.2.2] at hrow
        cases hrow
      · rw [(hslm h1).2.1] at hrow
        cases hrow
  have hgm : heapMt (beta0 gl ps sl) ρ (hpOf (ghOf gl 0)) w := by
    intro id b hb _
    obtain ⟨us, hus, _, rfl⟩ := ghOf_get hb
    rw [Nat.sub_zero] at hus
    refine blkMt_mk ⟨_, beta0_gl hus, rfl, by simp [gRg], rfl, ?_, fun h => by cases h⟩
    rw [cellsAt_iff]
    intro j c hj
    rw [List.getElem?_map] at hj
    cases hu : us[j]? with
    | none => rw [hu] at hj; simp at hj
    | some u =>
      rw [hu] at hj
      simp only [Option.map_some, Option.some.injEq] at hj
      subst hj
      have hl := (hL id us hus).2 j u hu
      exact ⟨u, by simpa [gRg] using hl.1, ofC_mt hl.2⟩
  have hvl : vs.length = s.args.length := hlen.2.2.2
  have hrel : Rel x ρ (beta0 gl ps sl) (st0 gl fn s) { tmps := vs.toArray ++ Array.replicate (fn.ntmps - vs.toArray.size) undef, defers := [] } w := by
    refine ⟨?_, fun t v ht => ?_, Lk.nil rfl rfl _, i3, hgm, fun id b hb => ?_, hbo, Keep.refl _ _, fun g vs hg => beta0_gl hg, fun j r hr => ⟨(hpsm r (List.mem_of_getElem? hr)).1.2.2, hbps j r hr⟩, hsle ▸ ExtP.refl _ _⟩
    · simp [st0, i2, hvl]
    · simp only [st0] at ht ⊢
      rcases Nat.lt_or_ge t (initTm gl.length s.args 0 0 0).length with h | h
      · rw [List.getElem?_append_left h] at ht
        have := i1 t v ht
        have hlt : t < vs.length := by omega
        rw [List.getD_eq_getElem?_getD, List.getElem?_eq_getElem hlt] at this
        simpa [Array.getElem?_append, hlt] using this
      · rw [List.getElem?_append_right h, List.getElem?_replicate] at ht
        split at ht
        · simp only [Option.some.injEq] at ht
          subst ht
          exact anySV_mt _
        · cases ht
    · obtain ⟨us, _, _, rfl⟩ := ghOf_get hb
      rfl
  have hfresh : Fresh (beta0 gl ps sl) (ctr0 gl s) := by
    intro i hi
    simp only [ctr0] at hi
    cases hb : beta0 gl ps sl i with
    | none => rfl
    | some r =>
      have hsll : sl.length ≤ argS s.args := by rw [hsle]; exact argRgs_len
      rcases beta0_inv hb with ⟨us, h1, rfl⟩ | ⟨h0, h1⟩ | ⟨h0, h1⟩
      · have := (List.getElem?_eq_some_iff.1 h1).1; omega
      · have := (List.getElem?_eq_some_iff.1 h1).1; omega
      · have := (List.getElem?_eq_some_iff.1 h1).1; omega
  have hG : ∀ w', Keep ps w w' → Laid gl w' := by
    intro w' hk g us hg
    obtain ⟨h1, h2⟩ := hL g us hg
    refine ⟨by have := hk.size; omega, fun j v hj => ?_⟩
    obtain ⟨h3, h4⟩ := h2 j v hj
    refine ⟨(hk.cell _ h1 fun r hr hin => ?_).trans h3, h4⟩
    have := hag r hr g us hg
    have hlt := (List.getElem?_eq_some_iff.1 hj).1
    unfold inRg at hin
    unfold Rg.apart gRg at this
    simp only at hin this
    omega
  have hrun := exec_ok (x := x) hX hG k hx hK (hEA x rfl rfl rfl rfl hx hG) body ρ _ _ _ O o3 g3 hg3 (beta0 gl ps sl) _ w hrel hfresh
    (bodyPostM Fence.wide 0 P fn fun e w' => ∃ us β' a', e = .returned (tupV us) ∧ mtAll β' ρ xs us ∧ Rel x ρ β' σ a' w') fun e a' w' K hk hO => ?_
  · exact callsIn_wide.1 (callsIn_of_wp_marks hf hbody trivial hrun rfl)
  · obtain ⟨hKK, β', hE, hR, _⟩ := endSt_ok hx g5 hg5 hO
    have hfin : LeavesInM Fence.wide 0 P fn a'.tmps (fun e w' => ∃ us β' a', e = .returned (tupV us) ∧ mtAll β' ρ xs us ∧ Rel x ρ β' σ a' w') a'.defers .returning w' :=
      leaves_ok rfl rfl a'.defers hR.noDf hR.df.ma fun w2 hR2 => by
        obtain ⟨us, hus, hum⟩ := rAll_snd (P := P) (x := x) σ fn.results.toList _ _ _ _ g7 hg7 β' _ w2 hR2
        exact ⟨_, results_run hus, us, β', _, rfl, hum, hR2⟩
    rcases hKK with rfl | rfl
    · rw [kdOf_n hk]
      exact hfin
    · cases e <;> simp only [kdOf, Option.some.injEq] at hk <;> (try (cases hk; done))
      exact hfin

theorem contract_gen {P : Program} {Φ : Funs} {X : Hnd} {gl : Gl} (hX : HOk P Φ gl X) {f : Nat} {fn : Func} (hf : P.funcs[f]? = some fn) {k : Ctl} (hK : LoopsOk Φ k) (hEA : EAll P Φ gl k) {s : Sum} {S : Smry} (h : fnX P X gl k fn s = some S)
    (hw : wsEm S.em (argI s.args) (argB s.args) = true) (hne : shOk s = true)
    (hob : ∀ (vs : List Value) (w : World) (is : List Int) (bs : List Bool) (ps : List Rg), flatArgs s.args vs w = some (is, bs, ps) → (s.pre = true → (S.run Φ s.pre is bs).2.headD false = true) →
      obAll (envOf (evEm Φ S.em is bs).1 (evEm Φ S.em is bs).2) S.em = true) : Contract P gl f s (S.run Φ s.pre) := by
  intro vs w is bs ps hL hfl hap hfz hag hsl hpre
  have hlen := flatArgs_len hfl
  have hlens := flatArgs_lens hfl
  have ho := hob vs w is bs ps hfl hpre
  have hw' : wsEm S.em is.length bs.length = true := by rw [hlen.1, hlen.2.1]; exact hw
  have hgood := good_of hw' ho
  have hagree := (evEm_spec Φ S.em is bs hw').1
  unfold fnX at h
  split at h
  · rename_i r c' out hm
    simp only [Option.some.injEq] at h
    subst h
    simp only at hgood hagree ho hw' ⊢
    generalize hρ : envOf (evEm Φ out is bs).1 (evEm Φ out is bs).2 = ρ at hgood hagree ho
    unfold fnM at hm
    obtain ⟨body, c1, o1, c2, o2, y, g1, g2, he⟩ := M.bind_inv hm
    simp only [Prod.mk.injEq] at he
    obtain ⟨rfl, rfl, rfl⟩ := he
    obtain ⟨body', hbody, he⟩ := lift_inv g1
    simp only [Prod.mk.injEq] at he
    obtain ⟨rfl, rfl, rfl⟩ := he
    obtain ⟨O, c3, o3, c4, o4, y, g3, g4, he⟩ := M.bind_inv g2
    simp only [Prod.mk.injEq] at he
    obtain ⟨rfl, rfl, rfl⟩ := he
    obtain ⟨σ, c5, o5, c6, o6, y, g5, g6, he⟩ := M.bind_inv g4
    simp only [Prod.mk.injEq] at he
    obtain ⟨rfl, rfl, rfl⟩ := he
    obtain ⟨xs, c7, o7, c8, o8, y, g7, g8, he⟩ := M.bind_inv g6
    simp only [Prod.mk.injEq] at he
    obtain ⟨rfl, rfl, rfl⟩ := he
    obtain ⟨rr, c9, o9, c10, o10, y, g9, g10, he⟩ := M.bind_inv g8
    simp only [Prod.mk.injEq] at he
    obtain ⟨rfl, rfl, rfl⟩ := he
    obtain ⟨rr', hrr, he⟩ := lift_inv g9
    simp only [Prod.mk.injEq] at he
    obtain ⟨rfl, rfl, rfl⟩ := he
    obtain ⟨pp, c11, o11, c12, o12, y, g11, g12, he⟩ := M.bind_inv g10
    simp only [Prod.mk.injEq] at he
    obtain ⟨rfl, rfl, rfl⟩ := he
    obtain ⟨pp', hpp, he⟩ := lift_inv g11
    simp only [Prod.mk.injEq] at he
    obtain ⟨rfl, rfl, rfl⟩ := he
    have he := M.pure_inv g12
    simp only [Prod.mk.injEq] at he
    obtain ⟨rfl, rfl, rfl⟩ := he
    simp only [Good.append] at hgood
    obtain ⟨_, hg3, hg5, hg7, _⟩ := hgood
    have hi : ∀ n, n < argI s.args → ρ.i (0 + n) = is.getD n 0 := fun n hn => by rw [Nat.zero_add]; exact hagree.1 n (by omega)
    have hbb : ∀ n, n < argB s.args → ρ.b (0 + n) = bs.getD n false := fun n hn => by rw [Nat.zero_add]; exact hagree.2 n (by omega)
    refine Calls.mono (run_gen hX hf hK hEA hbody hne hL hfl hap hfz hag hsl hi hbb g3 hg3 g5 hg5 g7 hg7) fun e w' he => ?_
    obtain ⟨us, β', a', rfl, hum, hR⟩ := he
    have hra : ∀ (k : Nat) (r : Rg), ps[k]? = some r → r.row = false ∧ β' (gl.length + k) = some r := hR.ra
    obtain ⟨hfr, hlies⟩ := takeRes_flat hR.hm hR.bo.sq hlen.2.2.1 (fun k r hk => (hra k r hk).2) hrr hum
    have hfp := takePs_flat hR.hm hR.bo.sq hpp hlens (fun k r hk => by rw [Nat.add_zero]; exact hra k r hk)
    refine ⟨_, rfl, hR.kp, ⟨_, _, hfr, hfp, ?_, ?_⟩, fun r' hr' => ?_⟩
    · simp only [Smry.run, hρ, List.map_append]
    · simp only [Smry.run, hρ, List.map_append]
      cases s.pre <;> simp
    · obtain ⟨i, r0, hi0, hw0, h0⟩ := hlies r' hr'
      have hpos := resRgs_pos hne hr'
      rcases h0 with h0 | h0
      · rcases hR.bo.rom i r0 hi0 h0 with h1 | h1
        · exact .inl (by rw [hw0.1]; exact h1)
        · exact .inr (hR.bo.qs r' r0 h1 hw0)
      · have hro := hR.bo.rw i r0 hi0 h0
        rcases hR.bo.may i r0 hi0 with h1 | h1
        · rw [hro] at h1; cases h1
        · rcases h1 with h1 | ⟨p, hp, h1, h2, h3⟩
          · exact .inl (by rw [hw0.1]; exact h1)
          · exfalso
            obtain ⟨k', hk'⟩ := List.mem_iff_getElem?.1 hp
            obtain ⟨e1, e2⟩ := hra k' p hk'
            have hne2 : i ≠ gl.length + k' := fun e => by rw [← e, hi0] at e2; cases e2; rw [h0] at e1; cases e1
            have := hR.bo.apartW hne2 hi0 e2 hro
            unfold Rg.apart at this
            unfold Rg.within at hw0
            omega
  · cases h

/-! ### A function that answers a new slice of known numbers -/
def tabCells (k : IntKind) : List Int → List C → Bool
  | [], [] => true
  | n :: ns, .int k' (.c m) :: cs => k' == k && n == m && tabCells k ns cs
  | _, _ => false
theorem tabCells_get {k : IntKind} : ∀ {ns : List Int} {cs : List C}, tabCells k ns cs = true → cs.length = ns.length ∧ ∀ (j : Nat) (n : Int), ns[j]? = some n → cs[j]? = some (.int k (.c n))
  | [], [], _ => ⟨rfl, fun j n h => by simp at h⟩
  | n :: ns, c :: cs, h => by
    unfold tabCells at h
    split at h
    · rename_i e; cases e
    · rename_i n' ns' k' m cs' e1 e2
      simp only [List.cons.injEq] at e1 e2
      obtain ⟨rfl, rfl⟩ := e1
      obtain ⟨rfl, rfl⟩ := e2
      simp only [Bool.and_eq_true, beq_iff_eq] at h
      obtain ⟨⟨rfl, rfl⟩, h⟩ := h
      obtain ⟨h1, h2⟩ := tabCells_get h
      refine ⟨by simp [h1], fun j x hj => ?_⟩
      cases j with
      | zero => simp at hj; subst hj; rfl
      | succ j => exact h2 j x (by simpa using hj)
    · cases h
  | [], c :: cs, h => by cases c <;> simp [tabCells] at h
  | n :: ns, [], h => by simp [tabCells] at h
theorem tabCells_vec {k : IntKind} {ns : List Int} {cs : List C} (h : tabCells k ns cs = true) : vecOf cs = none := by
  match cs, ns, h with
  | [], _, _ => rfl
  | [.vec _ _ _], [], h => simp [tabCells] at h
  | [.vec _ _ _], _ :: _, h => simp [tabCells] at h
  | c :: d :: l, _, _ => cases c <;> rfl
  | [.int _ _], _, _ => rfl
  | [.bool _], _, _ => rfl
  | [.ptr _ _ _], _, _ => rfl
  | [.pix _ _ _ _ _ _], _, _ => rfl
  | [.sli _ _ _ _], _, _ => rfl
  | [.slx _ _ _], _, _ => rfl
  | [.pxq _ _ _ _], _, _ => rfl
  | [.slm _ _], _, _ => rfl
  | [.pxm _ _ _ _], _, _ => rfl
  | [.emp], _, _ => rfl
  | [.val _], _, _ => rfl
  | [.junk], _, _ => rfl
  | [.str _], _, _ => rfl
  | [.fn _ _], _, _ => rfl
  | [.mp _], _, _ => rfl
def tabRes (σ : St) (p : IntKind × List Int) : List S → Bool
  | [.one false [.sli id off len cap]] => !p.2.isEmpty && off == 0 && len == p.2.length && cap == p.2.length && (match hpOf σ.hp id with | some b => b.g.isEmpty && !b.ro && tabCells p.1 p.2 b.cells | none => false)
  | _ => false
def tabSum (p : IntKind × List Int) : Sum := { args := [], tup := false, res := [], pre := false, sl := some p }
def tabX (P : Program) (X : Hnd) (gl : Gl) (k : Ctl) (fn : Func) (p : IntKind × List Int) : Bool :=
  match fn.body with
  | none => false
  | some body => match exec P X (ghOf gl 0) gl.length k body (st0 gl fn (tabSum p)) (ctr0 gl (tabSum p)) with
    | none => false
    | some (O, c3, o3) => match endSt k.keep O c3 with
      | none => false
      | some (σ, c5, o5) => match rAll P (ghOf gl 0) gl.length σ fn.results.toList c5 with
        | none => false
        | some (xs, _, o7) => o3.isEmpty && o5.isEmpty && o7.isEmpty && tabRes σ p xs
theorem contract_tab {P : Program} {Φ : Funs} {X : Hnd} {gl : Gl} (hX : HOk P Φ gl X) {f : Nat} {fn : Func} (hf : P.funcs[f]? = some fn) {k : Ctl} (hK : LoopsOk Φ k) {p : IntKind × List Int} (h : tabX P X gl k fn p = true) (hE : k.E = {} := by rfl) : TabContract P gl f p := by
  intro w hL
  unfold tabX at h
  split at h
  · cases h
  · rename_i body hbody
    split at h
    · cases h
    · rename_i O c3 o3 g3
      split at h
      · cases h
      · rename_i σ c5 o5 g5
        split at h
        · cases h
        · rename_i xs c7 o7 g7
          simp only [Bool.and_eq_true, List.isEmpty_iff] at h
          obtain ⟨⟨⟨rfl, rfl⟩, rfl⟩, h⟩ := h
          have hgn : Good Φ (envOf [] []) [] := fun e he => by cases he
          refine Calls.mono (run_gen (s := tabSum p) (vs := []) (is := []) (bs := []) (ps := []) (ρ := envOf [] []) hX hf hK (EAll.nil hE) hbody rfl hL rfl trivial (fun r hr => by cases hr) (fun q hq => by cases hq) (fun q hq => by cases hq) (fun n hn => by simp [tabSum, argI] at hn) (fun n hn => by simp [tabSum, argB] at hn) g3 hgn g5 hgn g7 hgn) fun e w' he => ?_
          obtain ⟨us, β', a', rfl, hum, hR⟩ := he
          unfold tabRes at h
          split at h
          · rename_i id off len cap
            simp only [Bool.and_eq_true, beq_iff_eq] at h
            obtain ⟨⟨⟨⟨hne0, rfl⟩, rfl⟩, rfl⟩, h⟩ := h
            split at h
            · rename_i b hb
              simp only [Bool.and_eq_true, List.isEmpty_iff, Bool.not_eq_true'] at h
              obtain ⟨⟨hbg, hro⟩, hc⟩ := h
              obtain ⟨r, hr, hrow, hlen, hrro, hcells, _⟩ := (blkMt_cs (tabCells_vec hc)).1 (hR.hm id b hb (by rw [hbg]; rfl))
              match us, hum with
              | [v], ⟨hv, _⟩ =>
                obtain ⟨cc, hcc, hcm⟩ := hv
                simp only [List.cons.injEq, and_true] at hcc
                subst hcc
                obtain ⟨r', hr', rfl⟩ := hcm
                rw [hr] at hr'
                simp only [Option.some.injEq] at hr'
                subst hr'
                obtain ⟨h1, h2⟩ := tabCells_get hc
                refine ⟨r.blk, r.off, by simp [tupV], hR.kp, ?_, (hR.bo.place id r hr).resolve_left (by rw [hlen, h1]; simpa using hne0), fun j n hj => ?_⟩
                · rcases hR.bo.may id r hr with h | h
                  · rw [hrro, hro] at h; cases h
                  · rcases h with h | ⟨q, hq, _⟩
                    · exact h
                    · cases hq
                · rw [cellsAt_iff] at hcells
                  obtain ⟨v, hv1, hv2⟩ := hcells j _ (h2 j n hj)
                  obtain ⟨rfl, hv3⟩ := hv2
                  exact ⟨hv1, hv3⟩
            · cases h
          · cases h

theorem callable_of {P : Program} {f : Nat} {fn : Func} (hf : P.funcs[f]? = some fn) (hn : (fn.name == "runtime.NumGoroutine") = false) (hb : fn.body.isNone = false) : ∀ args w, (callFunc f args).run P w = .ok (.enter f args) w := by
  intro args w
  unfold callFunc
  simp only [Sem.run_bind, run_program, Result.andThen_ok, hf, hn, hb, Bool.false_eq_true, if_false, Sem.run_pure]

def noOb (l : List Em) : Bool := l.all fun | .ob _ _ => false | _ => true
theorem noOb_all {ρ : Env} {l : List Em} (h : noOb l = true) : obAll ρ l = true := by
  unfold obAll noOb at *
  rw [List.all_eq_true] at *
  intro e he
  have := h e he
  cases e <;> simp_all
/-- Nothing is owed. -/
theorem contract_of {P : Program} {Φ : Funs} {X : Hnd} {gl : Gl} (hX : HOk P Φ gl X) {f : Nat} {fn : Func} (hf : P.funcs[f]? = some fn) {k : Ctl} (hK : LoopsOk Φ k) {s : Sum} {S : Smry} (h : fnX P X gl k fn s = some S)
    (hw : (wsEm S.em (argI s.args) (argB s.args) && shOk s && noOb S.em) = true) (hE : k.E = {} := by rfl) : Contract P gl f s (S.run Φ s.pre) := by
  simp only [Bool.and_eq_true] at hw
  exact contract_gen hX hf hK (EAll.nil hE) h hw.1.1 hw.1.2 fun _ _ _ _ _ _ _ => noOb_all hw.2
/-- What is owed is the function's first answer. -/
theorem contract_pre {P : Program} {Φ : Funs} {X : Hnd} {gl : Gl} (hX : HOk P Φ gl X) {f : Nat} {fn : Func} (hf : P.funcs[f]? = some fn) {k : Ctl} (hK : LoopsOk Φ k) {s : Sum} {S : Smry} (h : fnX P X gl k fn s = some S)
    (hw : (wsEm S.em (argI s.args) (argB s.args) && shOk s && s.pre) = true) (hE : k.E = {} := by rfl) : Contract P gl f s (S.run Φ s.pre) := by
  simp only [Bool.and_eq_true] at hw
  refine contract_gen hX hf hK (EAll.nil hE) h hw.1.1 hw.1.2 fun vs w is bs ps _ hp => ?_
  have := hp hw.2
  simpa [Smry.run, hw.2] using this
end Go.Proofs.Ytgbgibbonhklgaa.Sx
namespace Go.Proofs.Ytgbgibbonhklgaa.Sx
open Go

/-- Stretches that are known, and no rows. -/
def knN (ng : Nat) (hp : Hl) (i : Nat) : Bool := Nat.blt i ng || (match hpOf hp i with | some b => b.g.isEmpty && (vecOf b.cells).isNone | none => false)
theorem knN_row {x : Cx} {ρ : Env} {β : Beta} {σ : St} {a : Act} {w : World} (hR : Rel x ρ β σ a w) {i : Nat} {r : Rg} (h : knN x.ng σ.hp i = true) (hi : β i = some r) : r.row = false := by
  unfold knN at h
  rw [Bool.or_eq_true, Nat.blt_eq] at h
  rcases h with h | h
  · have := hR.gl i _ (List.getElem?_eq_getElem h)
    rw [hi] at this
    cases this
    rfl
  · split at h
    · rename_i b hb
      simp only [Bool.and_eq_true, List.isEmpty_iff, Option.isNone_iff_eq_none] at h
      obtain ⟨q, hq, hrow, _⟩ := (blkMt_cs h.2).1 (hR.hm i b hb (by rw [h.1]; rfl))
      rw [hi] at hq
      cases hq
      exact hrow
    · cases h
theorem knN_keep {x : Cx} {ρ : Env} {β β' : Beta} {σ : St} {a : Act} {w : World} (hR : Rel x ρ β σ a w) (hE : Ext β β') : ∀ i r, knN x.ng σ.hp i = true → β i = some r → β' i = some r :=
  fun i r h hi => hE.at hi (knN_row hR h hi)
theorem knN_mv {x : Cx} {ρ : Env} {β β' : Beta} {σ : St} {a : Act} {w : World} (hR : Rel x ρ β σ a w) (hE : Ext β β') : Mv (knN x.ng σ.hp) β β' :=
  ⟨fun i r hi hr => hr.elim (hE.at hi) fun h => knN_keep hR hE i r h hi, (Mv.of hR.bo (ExtP.refl (fun _ => true) β)).sq⟩

/-- Without numbers that turn. -/
def C.tj (p : Nat → Bool) : C → C
  | .int k (.c n) => .int k (.c n)
  | .bool (.c b) => .bool (.c b)
  | .ptr [] i o => if p i then .ptr [] i o else .junk
  | .val u => .val u
  | .emp => .emp
  | .fn [] d => if (fvIds d).all p then .fn [] d else .junk
  | _ => .junk
section
variable {p : Nat → Bool} {β β' : Beta} {ρ ρ' : Env} (hk : ∀ i r, p i = true → β i = some r → β' i = some r)
include hk
theorem tj_cap : ∀ {l : List (Nat × Nat)} {vs : List Value}, (l.map (·.1)).all p = true → capMt β l vs → capMt β' l vs
  | [], [], _, _ => trivial
  | q :: l, v :: vs, h, ⟨⟨r, hr, hv⟩, h2⟩ => by
    simp only [List.map_cons, List.all_cons, Bool.and_eq_true] at h
    exact ⟨⟨r, hk _ _ h.1 hr, hv⟩, tj_cap h.2 h2⟩
  | [], _ :: _, _, h => h.elim
  | _ :: _, [], _, h => h.elim
theorem C.tj_mt {c : C} {v : Value} (h : c.mt β ρ v) : (c.tj p).mt β' ρ' v := by
  have ho := C.mt_oneCell h
  unfold C.tj
  split
  · exact h
  · exact h
  · rename_i i o
    split
    · rename_i hp
      obtain ⟨r, hr, hv⟩ := h
      exact ⟨r, hk _ _ hp hr, hv⟩
    · exact ho
  · exact h
  · exact h
  · rename_i d
    split
    · rename_i hp
      have h : fvMt β d v := h
      show fvMt β' d v
      unfold fvMt at *
      cases d with
      | none => exact h
      | some q => obtain ⟨vs, h1, h2⟩ := h; exact ⟨vs, h1, tj_cap hk hp h2⟩
    · exact ho
  · exact ho
theorem tj_L : ∀ {l : List C} {vs : List Value}, mtL β ρ l vs → mtL β' ρ' (l.map (C.tj p)) vs
  | [], [], _ => trivial
  | c :: l, v :: vs, ⟨h1, h2⟩ => ⟨C.tj_mt hk h1, tj_L h2⟩
  | [], _ :: _, h => h.elim
  | _ :: _, [], h => h.elim
theorem tj_1 {agg : Bool} {l : List C} {v : Value} (h : mt1 β ρ agg l v) : mt1 β' ρ' agg (l.map (C.tj p)) v := by
  unfold mt1 at *
  cases agg
  · obtain ⟨c, rfl, h⟩ := h; exact ⟨_, rfl, C.tj_mt hk h⟩
  · obtain ⟨vs, rfl, h⟩ := h; exact ⟨vs, rfl, tj_L hk h⟩
end
def SV.tj (p : Nat → Bool) (v : SV) : SV := match v with
  | { g := [], s := .one agg l } => { g := [], s := .one agg (l.map (C.tj p)) }
  | _ => anySV
theorem SV.tj_mt {p : Nat → Bool} {β β' : Beta} {ρ ρ' : Env} (hk : ∀ i r, p i = true → β i = some r → β' i = some r) {s : SV} {v : Value} (h : s.mt β ρ v) : (s.tj p).mt β' ρ' v := by
  unfold SV.tj
  split
  · exact ⟨fun _ => tj_1 hk (h.1 rfl), fun h => by cases h⟩
  · exact anySV_mt v
/-- A frame's slots, aS arguments fill them. -/
theorem args_slots {β : Beta} {ρ : Env} : ∀ {xs : List S} {vs : List Value} {n t : Nat} {v : SV}, mtAll β ρ xs vs → (xs.map (fun s => ({ g := [], s := s } : SV)) ++ List.replicate n anySV)[t]? = some v → v.mt β ρ ((vs ++ List.replicate n undef).getD t undef)
  | [], vs, n, t, v, hm, ht => by
    simp only [List.map_nil, List.nil_append, List.getElem?_replicate] at ht
    split at ht
    · simp only [Option.some.injEq] at ht
      subst ht
      exact anySV_mt _
    · cases ht
  | x :: xs, [], _, _, _, hm, _ => hm.elim
  | x :: xs, u :: vs, n, 0, v, hm, ht => by
    simp at ht
    subst ht
    exact ⟨fun _ => by simpa using hm.1, fun h => by cases h⟩
  | x :: xs, u :: vs, n, t + 1, v, hm, ht => by
    have := args_slots (n := n) (t := t) (v := v) hm.2 (by simpa using ht)
    simpa using this
/-- Where loops over functions set a turn's values. -/
def setPs : List SV → List (Nat × SV) → List SV
  | T, [] => T
  | T, p :: l => setPs (T.set p.1 p.2) l
theorem setPs_len : ∀ {l : List (Nat × SV)} {T : List SV}, (setPs T l).length = T.length
  | [], _ => rfl
  | p :: l, T => by unfold setPs; rw [setPs_len]; simp
theorem setPs_mt {β : Beta} {ρ : Env} : ∀ {ps : List Nat} {xs : List S} {vs : List Value} {T : List SV} {tm : Array Value}, ps.length = xs.length → mtAll β ρ xs vs → tm.size = T.length → (∀ (t : Nat) v, T[t]? = some v → v.mt β ρ (tm.getD t undef)) →
    ((ps.zip vs).foldl (fun tm p => tm.setIfInBounds p.1 p.2) tm).size = T.length ∧ ∀ (t : Nat) v, (setPs T (ps.zip (xs.map fun s => ({ g := [], s := s } : SV))))[t]? = some v → v.mt β ρ (((ps.zip vs).foldl (fun tm p => tm.setIfInBounds p.1 p.2) tm).getD t undef)
  | [], [], vs, T, tm, _, hm, hs, h => by
    cases vs with
    | nil => exact ⟨hs, h⟩
    | cons _ _ => exact hm.elim
  | p :: ps, x :: xs, [], T, tm, _, hm, _, _ => hm.elim
  | p :: ps, x :: xs, v :: vs, T, tm, hl, ⟨h1, h2⟩, hs, h => by
    simp only [List.zip_cons_cons, List.map_cons, List.foldl_cons, setPs]
    have := setPs_mt (ps := ps) (xs := xs) (vs := vs) (T := T.set p { g := [], s := x }) (tm := tm.setIfInBounds p v) (by simpa using hl) h2 (by simpa using hs) (fun t u hu => by
      rw [List.getElem?_set] at hu
      by_cases e : p = t
      · subst e
        rw [if_pos rfl] at hu
        split at hu
        · rename_i hlt
          simp only [Option.some.injEq] at hu
          subst hu
          have hlt' : p < tm.size := by omega
          refine ⟨fun _ => ?_, fun h => by cases h⟩
          simpa [hlt'] using h1
        · cases hu
      · rw [if_neg e] at hu
        have := h t u hu
        simpa [Array.getElem?_setIfInBounds_ne e] using this)
    simpa using this
  | [], _ :: _, _, _, _, hl, _, _, _ => by simp at hl
  | _ :: _, [], _, _, _, hl, _, _, _ => by simp at hl
end Go.Proofs.Ytgbgibbonhklgaa.Sx
namespace Go.Proofs.Ytgbgibbonhklgaa.Sx
open Go

/-- What is known of such a loop: the number of its record's stretch; the frame's slots that stand; where a turn's values go; the code; which jumps may come of it. -/
structure RfD where
  lid : Nat
  T : List SV
  ps : List Nat
  asg : Code
  bd : Code
  jl : List Code
def kdJ : Code → Option Kd
  | .ret => some .r
  | .exit id => some (.x id)
  | _ => none
def idxJ (K : Kd) : List Code → Nat → Option Nat
  | [], _ => none
  | c :: l, j => match kdJ c with
    | some K' => if K'.eq K then some j else idxJ K l (j + 1)
    | none => idxJ K l (j + 1)
theorem idxJ_spec {K : Kd} : ∀ {l : List Code} {j i : Nat}, idxJ K l j = some i → j ≤ i ∧ kdJ (pickJ l (i - j)) = some K
  | [], j, i, h => by simp [idxJ] at h
  | c :: l, j, i, h => by
    have hrec : idxJ K l (j + 1) = some i → j ≤ i ∧ kdJ (pickJ (c :: l) (i - j)) = some K := fun h => by
      obtain ⟨h1, h2⟩ := idxJ_spec h
      refine ⟨by omega, ?_⟩
      cases l with
      | nil => simp [idxJ] at h
      | cons d l =>
        rw [show i - j = (i - (j + 1)) + 1 by omega]
        exact h2
    unfold idxJ at h
    split at h
    · rename_i K' hK
      split at h
      · rename_i he
        simp only [Option.some.injEq] at h
        subst h
        refine ⟨Nat.le_refl _, ?_⟩
        rw [Nat.sub_self]
        have : pickJ (c :: l) 0 = c := by cases l <;> rfl
        rw [this, hK, Kd.eq_sound he]
      · exact hrec h
    · exact hrec h
def yJs (jl : List Code) : Kd → Option (Bool × Js)
  | .n => some (true, {})
  | K => match idxJ K jl 0 with
    | some j => some (false, { b := .c false, a := .c (Int.ofNat j) })
    | none => none
theorem kdJ_r {c : Code} (h : kdJ c = some .r) : c = .ret := by
  unfold kdJ at h
  split at h
  · rfl
  · cases h
  · cases h
theorem kdJ_x {c : Code} {id : Nat} (h : kdJ c = some (.x id)) : c = .exit id := by
  unfold kdJ at h
  split at h
  · cases h
  · cases h; rfl
  · cases h
theorem yJs_spec {jl : List Code} {K : Kd} {res : Bool} {js : Js} (h : yJs jl K = some (res, js)) (hne : K ≠ .n) : res = false ∧ ∃ j : Nat, js = { b := .c false, a := .c (Int.ofNat j) } ∧ kdJ (pickJ jl j) = some K := by
  have key : ∀ i, idxJ K jl 0 = some i → kdJ (pickJ jl i) = some K := fun i hi => (idxJ_spec hi).2
  unfold yJs at h
  split at h
  · exact absurd rfl hne
  · split at h
    · rename_i j hj
      simp only [Option.some.injEq, Prod.mk.injEq] at h
      exact ⟨h.1.symm, j, h.2.symm, key j hj⟩
    · cases h
def yOne (jl : List Code) (tm : List SV) (dst : Option Tmp) (K : Kd) (s : St) : Option St :=
  match yJs jl K with
  | some (r, js) => match setT tm dst { g := [], s := .one false [.bool (.c r)] } with
    | some tm' => some { tm := tm', hp := s.hp, rb := s.rb, js := js }
    | none => none
  | none => none
def yOuts (jl : List Code) (tm : List SV) (dst : Option Tmp) : Outs → Option (List (Gd × St))
  | [] => some []
  | (K, q, s) :: O => match yOne jl tm dst K s, yOuts jl tm dst O with
    | some s', some l => some ((q, s') :: l)
    | _, _ => none
theorem yOuts_spec {jl : List Code} {tm : List SV} {dst : Option Tmp} : ∀ {O : Outs} {l : List (Gd × St)}, yOuts jl tm dst O = some l →
    (∀ p, p ∈ l → ∃ K s, (K, p.1, s) ∈ O ∧ yOne jl tm dst K s = some p.2) ∧ ∀ K q s, (K, q, s) ∈ O → ∃ s', (q, s') ∈ l
  | [], l, h => by
    simp only [yOuts, Option.some.injEq] at h
    subst h
    exact ⟨fun p hp => (by cases hp), fun K q s h => (by cases h)⟩
  | (K, q, s) :: O, l, h => by
    unfold yOuts at h
    split at h
    · rename_i s' l' h1 h2
      simp only [Option.some.injEq] at h
      subst h
      obtain ⟨i1, i2⟩ := yOuts_spec h2
      refine ⟨fun p hp => ?_, fun K' q' t ht => ?_⟩
      · rcases List.mem_cons.1 hp with rfl | hp
        · exact ⟨K, s, by simp, h1⟩
        · obtain ⟨K', t, e1, e2⟩ := i1 p hp
          exact ⟨K', t, by simp [e1], e2⟩
      · rcases List.mem_cons.1 ht with e | ht
        · cases e; exact ⟨s', by simp⟩
        · obtain ⟨t', e⟩ := i2 K' q' t ht
          exact ⟨t', by simp [e]⟩
    · cases h
def distO : Outs → Bool
  | [] => true
  | (k, _, _) :: O => (O.all fun p => !(k.eq p.1)) && distO O
theorem distO_get {k : Kd} {q : Gd} {s : St} : ∀ {O : Outs}, distO O = true → (k, q, s) ∈ O → getK k O = some (q, s)
  | (l, q', s') :: O, h, hm => by
    simp only [distO, Bool.and_eq_true, List.all_eq_true, Bool.not_eq_true'] at h
    unfold getK
    rcases List.mem_cons.1 hm with e | hm
    · cases e; rw [if_pos (Kd.eq_refl _)]
    · rw [if_neg, distO_get h.2 hm]
      intro he
      have := h.1 _ hm
      rw [Kd.eq_sound he, Kd.eq_refl] at this
      cases this
theorem getK_mem {k : Kd} {q : Gd} {s : St} : ∀ {O : Outs}, getK k O = some (q, s) → (k, q, s) ∈ O
  | [], h => by simp [getK] at h
  | (l, q', s') :: O, h => by
    unfold getK at h
    split at h
    · rename_i he
      simp only [Option.some.injEq, Prod.mk.injEq] at h
      rw [Kd.eq_sound he, ← h.1, ← h.2]
      simp
    · exact List.mem_cons.2 (.inr (getK_mem h))
def yJoin (keep : Kp) : List (Gd × St) → M St
  | [] => M.fail
  | [(_, s)] => pure s
  | (q, s) :: p :: l => do
    let b ← gAtom q
    let r ← M.mono (yJoin keep (p :: l))
    M.mono (joinSt keep b s r)
theorem yJoin_ok {Φ : Funs} {x : Cx} {ρ : Env} {keep : Kp} (hx : GrOk x keep) : ∀ (l : List (Gd × St)) {z : St} {c c' : Ctr} {out : List Em}, yJoin keep l c = some (z, c', out) → Good Φ ρ out → ∀ {β : Beta} {a : Act} {w : World}, (∃ p, p ∈ l ∧ Gd.d ρ p.1 = true) →
    (∀ p, p ∈ l → Gd.d ρ p.1 = true → Rel x ρ β p.2 a w) → Fresh β c → ∃ β', Ext β β' ∧ Rel x ρ β' z a w ∧ Fresh β' c'
  | [], z, c, c', out, h, _, β, a, w, _, _, _ => by simp [yJoin, M.fail] at h
  | [(q, s)], z, c, c', out, h, _, β, a, w, ⟨p, hp, hq⟩, hR, hF => by
    have he := M.pure_inv h
    simp only [Prod.mk.injEq] at he
    obtain ⟨rfl, rfl, rfl⟩ := he
    rw [List.mem_singleton.1 hp] at hq
    exact ⟨β, Ext.refl β, hR (q, z) (by simp) hq, hF⟩
  | (q, s) :: p :: l, z, c, c', out, h, hg, β, a, w, hex, hR, hF => by
    unfold yJoin at h
    obtain ⟨b, c1, o1, c2, o2, y, g1, g2, he⟩ := M.bind_inv h
    simp only [Prod.mk.injEq] at he
    obtain ⟨rfl, rfl, rfl⟩ := he
    obtain ⟨r, c3, o3, c4, o4, y, g3, g4, he⟩ := M.bind_inv g2
    simp only [Prod.mk.injEq] at he
    obtain ⟨rfl, rfl, rfl⟩ := he
    simp only [Good.append] at hg
    have hb := gAtom_snd q _ _ _ _ g1 hg.1
    have hid := gAtom_id g1
    obtain ⟨g3, le3⟩ := mono_inv g3
    simp only at le3
    obtain ⟨le4, hj⟩ := joinSt_ok (Φ := Φ) (x := x) (ρ := ρ) hx g4 hg.2.2
    cases hq : Gd.d ρ q with
    | true =>
      exact hj β a w (by rw [hb, hq, if_pos rfl]; exact hR (q, s) (by simp) hq) (hF.le (by omega))
    | false =>
      obtain ⟨p', hp', hq'⟩ := hex
      rcases List.mem_cons.1 hp' with e | hp'
      · rw [e, hq] at hq'; cases hq'
      · obtain ⟨β1, f1, f2, f3⟩ := yJoin_ok hx (p :: l) g3 hg.2.1 ⟨p', hp', hq'⟩ (fun p'' h1 h2 => hR p'' (List.mem_cons.2 (.inr h1)) h2) (hF.le (by omega))
        obtain ⟨β2, f4, f5, f6⟩ := hj β1 a w (by rw [hb, hq]; simpa using f2) f3
        exact ⟨β2, f1.trans f4, f5, f6⟩
def onlyN (O : Outs) : Option St := match O with
  | [(.n, _, s)] => some s
  | _ => none
/-- A turn. -/
def knY (lid ng : Nat) (hp : Hl) (i : Nat) : Bool := i == lid || knN ng hp i
def yS (P : Program) (H : Hnd) (gl : Gl) (kb : Ctl) (keep : Kp) (D : RfD) (σ : St) (dst : Option Tmp) (args : List Operand) : M St :=
  if args.length == D.ps.length then do
    let _ ← oblige σ.js.b
    let Oa ← M.mono (exec P H (ghOf gl 0) gl.length kb D.asg { tm := setPs D.T (D.ps.zip ((args.map fun y => rs [] (ev gl.length σ y)).map fun s => ({ g := [], s := s } : SV))), hp := σ.hp, rb := σ.rb })
    let sa ← lift (onlyN Oa)
    let Ob ← M.mono (exec P H (ghOf gl 0) gl.length kb D.bd { sa with js := {} })
    let l ← lift (if distO Ob then yOuts D.jl (σ.tm.map (SV.jk (knY D.lid gl.length σ.hp))) dst Ob else none)
    M.mono (yJoin keep l)
  else M.fail
/-- What the record is. -/
structure RcOk (x : Cx) (D : RfD) (r : LpRec) : Prop where
  lr : x.lr = some r
  fix : r.fix = none
  jl : r.jl = D.jl
  ps : r.rc.params.toList = D.ps
  asg : r.rc.assign = D.asg
  bd : r.rc.body = D.bd
  sz : r.rc.tmps.size = D.T.length
  T : ∀ (β : Beta) (ρ : Env), Ext x.b0 β → ∀ (t : Nat) (v : SV), D.T[t]? = some v → v.mt β ρ (r.rc.tmps.getD t undef)
  lid : ∃ q, x.b0 D.lid = some q ∧ q.row = false ∧ q.blk = r.l
  rl : x.rl = none
theorem Rel.into {x y : Cx} {ρ : Env} {β : Beta} {σ σ' : St} {a a' : Act} {w : World} (h : Rel x ρ β σ a w) (hy : y.w0 = x.w0 ∧ y.R = x.R ∧ y.gl = x.gl ∧ y.gr = x.gr ∧ y.Q = x.Q ∧ y.gi = x.gi) (hhp : σ'.hp = σ.hp) (heb : ExtP (fun i => !σ'.rb.contains i) y.b0 β)
    (hsz : a'.tmps.size = σ'.tm.length) (hsl : ∀ (t : Nat) (v : SV), σ'.tm[t]? = some v → v.mt β ρ (a'.tmps.getD t undef)) (hl : Lk y ρ σ'.js a'.defers w) : Rel y ρ β σ' a' w := by
  obtain ⟨y1, y2, y3, y4, y5, y7⟩ := hy
  have e : y.gh = x.gh := by unfold Cx.gh; rw [y3]
  refine ⟨hsz, hsl, hl, by rw [hhp]; exact h.hm, by rw [e]; exact h.gm, by rw [e]; exact h.gro, by rw [y1, y2, y5]; exact h.bo, by rw [y1, y2]; exact h.kp, by rw [y3]; exact h.gl, by rw [y4, y7]; exact h.ra, heb⟩
theorem getD_map_jk {p : Nat → Bool} {β β' : Beta} {ρ : Env} (h : Mv p β β') {tm : List SV} {f : Nat → Value} (hs : ∀ (t : Nat) (v : SV), tm[t]? = some v → v.mt β ρ (f t)) : ∀ (t : Nat) (v : SV), (tm.map (SV.jk p))[t]? = some v → v.mt β' ρ (f t) := fun t v hv => by
  rw [List.getElem?_map, Option.map_eq_some_iff] at hv
  obtain ⟨u, hu, rfl⟩ := hv
  exact SV.jk_mt h (hs t u hu)
end Go.Proofs.Ytgbgibbonhklgaa.Sx
namespace Go.Proofs.Ytgbgibbonhklgaa.Sx
open Go

section
variable {P : Program} {Φ : Funs} {H : Hnd} {x : Cx} {ρ : Env}
theorem yS_ok (hH : HOk P Φ x.gl H) (hG : ∀ w, Keep x.R x.w0 w → Laid x.gl w) {kb : Ctl} (hxb : GrOk x kb.keep) (hLb : LoopsOk Φ kb) (hEb : kb.E = {}) {keep : Kp} (hx : GrOk x keep) {D : RfD} {r : LpRec} (hrc : RcOk x D r)
    {σ σ' : St} {dst : Option Tmp} {args : List Operand} {c c' : Ctr} {out : List Em} (h : yS P H x.gl kb keep D σ dst args c = some (σ', c', out)) (hg : Good Φ ρ out) {β : Beta} {a : Act} {w : World} (hR : Rel x ρ β σ a w) (hF : Fresh β c)
    (next : Act → World → Prop) (Q : Exit → Act → World → Prop) (hn : ∀ β' a' w', Ext β β' → Rel x ρ β' σ' a' w' → Fresh β' c' → next a' w') :
    (Instr.yield r.l (args.map a.eval).toArray).run P w = .ok (.round r.l r.rc.fn ((r.rc.params.zip (args.map a.eval).toArray).foldl (fun tmps (t, v) => tmps.setIfInBounds t v) r.rc.tmps) D.asg D.bd) w ∧
      RoundIn Fence.wide 0 P r.l r.rc.fn ((r.rc.params.zip (args.map a.eval).toArray).foldl (fun tmps (t, v) => tmps.setIfInBounds t v) r.rc.tmps) D.asg D.bd w fun
        | .returned v, w'' => next (a.put dst v) w''
        | .panicked chain, w'' => Q (.panic chain) a w''
        | .outgrown, _ => LetsOut Q := by
  unfold yS at h
  split at h
  rotate_left
  · simp [M.fail] at h
  rename_i hlen
  simp only [beq_iff_eq] at hlen
  obtain ⟨u0, c1, o1, c2, o2, y, g1, g2, he⟩ := M.bind_inv h
  simp only [Prod.mk.injEq] at he
  obtain ⟨rfl, rfl, rfl⟩ := he
  obtain ⟨Oa, c3, o3, c4, o4, y, g3, g4, he⟩ := M.bind_inv g2
  simp only [Prod.mk.injEq] at he
  obtain ⟨rfl, rfl, rfl⟩ := he
  obtain ⟨sa, c5, o5, c6, o6, y, g5, g6, he⟩ := M.bind_inv g4
  simp only [Prod.mk.injEq] at he
  obtain ⟨rfl, rfl, rfl⟩ := he
  obtain ⟨sa', hsa, he⟩ := lift_inv g5
  simp only [Prod.mk.injEq] at he
  obtain ⟨rfl, rfl, rfl⟩ := he
  obtain ⟨Ob, c7, o7, c8, o8, y, g7, g8, he⟩ := M.bind_inv g6
  simp only [Prod.mk.injEq] at he
  obtain ⟨rfl, rfl, rfl⟩ := he
  obtain ⟨l, c9, o9, c10, o10, y, g9, g10, he⟩ := M.bind_inv g8
  simp only [Prod.mk.injEq] at he
  obtain ⟨rfl, rfl, rfl⟩ := he
  obtain ⟨l', hl, he⟩ := lift_inv g9
  simp only [Prod.mk.injEq] at he
  obtain ⟨rfl, rfl, rfl⟩ := he
  simp only [Good.append] at hg
  obtain ⟨hg1, hg3, _, hg7, _, hg10⟩ := hg
  have hjs : σ.js.b.d ρ = true := oblige_snd _ _ _ _ _ g1 hg1
  have hid1 := oblige_id g1
  obtain ⟨g3, le3⟩ := mono_inv g3
  obtain ⟨g7, le7⟩ := mono_inv g7
  obtain ⟨g10, le10⟩ := mono_inv g10
  simp only at le3 le7 le10
  split at hl
  rotate_left
  · cases hl
  rename_i hdist
  obtain ⟨ho1, ho2⟩ := yOuts_spec hl
  -- the record
  obtain ⟨hN, hrec⟩ := hR.df.rc r hrc.lr
  have hat : r.at (σ.js.b.d ρ) (σ.js.a.d ρ) = { r.rc with state := .ready, pending := none } := by
    unfold LpRec.at; rw [hrc.fix, hjs]; rfl
  rw [hat] at hrec
  have hdl : a.defers = [] := hR.df.nm (by rw [hrc.lr]; rfl)
  have hxs : mtAll β ρ (args.map fun y => rs [] (ev x.gl.length σ y)) (args.map a.eval) := mtAll_map fun y _ => rs_mt (Γ := []) rfl (ev_mt hR y)
  have hpl : r.rc.params.size = args.length := by have := congrArg List.length hrc.ps; simp at this; omega
  refine ⟨by have := run_yield (P := P) (args := (args.map a.eval).toArray) hrec (by simp [hpl]); rw [this]; rw [← hrc.asg, ← hrc.bd], ?_⟩
  obtain ⟨tms, htms⟩ : ∃ tms, tms = (r.rc.params.zip (args.map a.eval).toArray).foldl (fun tmps (t, v) => tmps.setIfInBounds t v) r.rc.tmps := ⟨_, rfl⟩
  rw [← htms]
  have htl : tms = (D.ps.zip (args.map a.eval)).foldl (fun tm p => tm.setIfInBounds p.1 p.2) r.rc.tmps := by
    rw [htms, ← hrc.ps, ← Array.foldl_toList]
    simp
  obtain ⟨hs1, hs2⟩ := setPs_mt (ps := D.ps) (T := D.T) (tm := r.rc.tmps) (by simpa using hlen.symm) hxs hrc.sz (hrc.T β ρ hR.eb.ext)
  rw [← htl] at hs1 hs2
  -- the assignments
  refine roundIn_of_wpIn (F := Fence.wide) (n := 0) trivial ?_
  obtain ⟨xa, hxa⟩ : ∃ xa : Cx, xa = { x with lr := some { r with fix := some .ready }, rl := some r.l } := ⟨_, rfl⟩
  have hRa : Rel xa ρ β { tm := setPs D.T (D.ps.zip ((args.map fun y => rs [] (ev x.gl.length σ y)).map fun s => ({ g := [], s := s } : SV))), hp := σ.hp, rb := σ.rb } { tmps := tms, defers := [] } w := by
    subst hxa
    refine hR.into ⟨rfl, rfl, rfl, rfl, rfl, rfl⟩ rfl hR.eb (by rw [hs1]; exact setPs_len.symm) hs2 ⟨fun r' hr' => ?_, hR.df.ds, trivial, fun _ => rfl⟩
    simp only [Option.some.injEq] at hr'
    subst hr'
    exact ⟨hN, hrec⟩
  have hEa : ∀ y : Cx, EOk P Φ y kb.E := fun y => EOk.nil hEb
  have hFa : Fresh β c1 := hF.le (by omega)
  have hka : CodeOk P Φ xa ρ D.asg (exec P H xa.gh xa.ng kb D.asg) := by
    subst hxa
    exact exec_ok (x := { x with lr := some { r with fix := some .ready }, rl := some r.l }) hH hG kb hxb hLb (hEa _) D.asg ρ
  have hka2 : D.asg.wpIn (Fence.wide.inRound r.l) 0 P (Exit.then (fun a₁ w₁ => ∃ w₂, (Instr.beginRound r.l).run P w₁ = .ok () w₂ ∧ D.bd.wpIn (Fence.wide.inRound r.l) 0 P (roundPost P r.l fun
        | .returned v, w'' => next (a.put dst v) w''
        | .panicked chain, w'' => Q (.panic chain) a w''
        | .outgrown, _ => LetsOut Q) a₁ w₂) (fun _ _ _ => False)) { tmps := tms, defers := [] } w := by
    have := hka _ _ _ Oa _ (by subst hxa; exact g3) hg3 β _ w hRa hFa (Exit.then (fun a₁ w₁ => ∃ w₂, (Instr.beginRound r.l).run P w₁ = .ok () w₂ ∧ D.bd.wpIn (Fence.wide.inRound r.l) 0 P (roundPost P r.l fun
        | .returned v, w'' => next (a.put dst v) w''
        | .panicked chain, w'' => Q (.panic chain) a w''
        | .outgrown, _ => LetsOut Q) a₁ w₂) (fun _ _ _ => False)) (fun e a1 w1 K hk hO => ?_)
    · subst hxa; exact this
    -- the body
    have hOa : ∃ q, Oa = [(.n, q, sa)] := by
      unfold onlyN at hsa
      split at hsa
      · simp only [Option.some.injEq] at hsa; subst hsa; exact ⟨_, rfl⟩
      · cases hsa
    obtain ⟨q0, rfl⟩ := hOa
    obtain ⟨_, q1, s1, β1, hK1, hE1, hR1, hF1⟩ := hO
    have hKn : K = .n ∧ s1 = sa := by
      unfold getK at hK1
      split at hK1
      · rename_i he
        simp only [Option.some.injEq, Prod.mk.injEq] at hK1
        exact ⟨Kd.eq_sound he, hK1.2.symm⟩
      · simp [getK] at hK1
    obtain ⟨rfl, rfl⟩ := hKn
    have hen := kdOf_n hk
    subst hen
    have hrec1 : w1.heap[r.l]? = some (.loop { r.rc with state := .ready, pending := none }) := by
      have := (hR1.df.rc { r with fix := some .ready } (by rw [hxa])).2
      exact this
    have hbr := run_beginRound (P := P) hrec1 rfl
    refine ⟨_, hbr, ?_⟩
    obtain ⟨xb, hxbd⟩ : ∃ xb : Cx, xb = { x with lr := some { r with fix := some .busy }, rl := some r.l } := ⟨_, rfl⟩
    have hd1 : a1.defers = [] := hR1.df.nm (by rw [hxa]; rfl)
    have hlt1 := (Array.getElem?_eq_some_iff.1 hrec1).1
    have hRb : Rel xb ρ β1 { s1 with js := {} } a1 (w1.putObj r.l (.loop { r.rc with state := .busy, pending := none })) := by
      refine hR1.putObj (y := xb) (a' := a1) (by rw [hxa]; exact hN) hrec1 rfl rfl (by rw [hxa, hxbd]; exact ⟨rfl, rfl, rfl, rfl, rfl, rfl, rfl⟩) rfl ?_
      rw [hd1, hxbd]
      refine ⟨fun r' hr' => ?_, fun E hE => ?_, trivial, fun _ => rfl⟩
      · simp only [Option.some.injEq] at hr'
        subst hr'
        exact ⟨hN, World.putObj_heap_same hlt1⟩
      · obtain ⟨e1, e2⟩ := hR1.df.ds E (by rw [hxa]; exact hE)
        refine ⟨by rw [hxa] at e1; exact e1, (World.putObj_heap_other (fun e => ?_)).trans e2⟩
        subst e
        rw [hrec1] at e2
        cases e2
    have hkb : CodeOk P Φ xb ρ D.bd (exec P H xb.gh xb.ng kb D.bd) := by
      subst hxbd
      exact exec_ok (x := { x with lr := some { r with fix := some .busy }, rl := some r.l }) hH hG kb hxb hLb (hEa _) D.bd ρ
    have := hkb _ _ _ Ob _ (by subst hxbd; exact g7) hg7 β1 a1 _ hRb hF1 (roundPost P r.l fun
        | .returned v, w'' => next (a.put dst v) w''
        | .panicked chain, w'' => Q (.panic chain) a w''
        | .outgrown, _ => LetsOut Q) (fun e3 a3 w3 K3 hk3 hO3 => ?_)
    · subst hxbd; exact this
    -- its end
    obtain ⟨hO3a, q3, s3, β3, hK3, hE3, hR3, hF3⟩ := hO3
    have hq3 : Gd.d ρ q3 = true := (hO3a _ _ _ hK3).2 rfl
    have hrec3 : w3.heap[r.l]? = some (.loop { r.rc with state := .busy, pending := none }) := by
      have := (hR3.df.rc { r with fix := some .busy } (by rw [hxbd])).2
      exact this
    have hlt3 := (Array.getElem?_eq_some_iff.1 hrec3).1
    have hEE : Ext β β3 := hE1.trans hE3
    have hfin : ∀ (res : Bool) (js : Js) (o' : Loop), yJs D.jl K3 = some (res, js) → r.at (js.b.d ρ) (js.a.d ρ) = o' → next (a.put dst (.bool res)) (w3.putObj r.l (.loop o')) := fun res js o' hyj hat' => by
      have hone : ∀ p, p ∈ l → Gd.d ρ p.1 = true → Rel x ρ β3 p.2 (a.put dst (.bool res)) (w3.putObj r.l (.loop o')) := fun p hp hpq => by
        obtain ⟨K', s', e1, e2⟩ := ho1 p hp
        have hget := distO_get hdist e1
        have hKK : K' = K3 := (hO3a _ _ _ hget).1 hpq
        subst hKK
        rw [hK3] at hget
        simp only [Option.some.injEq, Prod.mk.injEq] at hget
        obtain ⟨_, rfl⟩ := hget
        unfold yOne at e2
        rw [hyj] at e2
        simp only at e2
        split at e2
        · rename_i tm' htm
          simp only [Option.some.injEq] at e2
          rw [← e2]
          have hmv : Mv (knY D.lid x.gl.length σ.hp) β β3 := ⟨fun i r hi hr => hr.elim (hEE.at hi) fun h => by
            unfold knY at h
            rw [Bool.or_eq_true] at h
            rcases h with h | h
            · obtain ⟨q, hq1, hq2, _⟩ := hrc.lid
              have e0 : i = D.lid := by simpa using h
              subst e0
              have e1 := hR.eb _ _ hq1 (.inl hq2)
              rw [hi] at e1
              cases e1
              exact hEE.at hi hq2
            · exact knN_keep hR hEE i r h hi, (Mv.of hR.bo (ExtP.refl (fun _ => true) β)).sq⟩
          obtain ⟨t1, t2⟩ := slot_put (v := .bool res) (a := a) (tm := σ.tm.map (SV.jk (knY D.lid x.gl.length σ.hp))) (dst := dst) (by rw [hR.size]; simp) (getD_map_jk hmv hR.slot) htm ⟨fun _ => ⟨_, rfl, rfl⟩, fun h => by cases h⟩
          have hR4 := hR3.putObj (y := xb) (js := {}) (a' := a3) (o' := .loop { r.rc with state := .busy, pending := none }) (by rw [hxbd]; exact hN) hrec3 rfl rfl ⟨rfl, rfl, rfl, rfl, rfl, rfl, rfl⟩ rfl (by
            have hd3 : a3.defers = [] := hR3.df.nm (by rw [hxbd]; rfl)
            rw [hd3]
            refine ⟨fun r' hr' => ⟨(hR3.df.rc r' hr').1, ?_⟩, fun E hE => ⟨(hR3.df.ds E hE).1, ?_⟩, trivial, fun _ => rfl⟩
            · rw [hxbd] at hr'
              simp only [Option.some.injEq] at hr'
              subst hr'
              exact World.putObj_heap_same hlt3
            · have e2 := (hR3.df.ds E hE).2
              exact (World.putObj_heap_other (fun e => by subst e; rw [hrec3] at e2; cases e2)).trans e2)
          have hR5 : Rel x ρ β3 { tm := tm', hp := s3.hp, rb := s3.rb, js := js } (a.put dst (.bool res)) (w3.putObj r.l (.loop o')) := by
            have hR6 : Rel xb ρ β3 { s3 with js := {} } { a3 with defers := [] } (w3.putObj r.l (.loop o')) ∨ True := .inr trivial
            have hc := putObj_cell (o' := .loop o') hrec3 rfl rfl
            have e : x.gh = xb.gh := by rw [hxbd]; rfl
            refine ⟨t1, t2, ⟨fun r' hr' => ?_, fun E hE => ?_, by rw [(put_tmps a _ _).1, hdl]; trivial, fun _ => by rw [(put_tmps a _ _).1, hdl]⟩, fun id b hb hbg => blkMt_cells hc (hR3.hm id b hb hbg), by rw [e]; exact fun id b hb hbg => blkMt_cells hc (hR3.gm id b hb hbg), by rw [e]; exact hR3.gro, ?_, ?_, ?_, ?_, ?_⟩
            · rw [hrc.lr] at hr'
              simp only [Option.some.injEq] at hr'
              subst hr'
              exact ⟨hN, by rw [World.putObj_heap_same hlt3, hat']⟩
            · obtain ⟨d1, d2⟩ := hR3.df.ds E (by rw [hxbd]; exact hE)
              refine ⟨by rw [hxbd] at d1; exact d1, (World.putObj_heap_other (fun e => ?_)).trans d2⟩
              subst e
              rw [hrec3] at d2
              cases d2
            · have := hR3.bo
              rw [hxbd] at this
              exact betaOk_cells (fun a => (hc a).1) (by rw [World.putObj_size]; exact Nat.le_refl _) this
            · have := hR3.kp
              rw [hxbd] at this
              exact putObj_keep this hN hrec3 rfl rfl
            · have := hR3.gl; rw [hxbd] at this; exact this
            · have := hR3.ra; rw [hxbd] at this; exact this
            · have := hR3.eb; rw [hxbd] at this; exact this
          exact hR5
        · cases e2
      have hF3' : Fresh β3 c9 := hF3.le (by omega)
      obtain ⟨β4, f1, f2, f3⟩ := yJoin_ok hx l g10 hg10 (by
        obtain ⟨s', hs'⟩ := ho2 _ _ _ (getK_mem hK3)
        exact ⟨(q3, s'), hs', hq3⟩) hone hF3'
      exact hn β4 _ _ (hEE.trans f1) f2 f3
    have hyn : ∀ c0 : Code, kdJ c0 = some K3 → (K3 ≠ .n) → ∃ js : Js, yJs D.jl K3 = some (false, js) ∧ ∃ c1, kdJ c1 = some K3 ∧ r.at (js.b.d ρ) (js.a.d ρ) = { r.rc with state := .done, pending := some c1 } := fun c0 hc0 hne => by
      obtain ⟨s', hs'⟩ := ho2 _ _ _ (getK_mem hK3)
      obtain ⟨K', s2, e1, e2⟩ := ho1 _ hs'
      have hget := distO_get hdist e1
      have hKK : K' = K3 := (hO3a _ _ _ hget).1 hq3
      subst hKK
      unfold yOne at e2
      cases hyj : yJs D.jl K' with
      | none => rw [hyj] at e2; cases e2
      | some y =>
        obtain ⟨res, js⟩ := y
        obtain ⟨rfl, j, rfl, hj⟩ := yJs_spec hyj hne
        exact ⟨_, rfl, pickJ D.jl j, hj, by unfold LpRec.at; rw [hrc.fix, hrc.jl]; rfl⟩
    cases e3 with
    | normal =>
      simp only [kdOf, Option.some.injEq] at hk3
      subst hk3
      exact ⟨_, _, run_endRound none hrec3, hfin true {} _ rfl (by unfold LpRec.at; rw [hrc.fix]; rfl)⟩
    | ret =>
      simp only [kdOf, Option.some.injEq] at hk3
      subst hk3
      obtain ⟨js, e1, c1, e2, e3⟩ := hyn .ret rfl (by simp)
      rw [kdJ_r e2] at e3
      exact ⟨_, _, run_endRound (some .ret) hrec3, hfin false js _ e1 e3⟩
    | exit id =>
      simp only [kdOf, Option.some.injEq] at hk3
      subst hk3
      obtain ⟨js, e1, c1, e2, e3⟩ := hyn (.exit id) rfl (by simp)
      rw [kdJ_x e2] at e3
      exact ⟨_, _, run_endRound (some (.exit id)) hrec3, hfin false js _ e1 e3⟩
    | goto t => simp [kdOf] at hk3
    | panic ch => simp [kdOf] at hk3
    | outgrown => simp [kdOf] at hk3
  exact hka2
end
end Go.Proofs.Ytgbgibbonhklgaa.Sx
namespace Go.Proofs.Ytgbgibbonhklgaa.Sx
open Go

/-- Is it a call of what hands a turn over? -/
def isYl (lid ng : Nat) (σ : St) (o : Oper) : Option (List Operand) :=
  match o with
  | ⟨_, .call ⟨.value (.tmp t), args, _⟩, _, _, _, none⟩ => match ev ng σ (.tmp t) with
    | { g := [], s := .one false [.fn [] (some (n, [(i, 0)]))] } => if n == yieldN && i == lid then some args.toList else none
    | _ => none
  | _ => none
theorem isYl_spec {lid ng : Nat} {σ : St} {o : Oper} {l : List Operand} (h : isYl lid ng σ o = some l) : ∃ dst t args at' ty pos after, o = ⟨dst, .call ⟨.value (.tmp t), args, at'⟩, ty, pos, after, none⟩ ∧ l = args.toList ∧
    ev ng σ (.tmp t) = { g := [], s := .one false [.fn [] (some (yieldN, [(lid, 0)]))] } := by
  unfold isYl at h
  split at h
  · rename_i dst t args at' ty pos after
    split at h
    · rename_i n i hev
      split at h
      · rename_i hc
        simp only [Bool.and_eq_true, beq_iff_eq] at hc
        obtain ⟨rfl, rfl⟩ := hc
        simp only [Option.some.injEq] at h
        exact ⟨dst, t, args, at', ty, pos, after, rfl, h.symm, hev⟩
      · cases h
    · cases h
  · cases h
def regY (P : Program) (H : Hnd) (gl : Gl) (kb : Ctl) (keep : Kp) (D : RfD) (ops : Array Oper) : List Oper → St → M St
  | [], σ => pure σ
  | o :: l, σ => match isYl D.lid gl.length σ o with
    | some args => do
      let σ' ← M.mono (yS P H gl kb keep D σ o.dst args)
      regY P H gl kb keep D ops l σ'
    | none => do
      let σ' ← opS P H (ghOf gl 0) gl.length ops o σ
      regY P H gl kb keep D ops l σ'
/-- Calls of values. -/
def callT (o : Oper) : Bool := match o.op with
  | .call ⟨.value (.tmp _), _, _⟩ => true
  | _ => false
def yE (P : Program) (H : Hnd) (gl : Gl) (kb : Ctl) (keep : Kp) (D : RfD) : XE :=
  { rg := fun ops draw s => if !draw && (ops.toList.any callT && noDef ops.toList) then some (regY P H gl kb keep D ops ops.toList s) else none }

section
variable {P : Program} {Φ : Funs} {H : Hnd} {x : Cx}
theorem yield_val {D : RfD} {r : LpRec} (hrc : RcOk x D r) {ρ : Env} {β : Beta} {σ : St} {a : Act} {w : World} (hR : Rel x ρ β σ a w) {t : Nat} (h : ev x.ng σ (.tmp t) = { g := [], s := .one false [.fn [] (some (yieldN, [(D.lid, 0)]))] }) : a.eval (.tmp t) = .func (.yield r.l) #[] #[] := by
  have hv := (ev_mt hR (.tmp t))
  rw [h] at hv
  have hm := mt_cell (s := .one false [.fn [] (some (yieldN, [(D.lid, 0)]))]) rfl (hv.1 rfl)
  have hm : fvMt β (some (yieldN, [(D.lid, 0)])) (a.eval (.tmp t)) := hm
  obtain ⟨vs, h1, h2⟩ := hm
  obtain ⟨q, hq, hrow, hb⟩ := hrc.lid
  have hq' := hR.eb.at hq hrow
  match vs, h2 with
  | [v], ⟨⟨q2, hq2, hv2⟩, _⟩ =>
    rw [hq'] at hq2
    cases hq2
    rw [h1, hv2]
    unfold fvVal
    rw [if_pos rfl]
    simp only
    rw [hb]
theorem regY_sound (hH : HOk P Φ x.gl H) (hG : ∀ w, Keep x.R x.w0 w → Laid x.gl w) {kb : Ctl} (hxb : GrOk x kb.keep) (hLb : LoopsOk Φ kb) (hEb : kb.E = {}) {keep : Kp} (hx : GrOk x keep) {D : RfD} {r : LpRec} (hrc : RcOk x D r) {ρ : Env} {ops : Array Oper} {Q : Exit → Act → World → Prop} (hQ : ¬ LetsOut Q) :
    ∀ (l : List Oper) {σ σ' : St} {c c' : Ctr} {out : List Em}, noDef l = true → regY P H x.gl kb keep D ops l σ c = some (σ', c', out) → Good Φ ρ out → ∀ {β : Beta} {a : Act} {w : World}, Rel x ρ β σ a w → Fresh β c →
      (∀ β' a' w', Ext β β' → Rel x ρ β' σ' a' w' → Fresh β' c' → Q .normal a' w') → wpListIn (FR none) 0 P ops Q l a w
  | [], σ, σ', c, c', out, _, h, hg, β, a, w, hR, hF, hn => by
    have he := M.pure_inv h
    simp only [Prod.mk.injEq] at he
    obtain ⟨rfl, rfl, rfl⟩ := he
    exact hn β a w (Ext.refl β) hR hF
  | o :: l, σ, σ', c, c', out, hd, h, hg, β, a, w, hR, hF, hn => by
    have hd1 := noDef_spec hd (o := o) (by simp)
    have hd2 : noDef l = true := by simp only [noDef, List.all_cons, Bool.and_eq_true] at hd; exact hd.2
    unfold regY at h
    cases hy : isYl D.lid x.gl.length σ o with
    | none =>
      rw [hy] at h
      simp only at h
      obtain ⟨σ1, c1, o1, c2, o2, y, h1, h2, he⟩ := M.bind_inv h
      simp only [Prod.mk.injEq] at he
      obtain ⟨rfl, rfl, rfl⟩ := he
      rw [Good.append] at hg
      have hop := opS_sound hH hG h1 hg.1 hR hF (wpListIn (FR none) 0 P ops Q l) Q fun β' a' w' he' hR' hF' =>
        regY_sound hH hG hxb hLb hEb hx hrc hQ l hd2 h2 hg.2 hR' hF' fun β'' a'' w'' he'' hR'' hF'' => hn β'' a'' w'' (he'.trans he'') hR'' hF''
      unfold wpListIn
      split
      · rename_i hw
        rw [if_pos hw] at hop
        exact wpIn_of_wp hd1 hop
      · rename_i hw
        rw [if_neg hw] at hop
        exact ⟨fun f _ => FR_fn none f, hop⟩
    | some args =>
      rw [hy] at h
      simp only at h
      obtain ⟨σ1, c1, o1, c2, o2, y, h1, h2, he⟩ := M.bind_inv h
      simp only [Prod.mk.injEq] at he
      obtain ⟨rfl, rfl, rfl⟩ := he
      rw [Good.append] at hg
      obtain ⟨dst, t, args', at', ty, pos, after, rfl, rfl, hev⟩ := isYl_spec hy
      have hval := yield_val hrc hR hev
      obtain ⟨hrun, hround⟩ := yS_ok hH hG hxb hLb hEb hx hrc (mono_inv h1).1 hg.1 hR hF (wpListIn (FR none) 0 P ops Q l) Q fun β' a' w' he' hR' hF' =>
        regY_sound hH hG hxb hLb hEb hx hrc hQ l hd2 h2 hg.2 hR' hF' fun β'' a'' w'' he'' hR'' hF'' => hn β'' a'' w'' (he'.trans he'') hR'' hF''
      have hargs : (args'.toList.map a.eval).toArray = args'.map a.eval := by
        apply Array.toList_inj.1; simp
      rw [hargs] at hrun hround
      unfold wpListIn
      rw [if_pos (wanted_none rfl _)]
      refine ⟨fun f _ => FR_fn none f, ?_⟩
      rw [Oper.semAt_eq _ _ _ hd1]
      have hex : (execOp a.eval ⟨dst, .call ⟨.value (.tmp t), args', at'⟩, ty, pos, after, none⟩).run P w = .ok (.round r.l r.rc.fn ((r.rc.params.zip (args'.map a.eval)).foldl (fun tmps (t, v) => tmps.setIfInBounds t v) r.rc.tmps) D.asg D.bd) w := by
        rw [← hrun]
        simp [execOp, resolve, hval, Deferred.ofValue, invoke]
      rw [hex, Oper.uponIn_round]
      exact ⟨fun hh => (by cases hh), hround⟩
theorem yE_ok (hH : HOk P Φ x.gl H) (hG : ∀ w, Keep x.R x.w0 w → Laid x.gl w) {kb : Ctl} (hxb : GrOk x kb.keep) (hLb : LoopsOk Φ kb) (hEb : kb.E = {}) {keep : Kp} (hx : GrOk x keep) {D : RfD} {r : LpRec} (hrc : RcOk x D r) : EOk P Φ x (yE P H x.gl kb keep D) := by
  refine ⟨fun ρ g ps asg bd s c c' O out hm => by simp [yE, M.fail] at hm, fun ρ ops draw s m hm c c' s' out hrun hg β a w hR hF Q hQ id => ?_⟩
  unfold yE at hm
  simp only at hm
  split at hm
  · rename_i hc
    simp only [Bool.and_eq_true, Bool.not_eq_true'] at hc
    simp only [Option.some.injEq] at hm
    subst hm
    obtain ⟨rfl, _, hnd⟩ := hc
    rw [hrc.rl]
    have hno : ¬ LetsOut (fun (e : Exit) (a : Act) (w : World) => e = .normal ∧ Q .normal a w) := fun ⟨_, _, h⟩ => by cases h.1
    exact wpIn_mono (wpIn_region_list (regY_sound hH hG hxb hLb hEb hx hrc hno ops.toList hnd hrun hg hR hF fun β' a' w' he' hR' hF' => ⟨rfl, hQ β' a' w' he' hR' hF'⟩)) fun e a w ⟨e1, e2⟩ => by rw [e1]; exact e2
  · cases hm
end
end Go.Proofs.Ytgbgibbonhklgaa.Sx
namespace Go.Proofs.Ytgbgibbonhklgaa.Sx
open Go

/-- Which jumps lead out of a loop's body. -/
def exitIds : Code → List Nat
  | .exit id => [id]
  | .seq a b => exitIds a ++ exitIds b
  | .cond _ a b => exitIds a ++ exitIds b
  | .block id a => (exitIds a).filter fun i => !(i == id)
  | .loop a => exitIds a
  | _ => []
def hasRet : Code → Bool
  | .ret => true
  | .seq a b => hasRet a || hasRet b
  | .cond _ a b => hasRet a || hasRet b
  | .block _ a => hasRet a
  | .loop a => hasRet a
  | _ => false
def jumpsOf (bd : Code) : List Code := (if hasRet bd then [.ret] else []) ++ (dedup (exitIds bd)).map .exit
def kdD (c : Code) : Kd := (kdJ c).getD .n
def goJ (ja : A) (s : St) : List Code → Nat → Gd → M Outs
  | [], _, _ => pure []
  | [c], _, acc => pure [(kdD c, acc, s)]
  | c :: d :: l, i, acc => do
    let e ← mkCm .leq ja (.c (Int.ofNat i))
    let r ← goJ ja s (d :: l) (i + 1) (acc ++ [(e, false)])
    pure ((kdD c, acc ++ [(e, true)], s) :: r)
/-- They are told apart. -/
def jlOk : List Code → Bool
  | [] => true
  | c :: l => (kdJ c).isSome && (l.all fun d => !((kdD c).eq (kdD d))) && jlOk l
theorem pickJ_mem : ∀ {l : List Code} {n : Nat}, l ≠ [] → pickJ l n ∈ l
  | [], _, h => absurd rfl h
  | [c], n, _ => by cases n <;> simp [pickJ]
  | c :: d :: l, 0, _ => by simp [pickJ]
  | c :: d :: l, n + 1, _ => by
    have := pickJ_mem (l := d :: l) (n := n) (by simp)
    simp only [pickJ]
    exact List.mem_cons.2 (.inr this)
theorem goJ_ok {Φ : Funs} {ρ : Env} {ja : A} {s : St} : ∀ {l : List Code} {i : Nat} {acc : Gd} {O : Outs} {c c' : Ctr} {out : List Em}, goJ ja s l i acc c = some (O, c', out) → Good Φ ρ out → l ≠ [] → jlOk l = true → (Gd.d ρ acc = true → i ≤ (ja.d ρ).toNat ∨ i = 0) →
    (∀ k q t, getK k O = some (q, t) → t = s ∧ (Gd.d ρ q = true ↔ Gd.d ρ acc = true ∧ kdD (pickJ l ((ja.d ρ).toNat - i)) = k)) ∧ ∀ d, d ∈ l → ∃ q, getK (kdD d) O = some (q, s)
  | [], _, _, _, _, _, _, _, _, hne, _, _ => absurd rfl hne
  | [d], i, acc, O, c, c', out, h, hg, _, _, _ => by
    have he := M.pure_inv h
    simp only [Prod.mk.injEq] at he
    obtain ⟨rfl, rfl, rfl⟩ := he
    have hp : ∀ m, pickJ [d] m = d := fun m => by cases m <;> rfl
    refine ⟨fun k q t hk => ?_, fun d' hd' => ?_⟩
    · unfold getK at hk
      split at hk
      · rename_i he
        simp only [Option.some.injEq, Prod.mk.injEq] at hk
        obtain ⟨rfl, rfl⟩ := hk
        rw [hp, Kd.eq_sound he]
        simp
      · simp [getK] at hk
    · rw [List.mem_singleton.1 hd']
      exact ⟨acc, by simp [getK, Kd.eq_refl]⟩
  | d :: d2 :: l, i, acc, O, c, c', out, h, hg, _, hj, hi => by
    unfold goJ at h
    obtain ⟨e, c1, o1, c2, o2, y, g1, g2, he⟩ := M.bind_inv h
    simp only [Prod.mk.injEq] at he
    obtain ⟨rfl, rfl, rfl⟩ := he
    obtain ⟨r, c3, o3, c4, o4, y, g3, g4, he⟩ := M.bind_inv g2
    simp only [Prod.mk.injEq] at he
    obtain ⟨rfl, rfl, rfl⟩ := he
    have he := M.pure_inv g4
    simp only [Prod.mk.injEq] at he
    obtain ⟨rfl, rfl, rfl⟩ := he
    simp only [Good.append] at hg
    have hev : e.d ρ = decide (ja.d ρ ≤ (i : Int)) := mkCm_snd _ _ _ _ _ _ _ g1 hg.1
    have hj' := hj
    simp only [jlOk, Bool.and_eq_true] at hj'
    obtain ⟨⟨hj1, hj2⟩, hj3⟩ := hj'
    have hj3' : jlOk (d2 :: l) = true := by simp only [jlOk, Bool.and_eq_true]; exact hj3
    obtain ⟨i1, i2⟩ := goJ_ok g3 hg.2.1 (by simp) hj3' (fun ha => by
      simp only [Gd.d_append, Gd.d_cons, Gd.d_nil, Bool.and_true, Bool.and_eq_true, beq_iff_eq] at ha
      have h2 := ha.2
      rw [hev] at h2
      simp only [decide_eq_false_iff_not] at h2
      left
      omega)
    have hdis : ∀ d', d' ∈ d2 :: l → kdD d ≠ kdD d' := fun d' hd' e => by
      have := (List.all_eq_true.1 hj2) d' hd'
      rw [e, Kd.eq_refl] at this
      cases this
    have hpick0 : (ja.d ρ ≤ (i : Int)) → kdD (pickJ (d :: d2 :: l) ((ja.d ρ).toNat - i)) = kdD d := fun h => by
      rw [show (ja.d ρ).toNat - i = 0 by omega]; rfl
    have hpick1 : ¬ (ja.d ρ ≤ (i : Int)) → pickJ (d :: d2 :: l) ((ja.d ρ).toNat - i) = pickJ (d2 :: l) ((ja.d ρ).toNat - (i + 1)) := fun h => by
      rw [show (ja.d ρ).toNat - i = ((ja.d ρ).toNat - (i + 1)) + 1 by omega]; rfl
    refine ⟨fun k q t hk => ?_, fun d' hd' => ?_⟩
    · unfold getK at hk
      split at hk
      · rename_i he
        simp only [Option.some.injEq, Prod.mk.injEq] at hk
        obtain ⟨rfl, rfl⟩ := hk
        refine ⟨rfl, ?_⟩
        have hkk := Kd.eq_sound he
        subst hkk
        simp only [Gd.d_append, Gd.d_cons, Gd.d_nil, Bool.and_true, Bool.and_eq_true, beq_iff_eq, hev, decide_eq_true_eq]
        constructor
        · rintro ⟨h1, h2⟩; exact ⟨h1, hpick0 h2⟩
        · rintro ⟨h1, h2⟩
          refine ⟨h1, ?_⟩
          by_cases hle : ja.d ρ ≤ (i : Int)
          · exact hle
          · rw [hpick1 hle] at h2
            exact absurd h2.symm (hdis _ (pickJ_mem (by simp)))
      · rename_i hne
        obtain ⟨e1, e2⟩ := i1 k q t hk
        refine ⟨e1, e2.trans ?_⟩
        simp only [Gd.d_append, Gd.d_cons, Gd.d_nil, Bool.and_true, Bool.and_eq_true, beq_iff_eq, hev, decide_eq_false_iff_not]
        constructor
        · rintro ⟨⟨h1, h2⟩, h3⟩; exact ⟨h1, by rw [hpick1 h2]; exact h3⟩
        · rintro ⟨h1, h2⟩
          by_cases hle : ja.d ρ ≤ (i : Int)
          · rw [hpick0 hle] at h2
            exact absurd (by rw [h2]; exact Kd.eq_refl _) hne
          · rw [hpick1 hle] at h2
            exact ⟨⟨h1, hle⟩, h2⟩
    · unfold getK
      by_cases hk : (kdD d').eq (kdD d) = true
      · rw [if_pos hk]; exact ⟨_, rfl⟩
      · rw [if_neg hk]
        rcases List.mem_cons.1 hd' with e | hd'
        · subst e; exact absurd (Kd.eq_refl _) hk
        · exact i2 d' hd'
def isTt : B → Bool
  | .c true => true
  | _ => false
/-- The ways out. -/
def rfOuts (jl : List Code) (js : Js) (s : St) : M Outs :=
  if jl.isEmpty || isTt js.b then do
    let _ ← oblige js.b
    pure [(.n, [], s)]
  else do
    let r ← goJ js.a s jl 0 [(js.b, false)]
    pure ((.n, [(js.b, true)], s) :: r)
theorem rfOuts_ok {Φ : Funs} {ρ : Env} {jl : List Code} {js : Js} {s : St} {O : Outs} {c c' : Ctr} {out : List Em} (h : rfOuts jl js s c = some (O, c', out)) (hg : Good Φ ρ out) (hj : jlOk jl = true) {K : Kd} (hK : K = if js.b.d ρ then .n else kdD (pickJ jl (js.a.d ρ).toNat)) :
    (∀ k q t, getK k O = some (q, t) → (Gd.d ρ q = true ↔ k = K)) ∧ ∃ q, getK K O = some (q, s) := by
  unfold rfOuts at h
  split at h
  · obtain ⟨u, c1, o1, c2, o2, y, g1, g2, he⟩ := M.bind_inv h
    simp only [Prod.mk.injEq] at he
    obtain ⟨rfl, rfl, rfl⟩ := he
    have he := M.pure_inv g2
    simp only [Prod.mk.injEq] at he
    obtain ⟨rfl, rfl, rfl⟩ := he
    rw [Good.append] at hg
    have hb : js.b.d ρ = true := oblige_snd _ _ _ _ _ g1 hg.1
    rw [hb, if_pos rfl] at hK
    subst hK
    refine ⟨fun k q t hk => ?_, [], by simp [getK, Kd.eq]⟩
    unfold getK at hk
    split at hk
    · rename_i he
      simp only [Option.some.injEq, Prod.mk.injEq] at hk
      obtain ⟨rfl, rfl⟩ := hk
      simp [Kd.eq_sound he]
    · simp [getK] at hk
  · rename_i hc
    simp only [Bool.or_eq_true, List.isEmpty_iff, not_or] at hc
    obtain ⟨r, c1, o1, c2, o2, y, g1, g2, he⟩ := M.bind_inv h
    simp only [Prod.mk.injEq] at he
    obtain ⟨rfl, rfl, rfl⟩ := he
    have he := M.pure_inv g2
    simp only [Prod.mk.injEq] at he
    obtain ⟨rfl, rfl, rfl⟩ := he
    rw [Good.append] at hg
    obtain ⟨i1, i2⟩ := goJ_ok g1 hg.1 hc.1 hj (fun _ => .inr rfl)
    rw [Nat.sub_zero] at i1
    have hnn : ∀ d, d ∈ jl → kdD d ≠ .n := fun d hd e => by
      have key : ∀ {l : List Code}, jlOk l = true → d ∈ l → (kdJ d).isSome = true := by
        intro l
        induction l with
        | nil => intro _ h; cases h
        | cons a l ih =>
          intro h hm
          simp only [jlOk, Bool.and_eq_true] at h
          rcases List.mem_cons.1 hm with rfl | hm
          · exact h.1.1
          · exact ih h.2 hm
      have h1 := key hj hd
      unfold kdD at e
      cases d <;> simp [kdJ] at h1 e
    have hpk := hnn _ (pickJ_mem (n := (js.a.d ρ).toNat) hc.1)
    cases hb : js.b.d ρ with
    | true =>
      rw [hb, if_pos rfl] at hK
      subst hK
      refine ⟨fun k q t hk => ?_, _, by simp [getK, Kd.eq]; rfl⟩
      unfold getK at hk
      split at hk
      · rename_i he
        simp only [Option.some.injEq, Prod.mk.injEq] at hk
        obtain ⟨rfl, rfl⟩ := hk
        simp [Kd.eq_sound he, hb]
      · rename_i hne
        obtain ⟨_, e2⟩ := i1 k q t hk
        rw [e2]
        simp only [Gd.d_cons, Gd.d_nil, Bool.and_true, hb]
        constructor
        · rintro ⟨h, _⟩; simp at h
        · intro e; subst e; exact absurd (Kd.eq_refl _) hne
    | false =>
      rw [hb] at hK
      simp only [Bool.false_eq_true, if_false] at hK
      subst hK
      refine ⟨fun k q t hk => ?_, ?_⟩
      · unfold getK at hk
        split at hk
        · rename_i he
          simp only [Option.some.injEq, Prod.mk.injEq] at hk
          obtain ⟨rfl, rfl⟩ := hk
          simp only [Gd.d_cons, Gd.d_nil, Bool.and_true, hb]
          constructor
          · intro h; simp at h
          · intro e; rw [Kd.eq_sound he] at e; exact absurd e.symm hpk
        · obtain ⟨_, e2⟩ := i1 k q t hk
          rw [e2]
          simp only [Gd.d_cons, Gd.d_nil, Bool.and_true, hb]
          constructor
          · rintro ⟨_, h⟩; exact h.symm
          · intro e; exact ⟨rfl, e.symm⟩
      · obtain ⟨q, hq⟩ := i2 _ (pickJ_mem (n := (js.a.d ρ).toNat) hc.1)
        refine ⟨q, ?_⟩
        unfold getK
        rw [if_neg (fun e => hpk (Kd.eq_sound e))]
        exact hq
end Go.Proofs.Ytgbgibbonhklgaa.Sx
namespace Go.Proofs.Ytgbgibbonhklgaa.Sx
open Go

def rdOps : List Oper → List Nat → List Nat → List Nat
  | [], _, acc => acc
  | o :: l, wr, acc =>
    let acc' := o.op.operands.toList.foldl (fun a x => match x with | .tmp t => if wr.contains t || a.contains t then a else t :: a | _ => a) acc
    rdOps l (match o.dst with | some d => d :: wr | none => wr) acc'
def rdCode : Code → List Nat → List Nat
  | .region _ ops _, acc => rdOps ops.toList [] acc
  | .seq a b, acc => rdCode b (rdCode a acc)
  | .cond c a b, acc => rdCode b (rdCode a (match c with | .tmp t => if acc.contains t then acc else t :: acc | _ => acc))
  | .block _ a, acc => rdCode a acc
  | .loop a, acc => rdCode a acc
  | .rangeFunc g _ aS bd, acc => rdCode bd (rdCode aS (match g with | .tmp t => if acc.contains t then acc else t :: acc | _ => acc))
  | _, acc => acc
def keepOf (fn : Func) : List Bool :=
  let r := rdCode (fn.body.getD .skip) (fn.results.toList.map fun | .tmp t => t | .cell a _ => a)
  (List.range fn.ntmps).map fun t => r.contains t
def retOf (fn : Func) : List Bool :=
  let r := fn.results.toList.map fun | .tmp t => t | .cell a _ => a
  (List.range fn.ntmps).map fun t => r.contains t
def ctlOf (fn : Func) (gl : Gl) (s : Sum) : Ctl := { keep := { l := keepOf fn, fz := true }, turns := 400, ret := retOf fn, base := gl.length + (ptrShapes s.args).length + argS s.args }

/-- Tables. -/
def tabS : List (Nat × Sum × Fun) → Sums
  | [], _ => none
  | (f, s, _) :: l, n => if n == f then some s else tabS l n
def tabF : List (Nat × Sum × Fun) → Funs
  | [], _ => fun _ _ => ([], [])
  | (f, _, F) :: l, n => if n == f then F else tabF l n
theorem AllOk.nil {P : Program} {gl : Gl} : AllOk P (tabF []) gl (tabS []) := fun _ _ h => by cases h
theorem AllOk.cons {P : Program} {gl : Gl} {l : List (Nat × Sum × Fun)} {f : Nat} {s : Sum} {F : Fun} (hc : match s.sl with | none => Contract P gl f s F | some p => TabContract P gl f p) (hcall : ∀ args w, (callFunc f args).run P w = .ok (.enter f args) w)
    (hin : ∀ S, s.inl = some S → s.pre = false ∧ ∀ is bs, F is bs = S.run Fun0 false is bs) (h : AllOk P (tabF l) gl (tabS l)) : AllOk P (tabF ((f, s, F) :: l)) gl (tabS ((f, s, F) :: l)) := by
  intro n t ht
  unfold tabS at ht
  unfold tabF
  by_cases e : (n == f) = true
  · rw [if_pos e] at ht ⊢
    simp only [Option.some.injEq] at ht
    simp only [beq_iff_eq] at e
    subst e
    subst ht
    exact ⟨hc, hcall, hin⟩
  · rw [if_neg e] at ht ⊢
    exact h n t ht
def withInl (s : Sum) (S : Smry) : Sum := { s with inl := some S }
def ctlL (fn : Func) (gl : Gl) (s : Sum) (l : List (Nat × LAnn)) : Ctl := { ctlOf fn gl s with loops := l }

/-! ### Loops' functions -/
def callsOf : List Em → List Nat
  | [] => []
  | .call f _ _ _ _ _ _ :: l => f :: callsOf l
  | _ :: l => callsOf l
theorem evEm_congr {Φ Φ' : Funs} : ∀ {l : List Em} {is : List Int} {bs : List Bool}, (∀ f, f ∈ callsOf l → Φ f = Φ' f) → evEm Φ l is bs = evEm Φ' l is bs
  | [], _, _, _ => rfl
  | .di _ _ :: l, is, bs, h => by unfold evEm; exact evEm_congr h
  | .db _ _ :: l, is, bs, h => by unfold evEm; exact evEm_congr h
  | .ob _ _ :: l, is, bs, h => by unfold evEm; exact evEm_congr h
  | .call f ai ab i ni b nb :: l, is, bs, h => by
    unfold evEm
    simp only
    rw [h f (by simp [callsOf])]
    exact evEm_congr fun g hg => h g (by simp [callsOf, hg])
theorem run_congr {Φ Φ' : Funs} {S : Smry} {pre : Bool} (h : ∀ f, f ∈ callsOf S.em → Φ f = Φ' f) : S.run Φ pre = S.run Φ' pre := by
  funext is bs
  unfold Smry.run
  rw [evEm_congr h]
/-- Functions, and loops', each by those behind it. -/
noncomputable def lpF : List LAnn → Funs → Funs
  | [], Φ => Φ
  | L :: l, Φ => fun n => if n == L.id then loopF (L.S.run (lpF l Φ) true) L.nI L.nB else lpF l Φ n
def notIn (n : Nat) (l : List Nat) : Bool := l.all fun m => !(m == n)
theorem notIn_spec {n : Nat} {l : List Nat} (h : notIn n l = true) {m : Nat} (hm : m ∈ l) : m ≠ n := by
  unfold notIn at h
  rw [List.all_eq_true] at h
  have := h m hm
  simpa using this
/-- No loop's number is another one's, or is called ahead. -/
def lpOk : List LAnn → Bool
  | [] => true
  | L :: l => notIn L.id (callsOf L.S.em) && (l.all fun M => !(M.id == L.id) && notIn L.id (callsOf M.S.em)) && lpOk l
theorem lpF_ok {Φ : Funs} : ∀ {l : List LAnn}, lpOk l = true → ∀ L, L ∈ l → lpF l Φ L.id = loopF (L.S.run (lpF l Φ) true) L.nI L.nB
  | [], _, L, h => by cases h
  | M :: l, hk, L, h => by
    simp only [lpOk, Bool.and_eq_true, List.all_eq_true] at hk
    obtain ⟨⟨h1, h2⟩, h3⟩ := hk
    rcases List.mem_cons.1 h with rfl | h
    · have : lpF (L :: l) Φ L.id = loopF (L.S.run (lpF l Φ) true) L.nI L.nB := by simp [lpF]
      rw [this]
      congr 1
      refine run_congr fun f hf => ?_
      have := notIn_spec h1 hf
      simp [lpF, this]
    · have h4 := h2 L h
      simp only [Bool.not_eq_true', beq_eq_false_iff_ne, ne_eq] at h4
      have : lpF (M :: l) Φ L.id = lpF l Φ L.id := by simp [lpF, h4.1]
      rw [this, lpF_ok h3 L h]
      congr 1
      refine run_congr fun f hf => ?_
      have := notIn_spec h4.2 hf
      simp [lpF, this]
theorem lpF_else {Φ : Funs} {n : Nat} : ∀ {l : List LAnn}, (l.all fun L => !(L.id == n)) = true → lpF l Φ n = Φ n
  | [], _ => rfl
  | L :: l, h => by
    simp only [List.all_cons, Bool.and_eq_true] at h
    have h1 : ¬ L.id = n := by simpa using h.1
    have h1' : (n == L.id) = false := by simpa using fun e => h1 (Eq.symm e)
    unfold lpF
    rw [h1']
    simp only [Bool.false_eq_true, if_false]
    exact lpF_else h.2
def apartT (l : List LAnn) (T : List (Nat × Sum × Fun)) : Bool := T.all fun e => l.all fun L => !(L.id == e.1)
theorem tabS_mem {n : Nat} {s : Sum} : ∀ {T : List (Nat × Sum × Fun)}, tabS T n = some s → ∃ e, e ∈ T ∧ e.1 = n
  | [], h => by cases h
  | (f, t, F) :: T, h => by
    unfold tabS at h
    split at h
    · rename_i e
      simp only [beq_iff_eq] at e
      exact ⟨_, List.mem_cons.2 (.inl rfl), e.symm⟩
    · obtain ⟨e, he, h2⟩ := tabS_mem h
      exact ⟨e, by simp [he], h2⟩
/-- With loops' functions besides. -/
theorem AllOk.loops {P : Program} {gl : Gl} {T : List (Nat × Sum × Fun)} (h : AllOk P (tabF T) gl (tabS T)) {l : List LAnn} (ha : apartT l T = true) : AllOk P (lpF l (tabF T)) gl (tabS T) := by
  intro f s hs
  obtain ⟨e, he, rfl⟩ := tabS_mem hs
  unfold apartT at ha
  rw [List.all_eq_true] at ha
  rw [lpF_else (ha e he)]
  exact h _ _ hs
theorem LoopsOk.of {Φ : Funs} {fn : Func} {gl : Gl} {s : Sum} {l : List (Nat × LAnn)} (h : lpOk (l.map (·.2)) = true) : LoopsOk (lpF (l.map (·.2)) Φ) (ctlL fn gl s l) :=
  fun p hp => lpF_ok h p.2 (List.mem_map.2 ⟨p, hp, rfl⟩)
end Go.Proofs.Ytgbgibbonhklgaa.Sx
namespace Go.Proofs.Ytgbgibbonhklgaa.Sx
open Go

/-- Which function is looped over. -/
def rfG (s : S) : Option (Nat × List (Nat × Nat)) := match fnOf s with
  | some ([], some p) => if p.1 == yieldN then none else some p
  | _ => none
def rfFn (P : Program) (f : Nat) : Option (Func × Code) := match P.funcs[f]? with
  | some fn => match fn.body with
    | some b => if fn.results.toList.isEmpty && !(fn.name == "runtime.NumGoroutine") then some (fn, b) else none
    | none => none
  | none => none
def rfCtl (P : Program) (H : Hnd) (gl : Gl) (kb : Ctl) (keep : Kp) (D : RfD) (fn : Func) (ll : List (Nat × LAnn)) (turns : Nat) : Ctl :=
  { keep := { l := keepOf fn, fz := keep.fz }, turns := turns, ret := [], base := 1000000000, loops := ll, E := yE P H gl kb keep D }
def rfIn (gl : Gl) (s : St) (fn : Func) (lid : Nat) (caps : List (Nat × Nat)) : St :=
  { tm := (S.one false [.fn [] (some (yieldN, [(lid, 0)]))] :: capS caps).map (fun s => ({ g := [], s := s } : SV)) ++ List.replicate (fn.ntmps - (caps.length + 1)) anySV, hp := s.hp }
def rfEnd (gl : Gl) (s σ : St) : St := { tm := s.tm.map (SV.jk (knN gl.length s.hp)), hp := σ.hp, rb := uniN σ.rb s.rb, js := s.js }
def rfM (P : Program) (H : Hnd) (gl : Gl) (kb : Ctl) (keep : Kp) (ll : List (Nat × LAnn)) (turns : Nat) (g : Operand) (ps : Array Tmp) (asg bd : Code) (s : St) : M Outs := do
  let fv ← lift (rfG (rs [] (ev gl.length s g)))
  let fb ← lift (rfFn P fv.1)
  let _ ← lift (if jlOk (jumpsOf bd) then some () else none)
  let lid ← newId
  let O ← M.mono (exec P H (ghOf gl 0) gl.length (rfCtl P H gl kb keep { lid := lid, T := s.tm.map (SV.tj (knN gl.length s.hp)), ps := ps.toList, asg := asg, bd := bd, jl := jumpsOf bd } fb.1 ll turns) fb.2 (rfIn gl s fb.1 lid fv.2))
  let σ ← M.mono (endSt { l := keepOf fb.1, fz := keep.fz } O)
  M.mono (rfOuts (jumpsOf bd) σ.js (rfEnd gl s σ))
def rfE (P : Program) (H : Hnd) (gl : Gl) (kb : Ctl) (keep : Kp) (ll : List (Nat × LAnn)) (turns : Nat) : XE := { rf := rfM P H gl kb keep ll turns }

theorem mtAll_len2 {β : Beta} {ρ : Env} : ∀ {xs : List S} {vs : List Value}, mtAll β ρ xs vs → xs.length = vs.length
  | [], [], _ => rfl
  | _ :: _, _ :: _, h => by simp [mtAll_len2 h.2]
/-- The blocks of marks. -/
def tgts : List Deferred → List Nat
  | [] => []
  | d :: l => match d.target with
    | .collected D => D :: tgts l
    | _ => tgts l
theorem Marks.tgts {N : Nat} {w : World} : ∀ {l : List Deferred}, Marks N w l → ∀ D, D ∈ Sx.tgts l → N ≤ D ∧ w.heap[D]? = some (.deferred (some []))
  | [], _, D, h => by cases h
  | d :: l, ⟨E, e1, e2, e3, e4, e5⟩, D, h => by
    subst e1
    simp only [Sx.tgts] at h
    rcases List.mem_cons.1 h with rfl | h
    · exact ⟨e2, e3⟩
    · exact Marks.tgts e5 D h
theorem Marks.of {N : Nat} {w w' : World} : ∀ {l : List Deferred}, Marks N w l → (∀ D, D ∈ Sx.tgts l → w'.heap[D]? = some (.deferred (some []))) → Marks N w' l
  | [], _, _ => trivial
  | d :: l, ⟨E, e1, e2, e3, e4, e5⟩, h => by
    subst e1
    refine ⟨E, rfl, e2, h E (by simp [Sx.tgts]), e4, Marks.of e5 fun D hD => h D ?_⟩
    simp only [Sx.tgts]
    exact List.mem_cons.2 (.inr hD)
theorem Marks.notin {N : Nat} {w : World} {D : Nat} : ∀ {l : List Deferred}, Marks N w l → (∀ E, E ∈ Sx.tgts l → E ≠ D) → ∀ e, e ∈ l → e.target ≠ .collected D
  | [], _, _, e, he => by cases he
  | d :: l, ⟨E, e1, e2, e3, e4, e5⟩, h, e, he => by
    subst e1
    rcases List.mem_cons.1 he with rfl | he
    · intro hh
      simp only [Target.collected.injEq] at hh
      exact h E (by simp [Sx.tgts]) hh
    · exact Marks.notin e5 (fun E' hE' => h E' (by simp only [Sx.tgts]; exact List.mem_cons.2 (.inr hE'))) e he

theorem pickJ_some {n : Nat} : ∀ {l : List Code}, jlOk l = true → (kdJ (pickJ l n)).isSome = true := by
  have key : ∀ {l : List Code}, jlOk l = true → ∀ d, d ∈ l → (kdJ d).isSome = true := by
    intro l
    induction l with
    | nil => intro _ d h; cases h
    | cons a l ih =>
      intro h d hm
      simp only [jlOk, Bool.and_eq_true] at h
      rcases List.mem_cons.1 hm with rfl | hm
      · exact h.1.1
      · exact ih h.2 d hm
  intro l h
  cases l with
  | nil => rfl
  | cons c l => exact key h _ (pickJ_mem (by simp))
section
variable {P : Program} {Φ : Funs} {H : Hnd} {x : Cx}
theorem rfG_spec {s : S} {p : Nat × List (Nat × Nat)} (h : rfG s = some p) : p.1 ≠ yieldN ∧ ∃ c, s = .one false [c] ∧ asFn c = some ([], some p) := by
  unfold rfG at h
  split at h
  · rename_i q hq
    split at h
    · cases h
    · rename_i hy
      simp only [Option.some.injEq] at h
      subst h
      obtain ⟨c, h1, h2⟩ := fnOf_spec hq
      exact ⟨by simpa using hy, c, h1, h2⟩
  · cases h
theorem rfFn_spec {f : Nat} {fn : Func} {b : Code} (h : rfFn P f = some (fn, b)) : P.funcs[f]? = some fn ∧ fn.body = some b ∧ fn.results.toList = [] ∧ (fn.name == "runtime.NumGoroutine") = false := by
  unfold rfFn at h
  split at h
  · rename_i fn' hfn
    split at h
    · rename_i b' hb
      split at h
      · rename_i hc
        simp only [Bool.and_eq_true, List.isEmpty_iff, Bool.not_eq_true'] at hc
        simp only [Option.some.injEq, Prod.mk.injEq] at h
        obtain ⟨rfl, rfl⟩ := h
        exact ⟨hfn, hb, hc.1, hc.2⟩
      · cases h
    · cases h
  · cases h
theorem rf_ok (hH : HOk P Φ x.gl H) (hG : ∀ w, Keep x.R x.w0 w → Laid x.gl w) {kb : Ctl} (hxb : GrOk x kb.keep) (hLb : LoopsOk Φ kb) (hEb : kb.E = {}) {keep : Kp} (hx : GrOk x keep) {ll : List (Nat × LAnn)} {turns : Nat} (hLL : ∀ p, p ∈ ll → Φ p.2.id = loopF (p.2.S.run Φ true) p.2.nI p.2.nB)
    (hrl : x.rl = none) (hlr : x.lr = none) (hds : x.ds = []) (ρ : Env) (g : Operand) (ps : Array Tmp) (asg bd : Code) :
    OkW Φ x ρ (fun Q a w => (Code.rangeFunc g ps asg bd).wpIn (FR x.rl) 0 P Q a w) (rfM P H x.gl kb keep ll turns g ps asg bd) := by
  intro s c c' O' out h hg β a w hR hF Q hQ
  unfold rfM at h
  obtain ⟨fv, c1, o1, c2, o2, y, g1, g2, he⟩ := M.bind_inv h
  simp only [Prod.mk.injEq] at he
  obtain ⟨rfl, rfl, rfl⟩ := he
  obtain ⟨fv', hfv, he⟩ := lift_inv g1
  simp only [Prod.mk.injEq] at he
  obtain ⟨rfl, rfl, rfl⟩ := he
  obtain ⟨fb, c3, o3, c4, o4, y, g3, g4, he⟩ := M.bind_inv g2
  simp only [Prod.mk.injEq] at he
  obtain ⟨rfl, rfl, rfl⟩ := he
  obtain ⟨fb', hfb, he⟩ := lift_inv g3
  simp only [Prod.mk.injEq] at he
  obtain ⟨rfl, rfl, rfl⟩ := he
  obtain ⟨u, c5, o5, c6, o6, y, g5, g6, he⟩ := M.bind_inv g4
  simp only [Prod.mk.injEq] at he
  obtain ⟨rfl, rfl, rfl⟩ := he
  obtain ⟨u', hjl, he⟩ := lift_inv g5
  simp only [Prod.mk.injEq] at he
  obtain ⟨_, rfl, rfl⟩ := he
  obtain ⟨lid, c7, o7, c8, o8, y, g7, g8, he⟩ := M.bind_inv g6
  simp only [Prod.mk.injEq] at he
  obtain ⟨rfl, rfl, rfl⟩ := he
  simp only [newId, Option.some.injEq, Prod.mk.injEq] at g7
  obtain ⟨hlid, hc7, rfl⟩ := g7
  obtain ⟨O, c9, o9, c10, o10, y, g9, g10, he⟩ := M.bind_inv g8
  simp only [Prod.mk.injEq] at he
  obtain ⟨rfl, rfl, rfl⟩ := he
  obtain ⟨σ, c11, o11, c12, o12, y, g11, g12, he⟩ := M.bind_inv g10
  simp only [Prod.mk.injEq] at he
  obtain ⟨rfl, rfl, rfl⟩ := he
  obtain ⟨g9, le9⟩ := mono_inv g9
  obtain ⟨g11, le11⟩ := mono_inv g11
  obtain ⟨g12, le12⟩ := mono_inv g12
  simp only at le9 le11 le12
  simp only [Good.append] at hg
  obtain ⟨_, _, _, _, hg9, hg11, hg12⟩ := hg
  split at hjl
  rotate_left
  · cases hjl
  rename_i hjok
  obtain ⟨fn, body⟩ := fb
  obtain ⟨hfn, hbody, hres, hname⟩ := rfFn_spec hfb
  obtain ⟨hyn, cc, hcc, hcf⟩ := rfG_spec hfv
  obtain ⟨gf, caps⟩ := fv
  -- the function's value
  have hvm := asFn_mt hcf (mt_cell hcc (rs_mt (Γ := []) rfl (ev_mt hR g)))
  have hvm : fvMt β (some (gf, caps)) (a.eval g) := hvm
  obtain ⟨ws, hval, hcap⟩ := hvm
  rw [fvVal_ne hyn] at hval
  have hcall := callable_of hfn hname (by rw [hbody]; rfl)
  rw [hrl]
  refine wpIn_rangeFunc (F := Fence.wide) (n := 0) fun fnid _ => ?_
  -- the record
  obtain ⟨rc, hrc⟩ : ∃ rc : Loop, rc = { state := .ready, pending := none, fn := fnid, tmps := a.tmps, params := ps, assign := asg, body := bd, defers := w.heap.size } := ⟨_, rfl⟩
  obtain ⟨W1, hW1⟩ : ∃ W1, W1 = (w.alloc (.deferred (some []))).alloc (.loop rc) := ⟨_, rfl⟩
  have hsz1 : W1.heap.size = w.heap.size + 2 := by rw [hW1]; simp
  have hL1 : W1.heap[w.heap.size + 1]? = some (.loop rc) := by
    rw [hW1]; have := World.alloc_heap_new (w.alloc (.deferred (some []))) (.loop rc); rwa [World.size_alloc] at this
  have hK1 : W1.heap[w.heap.size]? = some (.deferred (some [])) := by
    rw [hW1]; exact (Go.RowKit.Below.heap_alloc _ _ _ (by simp)).trans (World.alloc_heap_new w _)
  have hkeep : Keep [] w W1 := by
    rw [hW1]
    exact (Keep.alloc [] w _).trans (Keep.alloc [] _ _) (fun r hr => by cases hr)
  have hN : x.w0.heap.size ≤ w.heap.size := hR.kp.size
  refine ⟨w.heap.size + 1, [{ target := .collected w.heap.size, args := #[] }], W1, { target := .fn (.func gf) ws.toArray, args := #[.func (.yield (w.heap.size + 1)) #[] #[]] }, W1, gf,
    #[.func (.yield (w.heap.size + 1)) #[] #[]] ++ ws.toArray, W1, ?_, ?_, fun _ _ => trivial, ?_, fun hh => (by cases hh), ?_⟩
  · rw [hW1, hrc]; exact run_enterLoop_outer _ _ _ _ _
  · simp only [resolve, hval]
    simp [go_sem]
  · simp [invoke, hcall]
  -- what is known asg the iterator begins
  obtain ⟨q1, hq1⟩ : ∃ q1 : Rg, q1 = { blk := w.heap.size + 1, off := 0, len := 0, ro := true } := ⟨_, rfl⟩
  obtain ⟨β1, hβ1⟩ : ∃ β1, β1 = β.set lid q1 := ⟨_, rfl⟩
  have hfree : β lid = none := by rw [← hlid]; exact hF _ (Nat.le_refl _)
  have hext : ∀ p, ExtP p β β1 := fun p => by rw [hβ1]; exact Beta.set_ext p hfree
  have hbo1 : BetaOk x.w0.heap.size x.R x.Q β1 W1 := by
    rw [hβ1]
    refine hR.bo.bind (W := []) (by simp) hkeep (fun j q _ _ => .inr ?_) (.inl (by rw [hq1])) (.inl (by rw [hq1])) (fun ks l he => by rw [hq1] at he; cases he) (fun _ => .inl (by rw [hq1]; simp only; omega)) (fun he => by rw [hq1] at he; cases he)
    unfold Rg.apart
    rw [hq1]
    simp
  obtain ⟨r, hr⟩ : ∃ r : LpRec, r = { l := w.heap.size + 1, rc := rc, jl := jumpsOf bd } := ⟨_, rfl⟩
  obtain ⟨xc, hxc⟩ : ∃ xc : Cx, xc = { x with b0 := β1, lr := some r, ds := w.heap.size :: tgts a.defers } := ⟨_, rfl⟩
  obtain ⟨D, hD⟩ : ∃ D : RfD, D = { lid := lid, T := s.tm.map (SV.tj (knN x.gl.length s.hp)), ps := ps.toList, asg := asg, bd := bd, jl := jumpsOf bd } := ⟨_, rfl⟩
  rw [← hD] at g9
  have hrco : RcOk xc D r := by
    refine ⟨by rw [hxc], by rw [hr], by rw [hr, hD], by rw [hr, hrc, hD], by rw [hr, hrc, hD], by rw [hr, hrc, hD], by rw [hr, hrc, hD, List.length_map]; exact hR.size, fun β' ρ' hE t v hv => ?_, ⟨q1, by rw [hxc, hD, hβ1]; exact Beta.set_same _ _ _, by rw [hq1], by rw [hq1, hr]⟩, by rw [hxc]; exact hrl⟩
    rw [hxc] at hE
    rw [hD] at hv
    simp only [List.getElem?_map, Option.map_eq_some_iff] at hv
    obtain ⟨u, hu, rfl⟩ := hv
    rw [hr, hrc]
    exact SV.tj_mt (knN_keep hR ((hext (fun _ => true)).ext.trans hE)) (hR.slot t u hu)
  have hwold : ∀ k o, w.heap[k]? = some o → W1.heap[k]? = some o := fun k o hk => by
    rw [hkeep.blk k (Array.getElem?_eq_some_iff.1 hk).1 (fun r hr => by cases hr)]; exact hk
  have hRc : Rel xc ρ β1 (rfIn x.gl s fn lid caps) { tmps := (#[Value.func (.yield (w.heap.size + 1)) #[] #[]] ++ ws.toArray) ++ Array.replicate (fn.ntmps - (#[Value.func (.yield (w.heap.size + 1)) #[] #[]] ++ ws.toArray).size) undef, defers := [] } W1 := by
    have hcap1 : capMt β1 caps ws := tj_cap (p := fun _ => true) (fun i r _ hi => (hext (fun _ => true)) i r hi (.inr rfl)) (List.all_eq_true.2 fun _ _ => rfl) hcap
    have hms : mtAll β1 ρ (S.one false [.fn [] (some (yieldN, [(lid, 0)]))] :: capS caps) (.func (.yield (w.heap.size + 1)) #[] #[] :: ws) := by
      refine ⟨⟨_, rfl, [.pointer (some ⟨w.heap.size + 1, 0, none⟩)], ?_, ⟨q1, by rw [hβ1]; exact Beta.set_same _ _ _, by rw [hq1]; rfl⟩, trivial⟩, capS_mt hcap1⟩
      unfold fvVal
      rw [if_pos rfl]
    have hlen := mtAll_len2 hms
    have hcl : caps.length + 1 = ws.length + 1 := by simpa [capS] using hlen
    have e : (#[Value.func (.yield (w.heap.size + 1)) #[] #[]] ++ ws.toArray) ++ Array.replicate (fn.ntmps - (#[Value.func (.yield (w.heap.size + 1)) #[] #[]] ++ ws.toArray).size) undef = ((Value.func (.yield (w.heap.size + 1)) #[] #[] :: ws) ++ List.replicate (fn.ntmps - (caps.length + 1)) undef).toArray := by
      apply Array.toList_inj.1
      rw [hcl]
      simp [Nat.add_comm]
    refine ⟨?_, fun t v hv => ?_, ⟨fun r' hr' => ?_, fun E hE => ?_, trivial, fun _ => rfl⟩, fun id b hb hbg => ?_, fun id b hb hbg => ?_, ?_, ?_, ?_, ?_, ?_, ?_⟩
    · rw [e]
      simp [rfIn, capS, hcl]
      omega
    · rw [e]
      have := args_slots hms (show ((S.one false [.fn [] (some (yieldN, [(lid, 0)]))] :: capS caps).map (fun s => ({ g := [], s := s } : SV)) ++ List.replicate (fn.ntmps - (caps.length + 1)) anySV)[t]? = some v from hv)
      simpa using this
    · rw [hxc] at hr'
      simp only [Option.some.injEq] at hr'
      subst hr'
      rw [hxc, hr]
      refine ⟨by simp only; omega, ?_⟩
      rw [hL1]
      unfold LpRec.at
      simp only [rfIn, B.d_c, if_true]
      rw [hrc]
    · rw [hxc] at hE ⊢
      rcases List.mem_cons.1 hE with rfl | hE
      · exact ⟨hN, hK1⟩
      · obtain ⟨e1, e2⟩ := hR.df.ma.tgts E hE
        exact ⟨e1, hwold _ _ e2⟩
    · exact blkMt_keep' (hext (fun _ => true)) hR.bo hkeep (fun r q hr => by cases hr) (hR.hm id b hb hbg)
    · have e : xc.gh = x.gh := by rw [hxc]; rfl
      rw [e] at hb
      exact blkMt_keep' (hext (fun _ => true)) hR.bo hkeep (fun r q hr => by cases hr) (hR.gm id b hb hbg)
    · have e : xc.gh = x.gh := by rw [hxc]; rfl
      rw [e]; exact hR.gro
    · rw [hxc]; exact hbo1
    · rw [hxc]; exact hR.kp.trans hkeep (fun r hr => by cases hr)
    · rw [hxc]; exact fun g vs hgv => (hext (fun _ => false)).at (hR.gl g vs hgv) rfl
    · rw [hxc]; exact fun j q hj => ⟨(hR.ra j q hj).1, (hext (fun _ => false)).at (hR.ra j q hj).2 (hR.ra j q hj).1⟩
    · rw [hxc]; exact ExtP.refl _ _
  have hFc : Fresh β1 c7 := fun i hi => by
    rw [← hc7] at hi
    simp only at hi
    rw [hβ1, Beta.set_other _ _ (by omega)]
    exact hF i (by omega)
  have hxcG : xc.gl = x.gl := by rw [hxc]
  have hGc : ∀ w, Keep xc.R xc.w0 w → Laid xc.gl w := by rw [hxc]; exact hG
  have hHc : HOk P Φ xc.gl H := by rw [hxcG]; exact hH
  have hgr : ∀ kp : Kp, GrOk x kp → GrOk xc kp := fun kp hk => by rw [hxc]; exact hk
  have hkeepc : GrOk xc { l := keepOf fn, fz := keep.fz } := by
    refine hgr _ fun hf => hx hf
  have hEc : EOk P Φ xc (yE P H x.gl kb keep D) := by
    have := yE_ok (P := P) (Φ := Φ) (x := xc) hHc hGc (hgr _ hxb) hLb hEb (hgr _ hx) hrco
    rwa [hxcG] at this
  have hLc : LoopsOk Φ (rfCtl P H x.gl kb keep D fn ll turns) := hLL
  have hex : CodeOk P Φ xc ρ body (exec P H xc.gh xc.ng (rfCtl P H x.gl kb keep D fn ll turns)  body) := exec_ok (x := xc) hHc hGc (rfCtl P H x.gl kb keep D fn ll turns) hkeepc hLc hEc body ρ
  have hrun := hex _ _ _ O _ (by rw [hxc]; exact g9) hg9 β1 _ W1 hRc hFc
    (bodyPostM Fence.wide 0 P fn (rangePost Fence.wide 0 P (w.heap.size + 1) Q { a with defers := [{ target := .collected w.heap.size, args := #[] }] ++ a.defers })) fun e a' w' K hk hO => ?_
  · refine callsIn_of_wp_marks hfn hbody trivial ?_ rfl
    rw [hxc] at hrun
    simp only [hrl] at hrun
    exact hrun
  · obtain ⟨hKK, β', hE, hR', hF'⟩ := endSt_ok hkeepc g11 hg11 hO
    have hfin : LeavesInM Fence.wide 0 P fn a'.tmps (rangePost Fence.wide 0 P (w.heap.size + 1) Q { a with defers := [{ target := .collected w.heap.size, args := #[] }] ++ a.defers }) a'.defers .returning w' := by
      have hd' : a'.defers = [] := hR'.df.nm (by rw [hxc]; rfl)
      rw [hd']
      refine ⟨_, results_run (vs := []) (by rw [hres]; rfl), ?_⟩
      -- the loop's end
      obtain ⟨hNl, hrec⟩ := hR'.df.rc r (by rw [hxc])
      rw [hr] at hrec
      obtain ⟨lp, hlp⟩ : ∃ lp, lp = r.at (σ.js.b.d ρ) (σ.js.a.d ρ) := ⟨_, rfl⟩
      have hrec : w'.heap[w.heap.size + 1]? = some (.loop lp) := by rw [hlp, hr]; exact hrec
      have hnb : lp.state ≠ .busy := by
        rw [hlp, hr]
        unfold LpRec.at
        simp only
        split <;> simp
      have hlt := (Array.getElem?_eq_some_iff.1 hrec).1
      refine ⟨_, _, run_endLoop (P := P) hrec hnb, ?_⟩
      have hc := putObj_cell (o' := .loop { lp with state := .exhausted }) hrec rfl rfl
      have hEE : Ext β β' := (hext (fun _ => true)).ext.trans hE
      have hRel : Rel x ρ β' (rfEnd x.gl s σ) { a with defers := [{ target := .collected w.heap.size, args := #[] }] ++ a.defers } (w'.putObj (w.heap.size + 1) (.loop { lp with state := .exhausted })) := by
        have hds' := hR'.df.ds
        have hopen : ∀ E, E = w.heap.size ∨ E ∈ tgts a.defers → (w'.putObj (w.heap.size + 1) (.loop { lp with state := .exhausted })).heap[E]? = some (.deferred (some [])) := fun E hE => by
          obtain ⟨_, e2⟩ := hds' E (by rw [hxc]; simp only [List.mem_cons]; exact hE)
          exact (World.putObj_heap_other (fun e => by subst e; rw [hrec] at e2; cases e2)).trans e2
        have e : x.gh = xc.gh := by rw [hxc]; rfl
        refine ⟨by simp only [rfEnd, List.length_map]; exact hR.size, getD_map_jk (knN_mv hR hEE) hR.slot, ⟨fun r' hr' => (by rw [hlr] at hr'; cases hr'), fun E hE => (by rw [hds] at hE; cases hE), ?_, fun hh => (by rw [hlr] at hh; cases hh)⟩, fun id b hb hbg => blkMt_cells hc (hR'.hm id b hb hbg), by rw [e]; exact fun id b hb hbg => blkMt_cells hc (hR'.gm id b hb hbg), by rw [e]; exact hR'.gro, ?_, ?_, ?_, ?_, ?_⟩
        · refine ⟨w.heap.size, rfl, hN, hopen _ (.inl rfl), hR.df.ma.notin fun E hE e => ?_, hR.df.ma.of fun E hE => hopen E (.inr hE)⟩
          have := (Array.getElem?_eq_some_iff.1 (hR.df.ma.tgts E hE).2).1
          omega
        · have := hR'.bo
          rw [hxc] at this
          exact betaOk_cells (fun a => (hc a).1) (by rw [World.putObj_size]; exact Nat.le_refl _) this
        · have := hR'.kp
          rw [hxc] at this
          exact putObj_keep this (by omega) hrec rfl rfl
        · have := hR'.gl; rw [hxc] at this; exact this
        · have := hR'.ra; rw [hxc] at this; exact this
        · have := hR'.eb
          rw [hxc] at this
          have h1 : ExtP (pOf s.rb) x.b0 β1 := fun i q hi hp => (hext (fun _ => true)) i q (hR.eb i q hi hp) (.inr rfl)
          exact ExtP.uni h1 this
      obtain ⟨K', hK'⟩ : ∃ K', K' = if σ.js.b.d ρ then Kd.n else kdD (pickJ (jumpsOf bd) (σ.js.a.d ρ).toNat) := ⟨_, rfl⟩
      obtain ⟨j1, q, j2⟩ := rfOuts_ok g12 hg12 hjok hK'
      have hout : OutMt x ρ β c' O' K' { a with defers := [{ target := .collected w.heap.size, args := #[] }] ++ a.defers } (w'.putObj (w.heap.size + 1) (.loop { lp with state := .exhausted })) :=
        ⟨j1, q, _, β', j2, hEE, hRel, hF'.le (by omega)⟩
      have hpend : lp.pending = if σ.js.b.d ρ then none else some (pickJ (jumpsOf bd) (σ.js.a.d ρ).toNat) := by
        rw [hlp, hr]
        unfold LpRec.at
        simp only
        split <;> rfl
      generalize (w'.putObj (w.heap.size + 1) (.loop { lp with state := .exhausted })) = w4 at hout ⊢
      rw [hpend]
      cases hb : σ.js.b.d ρ with
      | true =>
        rw [hb, if_pos rfl] at hK'
        subst hK'
        exact hQ .normal _ _ .n rfl hout
      | false =>
        rw [hb] at hK'
        simp only [Bool.false_eq_true, if_false] at hK' ⊢
        obtain ⟨pc, hpc⟩ : ∃ pc, pc = pickJ (jumpsOf bd) (σ.js.a.d ρ).toNat := ⟨_, rfl⟩
        have hps : (kdJ pc).isSome = true := by rw [hpc]; exact pickJ_some hjok
        rw [← hpc] at hK' ⊢
        cases pc with
        | ret =>
          subst hK'
          exact wpIn_ret (hQ .ret _ _ _ rfl hout)
        | exit id =>
          subst hK'
          exact wpIn_exit (hQ (.exit id) _ _ _ rfl hout)
        | _ => simp [kdJ] at hps
    rcases hKK with rfl | rfl
    · rw [kdOf_n hk]
      exact hfin
    · cases e <;> simp only [kdOf, Option.some.injEq] at hk <;> (try (cases hk; done))
      exact hfin
theorem rfE_ok (hH : HOk P Φ x.gl H) (hG : ∀ w, Keep x.R x.w0 w → Laid x.gl w) {kb : Ctl} (hxb : GrOk x kb.keep) (hLb : LoopsOk Φ kb) (hEb : kb.E = {}) {keep : Kp} (hx : GrOk x keep) {ll : List (Nat × LAnn)} {turns : Nat} (hLL : ∀ p, p ∈ ll → Φ p.2.id = loopF (p.2.S.run Φ true) p.2.nI p.2.nB)
    (hrl : x.rl = none) (hlr : x.lr = none) (hds : x.ds = []) : EOk P Φ x (rfE P H x.gl kb keep ll turns) :=
  ⟨fun ρ g ps asg bd => rf_ok hH hG hxb hLb hEb hx hLL hrl hlr hds ρ g ps asg bd, fun ρ ops draw s m hm => by cases hm⟩
end
/-- The body's walk; a function in which there are loops over functions. 'lb': the bodies' loops; 'll': the iterators'. -/
def ctlB (fn : Func) (lb : List (Nat × LAnn)) : Ctl := { keep := { l := keepOf fn, fz := true }, turns := 400, ret := [], base := 1000000000, loops := lb }
def ctlR (P : Program) (H : Hnd) (gl : Gl) (fn : Func) (s : Sum) (lo lb ll : List (Nat × LAnn)) : Ctl :=
  { ctlOf fn gl s with loops := lo, E := rfE P H gl (ctlB fn lb) { l := List.replicate 1000 true, fz := true } ll 400 }
theorem EAll.rf {P : Program} {Φ : Funs} {gl : Gl} {H : Hnd} (hH : HOk P Φ gl H) {fn : Func} {s : Sum} {lo lb ll : List (Nat × LAnn)} (hlb : ∀ p, p ∈ lb → Φ p.2.id = loopF (p.2.S.run Φ true) p.2.nI p.2.nB) (hll : ∀ p, p ∈ ll → Φ p.2.id = loopF (p.2.S.run Φ true) p.2.nI p.2.nB) :
    EAll P Φ gl (ctlR P H gl fn s lo lb ll) := fun x h1 h2 h3 h4 h5 h6 => by
  subst h1
  have hg : ∀ kp : Kp, GrOk x kp := fun kp _ => h5 rfl
  exact rfE_ok (kb := ctlB fn lb) hH h6 (hg _) hlb rfl (hg _) hll h2 h3 h4
end Go.Proofs.Ytgbgibbonhklgaa.Sx
namespace Go.Proofs.Ytgbgibbonhklgaa.Sx
open Go

/-! ### Some stretches alone, and those that are only read elsewhere -/
def Beta.cutF (β : Beta) (f : Nat → Bool) (m : Nat) (p : List Rg) : Beta := fun i => if f i then β i else if m ≤ i then p[i - m]? else none
theorem cutF_kn {β : Beta} {f : Nat → Bool} {m : Nat} {p : List Rg} {i : Nat} {r : Rg} (hf : f i = true) (h : β i = some r) : β.cutF f m p i = some r := by
  unfold Beta.cutF; rw [if_pos hf]; exact h
/-- The pool's numbers are free. -/
def CutOk (f : Nat → Bool) (m : Nat) : Prop := ∀ i, m ≤ i → f i = false
theorem cutF_pool {β : Beta} {f : Nat → Bool} {m : Nat} (hm : CutOk f m) {r : Rg} {p : List Rg} (h : r ∈ p) : ∃ i, β.cutF f m p i = some r := by
  obtain ⟨j, hj⟩ := List.mem_iff_getElem?.1 h
  exact ⟨m + j, by unfold Beta.cutF; rw [if_neg (by rw [hm _ (by omega)]; simp), if_pos (by omega), Nat.add_sub_cancel_left]; exact hj⟩
theorem cutF_inv {β : Beta} {f : Nat → Bool} {m : Nat} {p : List Rg} {i : Nat} {r : Rg} (h : β.cutF f m p i = some r) : (f i = true ∧ β i = some r) ∨ (m ≤ i ∧ p[i - m]? = some r) := by
  unfold Beta.cutF at h
  split at h
  · rename_i hf; exact .inl ⟨hf, h⟩
  · split at h
    · rename_i hm; exact .inr ⟨hm, h⟩
    · cases h
theorem cutF_from {β : Beta} {f : Nat → Bool} {m : Nat} {p : List Rg} (hsq : ∀ i r, β i = some r → r.sq.isSome = true → r.ro = true ∧ r.row = false) (hp : ∀ r, r ∈ p → ∃ i, β i = some r ∧ r.sq.isSome = true) {i : Nat} {r : Rg} (h : β.cutF f m p i = some r) :
    ∃ i0, β i0 = some r ∧ (i0 = i ∧ f i = true ∨ r.ro = true ∧ r.row = false) := by
  rcases cutF_inv h with ⟨h1, h2⟩ | ⟨_, h2⟩
  · exact ⟨i, h2, .inl ⟨rfl, h1⟩⟩
  · obtain ⟨i0, e1, e2⟩ := hp r (List.mem_of_getElem? h2)
    exact ⟨i0, e1, .inr (hsq i0 r e1 e2)⟩
def okL (f : Nat → Bool) (l : List C) : Bool := l.all fun c => c.ids.all f
def okS (f : Nat → Bool) : S → Bool
  | .one _ l => okL f l
  | .tup l => l.all fun p => okL f p.2
  | .any => true
def cnC : C → Nat
  | .slx _ _ _ => 1
  | .pxq _ _ _ _ => 1
  | _ => 0
def cnL : List C → Nat
  | [] => 0
  | c :: l => cnC c + cnL l
def cnT : List (Bool × List C) → Nat
  | [] => 0
  | p :: l => cnL p.2 + cnT l
def cnS : S → Nat
  | .one _ l => cnL l
  | .tup l => cnT l
  | .any => 0
def cnXs : List S → Nat
  | [] => 0
  | s :: l => cnS s + cnXs l
def cnHl : List (Nat × Blk) → Nat
  | [] => 0
  | p :: l => cnL p.2.cells + cnHl l
section
variable {f : Nat → Bool} {m : Nat} {β : Beta} {ρ : Env} (hm : CutOk f m)
theorem cutF_cap {p : List Rg} : ∀ {l : List (Nat × Nat)} {vs : List Value}, (l.map (·.1)).all f = true → capMt β l vs → capMt (β.cutF f m p) l vs
  | [], [], _, _ => trivial
  | q :: l, v :: vs, h, ⟨⟨r, hr, hv⟩, h2⟩ => by
    simp only [List.map_cons, List.all_cons, Bool.and_eq_true] at h
    exact ⟨⟨r, cutF_kn h.1 hr, hv⟩, cutF_cap h.2 h2⟩
  | [], _ :: _, _, h => h.elim
  | _ :: _, [], _, h => h.elim
include hm
theorem cutF_C {c : C} {v : Value} (hc : c.ids.all f = true) (h : c.mt β ρ v) : Pool β (cnC c) fun p => c.mt (β.cutF f m p) ρ v := by
  cases c with
  | ptr l id off =>
    obtain ⟨r, hr, hv⟩ := h
    refine Pool.triv fun p => ⟨r, cutF_kn ?_ hr, hv⟩
    simp only [C.ids, List.all_cons, Bool.and_eq_true] at hc
    rcases pick_mem (ρ := ρ) id off l with e | e
    · rw [e]; exact hc.1
    · exact List.all_eq_true.1 hc.2 _ e
  | pix id off s len a k => obtain ⟨h1, h2, r, hr, hv⟩ := h; exact Pool.triv fun p => ⟨h1, h2, r, cutF_kn (by simpa [C.ids] using hc) hr, hv⟩
  | sli id off len cap => obtain ⟨r, hr, hv⟩ := h; exact Pool.triv fun p => ⟨r, cutF_kn (by simpa [C.ids] using hc) hr, hv⟩
  | slx ks q len =>
    obtain ⟨h1, h2, p, cap, hv, hcap, h3⟩ := h
    rcases h3 with h3 | ⟨i, r, o, l, hr, hs, h4⟩
    · exact Pool.triv fun p' => ⟨h1, h2, p, cap, hv, hcap, .inl h3⟩
    · refine ⟨[r], by simp [cnC], fun r' hr' => ?_, fun p' hp => ?_⟩
      · rw [List.mem_singleton.1 hr']
        exact ⟨i, hr, by obtain ⟨L, j, e, _⟩ := hs; rw [e]; rfl⟩
      · obtain ⟨i', hi'⟩ := cutF_pool (β := β) hm (hp r (by simp))
        exact ⟨h1, h2, p, cap, hv, hcap, .inr ⟨i', r, o, l, hi', hs, h4⟩⟩
  | pxq ks q a k =>
    obtain ⟨h1, i, r, o, l, hr, hs, h2⟩ := h
    refine ⟨[r], by simp [cnC], fun r' hr' => ?_, fun p' hp => ?_⟩
    · rw [List.mem_singleton.1 hr']
      exact ⟨i, hr, by obtain ⟨L, j, e, _⟩ := hs; rw [e]; rfl⟩
    · obtain ⟨i', hi'⟩ := cutF_pool (β := β) hm (hp r (by simp))
      exact ⟨h1, i', r, o, l, hi', hs, h2⟩
  | slm id ks => obtain ⟨r, cap, q, hr, h2⟩ := h; exact Pool.triv fun p => ⟨r, cap, q, cutF_kn (by simpa [C.ids] using hc) hr, h2⟩
  | pxm id ks a k => obtain ⟨h1, r, hr, h2⟩ := h; exact Pool.triv fun p => ⟨h1, r, cutF_kn (by simpa [C.ids] using hc) hr, h2⟩
  | fn l d =>
    have hpf := pickF_ids (ρ := ρ) hc
    have h : fvMt β (pickF ρ l d) v := h
    refine Pool.triv fun p => ?_
    show fvMt (β.cutF f m p) (pickF ρ l d) v
    unfold fvMt at *
    cases hd : pickF ρ l d with
    | none => rw [hd] at h; exact h
    | some q =>
      rw [hd] at h hpf
      obtain ⟨vs, h1, h2⟩ := h
      exact ⟨vs, h1, cutF_cap hpf h2⟩
  | mp id => obtain ⟨r, hr, hv⟩ := h; exact Pool.triv fun p => ⟨r, cutF_kn (by simpa [C.ids] using hc) hr, hv⟩
  | vec => exact h.elim
  | int => exact Pool.triv fun p => h
  | bool => exact Pool.triv fun p => h
  | emp => exact Pool.triv fun p => h
  | val => exact Pool.triv fun p => h
  | junk => exact Pool.triv fun p => h
  | str => exact Pool.triv fun p => h
theorem cutF_L : ∀ {l : List C} {vs : List Value}, okL f l = true → mtL β ρ l vs → Pool β (cnL l) fun p => mtL (β.cutF f m p) ρ l vs
  | [], [], _, _ => Pool.triv fun _ => trivial
  | c :: l, v :: vs, hc, ⟨h1, h2⟩ => by
    simp only [okL, List.all_cons, Bool.and_eq_true] at hc
    exact (cutF_C hm hc.1 h1).and (cutF_L hc.2 h2)
  | [], _ :: _, _, h => h.elim
  | _ :: _, [], _, h => h.elim
theorem cutF_cells {w : World} {b : Nat} : ∀ {l : List C} {o : Nat}, okL f l = true → cellsAt β ρ w b o l → Pool β (cnL l) fun p => cellsAt (β.cutF f m p) ρ w b o l
  | [], _, _, _ => Pool.triv fun _ => trivial
  | c :: l, o, hc, ⟨⟨v, hv, h1⟩, h2⟩ => by
    simp only [okL, List.all_cons, Bool.and_eq_true] at hc
    exact ((cutF_C hm hc.1 h1).imp (Nat.le_refl _) fun p h => ⟨v, hv, h⟩).and (cutF_cells hc.2 h2)
theorem cutF_1 {agg : Bool} {l : List C} {v : Value} (hc : okL f l = true) (h : mt1 β ρ agg l v) : Pool β (cnL l) fun p => mt1 (β.cutF f m p) ρ agg l v := by
  unfold mt1 at *
  cases agg
  · obtain ⟨c, rfl, h⟩ := h
    simp only [okL, List.all_cons, List.all_nil, Bool.and_true] at hc
    exact (cutF_C hm hc h).imp (Nat.le_refl _) fun p h => ⟨c, rfl, h⟩
  · obtain ⟨vs, rfl, h⟩ := h
    exact (cutF_L hm hc h).imp (Nat.le_refl _) fun p h => ⟨vs, rfl, h⟩
theorem cutF_T : ∀ {l : List (Bool × List C)} {vs : List Value}, (l.all fun p => okL f p.2) = true → mtT β ρ l vs → Pool β (cnT l) fun p => mtT (β.cutF f m p) ρ l vs
  | [], [], _, _ => Pool.triv fun _ => trivial
  | p :: l, v :: vs, hc, ⟨h1, h2⟩ => by
    simp only [List.all_cons, Bool.and_eq_true] at hc
    exact (cutF_1 hm hc.1 h1).and (cutF_T hc.2 h2)
  | [], _ :: _, _, h => h.elim
  | _ :: _, [], _, h => h.elim
theorem cutF_S {s : S} {v : Value} (hc : okS f s = true) (h : s.mt β ρ v) : Pool β (cnS s) fun p => s.mt (β.cutF f m p) ρ v := by
  cases s with
  | one agg l => exact cutF_1 hm hc h
  | tup l => obtain ⟨vs, h1, h2⟩ := h; exact (cutF_T hm hc h2).imp (Nat.le_refl _) fun p h => ⟨vs, h1, h⟩
  | any => exact Pool.triv fun _ => trivial
theorem cutF_All : ∀ {xs : List S} {vs : List Value}, xs.all (okS f) = true → mtAll β ρ xs vs → Pool β (cnXs xs) fun p => mtAll (β.cutF f m p) ρ xs vs
  | [], [], _, _ => Pool.triv fun _ => trivial
  | x :: xs, v :: vs, hc, ⟨h1, h2⟩ => by
    simp only [List.all_cons, Bool.and_eq_true] at hc
    exact (cutF_S hm hc.1 h1).and (cutF_All hc.2 h2)
  | [], _ :: _, _, h => h.elim
  | _ :: _, [], _, h => h.elim
theorem cutF_blk {w : World} {id : Nat} {b : Blk} (hi : f id = true) (hc : okL f b.cells = true) (h : blkMt β ρ w id b) : Pool β (cnL b.cells) fun p => blkMt (β.cutF f m p) ρ w id b := by
  cases hv : vecOf b.cells with
  | none =>
    obtain ⟨r, hr, h0, hl, hro, hcs, hf⟩ := (blkMt_cs hv).1 h
    exact (cutF_cells hm hc hcs).imp (Nat.le_refl _) fun p hp => (blkMt_cs hv).2 ⟨r, cutF_kn hi hr, h0, hl, hro, hp, hf⟩
  | some y =>
    obtain ⟨h0, r, cap, l, hr, hh⟩ := (blkMt_row hv).1 h
    exact Pool.triv fun p => (blkMt_row hv).2 ⟨h0, r, cap, l, cutF_kn hi hr, hh⟩
theorem cutF_hl {w : World} : ∀ {l : List (Nat × Blk)}, (∀ q, q ∈ l → f q.1 = true ∧ okL f q.2.cells = true ∧ blkMt β ρ w q.1 q.2) → Pool β (cnHl l) fun p => ∀ q, q ∈ l → blkMt (β.cutF f m p) ρ w q.1 q.2
  | [], _ => Pool.triv fun p q h => by cases h
  | u :: l, hc => by
    obtain ⟨h1, h2, h3⟩ := hc u (by simp)
    refine ((cutF_blk hm h1 h2 h3).and (cutF_hl (w := w) fun q hq => hc q (by simp [hq]))).imp (Nat.le_refl _) fun p h q hq => ?_
    rcases List.mem_cons.1 hq with rfl | hq
    · exact h.1
    · exact h.2 q hq
end

/-! ### What is handed in, what comes out -/
def argIds : List S → List Nat
  | [] => []
  | x :: xs => sIds x ++ argIds xs
def calleeHp (ng lo : Nat) (Γ : Gd) (hp : Hp) : List Nat → Hl
  | [] => []
  | i :: l => if Nat.blt i ng || !(Nat.blt i lo) then calleeHp ng lo Γ hp l else match hp i with
    | some b => if Gd.sub b.g Γ && !b.cells.isEmpty then (i, { g := [], ro := b.ro, cells := b.cells }) :: calleeHp ng lo Γ hp l else calleeHp ng lo Γ hp l
    | none => calleeHp ng lo Γ hp l
theorem calleeHp_spec {ng lo : Nat} {Γ : Gd} {hp : Hp} : ∀ {l : List Nat} {i : Nat} {b : Blk}, hpOf (calleeHp ng lo Γ hp l) i = some b → ng ≤ i ∧ i < lo ∧ b.g = [] ∧ b.cells ≠ [] ∧ ∃ b', hp i = some b' ∧ Gd.sub b'.g Γ = true ∧ b.ro = b'.ro ∧ b.cells = b'.cells
  | [], i, b, h => by simp [calleeHp, hpOf] at h
  | j :: l, i, b, h => by
    unfold calleeHp at h
    split at h
    · exact calleeHp_spec h
    · rename_i hj
      simp only [Bool.or_eq_true, Nat.blt_eq, Bool.not_eq_true', not_or, Bool.not_eq_false, Nat.not_lt] at hj
      split at h
      · rename_i b' hb'
        split at h
        · rename_i hc
          simp only [Bool.and_eq_true, Bool.not_eq_true', List.isEmpty_eq_false_iff] at hc
          unfold hpOf at h
          split at h
          · rename_i he
            simp only [beq_iff_eq] at he
            simp only [Option.some.injEq] at h
            subst he; subst h
            exact ⟨hj.1, hj.2, rfl, hc.2, b', hb', hc.1, rfl, rfl⟩
          · exact calleeHp_spec h
        · exact calleeHp_spec h
      · exact calleeHp_spec h
def hasB (h : Hl) (i : Nat) : Bool := match hpOf h i with | some _ => true | none => false
/-- The blocks that were handed in and may have been written. -/
def outOld (h : Hl) : Hl → Option (List (Nat × Blk))
  | [] => some []
  | (i, b) :: l => match outOld h l with
    | none => none
    | some r => if b.ro then some r else match hpOf h i with
      | some b' => if b'.g.isEmpty && !b'.ro then some ((i, b') :: r) else none
      | none => none
/-- New ones. -/
def isNewB (lo : Nat) (b : Blk) (i : Nat) : Bool := Nat.ble lo i && b.g.isEmpty && !b.ro
def outNew (lo : Nat) (h : Hl) : List Nat → List (Nat × Blk)
  | [] => []
  | i :: l => match hpOf h i with
    | some b => if isNewB lo b i then (i, b) :: outNew lo h l else outNew lo h l
    | none => outNew lo h l
def knNew (lo : Nat) (h : Hl) (i : Nat) : Bool := match hpOf h i with | some b => isNewB lo b i | none => false
def tupOf : List S → Option (List (Bool × List C))
  | [] => some []
  | .one agg l :: r => (tupOf r).map ((agg, l) :: ·)
  | _ => none
def tupS : List S → Option S
  | [s] => some s
  | l => (tupOf l).map S.tup
theorem tupOf_mt {β : Beta} {ρ : Env} : ∀ {l : List S} {r : List (Bool × List C)} {vs : List Value}, tupOf l = some r → mtAll β ρ l vs → mtT β ρ r vs
  | [], r, vs, h, hm => by
    simp only [tupOf, Option.some.injEq] at h
    subst h
    cases vs with
    | nil => trivial
    | cons _ _ => exact hm.elim
  | .one agg l :: r, q, vs, h, hm => by
    unfold tupOf at h
    cases hr : tupOf r with
    | none => rw [hr] at h; simp at h
    | some t =>
      rw [hr] at h
      simp only [Option.map_some, Option.some.injEq] at h
      subst h
      cases vs with
      | nil => exact hm.elim
      | cons v vs => exact ⟨hm.1, tupOf_mt hr hm.2⟩
  | .tup _ :: _, _, _, h, _ => by simp [tupOf] at h
  | .any :: _, _, _, h, _ => by simp [tupOf] at h
theorem tupS_mt {β : Beta} {ρ : Env} {l : List S} {s : S} {vs : List Value} (h : tupS l = some s) (hm : mtAll β ρ l vs) : s.mt β ρ (tupV vs) := by
  unfold tupS at h
  split at h
  · rename_i s'
    simp only [Option.some.injEq] at h
    subst h
    match vs, hm with
    | [v], ⟨h1, _⟩ => exact h1
  · rename_i hne
    cases ht : tupOf l with
    | none => rw [ht] at h; simp at h
    | some t =>
      rw [ht] at h
      simp only [Option.map_some, Option.some.injEq] at h
      subst h
      have := tupOf_mt ht hm
      match vs, hm with
      | [], _ => exact ⟨_, rfl, this⟩
      | [v], hm =>
        match l, hm, hne with
        | [s], _, hne => exact (hne s rfl).elim
      | v :: u :: vs, _ => exact ⟨_, rfl, this⟩

def knOf (ng : Nat) (hl : Hl) (i : Nat) : Bool := Nat.blt i ng || hasB hl i
def knEnd (ng lo mid : Nat) (hl h : Hl) (i : Nat) : Bool := Nat.blt i mid && (knOf ng hl i || knNew lo h i)
def inlOk (ng lo : Nat) (hl : Hl) (xs : List S) : Bool :=
  Nat.ble ng lo && xs.all (okS (knOf ng hl)) && hl.all fun p => okL (knOf ng hl) p.2.cells
def inlW (lo : Nat) (h : Hl) (old : List (Nat × Blk)) : List (Nat × Blk) := old ++ outNew lo h (dedupN (h.map (·.1)))
def inlE (ng lo mid : Nat) (hl h : Hl) (s : S) (w : List (Nat × Blk)) : Bool :=
  okS (knEnd ng lo mid hl h) s && w.all fun p => knEnd ng lo mid hl h p.1 && okL (knEnd ng lo mid hl h) p.2.cells
/-- Which of the blocks that are handed in are rows. -/
def isVecH (hl : Hl) (i : Nat) : Bool := match hpOf hl i with | some b => (vecOf b.cells).isSome | none => false
def rowsIn (hl : Hl) : Bool := hl.any fun p => isVecH hl p.1
/-- Rows that are handed in and moved. -/
def rbIn (hl : Hl) (rb : List Nat) : List Nat := (hl.map (·.1)).filter fun i => isVecH hl i && rb.contains i
def ctlH (k : Ctl) (lo : Nat) (hl : Hl) : Ctl := { k with base := lo, keep := { k.keep with fz := k.keep.fz && !rowsIn hl } }
def inlSt (fn : Func) (xs : List S) (hl : Hl) : St := { tm := xs.map (fun s => { g := [], s := s }) ++ List.replicate (fn.ntmps - xs.length) anySV, hp := hl }
def inlB (P : Program) (H : Hnd) (gl : Gl) (k : Ctl) (fn : Func) (xs : List S) (lo : Nat) (body : Code) (hl : Hl) : M Res :=
  if inlOk gl.length lo hl xs then do
    let _ ← newIds (cnXs xs + cnHl hl)
    let O ← M.mono (exec P H (ghOf gl 0) gl.length (ctlH k lo hl) body (inlSt fn xs hl))
    let σ ← M.mono (endSt (ctlH k lo hl).keep O)
    let rs ← M.mono (rAll P (ghOf gl 0) gl.length σ fn.results.toList)
    let s ← lift (tupS rs)
    let old ← lift (outOld σ.hp hl)
    let mid ← getId
    let _ ← newIds (cnS s + cnHl (inlW lo σ.hp old))
    if inlE gl.length lo mid hl σ.hp s (inlW lo σ.hp old) then pure { s := s, w := inlW lo σ.hp old, rb := rbIn hl σ.rb } else M.fail
  else M.fail
def inlM (P : Program) (H : Hnd) (gl : Gl) (k : Ctl) (fn : Func) (Γ : Gd) (hp : Hp) (xs : List S) : M Res := do
  let lo ← getId
  let body ← lift fn.body
  inlB P H gl k fn xs lo body (calleeHp gl.length lo Γ hp (dedupN (reachH hp 3 (argIds xs))))
end Go.Proofs.Ytgbgibbonhklgaa.Sx
namespace Go.Proofs.Ytgbgibbonhklgaa.Sx
open Go

theorem hasB_some {h : Hl} {i : Nat} : hasB h i = true ↔ ∃ b, hpOf h i = some b := by
  unfold hasB
  cases hpOf h i <;> simp
theorem outOld_spec {h : Hl} : ∀ {l : Hl} {r : List (Nat × Blk)}, outOld h l = some r → (∀ p, p ∈ r → hpOf h p.1 = some p.2 ∧ p.2.g = [] ∧ p.2.ro = false ∧ p.1 ∈ l.map (·.1)) ∧ ∀ i b, (i, b) ∈ l → b.ro = false → i ∈ r.map (·.1)
  | [], r, e => by
    simp only [outOld, Option.some.injEq] at e
    subst e
    exact ⟨fun p hp => (by cases hp), fun i b hb => (by cases hb)⟩
  | (j, b0) :: l, r, e => by
    unfold outOld at e
    split at e
    · cases e
    · rename_i r' hr'
      obtain ⟨h1, h2⟩ := outOld_spec hr'
      split at e
      · rename_i hro
        simp only [Option.some.injEq] at e
        subst e
        refine ⟨fun p hp => ?_, fun i b hb hbr => ?_⟩
        · obtain ⟨a1, a2, a3, a4⟩ := h1 p hp
          exact ⟨a1, a2, a3, by simp only [List.map_cons, List.mem_cons]; exact .inr a4⟩
        · rcases List.mem_cons.1 hb with e | hb
          · cases e; rw [hro] at hbr; cases hbr
          · exact h2 i b hb hbr
      · split at e
        · rename_i b' hb'
          split at e
          · rename_i hc
            simp only [Bool.and_eq_true, List.isEmpty_iff, Bool.not_eq_true'] at hc
            simp only [Option.some.injEq] at e
            subst e
            refine ⟨fun p hp => ?_, fun i b hb hbr => ?_⟩
            · rcases List.mem_cons.1 hp with rfl | hp
              · exact ⟨hb', hc.1, hc.2, by simp⟩
              · obtain ⟨a1, a2, a3, a4⟩ := h1 p hp
                exact ⟨a1, a2, a3, by simp only [List.map_cons, List.mem_cons]; exact .inr a4⟩
            · rcases List.mem_cons.1 hb with e | hb
              · cases e; simp
              · simp only [List.map_cons, List.mem_cons]; exact .inr (h2 i b hb hbr)
          · cases e
        · cases e
theorem isNewB_spec {lo : Nat} {b : Blk} {i : Nat} (h : isNewB lo b i = true) : lo ≤ i ∧ b.g = [] ∧ b.ro = false := by
  unfold isNewB at h
  simp only [Bool.and_eq_true, Nat.ble_eq, List.isEmpty_iff, Bool.not_eq_true'] at h
  exact ⟨h.1.1, h.1.2, h.2⟩
theorem outNew_spec {lo : Nat} {h : Hl} : ∀ {l : List Nat} {p : Nat × Blk}, p ∈ outNew lo h l → hpOf h p.1 = some p.2 ∧ lo ≤ p.1 ∧ p.2.g = [] ∧ p.2.ro = false
  | [], p, hp => by cases hp
  | i :: l, p, hp => by
    unfold outNew at hp
    split at hp
    · rename_i b hb
      split at hp
      · rename_i hc
        rcases List.mem_cons.1 hp with rfl | hp
        · obtain ⟨h1, h2, h3⟩ := isNewB_spec hc
          exact ⟨hb, h1, h2, h3⟩
        · exact outNew_spec hp
      · exact outNew_spec hp
    · exact outNew_spec hp
theorem hpOf_key {h : Hl} {i : Nat} (hm : i ∈ h.map (·.1)) : ∃ b, hpOf h i = some b := by
  cases hc : hpOf h i with
  | some b => exact ⟨b, rfl⟩
  | none => exact absurd hm (hpOf_none hc)
theorem mtAll_len {β : Beta} {ρ : Env} : ∀ {xs : List S} {vs : List Value}, mtAll β ρ xs vs → xs.length = vs.length
  | [], [], _ => rfl
  | _ :: _, _ :: _, h => by simp [mtAll_len h.2]
/-- What stands for a stretch that is not there. -/
def rg0 : Rg := { blk := 0, off := 0, len := 0, ro := true }
/-- Which of the stretches that are handed in may be written. -/
def wrIds (hl : Hl) : List Nat := (hl.map (·.1)).filter fun i => match hpOf hl i with | some b => !b.ro | none => false
theorem wrIds_mem {hl : Hl} {i : Nat} : i ∈ wrIds hl ↔ ∃ b, hpOf hl i = some b ∧ b.ro = false := by
  unfold wrIds
  rw [List.mem_filter]
  constructor
  · rintro ⟨_, h⟩
    split at h
    · rename_i b hb; exact ⟨b, hb, by simpa using h⟩
    · cases h
  · rintro ⟨b, hb, hro⟩
    exact ⟨List.mem_map.2 ⟨_, hpOf_mem' hb, rfl⟩, by rw [hb]; simp [hro]⟩
def wrRg (β : Beta) (hl : Hl) : List Rg := (wrIds hl).map fun i => (β i).getD rg0
/-- Those of them that are no rows. -/
def wrIdsN (hl : Hl) : List Nat := (wrIds hl).filter fun i => !isVecH hl i
def wrRgN (β : Beta) (hl : Hl) : List Rg := (wrIdsN hl).map fun i => (β i).getD rg0
theorem wrIdsN_all {hl : Hl} (h : rowsIn hl = false) : wrIdsN hl = wrIds hl := by
  unfold wrIdsN
  rw [List.filter_eq_self]
  intro i hi
  cases hv : isVecH hl i with
  | false => rfl
  | true =>
    obtain ⟨b, hb, _⟩ := wrIds_mem.1 hi
    unfold rowsIn at h
    rw [List.any_eq_false] at h
    exact absurd hv (h _ (hpOf_mem' hb))
theorem rbIn_mem {hl : Hl} {rb : List Nat} {i : Nat} : i ∈ rbIn hl rb ↔ isVecH hl i = true ∧ i ∈ rb := by
  unfold rbIn
  rw [List.mem_filter]
  simp only [Bool.and_eq_true, List.contains_iff_mem]
  refine ⟨fun h => h.2, fun h => ⟨?_, h⟩⟩
  have h1 := h.1
  unfold isVecH at h1
  split at h1
  · rename_i b hb; exact List.mem_map.2 ⟨_, hpOf_mem' hb, rfl⟩
  · cases h1
/-- What never changes in the walk of a function that is entered. -/
def inCx (β : Beta) (gl : Gl) (w : World) (hl : Hl) (b0 : Beta) : Cx :=
  { w0 := w, R := wrRg β hl, gl := gl, gr := wrRgN β hl, Q := fun q => ∃ i0 r0, β i0 = some r0 ∧ r0.ro = true ∧ q.within r0, b0 := b0, gi := fun j => (wrIdsN hl).getD j 0 }
theorem cutF_bo {N : Nat} {R R2 : List Rg} {Q : Rg → Prop} {β : Beta} {w : World} {f : Nat → Bool} {m : Nat} {p : List Rg} (hb : BetaOk N R Q β w) (hp : ∀ r, r ∈ p → ∃ i, β i = some r ∧ r.sq.isSome = true) (hcov : ∀ i r, f i = true → β i = some r → r.ro = false → r ∈ R2) :
    BetaOk w.heap.size R2 (fun q => ∃ i0 r0, β i0 = some r0 ∧ r0.ro = true ∧ q.within r0) (β.cutF f m p) w := by
  have hsq : ∀ i r, β i = some r → r.sq.isSome = true → r.ro = true ∧ r.row = false := fun i r hi hs => by
    obtain ⟨x, hx⟩ := Option.isSome_iff_exists.1 hs
    have := hb.sq i r x.1 x.2 hi hx
    exact ⟨this.1, this.2.1⟩
  have key : ∀ {i : Nat} {r : Rg}, β.cutF f m p i = some r → ∃ i0, β i0 = some r ∧ (i0 = i ∧ f i = true ∨ r.ro = true ∧ r.row = false) := fun h => cutF_from hsq hp h
  refine ⟨fun i j r q hij hi hj => ?_, fun i r hi => ?_, fun i r hi => ?_, fun i r ks l hi hs => ?_, fun i r hi hro => ?_, fun r q hq hw => ?_, fun i r hi hrow => ?_⟩
  · obtain ⟨i0, e1, e2⟩ := key hi
    obtain ⟨j0, e3, e4⟩ := key hj
    by_cases he : i0 = j0
    · subst he
      rw [e1] at e3
      cases e3
      rcases e2 with e2 | e2
      · rcases e4 with e4 | e4
        · exact absurd (e2.1.symm.trans e4.1) hij
        · exact .inl ⟨e4.1, e4.1⟩
      · exact .inl ⟨e2.1, e2.1⟩
    · exact hb.apart i0 j0 r q he e1 e3
  · obtain ⟨i0, e1, _⟩ := key hi; exact hb.place i0 r e1
  · obtain ⟨i0, e1, e2⟩ := key hi
    rcases e2 with e2 | e2
    · cases hro : r.ro with
      | true => exact .inl rfl
      | false => exact .inr (.inr ⟨r, hcov i r e2.2 (by rw [← e2.1]; exact e1) hro, rfl, Nat.le_refl _, Nat.le_refl _⟩)
    · exact .inl e2.1
  · obtain ⟨i0, e1, _⟩ := key hi; exact hb.sq i0 r ks l e1 hs
  · obtain ⟨i0, e1, _⟩ := key hi; exact .inr ⟨i0, r, e1, hro, Rg.within_refl r⟩
  · obtain ⟨i0, r0, e1, e2, e3⟩ := hq; exact ⟨i0, r0, e1, e2, Rg.within_trans hw e3⟩
  · obtain ⟨i0, e1, _⟩ := key hi; exact hb.rw i0 r e1 hrow

section
variable {P : Program} {Φ : Funs} {gl : Gl}
theorem knOf_lt {lo : Nat} {Γ : Gd} {hp : Hp} {ids : List Nat} {hl : Hl} (hhl : hl = calleeHp gl.length lo Γ hp ids) (hlo : gl.length ≤ lo) : CutOk (knOf gl.length hl) lo := fun i hi => by
  cases h : knOf gl.length hl i with
  | false => rfl
  | true =>
    unfold knOf at h
    simp only [Bool.or_eq_true, Nat.blt_eq] at h
    rcases h with h | h
    · omega
    · obtain ⟨b, hb'⟩ := hasB_some.1 h
      rw [hhl] at hb'
      obtain ⟨_, h2, _⟩ := calleeHp_spec hb'
      omega
/-- What the callee is told of holds where it is called. -/
theorem inl_rel {Γ : Gd} {hp : Hp} {xs : List S} {ρ : Env} {N : Nat} {R : List Rg} {Q : Rg → Prop} {β : Beta} {w : World} {vs : List Value} {lo : Nat} {ids : List Nat} {hl : Hl} (hhl : hl = calleeHp gl.length lo Γ hp ids) (hok : inlOk gl.length lo hl xs = true)
    (hΓ : Gd.d ρ Γ = true) (hm : mtAll β ρ xs vs) (hh : heapMt β ρ hp w) (hb : BetaOk N R Q β w) (hG : GB gl β w) (fn : Func) :
    ∃ p : List Rg, p.length ≤ cnXs xs + cnHl hl ∧ Rel (inCx β gl w hl (β.cutF (knOf gl.length hl) lo p)) ρ (β.cutF (knOf gl.length hl) lo p) (inlSt fn xs hl) { tmps := vs.toArray ++ Array.replicate (fn.ntmps - vs.toArray.size) undef, defers := [] } w ∧
      (∀ i b, hpOf hl i = some b → ∃ r, β i = some r ∧ β.cutF (knOf gl.length hl) lo p i = some r ∧ r.ro = b.ro ∧ r.row = isVecH hl i ∧ i < lo ∧ gl.length ≤ i ∧ (r.len ≠ 0 → ∃ j v, w.cell? ⟨r.blk, j, none⟩ = some v)) := by
  unfold inlOk at hok
  simp only [Bool.and_eq_true, Nat.ble_eq] at hok
  obtain ⟨⟨hlo, hxs⟩, hcs⟩ := hok
  have hcut : CutOk (knOf gl.length hl) lo := knOf_lt hhl hlo
  have hblk : ∀ i b, hpOf hl i = some b → knOf gl.length hl i = true ∧ okL (knOf gl.length hl) b.cells = true ∧ blkMt β ρ w i b ∧ ∃ r, β i = some r ∧ r.ro = b.ro ∧ r.row = isVecH hl i ∧ i < lo ∧ gl.length ≤ i ∧ (r.len ≠ 0 → ∃ j v, w.cell? ⟨r.blk, j, none⟩ = some v) := fun i b hi => by
    have hi' := hi
    rw [hhl] at hi'
    obtain ⟨h1, h2, h3, h4, b', hb', hsub, hro, hc⟩ := calleeHp_spec hi'
    have hmb := hh i b' hb' (Gd.sub_d hsub hΓ)
    have hcb : okL (knOf gl.length hl) b.cells = true := by
      rw [List.all_eq_true] at hcs
      exact hcs _ (hpOf_mem' hi)
    cases hv : vecOf b'.cells with
    | none =>
      have h5 : vecOf b.cells = none := by rw [hc]; exact hv
      have h6 : isVecH hl i = false := by unfold isVecH; rw [hi]; simp only [h5]; rfl
      obtain ⟨r, hr, hrow, hl', hro', hca, hf⟩ := (blkMt_cs hv).1 hmb
      refine ⟨by unfold knOf; simp [hasB_some.2 ⟨b, hi⟩], hcb, (blkMt_cs h5).2 ⟨r, hr, hrow, by rw [hl', hc], by rw [hro', hro], by rw [hc]; exact hca, fun h0 j hj => hf (by rw [← hro]; exact h0) j (by rw [← hc]; exact hj)⟩, r, hr, by rw [hro', hro], by rw [hrow, h6], h2, h1, fun _ => ?_⟩
      rw [cellsAt_iff] at hca
      rw [hc] at h4
      obtain ⟨v, hv, _⟩ := hca 0 _ (List.getElem?_eq_getElem (List.length_pos_iff.2 h4))
      exact ⟨_, v, hv⟩
    | some y =>
      have h5 : vecOf b.cells = some y := by rw [hc]; exact hv
      have h6 : isVecH hl i = true := by unfold isVecH; rw [hi]; simp only [h5]; rfl
      obtain ⟨h0, hrm⟩ := (blkMt_row hv).1 hmb
      have hrm0 := hrm
      obtain ⟨r, cap, l, hr, hrow, hro', _, _, _, _, _, _, _, _, hcell⟩ := hrm
      refine ⟨by unfold knOf; simp [hasB_some.2 ⟨b, hi⟩], hcb, (blkMt_row h5).2 ⟨by rw [hro, h0], hrm0⟩, r, hr, by rw [hro', hro, h0], by rw [hrow, h6], h2, h1, fun hz => ?_⟩
      obtain ⟨⟨v, hv, _⟩, _⟩ := hcell 0 (by omega)
      exact ⟨_, v, hv⟩
  -- each of them, by its number
  obtain ⟨hl1, hhl1⟩ : ∃ hl1, hl1 = ((hl.map (·.1)).filterMap fun i => (hpOf hl i).map fun b => (i, b)) := ⟨_, rfl⟩
  have hmem : ∀ q : Nat × Blk, hpOf hl q.1 = some q.2 → q ∈ hl := fun q hq => hpOf_mem' hq
  have hpool := (cutF_All hcut hxs hm).and (k := cnXs xs) (l := cnHl hl) (X := fun p => mtAll (β.cutF (knOf gl.length hl) lo p) ρ xs vs) (Y := fun p => ∀ q, q ∈ hl → hpOf hl q.1 = some q.2 → blkMt (β.cutF (knOf gl.length hl) lo p) ρ w q.1 q.2) (by
    have key : ∀ l : Hl, Pool β (cnHl l) fun p => ∀ q, q ∈ l → hpOf hl q.1 = some q.2 → blkMt (β.cutF (knOf gl.length hl) lo p) ρ w q.1 q.2 := by
      intro l
      induction l with
      | nil => exact Pool.triv fun p q h => by cases h
      | cons u l ih =>
        have h0 : Pool β (cnL u.2.cells) fun p => hpOf hl u.1 = some u.2 → blkMt (β.cutF (knOf gl.length hl) lo p) ρ w u.1 u.2 := Pool.if fun h => by
          obtain ⟨e1, e2, e3, _⟩ := hblk u.1 u.2 h
          exact cutF_blk hcut e1 e2 e3
        refine (h0.and ih).imp (Nat.le_refl _) fun p h q hq => ?_
        rcases List.mem_cons.1 hq with rfl | hq
        · exact h.1
        · exact h.2 q hq
    exact key hl)
  obtain ⟨p, hp1, hp2, hp3⟩ := hpool
  obtain ⟨hm', hh'⟩ := hp3 p fun _ h => h
  have hkn : ∀ i r, knOf gl.length hl i = true → β i = some r → β.cutF (knOf gl.length hl) lo p i = some r := fun i r hk hi => cutF_kn hk hi
  have hcov : ∀ i r, knOf gl.length hl i = true → β i = some r → r.ro = false → r ∈ wrRg β hl := fun i r hk hi hro => by
    unfold knOf at hk
    simp only [Bool.or_eq_true, Nat.blt_eq] at hk
    rcases hk with hk | hk
    · have := hG.2 i _ (List.getElem?_eq_getElem hk)
      rw [hi] at this
      simp only [Option.some.injEq] at this
      rw [this] at hro
      cases hro
    · obtain ⟨b, hb'⟩ := hasB_some.1 hk
      obtain ⟨_, _, _, r', e1, e2, _⟩ := hblk i b hb'
      rw [hi] at e1
      cases e1
      unfold wrRg
      exact List.mem_map.2 ⟨i, wrIds_mem.2 ⟨b, hb', by rw [← e2]; exact hro⟩, by rw [hi]; rfl⟩
  refine ⟨p, hp1, ⟨?_, fun t v ht => ?_, Lk.nil rfl rfl _, fun i b hi _ => hh' (i, b) (hpOf_mem' hi) hi, ?_, fun id b hb' => ?_, cutF_bo hb hp2 hcov, Keep.refl _ _, fun g us hg => ?_, fun j r hr => ?_, ExtP.refl _ _⟩, fun i b hi => ?_⟩
  · simp [inlSt, mtAll_len hm]
  · have key : ∀ {xs : List S} {vs : List Value} {n : Nat} {t : Nat} {v : SV} {β : Beta}, mtAll β ρ xs vs → (xs.map (fun s => ({ g := [], s := s } : SV)) ++ List.replicate n anySV)[t]? = some v → v.mt β ρ ((vs ++ List.replicate n undef).getD t undef) := by
      intro xs
      induction xs with
      | nil =>
        intro vs n t v β hm ht
        simp only [List.map_nil, List.nil_append, List.getElem?_replicate] at ht
        split at ht
        · simp only [Option.some.injEq] at ht
          subst ht
          exact anySV_mt _
        · cases ht
      | cons x xs ih =>
        intro vs n t v β hm ht
        cases vs with
        | nil => exact hm.elim
        | cons u vs =>
          cases t with
          | zero =>
            simp at ht
            subst ht
            exact ⟨fun _ => by simpa using hm.1, fun h => by cases h⟩
          | succ t =>
            have := ih (vs := vs) (n := n) (t := t) (v := v) hm.2 (by simpa using ht)
            simpa using this
    have hlen := mtAll_len hm
    have := key hm' ht
    rw [hlen] at this
    rw [List.getD_eq_getElem?_getD] at this
    have e : (vs.toArray ++ Array.replicate (fn.ntmps - vs.toArray.size) undef).getD t undef = ((vs ++ List.replicate (fn.ntmps - vs.length) undef)[t]?).getD undef := by
      have : (vs.toArray ++ Array.replicate (fn.ntmps - vs.toArray.size) undef) = (vs ++ List.replicate (fn.ntmps - vs.length) undef).toArray := by
        apply Array.toList_inj.1; simp
      rw [this]
      simp
    rw [e]
    exact this
  · intro id b hb' _
    obtain ⟨us, hus, _, rfl⟩ := ghOf_get hb'
    rw [Nat.sub_zero] at hus
    have hus : gl[id]? = some us := hus
    have hlt : id < gl.length := (List.getElem?_eq_some_iff.1 hus).1
    refine blkMt_mk ⟨_, hkn _ _ (by unfold knOf; simp [hlt]) (hG.2 id us hus), rfl, by simp [gRg], rfl, ?_, fun h => by cases h⟩
    rw [cellsAt_iff]
    intro j c hj
    rw [List.getElem?_map] at hj
    cases hu : us[j]? with
    | none => rw [hu] at hj; simp at hj
    | some u =>
      rw [hu] at hj
      simp only [Option.map_some, Option.some.injEq] at hj
      subst hj
      have hl := (hG.1 id us hus).2 j u hu
      exact ⟨u, by simpa [gRg] using hl.1, ofC_mt hl.2⟩
  · obtain ⟨us, _, _, rfl⟩ := ghOf_get hb'
    rfl
  · have hg : gl[g]? = some us := hg
    have hlt : g < gl.length := (List.getElem?_eq_some_iff.1 hg).1
    exact hkn _ _ (by unfold knOf; simp [hlt]) (hG.2 g us hg)
  · have hr : (wrRgN β hl)[j]? = some r := hr
    unfold wrRgN at hr
    rw [List.getElem?_map, Option.map_eq_some_iff] at hr
    obtain ⟨i, hi, rfl⟩ := hr
    have hmem' := List.mem_of_getElem? hi
    unfold wrIdsN at hmem'
    obtain ⟨hm1, hm2⟩ := List.mem_filter.1 hmem'
    obtain ⟨b, hb', hro⟩ := wrIds_mem.1 hm1
    obtain ⟨e0, _, _, r', e1, e2, e3, _⟩ := hblk i b hb'
    rw [e1]
    refine ⟨?_, ?_⟩
    · show r'.row = false
      rw [e3]; simpa using hm2
    show β.cutF (knOf gl.length hl) lo p ((wrIdsN hl).getD j 0) = some r'
    rw [List.getD_eq_getElem?_getD, hi]
    exact hkn _ _ e0 e1
  · obtain ⟨e0, _, _, r', e1, e2, e3, e4, e5, e6⟩ := hblk i b hi
    exact ⟨r', e1, hkn _ _ e0 e1, e2, e3, e4, e5, e6⟩
/-- All stretches, behind the call. -/
def beOut (β δ : Beta) (lo hi : Nat) (rb : List Nat) : Beta := fun i => if (lo ≤ i ∧ i < hi) ∨ i ∈ rb then δ i else β i
theorem beOut_old {β δ : Beta} {lo hi i : Nat} {rb : List Nat} (h : ¬ ((lo ≤ i ∧ i < hi) ∨ i ∈ rb)) : beOut β δ lo hi rb i = β i := by unfold beOut; rw [if_neg h]
theorem beOut_new {β δ : Beta} {lo hi i : Nat} {rb : List Nat} (h : (lo ≤ i ∧ i < hi) ∨ i ∈ rb) : beOut β δ lo hi rb i = δ i := by unfold beOut; rw [if_pos h]
/-- All that was known before, or comes new, is known behind it. -/
theorem inl_post {ρ : Env} {N : Nat} {R : List Rg} {Q : Rg → Prop} {β γ β' : Beta} {w w' : World} {lo mid hi : Nat} {hl : Hl} {xs : List S} (hok : inlOk gl.length lo hl xs = true) {σ : St} {old : List (Nat × Blk)} (hold : outOld σ.hp hl = some old) {s : S} (hend : inlE gl.length lo mid hl σ.hp s (inlW lo σ.hp old) = true)
    {v : Value} (hs : s.mt β' ρ v) (hb : BetaOk N R Q β w) (hN : N ≤ w.heap.size) (hG : GB gl β w) (hfr : ∀ i, lo ≤ i → i < hi → β i = none) (hlm : lo ≤ mid) (hmh : mid + (cnS s + cnHl (inlW lo σ.hp old)) ≤ hi)
    (hknown : ∀ i b, hpOf hl i = some b → ∃ r, β i = some r ∧ γ i = some r ∧ r.ro = b.ro ∧ r.row = isVecH hl i ∧ i < lo ∧ gl.length ≤ i ∧ (r.len ≠ 0 → ∃ j v, w.cell? ⟨r.blk, j, none⟩ = some v))
    (hE : Ext γ β') {a : Act} (hrel : Rel (inCx β gl w hl γ) ρ β' σ a w') :
    RPost N R Q ρ β w lo hi { s := s, w := inlW lo σ.hp old, rb := rbIn hl σ.rb } v w' := by
  unfold inlOk at hok
  simp only [Bool.and_eq_true, Nat.ble_eq] at hok
  obtain ⟨⟨hlo, _⟩, _⟩ := hok
  unfold inlE at hend
  simp only [Bool.and_eq_true] at hend
  obtain ⟨hend1, hend2⟩ := hend
  obtain ⟨ho1, ho2⟩ := outOld_spec hold
  have hcut : CutOk (knEnd gl.length lo mid hl σ.hp) mid := fun i hi => by
    have : Nat.blt i mid = false := by
      cases h : Nat.blt i mid
      · rfl
      · rw [Nat.blt_eq] at h; omega
    unfold knEnd
    rw [this, Bool.false_and]
  -- what is answered holds, told by few
  have hW : ∀ q, q ∈ inlW lo σ.hp old → knEnd gl.length lo mid hl σ.hp q.1 = true ∧ okL (knEnd gl.length lo mid hl σ.hp) q.2.cells = true ∧ blkMt β' ρ w' q.1 q.2 := fun q hq => by
    have h1 := (List.all_eq_true.1 hend2) q hq
    simp only [Bool.and_eq_true] at h1
    refine ⟨h1.1, h1.2, ?_⟩
    simp only [inlW, List.mem_append] at hq
    rcases hq with hq | hq
    · obtain ⟨a1, a2, _⟩ := ho1 q hq
      exact hrel.hm q.1 q.2 a1 (by rw [a2]; rfl)
    · obtain ⟨a1, _, a3, _⟩ := outNew_spec hq
      exact hrel.hm q.1 q.2 a1 (by rw [a3]; rfl)
  obtain ⟨p, hp1, hp2, hp3⟩ := (cutF_S hcut hend1 hs).and (cutF_hl hcut (ρ := ρ) hW)
  obtain ⟨hs', hW'⟩ := hp3 p fun _ h => h
  obtain ⟨δ, hδ⟩ : ∃ δ, δ = β'.cutF (knEnd gl.length lo mid hl σ.hp) mid p := ⟨_, rfl⟩
  rw [← hδ] at hs' hW'
  have hsqo : ∀ i r, β' i = some r → r.sq.isSome = true → r.ro = true ∧ r.row = false := fun i r hi hs => by
    obtain ⟨x, hx⟩ := Option.isSome_iff_exists.1 hs
    have := hrel.bo.sq i r x.1 x.2 hi hx
    exact ⟨this.1, this.2.1⟩
  have hfrom : ∀ {i : Nat} {r : Rg}, δ i = some r → ∃ i0, β' i0 = some r ∧ (i0 = i ∧ knEnd gl.length lo mid hl σ.hp i = true ∨ r.ro = true ∧ r.row = false) := fun h => cutF_from hsqo hp2 (by rw [← hδ]; exact h)
  obtain ⟨rb, hrb⟩ : ∃ rb, rb = rbIn hl σ.rb := ⟨_, rfl⟩
  rw [← hrb]
  have hstay : ∀ i b r, hpOf hl i = some b → i ∉ rb → β i = some r → β' i = some r := fun i b r hi' hn hr => by
    obtain ⟨r', e1, e2, _, e3, _⟩ := hknown i b hi'
    rw [hr] at e1
    cases e1
    refine hrel.eb i r e2 ?_
    cases hv : isVecH hl i with
    | false => exact .inl (by rw [e3, hv])
    | true =>
      right
      show (!σ.rb.contains i) = true
      cases hc : σ.rb.contains i with
      | false => rfl
      | true => exact absurd (rbIn_mem.2 ⟨hv, by simpa using hc⟩) (by rw [← hrb]; exact hn)
  have hrbk : ∀ i, i ∈ rb → ∃ b r, hpOf hl i = some b ∧ β i = some r ∧ r.row = true ∧ r.ro = false ∧ b.ro = false ∧ i < lo := fun i hi' => by
    rw [hrb] at hi'
    have hv := (rbIn_mem.1 hi').1
    have hv' := hv
    unfold isVecH at hv'
    split at hv'
    · rename_i b hb'
      obtain ⟨r', e1, _, e3, e4, e5, _⟩ := hknown i b hb'
      have e6 : r'.row = true := by rw [e4, hv]
      have e7 := hb.rw i r' e1 e6
      exact ⟨b, r', hb', e1, e6, e7, by rw [← e3]; exact e7, e5⟩
    · cases hv'
  have hsub : ∀ i r, δ i = some r → beOut β δ lo hi rb i = some r := fun i r hi' => by
    by_cases h : (lo ≤ i ∧ i < hi) ∨ i ∈ rb
    · rw [beOut_new h]; exact hi'
    · rw [beOut_old h]
      rw [hδ] at hi'
      rcases cutF_inv hi' with ⟨h1, h2⟩ | ⟨h1, h2⟩
      · unfold knEnd at h1
        simp only [Bool.and_eq_true, Nat.blt_eq, Bool.or_eq_true] at h1
        have hlt : i < lo := by
          rcases Nat.lt_or_ge i lo with h3 | h3
          · exact h3
          · exact absurd (.inl ⟨h3, by omega⟩) h
        rcases h1.2 with hk | hk
        · unfold knOf at hk
          simp only [Bool.or_eq_true, Nat.blt_eq] at hk
          rcases hk with hk | hk
          · have e1 := hrel.gl i _ (List.getElem?_eq_getElem hk)
            have e2 := hG.2 i _ (List.getElem?_eq_getElem hk)
            rw [h2] at e1
            rw [e2, e1]
          · obtain ⟨b, hb'⟩ := hasB_some.1 hk
            obtain ⟨r', e1, _⟩ := hknown i b hb'
            have := hstay i b r' hb' (fun h4 => h (.inr h4)) e1
            rw [h2] at this
            rw [e1]
            exact this.symm
        · unfold knNew at hk
          split at hk
          · obtain ⟨e1, _⟩ := isNewB_spec hk; omega
          · cases hk
      · have := (List.getElem?_eq_some_iff.1 h2).1
        exact absurd (.inl ⟨by omega, by omega⟩) h
  have hmv : Mv (fun _ => true) δ (beOut β δ lo hi rb) := ⟨fun i r hi' _ => hsub i r hi', fun i r hi' hs => by
    obtain ⟨i0, e1, _⟩ := hfrom hi'
    exact hsqo i0 r e1 hs⟩
  have hsz : w.heap.size ≤ w'.heap.size := hrel.kp.size
  have hR2 : ∀ r, r ∈ wrRg β hl → ∃ i b, hpOf hl i = some b ∧ β i = some r ∧ r.ro = false ∧ b.ro = false ∧ i < lo ∧ (r.len ≠ 0 → ∃ j v, w.cell? ⟨r.blk, j, none⟩ = some v) := fun r hr => by
    unfold wrRg at hr
    obtain ⟨i, hi', rfl⟩ := List.mem_map.1 hr
    obtain ⟨b, hb', hro⟩ := wrIds_mem.1 hi'
    obtain ⟨r', e1, e2, e3, e4, e5, e6, e7⟩ := hknown i b hb'
    rw [e1]
    exact ⟨i, b, hb', e1, by simpa [hro] using e3, hro, e5, e7⟩
  -- a new stretch is new, or within one that may be written, or within one that is read
  have hnew : ∀ j q, β' j = some q → w.heap.size ≤ q.blk ∨ (q.ro = false ∧ ∃ i0 q0, i0 < lo ∧ β i0 = some q0 ∧ (i0 ∉ rb → β' i0 = some q0) ∧ q0.ro = false ∧ q0.blk = q.blk ∧ q0.off ≤ q.off ∧ q.off + q.len ≤ q0.off + q0.len) ∨ (q.ro = true ∧ ∃ i0 r0, β i0 = some r0 ∧ r0.ro = true ∧ q.within r0) := fun j q h3 => by
    cases hro : q.ro with
    | false =>
      rcases hrel.bo.may j q h3 with h | h
      · rw [hro] at h; cases h
      · rcases h with h | ⟨q0, hq0, e1, e2, e3⟩
        · exact .inl h
        · obtain ⟨i0, b0, g1, g2, g3, _, g4, _⟩ := hR2 q0 hq0
          exact .inr (.inl ⟨rfl, i0, q0, g4, g2, fun hn => hstay i0 b0 q0 g1 hn g2, g3, e1, e2, e3⟩)
    | true =>
      rcases hrel.bo.rom j q h3 hro with h | h
      · exact .inl h
      · exact .inr (.inr ⟨rfl, h⟩)
  have hold_new : ∀ i j r q, ¬ ((lo ≤ i ∧ i < hi) ∨ i ∈ rb) → ((lo ≤ j ∧ j < hi) ∨ j ∈ rb) → β i = some r → δ j = some q → (r.ro = true ∧ q.ro = true) ∨ r.apart q := fun i j r q h1 h2 h3 h4 => by
    obtain ⟨j0, k1, k2⟩ := hfrom h4
    rcases hnew j0 q k1 with h | ⟨h, i0, q0, e0, e1, e2, e3, e4, e5, e6⟩ | ⟨h, i0, r0, e1, e2, e3⟩
    · right
      have := hb.place i r h3
      unfold Rg.apart
      omega
    · right
      have hj0 : j0 = j := by
        rcases k2 with k2 | k2
        · exact k2.1
        · rw [h] at k2; cases k2.1
      subst hj0
      by_cases hi0 : i = i0
      · subst hi0
        rw [h3] at e1
        cases e1
        exact hrel.bo.apartW (fun e => h1 (by rw [e]; exact h2)) (e2 fun h4 => h1 (.inr h4)) k1 e3
      · have := Rg.apart_symm (hb.apartW (i := i0) (j := i) (fun e => hi0 e.symm) e1 h3 e3)
        unfold Rg.apart at *
        omega
    · cases hro : r.ro with
      | true => exact .inl ⟨rfl, h⟩
      | false =>
        right
        have hne : i ≠ i0 := fun e => by subst e; rw [h3] at e1; cases e1; rw [hro] at e2; cases e2
        exact Rg.apart_symm (Rg.within_apart e3 (Rg.apart_symm (hb.apartW hne h3 e1 hro)))
  have hb2 : BetaOk N R Q β w' := hb.keep (W := wrRg β hl) (fun r hr => by obtain ⟨i, b, _, e2, e3, _⟩ := hR2 r hr; exact ⟨i, e2, e3⟩) hrel.kp
  refine ⟨beOut β δ lo hi rb, ⟨fun i r hi' hp => ?_, ⟨fun i j r q hij hi' hj => ?_, fun i r hi' => ?_, fun i r hi' => ?_, fun i r ks l hi' hsq => ?_, fun i r hi' hro => ?_, hb.qs, fun i r hi' hrow => ?_⟩, ⟨_, fun r hr => ?_, hrel.kp.nz⟩, fun i hi' hn => beOut_old (by rintro (h | h); omega; exact hn h), fun i hi' => ?_⟩, S.mt_mv hmv hs', fun q hq => ?_⟩
  · by_cases h : (lo ≤ i ∧ i < hi) ∨ i ∈ rb
    · rcases h with h | h
      · rw [hfr i h.1 h.2] at hi'; cases hi'
      · exfalso
        obtain ⟨b, r', _, e1, e2, _⟩ := hrbk i h
        rw [hi'] at e1
        cases e1
        rcases hp with hp | hp
        · rw [e2] at hp; cases hp
        · simp at hp; exact hp h
    · rw [beOut_old h]; exact hi'
  · by_cases h1 : (lo ≤ i ∧ i < hi) ∨ i ∈ rb
    · rw [beOut_new h1] at hi'
      by_cases h2 : (lo ≤ j ∧ j < hi) ∨ j ∈ rb
      · rw [beOut_new h2] at hj
        obtain ⟨i0, e1, e2⟩ := hfrom hi'
        obtain ⟨j0, e3, e4⟩ := hfrom hj
        by_cases he : i0 = j0
        · subst he
          rw [e1] at e3
          cases e3
          rcases e2 with e2 | e2
          · rcases e4 with e4 | e4
            · exact absurd (e2.1.symm.trans e4.1) hij
            · exact .inl ⟨e4.1, e4.1⟩
          · exact .inl ⟨e2.1, e2.1⟩
        · exact hrel.bo.apart i0 j0 r q he e1 e3
      · rw [beOut_old h2] at hj
        exact (hold_new j i q r h2 h1 hj hi').imp (fun h => ⟨h.2, h.1⟩) Rg.apart_symm
    · rw [beOut_old h1] at hi'
      by_cases h2 : (lo ≤ j ∧ j < hi) ∨ j ∈ rb
      · rw [beOut_new h2] at hj
        exact hold_new i j r q h1 h2 hi' hj
      · rw [beOut_old h2] at hj
        exact hb.apart i j r q hij hi' hj
  · by_cases h1 : (lo ≤ i ∧ i < hi) ∨ i ∈ rb
    · rw [beOut_new h1] at hi'
      obtain ⟨i0, e1, _⟩ := hfrom hi'
      exact hrel.bo.place i0 r e1
    · rw [beOut_old h1] at hi'
      exact hb2.place i r hi'
  · by_cases h1 : (lo ≤ i ∧ i < hi) ∨ i ∈ rb
    · rw [beOut_new h1] at hi'
      obtain ⟨j0, k1, _⟩ := hfrom hi'
      rcases hnew j0 r k1 with h | ⟨h, i0, q0, e0, e1, e2, e3, e4, e5, e6⟩ | ⟨h, _⟩
      · exact .inr (.inl (by omega))
      · rcases hb.may i0 q0 e1 with h | h
        · rw [e3] at h; cases h
        · right
          rcases h with h | ⟨q, hq, g1, g2, g3⟩
          · exact .inl (by omega)
          · exact .inr ⟨q, hq, by omega, by omega, by omega⟩
      · exact .inl h
    · rw [beOut_old h1] at hi'
      exact hb.may i r hi'
  · by_cases h1 : (lo ≤ i ∧ i < hi) ∨ i ∈ rb
    · rw [beOut_new h1] at hi'
      obtain ⟨j0, k1, _⟩ := hfrom hi'
      exact hrel.bo.sq j0 r ks l k1 hsq
    · rw [beOut_old h1] at hi'
      exact hb2.sq i r ks l hi' hsq
  · by_cases h1 : (lo ≤ i ∧ i < hi) ∨ i ∈ rb
    · rw [beOut_new h1] at hi'
      obtain ⟨j0, k1, _⟩ := hfrom hi'
      rcases hnew j0 r k1 with h | ⟨h, _⟩ | ⟨_, i0, r0, e1, e2, e3⟩
      · exact .inl (by omega)
      · rw [hro] at h; cases h
      · rcases hb.rom i0 r0 e1 e2 with h | h
        · exact .inl (by rw [e3.1]; exact h)
        · exact .inr (hb.qs r r0 h e3)
    · rw [beOut_old h1] at hi'
      exact hb.rom i r hi' hro
  · by_cases h1 : (lo ≤ i ∧ i < hi) ∨ i ∈ rb
    · rw [beOut_new h1] at hi'
      obtain ⟨j0, k1, _⟩ := hfrom hi'
      exact hrel.bo.rw j0 r k1 hrow
    · rw [beOut_old h1] at hi'
      exact hb.rw i r hi' hrow
  · obtain ⟨hr, hz⟩ := List.mem_filter.1 hr
    obtain ⟨i, b, e1, e2, e3, e4, _, e5⟩ := hR2 r hr
    refine ⟨i, ?_, e2, e3, e5 (by simpa using hz)⟩
    have := ho2 i b (hpOf_mem' e1) e4
    simp only [inlW, List.map_append, List.mem_append]
    exact .inl this
  · obtain ⟨b, r, e1, e2, e3, _, e5, e6⟩ := hrbk i hi'
    refine ⟨?_, .inl e6, r, e2, e3⟩
    have := ho2 i b (hpOf_mem' e1) e5
    simp only [inlW, List.map_append, List.mem_append]
    exact .inl this
  · have := blkMt_jk (w' := w') hmv (.inr rfl) (fun r _ j _ => ⟨rfl, rfl⟩) (hW' q hq)
    rwa [Blk.jk_true] at this
theorem newIds_inv {k : Nat} {u : Unit} {c c' : Ctr} {o : List Em} (h : newIds k c = some (u, c', o)) : c'.id = c.id + k ∧ o = [] := by
  simp only [newIds, Option.some.injEq, Prod.mk.injEq] at h
  obtain ⟨_, rfl, rfl⟩ := h
  exact ⟨rfl, rfl⟩
theorem inl_ok {H : Hnd} (hH : HOk P Φ gl H) {f : Nat} {fn : Func} (hf : P.funcs[f]? = some fn) (hn : (fn.name == "runtime.NumGoroutine") = false) {k : Ctl} (hK : LoopsOk Φ k) (hEA : ∀ x : Cx, x.gl = gl → x.rl = none → x.lr = none → x.ds = [] → (∀ w, Keep x.R x.w0 w → Laid gl w) → EOk P Φ x k.E) {Γ : Gd} {hp : Hp} {xs : List S} {ρ : Env} {c c' : Ctr} {res : Res} {out : List Em}
    (he : inlM P H gl k fn Γ hp xs c = some (res, c', out)) (hg : Good Φ ρ out) (hΓ : Gd.d ρ Γ = true) {N : Nat} {R : List Rg} {Q : Rg → Prop} {β : Beta} {w : World} {vs : List Value} (hm : mtAll β ρ xs vs) (hh : heapMt β ρ hp w) (hb : BetaOk N R Q β w) (hN : N ≤ w.heap.size)
    (hG : GB gl β w) (hfr : ∀ i, c.id ≤ i → i < c'.id → β i = none) :
    (∀ args w, (callFunc f args).run P w = .ok (.enter f args) w) ∧ Calls P f vs.toArray w fun e w' => ∃ v, e = .returned v ∧ RPost N R Q ρ β w c.id c'.id res v w' := by
  unfold inlM at he
  obtain ⟨lo, c1, o1, c2, o2, y, h1, h2, he⟩ := M.bind_inv he
  simp only [Prod.mk.injEq] at he
  obtain ⟨rfl, rfl, rfl⟩ := he
  simp only [getId, Option.some.injEq, Prod.mk.injEq] at h1
  obtain ⟨rfl, rfl, rfl⟩ := h1
  obtain ⟨body, c3, o3, c4, o4, y, h3, h4, he⟩ := M.bind_inv h2
  simp only [Prod.mk.injEq] at he
  obtain ⟨rfl, rfl, rfl⟩ := he
  obtain ⟨body', hbody, he⟩ := lift_inv h3
  simp only [Prod.mk.injEq] at he
  obtain ⟨rfl, rfl, rfl⟩ := he
  obtain ⟨hl, hhl⟩ : ∃ hl, hl = calleeHp gl.length c3.id Γ hp (dedupN (reachH hp 3 (argIds xs))) := ⟨_, rfl⟩
  rw [← hhl] at h4
  unfold inlB at h4
  split at h4
  · rename_i hok
    obtain ⟨u0, c30, o30, c40, o40, y, hn0, h40, he⟩ := M.bind_inv h4
    simp only [Prod.mk.injEq] at he
    obtain ⟨rfl, rfl, rfl⟩ := he
    obtain ⟨O, c5, o5, c6, o6, y, h5, h6, he⟩ := M.bind_inv h40
    simp only [Prod.mk.injEq] at he
    obtain ⟨rfl, rfl, rfl⟩ := he
    obtain ⟨σ, c7, o7, c8, o8, y, h7, h8, he⟩ := M.bind_inv h6
    simp only [Prod.mk.injEq] at he
    obtain ⟨rfl, rfl, rfl⟩ := he
    obtain ⟨rs, c9, o9, c10, o10, y, h9, h10, he⟩ := M.bind_inv h8
    simp only [Prod.mk.injEq] at he
    obtain ⟨rfl, rfl, rfl⟩ := he
    obtain ⟨s, c11, o11, c12, o12, y, h11, h12, he⟩ := M.bind_inv h10
    simp only [Prod.mk.injEq] at he
    obtain ⟨rfl, rfl, rfl⟩ := he
    obtain ⟨s', hts, he⟩ := lift_inv h11
    simp only [Prod.mk.injEq] at he
    obtain ⟨rfl, rfl, rfl⟩ := he
    obtain ⟨old, c13, o13, c14, o14, y, h13, h14, he⟩ := M.bind_inv h12
    simp only [Prod.mk.injEq] at he
    obtain ⟨rfl, rfl, rfl⟩ := he
    obtain ⟨old', hold, he⟩ := lift_inv h13
    simp only [Prod.mk.injEq] at he
    obtain ⟨rfl, rfl, rfl⟩ := he
    obtain ⟨mid, c15, o15, c16, o16, y, h15, h16, he⟩ := M.bind_inv h14
    simp only [Prod.mk.injEq] at he
    obtain ⟨rfl, rfl, rfl⟩ := he
    simp only [getId, Option.some.injEq, Prod.mk.injEq] at h15
    obtain ⟨rfl, rfl, rfl⟩ := h15
    obtain ⟨u1, c17, o17, c18, o18, y, hn1, h17, he⟩ := M.bind_inv h16
    simp only [Prod.mk.injEq] at he
    obtain ⟨rfl, rfl, rfl⟩ := he
    split at h17
    · rename_i hend
      have he := M.pure_inv h17
      simp only [Prod.mk.injEq] at he
      obtain ⟨rfl, rfl, rfl⟩ := he
      obtain ⟨h5, le5⟩ := mono_inv h5
      obtain ⟨h7, le7⟩ := mono_inv h7
      obtain ⟨h9, le9⟩ := mono_inv h9
      simp only at le5 le7 le9
      obtain ⟨en0, rfl⟩ := newIds_inv hn0
      obtain ⟨en1, rfl⟩ := newIds_inv hn1
      simp only [Good.append] at hg
      obtain ⟨_, _, _, g5, g7, g9, _⟩ := hg
      obtain ⟨p, hpl, hrel, hknown⟩ := inl_rel (Γ := Γ) (hp := hp) hhl hok hΓ hm hh hb hG fn
      have hlo : gl.length ≤ c3.id := by
        unfold inlOk at hok
        simp only [Bool.and_eq_true, Nat.ble_eq] at hok
        exact hok.1.1
      have hcut : CutOk (knOf gl.length hl) c3.id := knOf_lt hhl hlo
      obtain ⟨γ, hγ⟩ : ∃ γ, γ = β.cutF (knOf gl.length hl) c3.id p := ⟨_, rfl⟩
      rw [← hγ] at hrel hknown
      have hapG : ∀ r, r ∈ wrRg β hl → ∀ (g : Nat) (us : List Value), gl[g]? = some us → r.apart (gRg g us) := fun r hr g us hgu => by
        unfold wrRg at hr
        obtain ⟨i, hi', rfl⟩ := List.mem_map.1 hr
        obtain ⟨b, hb', hro⟩ := wrIds_mem.1 hi'
        obtain ⟨r', e1, _, e3, _⟩ := hknown i b hb'
        rw [e1]
        rw [hro] at e3
        refine hb.apartW (fun e => ?_) e1 (hG.2 g us hgu) e3
        subst e
        rw [hG.2 _ us hgu] at e1
        cases e1
        cases e3
      have hGl : ∀ w', Keep (wrRg β hl) w w' → Laid gl w' := by
        intro w' hk g us hgu
        obtain ⟨e1, e2⟩ := hG.1 g us hgu
        refine ⟨by have := hk.size; omega, fun j v hj => ?_⟩
        obtain ⟨e3, e4⟩ := e2 j v hj
        refine ⟨(hk.cell _ e1 fun r hr hin => ?_).trans e3, e4⟩
        have := hapG r hr g us hgu
        have hlt := (List.getElem?_eq_some_iff.1 hj).1
        unfold inRg at hin
        unfold Rg.apart gRg at this
        simp only at hin this
        omega
      have hfresh : Fresh γ c30 := fun i hi => by
        rw [hγ]
        unfold Beta.cutF
        rw [if_neg (by rw [hcut i (by omega)]; simp), if_pos (by omega)]
        exact List.getElem?_eq_none (by omega)
      have hK' : LoopsOk Φ (ctlH k c3.id hl) := hK
      have hx : GrOk (inCx β gl w hl γ) (ctlH k c3.id hl).keep := fun hz q hq => by
        have hz : (k.keep.fz && !rowsIn hl) = true := hz
        simp only [Bool.and_eq_true, Bool.not_eq_true'] at hz
        refine List.mem_iff_getElem?.1 ?_
        show q ∈ wrRgN β hl
        unfold wrRgN
        rw [wrIdsN_all hz.2]
        exact hq
      refine ⟨callable_of hf hn (by rw [hbody]; rfl), ?_⟩
      have hrun := exec_ok (x := inCx β gl w hl γ) hH hGl (ctlH k c3.id hl) hx hK' (hEA _ rfl rfl rfl rfl hGl) body ρ _ _ _ O _ h5 g5 γ _ w hrel hfresh
        (bodyPostM Fence.wide 0 P fn fun e w' => ∃ v, e = .returned v ∧ RPost N R Q ρ β w c3.id c'.id { s := s, w := inlW c3.id σ.hp old, rb := rbIn hl σ.rb } v w') fun e a' w' K hk hO => ?_
      · exact callsIn_wide.1 (callsIn_of_wp_marks hf hbody trivial hrun rfl)
      · obtain ⟨hKK, β', hE, hR, hF⟩ := endSt_ok hx h7 g7 hO
        have hfin : LeavesInM Fence.wide 0 P fn a'.tmps (fun e w' => ∃ v, e = .returned v ∧ RPost N R Q ρ β w c3.id c'.id { s := s, w := inlW c3.id σ.hp old, rb := rbIn hl σ.rb } v w') a'.defers .returning w' :=
          leaves_ok (x := inCx β gl w hl γ) rfl rfl a'.defers hR.noDf hR.df.ma fun w2 hR2 => by
            obtain ⟨us, hus, hum⟩ := rAll_snd (P := P) (x := inCx β gl w hl γ) σ fn.results.toList _ _ _ _ h9 g9 β' _ w2 hR2
            exact ⟨_, results_run hus, _, rfl, inl_post hok hold hend (tupS_mt hts hum) hb hN hG hfr (by omega) (by omega) hknown hE hR2⟩
        rcases hKK with rfl | rfl
        · rw [kdOf_n hk]
          exact hfin
        · cases e <;> simp only [kdOf, Option.some.injEq] at hk <;> (try (cases hk; done))
          exact hfin
    · simp [M.fail] at h17
  · simp [M.fail] at h4
end
end Go.Proofs.Ytgbgibbonhklgaa.Sx
