/-
  Flat's laws, and what they stand on (merged by wip/gen2/mini.py): part Pm5. No condition.
-/
import Derived.KernelRfl
import Derived.Test.YtghlmhlamoagoaaGreatPm4
set_option linter.unusedVariables false
set_option linter.unusedSimpArgs false
namespace Go.Proofs.YtghlmhlamoagoaaGreat.Sx
open Go
section

section
variable {P : Program} {Φ : Funs} {X : Hnd} {x : Cx} {ρ : Env}

def plainS (v : SV) : Option S := if v.g.isEmpty then some v.s else none
def rOne (P : Program) (gh : Hl) (ng : Nat) (σ : St) : ResultVar -> M S
 | .tmp t => lift (plainS (σ.tm.getD t anySV))
 | .cell a t => xLoad P [] (hpX gh ng σ.hp) t (rs [] (σ.tm.getD a anySV))
def resSem (tmps : Array Value) : ResultVar -> Sem Value
 | .tmp t => pure (tmps.getD t undef)
 | .cell a t => do loadVar t (<- asAddr (tmps.getD a undef))
theorem slot_getD {β : Beta} {σ : St} {a : Act} {w : World} (h : Rel x ρ β σ a w) (t : Nat) : (σ.tm.getD t anySV).mt β ρ (a.tmps.getD t undef) := by
 rw [zGi]
 cases ht : σ.tm[t]? with
 | none => exact anySV_mt _
 | some v => exact h.slot t v ht
theorem rOne_snd (σ : St) (r : ResultVar) : Snd Φ ρ (rOne P x.gh x.ng σ r) (fun s => ∀ β a w, Rel x ρ β σ a w -> ∃ v, (resSem a.tmps r).run P w = .ok v w /\ s.mt β ρ v) := by
 cases r with
 | tmp t =>
  refine (lift_snd _).mono fun s hs β a w h => ⟨_, rfl, ?_⟩
  unfold plainS at hs
  split at hs
  ·rename_i hg
   simp only [zOi] at hs
   subst hs
   rw [List.isEmpty_iff] at hg
   exact (slot_getD h t).1 (by rw [hg]; rfl)
  ·cases hs
 | cell p t =>
  have hL := pure_load (P := P) (Φ := Φ) (Γ := []) (hp := hpX x.gh x.ng σ.hp) (rv := fun o => match o with | .tmp t => σ.tm.getD t anySV | _ => anySV) (dst := none) (ty := 0) (pos := default) (after := #[]) (guard := none) (ρ := ρ) rfl t (.tmp p)
  refine hL.mono fun s hs β a w h => ?_
  obtain ⟨v, hv, hm⟩ := hs β a w (fun z hz => by
   simp only [Op.operands, List.mem_toArray, List.mem_cons, List.not_mem_nil, or_false] at hz
   subst hz
   exact slot_getD h p) h.hx h.bo.sq
  refine ⟨v, ?_, hm⟩
  simp only [execOp, Instr.loadAt, Act.eval, Sem.run_bind, Sem.run_pure] at hv
  cases hp : a.tmps.getD p undef with
  | pointer q =>
   rw [hp] at hv
   cases q with
   | none => simp [Instr.sureAddr] at hv
   | some q =>
    simp only [Instr.sureAddr, Sem.run_pure, Result.andThen_ok] at hv
    cases hl : (loadVar t q).run P w with
    | ok u w' =>
     rw [hl] at hv
     simp only [Result.andThen_ok, Result.ok.injEq, Next.value.injEq] at hv
     obtain ⟨rfl, rfl⟩ := hv
     simp [resSem, hp, asAddr, hl]
    | halt hh w' => rw [hl] at hv; simp [Result.andThen] at hv
  | _ => rw [hp] at hv; simp [Instr.sureAddr, Result.andThen] at hv
def rAll (P : Program) (gh : Hl) (ng : Nat) (σ : St) : List ResultVar -> M (List S)
 | [] => pure []
 | r :: l => do
  let s <- rOne P gh ng σ r
  let ss <- rAll P gh ng σ l
  pure (s :: ss)
theorem rAll_snd (σ : St) : ∀ l : List ResultVar, Snd Φ ρ (rAll P x.gh x.ng σ l) (fun ss => ∀ β a w, Rel x ρ β σ a w -> ∃ vs, (l.mapM (resSem a.tmps)).run P w = .ok vs w /\ mtAll β ρ ss vs)
 | [] => Snd.pure fun β a w _ => ⟨[], rfl, trivial⟩
 | r :: l => by
  unfold rAll
  refine Snd.bind (rOne_snd σ r) fun s hs => Snd.bind (rAll_snd σ l) fun ss hss => Snd.pure fun β a w h => ?_
  obtain ⟨v, hv, hm⟩ := hs β a w h
  obtain ⟨vs, hvs, hms⟩ := hss β a w h
  refine ⟨v :: vs, ?_, hm, hms⟩
  rw [List.mapM_cons]
  simp only [Sem.run_bind, hv, Result.andThen_ok, hvs, Sem.run_pure]
def tupV : List Value -> Value
 | [v] => v
 | vs => .tuple vs.toArray
theorem results_run {fn : Func} {tmps : Array Value} {w : World} {vs : List Value} (h : (fn.results.toList.mapM (resSem tmps)).run P w = .ok vs w) :
  (results fn tmps).run P w = .ok (tupV vs) w := by
 have e : (fn.results.mapM (resSem tmps)).run P w = .ok vs.toArray w := by
  rw [Array.mapM_eq_mapM_toList, Sem.run_map, h]
  rfl
 have e2 : results fn tmps = (do
   let vs <- fn.results.mapM (resSem tmps)
   pure (if h : vs.size = 1 then vs[0] else .tuple vs)) := by
  unfold results
  congr 1
 rw [e2, Sem.run_bind, e]
 simp only [Result.andThen_ok]
 match vs with
 | [] => rfl
 | [v] => rfl
 | v :: u :: vs => rfl

def takeR (ng np : Nat) (hp : Hp) : List CK -> List C -> Option (List A × List B)
 | [], [] => some ([], [])
 | .int k :: l, .int k' a :: cs => match takeR ng np hp l cs with
  | some (as, bs) => if k' == k then some (a :: as, bs) else none
  | none => none
 | .bool :: l, .bool b :: cs => match takeR ng np hp l cs with
  | some (as, bs) => some (as, b :: bs)
  | none => none
 | .pt k o :: l, .ptr [] id off :: cs => match takeR ng np hp l cs with
  | some r => if id == ng + k && off == o && Nat.blt k np then some r else none
  | none => none
 | .str :: l, c :: cs => match asStr c, takeR ng np hp l cs with
  | some q, some (as, bs) => some (q :: as, bs)
  | _, _ => none
 | .sl ks :: l, c :: cs => match slNum [] hp ks c, takeR ng np hp l cs with
  | some p, some (as, bs) => if slHot c == 2 then none else some (p.1 :: p.2 :: as, bs)
  | _, _ => none
 | _, _ => none
def Lies (β : Beta) (l : List Rg) : Prop := ∀ r', r' ∈ l -> ∃ i r0, β i = some r0 /\ r'.within r0 /\ (r0.ro = true \/ r0.row = true)
theorem Lies.nil {β : Beta} : Lies β [] := fun _ h => by cases h
theorem Lies.append {β : Beta} {l m : List Rg} (h : Lies β l) (h' : Lies β m) : Lies β (l ++ m) := fun r hr => (List.mem_append.1 hr).elim (h r) (h' r)
theorem takeR_flat {β : Beta} {w : World} {hp : Hp} (hh : heapMt β ρ hp w) (hsq : SqOk β w) {ps : List Rg} {ng np : Nat} (hnp : ps.length = np) (hb : ∀ (k : Nat) (r : Rg), ps[k]? = some r -> β (ng + k) = some r) : ∀ {l : List CK} {cs : List C} {as : List A} {bs : List B} {vs : List Value},
  takeR ng np hp l cs = some (as, bs) -> mtL β ρ cs vs -> flatC w ps l vs = some (as.map (A.d ρ), bs.map (B.d ρ)) /\ Lies β (rgC w l vs)
 | l, cs, as, bs, vs, h, hm => by
  induction l generalizing cs as bs vs with
  | nil =>
   cases cs with
   | nil =>
    simp only [takeR, zOi, zPi] at h
    obtain ⟨rfl, rfl⟩ := h
    cases vs with
    | nil => exact ⟨rfl, Lies.nil⟩
    | cons _ _ => exact hm.elim
   | cons _ _ => simp [takeR] at h
  | cons ck l ih =>
   cases cs with
   | nil => cases ck <;> simp [takeR] at h
   | cons c cs =>
    cases vs with
    | nil => exact hm.elim
    | cons v vs =>
     obtain ⟨h1, h2⟩ := hm
     unfold takeR at h
     split at h
     ·rename_i he1 he2; cases he1
     ·rename_i k l' k' a cs' he1 he2
      simp only [List.cons.injEq] at he1 he2
      obtain ⟨rfl, rfl⟩ := he1
      obtain ⟨rfl, rfl⟩ := he2
      obtain ⟨rfl, h3⟩ := h1
      split at h
      ·rename_i as' bs' ht
       split at h
       ·rename_i hk
        simp only [beq_iff_eq] at hk
        subst hk
        simp only [zOi, zPi] at h
        obtain ⟨rfl, rfl⟩ := h
        obtain ⟨i1, i2⟩ := ih _ _ _ _ ht h2
        refine ⟨?_, i2⟩
        unfold flatC
        rw [i1]
        simp [inR_mk h3]
       ·cases h
      ·cases h
     ·rename_i l' b cs' he1 he2
      simp only [List.cons.injEq] at he1 he2
      obtain ⟨rfl, rfl⟩ := he1
      obtain ⟨rfl, rfl⟩ := he2
      have h1 : v = .bool (b.d ρ) := h1
      subst h1
      split at h
      ·rename_i as' bs' ht
       simp only [zOi, zPi] at h
       obtain ⟨rfl, rfl⟩ := h
       obtain ⟨i1, i2⟩ := ih _ _ _ _ ht h2
       refine ⟨?_, i2⟩
       unfold flatC
       rw [i1]
       simp
      ·cases h
     ·rename_i k o l' id off cs' he1 he2
      simp only [List.cons.injEq] at he1 he2
      obtain ⟨rfl, rfl⟩ := he1
      obtain ⟨rfl, rfl⟩ := he2
      split at h
      ·rename_i r ht
       split at h
       ·rename_i hc
        simp only [zAi, beq_iff_eq, Nat.blt_eq] at hc
        obtain ⟨⟨rfl, rfl⟩, hk⟩ := hc
        simp only [zOi] at h
        subst h
        obtain ⟨q, hq, rfl⟩ := h1
        have hlt : k < ps.length := by omega
        have hg := List.getElem?_eq_getElem hlt
        have := hb k _ hg
        simp only [pick] at hq
        rw [this] at hq
        simp only [zOi] at hq
        obtain ⟨i1, i2⟩ := ih _ _ _ _ ht h2
        refine ⟨?_, i2⟩
        unfold flatC
        rw [hg, i1]
        simp [hq, pick]
       ·cases h
      ·cases h
     ·rename_i l' c' cs' he1 he2
      simp only [List.cons.injEq] at he1 he2
      obtain ⟨rfl, rfl⟩ := he1
      obtain ⟨rfl, rfl⟩ := he2
      split at h
      ·rename_i q as' bs' hq ht
       simp only [zOi, zPi] at h
       obtain ⟨rfl, rfl⟩ := h
       obtain ⟨s, rfl, e1, e2⟩ := asStr_mt hq h1
       obtain ⟨i1, i2⟩ := ih _ _ _ _ ht h2
       refine ⟨?_, i2⟩
       unfold flatC
       rw [i1]
       simp [inR_mk e2, e1]
      ·cases h
     ·rename_i ks l' c' cs' he1 he2
      simp only [List.cons.injEq] at he1 he2
      obtain ⟨rfl, rfl⟩ := he1
      obtain ⟨rfl, rfl⟩ := he2
      split at h
      ·rename_i q as' bs' hq ht
       split at h
       ·cases h
       ·rename_i hot
        simp only [zOi, zPi] at h
        obtain ⟨rfl, rfl⟩ := h
        obtain ⟨ll, r, e1, e2, e3⟩ := slNum_flat (Γ := []) rfl hh hsq hq h1
        obtain ⟨i1, i2⟩ := ih _ _ _ _ ht h2
        constructor
        ·unfold flatC
         rw [i1, e1]
         simp [e2]
        ·unfold rgC
         rw [e1]
         refine Lies.append ?_ i2
         cases r with
         | none => exact Lies.nil
         | some r' =>
          intro r2 hr2
          simp only [List.mem_singleton] at hr2
          subst hr2
          obtain ⟨i, r0, k1, k2, k3⟩ := e3 _ rfl
          refine ⟨i, r0, k1, k2, ?_⟩
          rcases k3 with k3 | k3 | k3
          ·exact .inl k3
          ·exact .inr k3.1
          ·rw [k3] at hot; exact absurd rfl hot
      ·cases h
     ·cases h
def takeTup (ng np : Nat) (hp : Hp) : List (Bool × List CK) -> List S -> Option (List A × List B)
 | [], [] => some ([], [])
 | p :: l, .one agg cs :: ss => match takeR ng np hp p.2 cs, takeTup ng np hp l ss with
  | some (a, b), some (as, bs) => if agg == p.1 && (agg || p.2.length == 1) then some (a ++ as, b ++ bs) else none
  | _, _ => none
 | _, _ => none
theorem take1_flat {β : Beta} {w : World} {hp : Hp} (hh : heapMt β ρ hp w) (hsq : SqOk β w) {ps : List Rg} {ng np : Nat} (hnp : ps.length = np) (hb : ∀ (k : Nat) (r : Rg), ps[k]? = some r -> β (ng + k) = some r) {agg : Bool} {l : List CK} {cs : List C} {a : List A} {b : List B} {v : Value}
  (h : takeR ng np hp l cs = some (a, b)) (hc : (agg || l.length == 1) = true) (hm : mt1 β ρ agg cs v) : flat1 w ps agg l v = some (a.map (A.d ρ), b.map (B.d ρ)) /\ Lies β (rg1 w agg l v) := by
 unfold flat1 rg1
 cases agg
 ·obtain ⟨c, rfl, hcm⟩ := hm
  simp only [Bool.false_or, beq_iff_eq] at hc
  match l, hc, h with
  | [ck], _, h =>
   simp only [zFi, if_false]
   exact takeR_flat (vs := [v]) hh hsq hnp hb h ⟨hcm, trivial⟩
 ·obtain ⟨us, rfl, hcm⟩ := hm
  simp only [if_true]
  exact takeR_flat hh hsq hnp hb h hcm
theorem takeTup_flat {β : Beta} {w : World} {hp : Hp} (hh : heapMt β ρ hp w) (hsq : SqOk β w) {ps : List Rg} {ng np : Nat} (hnp : ps.length = np) (hb : ∀ (k : Nat) (r : Rg), ps[k]? = some r -> β (ng + k) = some r) : ∀ {l : List (Bool × List CK)} {ss : List S} {as : List A} {bs : List B} {vs : List Value},
  takeTup ng np hp l ss = some (as, bs) -> mtAll β ρ ss vs -> flatTup w ps l vs = some (as.map (A.d ρ), bs.map (B.d ρ)) /\ Lies β (rgTup w l vs)
 | [], [], as, bs, vs, h, hm => by
  simp only [takeTup, zOi, zPi] at h
  obtain ⟨rfl, rfl⟩ := h
  cases vs with
  | nil => exact ⟨rfl, Lies.nil⟩
  | cons _ _ => exact hm.elim
 | p :: l, .one agg cs :: ss, as, bs, vs, h, hm => by
  cases vs with
  | nil => exact hm.elim
  | cons v vs =>
   obtain ⟨h1, h2⟩ := hm
   unfold takeTup at h
   split at h
   ·rename_i a b as' bs' ht hr
    split at h
    ·rename_i hc
     simp only [zAi, beq_iff_eq] at hc
     obtain ⟨rfl, hc⟩ := hc
     simp only [zOi, zPi] at h
     obtain ⟨rfl, rfl⟩ := h
     obtain ⟨i1, i2⟩ := take1_flat hh hsq hnp hb ht hc h1
     obtain ⟨j1, j2⟩ := takeTup_flat hh hsq hnp hb hr h2
     refine ⟨?_, i2.append j2⟩
     unfold flatTup
     rw [i1, j1]
     simp
    ·cases h
   ·cases h
 | [], _ :: _, _, _, _, h, _ => by simp [takeTup] at h
 | _ :: _, [], _, _, _, h, _ => by simp [takeTup] at h
 | _ :: _, .tup _ :: _, _, _, _, h, _ => by simp [takeTup] at h
 | _ :: _, .any :: _, _, _, _, h, _ => by simp [takeTup] at h
def takeRes (ng np : Nat) (hp : Hp) (s : Sum) (ss : List S) : Option (List A × List B) :=
 if s.tup then (if ss.length == 1 then none else takeTup ng np hp s.res ss)
 else if s.res.length == 1 && ss.length == 1 then takeTup ng np hp s.res ss else none
theorem flatTup_one {w : World} {ps : List Rg} {p : Bool × List CK} {v : Value} : flatTup w ps [p] [v] = flat1 w ps p.1 p.2 v := by
 unfold flatTup
 cases h : flat1 w ps p.1 p.2 v with
 | none => simp
 | some f => simp [flatTup]
theorem takeRes_flat {β : Beta} {w : World} {hp : Hp} (hh : heapMt β ρ hp w) (hsq : SqOk β w) {ps : List Rg} {ng np : Nat} (hnp : ps.length = np) (hb : ∀ (k : Nat) (r : Rg), ps[k]? = some r -> β (ng + k) = some r) {s : Sum} {ss : List S} {as : List A} {bs : List B} {vs : List Value}
  (h : takeRes ng np hp s ss = some (as, bs)) (hm : mtAll β ρ ss vs) : flatRes w ps s (tupV vs) = some (as.map (A.d ρ), bs.map (B.d ρ)) /\ Lies β (resRgs w s (tupV vs)) := by
 have hlen : ss.length = vs.length := by
  clear h
  induction ss generalizing vs with
  | nil => cases vs with | nil => rfl | cons _ _ => exact hm.elim
  | cons _ ss ih => cases vs with | nil => exact hm.elim | cons _ vs => simp [ih hm.2]
 unfold takeRes at h
 unfold flatRes resRgs
 split at h
 ·rename_i ht
  rw [if_pos ht, if_pos ht]
  split at h
  ·cases h
  ·rename_i hl
   simp only [beq_iff_eq] at hl
   have := takeTup_flat hh hsq hnp hb h hm
   match vs, hlen, this with
   | [], _, this => simpa [tupV] using this
   | [v], hlen, _ => simp at hlen; omega
   | v :: u :: vs, _, this => simpa [tupV] using this
 ·rename_i ht
  rw [if_neg ht, if_neg ht]
  split at h
  ·rename_i hl
   simp only [zAi, beq_iff_eq] at hl
   have := takeTup_flat hh hsq hnp hb h hm
   match vs, hlen, this with
   | [v], _, this =>
    match hr : s.res, hl.1 with
    | [p], _ =>
     rw [hr] at this
     rw [flatTup_one] at this
     exact ⟨this.1, by have := this.2; simpa [rgTup, tupV] using this⟩
   | [], hlen, _ => have := hl.2; rw [hlen] at this; simp at this
   | _ :: _ :: _, hlen, _ => have := hl.2; rw [hlen] at this; simp at this
  ·cases h
def takePs (ng : Nat) (hp : Hl) : List (List CK) -> Nat -> Option (List A × List B)
 | [], _ => some ([], [])
 | l :: ls, j => match hpOf hp (ng + j) with
  | some b => if b.g.isEmpty then match takeC [] (hpOf hp) l b.cells, takePs ng hp ls (j + 1) with
   | some (a, bb), some (as, bs) => some (a ++ as, bb ++ bs)
   | _, _ => none
   else none
  | none => none
theorem takePs_flat {β : Beta} {w : World} {ng : Nat} {hp : Hl} (hh : heapMt β ρ (hpOf hp) w) (hsq : SqOk β w) : ∀ {ls : List (List CK)} {ps : List Rg} {j : Nat} {as : List A} {bs : List B}, takePs ng hp ls j = some (as, bs) -> lensOk ls ps ->
  (∀ (k : Nat) (r : Rg), ps[k]? = some r -> r.row = false /\ β (ng + j + k) = some r) -> flatPs w ls ps = some (as.map (A.d ρ), bs.map (B.d ρ))
 | [], [], j, as, bs, h, _, _ => by
  simp only [takePs, zOi, zPi] at h
  obtain ⟨rfl, rfl⟩ := h
  rfl
 | l :: ls, r :: ps, j, as, bs, h, ⟨hl, hls⟩, hb => by
  unfold takePs at h
  split at h
  ·rename_i b hbk
   split at h
   ·rename_i hg
    rw [List.isEmpty_iff] at hg
    split at h
    ·rename_i a bb as' bs' h1 h2
     simp only [zOi, zPi] at h
     obtain ⟨rfl, rfl⟩ := h
     obtain ⟨hrow, hb0⟩ := hb 0 r (by simp)
     simp only [Nat.add_zero] at hb0
     have hmb := hh _ b hbk (by rw [hg]; rfl)
     have hv : vecOf b.cells = none := by
      cases hv : vecOf b.cells with
      | none => rfl
      | some y =>
       obtain ⟨_, q, _, _, hq, hq2, _⟩ := (blkMt_row hv).1 hmb
       rw [hb0] at hq
       cases hq
       rw [hrow] at hq2
       cases hq2
     obtain ⟨q, hq, _, hql, _, hc, _⟩ := (blkMt_cs hv).1 hmb
     rw [hb0] at hq
     cases hq
     obtain ⟨us, hul, hum, hu⟩ := cellsAt_values hc
     have hrd : readCells w r.blk r.off l.length = some us := by
      rw [<- hl, hql, <- hul]; exact readCells_mk hu
     unfold flatPs
     rw [hrd]
     simp only [Option.bind_some]
     rw [(takeC_flat (Γ := []) rfl hh hsq h1 hum).1, takePs_flat hh hsq h2 hls fun k q hk => by have := hb (k + 1) q (by simpa using hk); rwa [show ng + (j + 1) + k = ng + j + (k + 1) by omega]]
     simp
    ·cases h
   ·cases h
  ·cases h
 | [], _ :: _, _, _, _, _, h, _ => h.elim
 | _ :: _, [], _, _, _, _, h, _ => h.elim

def endSt (keep : Kp) (O : Outs) : M St :=
 match getK .n O, getK .r O with
 | some (_, s), none => if (dropK .n O).isEmpty then pure s else M.fail
 | none, some (_, s) => if (dropK .r O).isEmpty then pure s else M.fail
 | some (q, s), some (_, t) => if (dropK .r (dropK .n O)).isEmpty then do
   let a <- gAtom q
   M.mono (joinSt keep a s t)
  else M.fail
 | none, none => M.fail
theorem dropK_empty {k K : Kd} {O : Outs} {q : Gd} {s : St} (h : (dropK k O).isEmpty = true) (hK : getK K O = some (q, s)) : k = K := by
 cases he : k.eq K with
 | true => exact Kd.eq_sound he
 | false =>
  have := dropK_get (k := k) (l := K) O
  rw [List.isEmpty_iff] at h
  rw [h, he] at this
  simp [getK, hK] at this
theorem endSt_ok {keep : Kp} (hx : GrOk x keep) {O : Outs} {u : St} {c c' : Ctr} {out : List Em} (h : endSt keep O c = some (u, c', out)) (hg : Good Φ ρ out) {β : Beta} {K : Kd} {a : Act} {w : World} (hO : OutMt x ρ β c O K a w) : (K = .n \/ K = .r) /\ ∃ β', Ext β β' /\ Rel x ρ β' u a w /\ Fresh β' c' := by
 obtain ⟨h1, q', s', β', hK, hE, hR, hF⟩ := hO
 unfold endSt at h
 cases hn : getK .n O with
 | none => cases hr : getK .r O with
  | none => rw [hn, hr] at h; simp [M.fail] at h
  | some p =>
   obtain ⟨q, s⟩ := p
   rw [hn, hr] at h
   simp only at h
   split at h
   ·rename_i he
    have hp := M.pure_inv h
    simp only [zPi] at hp
    obtain ⟨rfl, rfl, rfl⟩ := hp
    have := dropK_empty he hK
    subst this
    rw [hr] at hK
    simp only [zOi, zPi] at hK
    obtain ⟨rfl, rfl⟩ := hK
    exact ⟨.inr rfl, β', hE, hR, hF⟩
   ·simp [M.fail] at h
 | some p =>
  obtain ⟨q, s⟩ := p
  cases hr : getK .r O with
  | none =>
   rw [hn, hr] at h
   simp only at h
   split at h
   ·rename_i he
    have hp := M.pure_inv h
    simp only [zPi] at hp
    obtain ⟨rfl, rfl, rfl⟩ := hp
    have := dropK_empty he hK
    subst this
    rw [hn] at hK
    simp only [zOi, zPi] at hK
    obtain ⟨rfl, rfl⟩ := hK
    exact ⟨.inl rfl, β', hE, hR, hF⟩
   ·simp [M.fail] at h
  | some p =>
   obtain ⟨qr, t⟩ := p
   rw [hn, hr] at h
   simp only at h
   split at h
   ·rename_i he
    obtain ⟨g, c1, o1, c2, o2, y, g1, g2, hee⟩ := M.bind_inv h
    simp only [zPi] at hee
    obtain ⟨rfl, rfl, rfl⟩ := hee
    rw [Good.append] at hg
    have hgd := gAtom_snd q _ _ _ _ g1 hg.1
    have hid := gAtom_id g1
    obtain ⟨hle, hj⟩ := joinSt_ok (Φ := Φ) (x := x) (ρ := ρ) hx g2 hg.2
    have hqn := h1 _ _ _ hn
    have hF1 : Fresh β' c1 := hF.le (by omega)
    by_cases hKn : K = .n
    ·subst hKn
     rw [hn] at hK
     simp only [zOi, zPi] at hK
     obtain ⟨rfl, rfl⟩ := hK
     obtain ⟨β2, f1, f2, f3⟩ := hj β' a w (by rw [hgd, hqn.2 rfl]; simpa using hR) hF1
     exact ⟨.inl rfl, β2, hE.trans f1, f2, f3⟩
    ·have hf : Gd.d ρ q = false := by
      cases hd : Gd.d ρ q with
      | false => rfl
      | true => exact absurd (hqn.1 hd).symm hKn
     have hK2 : getK K (dropK .n O) = some (q', s') := by
      rw [dropK_get, if_neg (fun h => hKn (Kd.eq_sound h).symm)]; exact hK
     have := dropK_empty he hK2
     subst this
     rw [hr] at hK
     simp only [zOi, zPi] at hK
     obtain ⟨rfl, rfl⟩ := hK
     obtain ⟨β2, f1, f2, f3⟩ := hj β' a w (by rw [hgd, hf]; simpa using hR) hF1
     exact ⟨.inr rfl, β2, hE.trans f1, f2, f3⟩
   ·simp [M.fail] at h
end

def ckNe : CK -> Bool
 | .sl ks => !ks.isEmpty
 | _ => true
def shOk (s : Sum) : Bool := ((ptrShapes s.args).all fun l => !l.isEmpty && noSl l) && s.res.all fun p => p.2.all ckNe
theorem shOk_ne {s : Sum} (h : shOk s = true) : ((ptrShapes s.args).all fun l => !l.isEmpty) = true := by
 unfold shOk at h
 simp only [zAi, List.all_eq_true] at h ⊢
 exact fun l hl => (h.1 l hl).1
theorem shOk_no {s : Sum} (h : shOk s = true) : ∀ l, l ∈ ptrShapes s.args -> nSl l = 0 := by
 unfold shOk at h
 simp only [zAi, List.all_eq_true, noSl, beq_iff_eq] at h
 exact fun l hl => (h.1 l hl).2
theorem flatSl_pos {w : World} {ks : List CK} {v : Value} {l : List Int} {n : Int} {r : Rg} (h : flatSl w ks v = some (l, n, some r)) (hk : ks.isEmpty = false) : r.len ≠ 0 := by
 unfold flatSl at h
 split at h
 ·split at h
  ·cases h
  split at h
  ·simp only [zOi, zPi] at h
   cases h.2.2
  ·rename_i h0
   simp only [beq_iff_eq] at h0
   split at h
   ·split at h
    ·split at h
     ·simp only [zOi, zPi] at h
      obtain ⟨_, _, rfl⟩ := h
      have : 0 < ks.length := List.length_pos_iff.2 (fun e => by rw [e] at hk; cases hk)
      have := Nat.mul_pos (Nat.pos_of_ne_zero h0) this
      simp only
      omega
     ·cases h
    ·cases h
   ·cases h
 ·cases h
theorem rgC_pos {w : World} {r : Rg} : ∀ {l : List CK} {vs : List Value}, l.all ckNe = true -> r ∈ rgC w l vs -> r.len ≠ 0
 | [], _, _, h => by simp [rgC] at h
 | ck :: l, [], _, h => by cases ck <;> simp [rgC] at h
 | ck :: l, v :: vs, hc, h => by
  simp only [List.all_cons, zAi] at hc
  cases ck with
  | sl ks =>
   simp only [rgC, List.mem_append] at h
   rcases h with h | h
   ·split at h
    ·rename_i l' n r' hf
     simp only [List.mem_singleton] at h
     subst h
     exact flatSl_pos hf (by simpa [ckNe] using hc.1)
    ·cases h
   ·exact rgC_pos hc.2 h
  | _ => exact rgC_pos (vs := vs) hc.2 (by simpa only [rgC] using h)
theorem rg1_pos {w : World} {r : Rg} {agg : Bool} {l : List CK} {v : Value} (hc : l.all ckNe = true) (h : r ∈ rg1 w agg l v) : r.len ≠ 0 := by
 unfold rg1 at h
 split at h
 ·split at h
  ·exact rgC_pos hc h
  ·cases h
 ·exact rgC_pos hc h
theorem rgTup_pos {w : World} {r : Rg} : ∀ {l : List (Bool × List CK)} {vs : List Value}, (l.all fun p => p.2.all ckNe) = true -> r ∈ rgTup w l vs -> r.len ≠ 0
 | p :: l, v :: vs, hc, h => by
  simp only [List.all_cons, zAi] at hc
  simp only [rgTup, List.mem_append] at h
  exact h.elim (rg1_pos hc.1) (rgTup_pos hc.2)
 | [], _, _, h => by simp [rgTup] at h
 | _ :: _, [], _, h => by simp [rgTup] at h
theorem resRgs_pos {w : World} {r : Rg} {s : Sum} {v : Value} (hs : shOk s = true) (h : r ∈ resRgs w s v) : r.len ≠ 0 := by
 unfold shOk at hs
 simp only [zAi] at hs
 have hs := hs.2
 unfold resRgs at h
 split at h
 ·split at h
  ·exact rgTup_pos hs h
  ·cases h
 ·split at h
  ·rename_i p hp
   rw [hp] at hs
   simp only [List.all_cons, List.all_nil, Bool.and_true] at hs
   exact rg1_pos hs h
  ·cases h
theorem flatArgs_mem {w : World} {s : Sum} {vs : List Value} {is : List Int} {bs : List Bool} {ps : List Rg} (h : flatArgs s.args vs w = some (is, bs, ps)) (hne : shOk s = true) : ∀ r, r ∈ ps -> (r.ro = false /\ r.sq = none /\ r.row = false) /\ ∃ v, w.cell? ⟨r.blk, r.off, none⟩ = some v :=
 flatArgs_mem' h (shOk_ne hne)

def fnM (P : Program) (X : Hnd) (gl : Gl) (k : Ctl) (fn : Func) (s : Sum) : M (List A × List B) := do
 let body <- lift fn.body
 let O <- exec P X (ghOf gl 0) gl.length k body { tm := initTm gl.length s.args 0 0 0 ++ List.replicate (fn.ntmps - s.args.length) anySV, hp := initHp gl.length s.args 0 0 0 }
 let σ <- endSt k.keep O
 let xs <- rAll P (ghOf gl 0) gl.length σ fn.results.toList
 let r <- lift (takeRes gl.length (ptrShapes s.args).length (hpOf σ.hp) s xs)
 let p <- lift (takePs gl.length σ.hp (ptrShapes s.args) 0)
 pure (r.1 ++ p.1, r.2 ++ p.2)
def fnX (P : Program) (X : Hnd) (gl : Gl) (k : Ctl) (fn : Func) (s : Sum) : Option Smry :=
 match fnM P X gl k fn s { i := argI s.args, b := argB s.args, id := gl.length + (ptrShapes s.args).length + argS s.args } with
 | some (r, _, out) => some { em := out, ri := r.1, rb := r.2 }
 | none => none

def st0 (gl : Gl) (fn : Func) (s : Sum) : St := { tm := initTm gl.length s.args 0 0 0 ++ List.replicate (fn.ntmps - s.args.length) anySV, hp := initHp gl.length s.args 0 0 0 }
def ctr0 (gl : Gl) (s : Sum) : Ctr := { i := argI s.args, b := argB s.args, id := gl.length + (ptrShapes s.args).length + argS s.args }
def EAll (P : Program) (Φ : Funs) (gl : Gl) (k : Ctl) : Prop := ∀ x : Cx, x.gl = gl -> x.rl = none -> x.lr = none -> x.ds = [] -> GrOk x k.keep -> (∀ w, Keep x.R x.w0 w -> Laid gl w) -> EOk P Φ x k.E
theorem EAll.nil {P : Program} {Φ : Funs} {gl : Gl} {k : Ctl} (h : k.E = {}) : EAll P Φ gl k := fun _ _ _ _ _ _ _ => EOk.nil h
def fnCx (gl : Gl) (s : Sum) (vs : List Value) (w : World) (ps : List Rg) : Cx :=
 { w0 := w, R := ps, gl := gl, gr := ps, Q := fun r => ∃ q, (q ∈ argRgs s.args vs w \/ ∃ (g : Nat) (us : List Value), gl[g]? = some us /\ q = gRg g us) /\ r.within q, b0 := beta0 gl ps (argRgs s.args vs w), gi := fun j => gl.length + j }
theorem Rg.within_refl (r : Rg) : r.within r := ⟨rfl, Nat.le_refl _, Nat.le_refl _⟩
theorem run_gen {P : Program} {Φ : Funs} {X : Hnd} {gl : Gl} (hX : HOk P Φ gl X) {f : Nat} {fn : Func} (hf : P.funcs[f]? = some fn) {k : Ctl} (hK : LoopsOk Φ k) (hEA : EAll P Φ gl k) {s : Sum} {body : Code} (hbody : fn.body = some body) (hne : shOk s = true)
  {vs : List Value} {w : World} {is : List Int} {bs : List Bool} {ps : List Rg} (hL : Laid gl w) (hfl : flatArgs s.args vs w = some (is, bs, ps)) (hap : apartL ps) (hfz : frzL ps w) (hag : ∀ q, q ∈ ps -> ∀ (g : Nat) (vs : List Value), gl[g]? = some vs -> q.apart (gRg g vs)) (hsl : ∀ q, q ∈ ps -> ∀ r, r ∈ argRgs s.args vs w -> q.apart r)
  {ρ : Env} (hi : ∀ n, n < argI s.args -> ρ.i (0 + n) = is.getD n 0) (hbb : ∀ n, n < argB s.args -> ρ.b (0 + n) = bs.getD n false) {O : Outs} {c3 : Ctr} {o3 : List Em} (g3 : exec P X (ghOf gl 0) gl.length k body (st0 gl fn s) (ctr0 gl s) = some (O, c3, o3)) (hg3 : Good Φ ρ o3)
  {σ : St} {c5 : Ctr} {o5 : List Em} (g5 : endSt k.keep O c3 = some (σ, c5, o5)) (hg5 : Good Φ ρ o5) {xs : List S} {c7 : Ctr} {o7 : List Em} (g7 : rAll P (ghOf gl 0) gl.length σ fn.results.toList c5 = some (xs, c7, o7)) (hg7 : Good Φ ρ o7) :
  Calls P f vs.toArray w fun e w' => ∃ us β' a', e = .returned (tupV us) /\ mtAll β' ρ xs us /\ Rel (fnCx gl s vs w ps) ρ β' σ a' w' := by
 have hlen := flatArgs_len hfl
 let x : Cx := fnCx gl s vs w ps
 have hx : GrOk x k.keep := fun _ q hq => List.mem_iff_getElem?.1 hq
 obtain ⟨sl, hsle⟩ : ∃ sl, sl = argRgs s.args vs w := ⟨_, rfl⟩
 have hslm : ∀ {k : Nat} {r : Rg}, sl[k]? = some r -> r.ro = true /\ r.row = false /\ (r.len = 0 \/ r.blk < w.heap.size) /\ ∀ ks l, r.sq = some (ks, l) -> l.length = r.len /\ seqAt w r.blk r.off ks l := fun {k r} hk => by
  obtain ⟨g1, g2, ks, q, g3, g4, g5⟩ := argRgs_sq (hsle ▸ List.mem_of_getElem? hk)
  refine ⟨g1, g2, ?_, fun ks' l' he => ?_⟩
  ·cases q with
   | nil => exact .inl (by simpa using g4.symm)
   | cons n q =>
    obtain ⟨_, v, _, hv, _⟩ := g5 0 n rfl
    exact .inr (World.block_lt_of_cell? w ⟨r.blk, r.off + 0, none⟩ hv)
  ·rw [g3] at he
   cases he
   exact ⟨g4, g5⟩
 have hbps : ∀ (k : Nat) (r : Rg), ps[k]? = some r -> beta0 gl ps sl (gl.length + k) = some r := fun k r hk => beta0_ps hk
 have hpsm := flatArgs_mem hfl hne
 obtain ⟨i1, i2, i3⟩ := init_ok (ρ := ρ) (β := beta0 gl ps sl) gl.length (i := 0) (b := 0) (j := 0) hfl hfz hi hbb (fun k r hk => by rw [Nat.add_zero]; exact hbps k r hk) (shOk_no hne) (fun r hr => beta0_sl (hsle ▸ hr))
 have hglsq : ∀ (g : Nat) (vs : List Value), (gRg g vs).sq = none := fun _ _ => rfl
 have hbo : BetaOk w.heap.size ps x.Q (beta0 gl ps sl) w := by
  refine ⟨fun i j r q hij hi hj => ?_, fun i r hi => ?_, fun i r hi => ?_, fun i r ks l hi hs => ?_, fun i r hi hro => ?_, fun r q hq hw => ?_, fun i r hi hrow => ?_⟩
  ·rcases beta0_inv hi with ⟨us, h1, rfl⟩ | ⟨h0, h1⟩ | ⟨h0, h1⟩
   ·rcases beta0_inv hj with ⟨us', h2, rfl⟩ | ⟨h0', h2⟩ | ⟨h0', h2⟩
    ·exact .inl ⟨rfl, rfl⟩
    ·exact .inr (Rg.apart_symm (hag q (List.mem_of_getElem? h2) i us h1))
    ·exact .inl ⟨rfl, (hslm h2).1⟩
   ·rcases beta0_inv hj with ⟨us', h2, rfl⟩ | ⟨h0', h2⟩ | ⟨h0', h2⟩
    ·exact .inr (hag r (List.mem_of_getElem? h1) j us' h2)
    ·rcases Nat.lt_or_ge i j with h | h
     ·exact .inr (apartL_get hap (by omega) h1 h2)
     ·exact .inr (Rg.apart_symm (apartL_get hap (by omega) h2 h1))
    ·exact .inr (hsl r (List.mem_of_getElem? h1) q (hsle ▸ List.mem_of_getElem? h2))
   ·rcases beta0_inv hj with ⟨us', h2, rfl⟩ | ⟨h0', h2⟩ | ⟨h0', h2⟩
    ·exact .inl ⟨(hslm h1).1, rfl⟩
    ·exact .inr (Rg.apart_symm (hsl q (List.mem_of_getElem? h2) r (hsle ▸ List.mem_of_getElem? h1)))
    ·exact .inl ⟨(hslm h1).1, (hslm h2).1⟩
  ·rcases beta0_inv hi with ⟨us, h1, rfl⟩ | ⟨h0, h1⟩ | ⟨h0, h1⟩
   ·exact .inr (hL i _ h1).1
   ·obtain ⟨_, v, hv⟩ := hpsm r (List.mem_of_getElem? h1)
    exact .inr (World.block_lt_of_cell? w _ hv)
   ·exact (hslm h1).2.2.1
  ·rcases beta0_inv hi with ⟨us, h1, rfl⟩ | ⟨h0, h1⟩ | ⟨h0, h1⟩
   ·exact .inl rfl
   ·exact .inr (.inr ⟨r, List.mem_of_getElem? h1, rfl, Nat.le_refl _, Nat.le_refl _⟩)
   ·exact .inl (hslm h1).1
  ·rcases beta0_inv hi with ⟨us, h1, rfl⟩ | ⟨h0, h1⟩ | ⟨h0, h1⟩
   ·cases hs
   ·rw [(hpsm r (List.mem_of_getElem? h1)).1.2.1] at hs
    cases hs
   ·exact ⟨(hslm h1).1, (hslm h1).2.1, (hslm h1).2.2.2 ks l hs⟩
  ·rcases beta0_inv hi with ⟨us, h1, rfl⟩ | ⟨h0, h1⟩ | ⟨h0, h1⟩
   ·exact .inr ⟨_, .inr ⟨i, us, h1, rfl⟩, Rg.within_refl _⟩
   ·rw [(hpsm r (List.mem_of_getElem? h1)).1.1] at hro
    cases hro
   ·exact .inr ⟨r, .inl (hsle ▸ List.mem_of_getElem? h1), Rg.within_refl _⟩
  ·obtain ⟨p, hp, hpw⟩ := hq
   exact ⟨p, hp, Rg.within_trans hw hpw⟩
  ·exfalso
   rcases beta0_inv hi with ⟨us, h1, rfl⟩ | ⟨h0, h1⟩ | ⟨h0, h1⟩
   ·cases hrow
   ·rw [(hpsm r (List.mem_of_getElem? h1)).1.2.2] at hrow
    cases hrow
   ·rw [(hslm h1).2.1] at hrow
    cases hrow
 have hgm : heapMt (beta0 gl ps sl) ρ (hpOf (ghOf gl 0)) w := by
  intro id b hb _
  obtain ⟨us, hus, _, rfl⟩ := ghOf_get hb
  rw [Nat.sub_zero] at hus
  refine blkMt_mk ⟨_, beta0_gl hus, rfl, by simp [gRg], rfl, ?_, fun h => by cases h⟩
  rw [cellsAt_iff]
  intro j c hj
  rw [List.getElem?_map] at hj
  cases hu : us[j]? with
  | none => rw [hu] at hj; simp at hj
  | some u =>
   rw [hu] at hj
   simp only [Option.map_some, zOi] at hj
   subst hj
   have hl := (hL id us hus).2 j u hu
   exact ⟨u, by simpa [gRg] using hl.1, ofC_mt hl.2⟩
 have hvl : vs.length = s.args.length := hlen.2.2.2
 have hrel : Rel x ρ (beta0 gl ps sl) (st0 gl fn s) { tmps := vs.toArray ++ Array.replicate (fn.ntmps - vs.toArray.size) undef, defers := [] } w := by
  refine ⟨?_, fun t v ht => ?_, Lk.nil rfl rfl _, i3, hgm, fun id b hb => ?_, hbo, Keep.refl _ _, fun g vs hg => beta0_gl hg, fun j r hr => ⟨(hpsm r (List.mem_of_getElem? hr)).1.2.2, hbps j r hr⟩, hsle ▸ ExtP.refl _ _⟩
  ·simp [st0, i2, hvl]
  ·simp only [st0] at ht ⊢
   rcases Nat.lt_or_ge t (initTm gl.length s.args 0 0 0).length with h | h
   ·rw [List.getElem?_append_left h] at ht
    have := i1 t v ht
    have hlt : t < vs.length := by omega
    rw [zGi, List.getElem?_eq_getElem hlt] at this
    simpa [Array.getElem?_append, hlt] using this
   ·rw [List.getElem?_append_right h, List.getElem?_replicate] at ht
    split at ht
    ·simp only [zOi] at ht
     subst ht
     exact anySV_mt _
    ·cases ht
  ·obtain ⟨us, _, _, rfl⟩ := ghOf_get hb
   rfl
 have hfresh : Fresh (beta0 gl ps sl) (ctr0 gl s) := by
  intro i hi
  simp only [ctr0] at hi
  cases hb : beta0 gl ps sl i with
  | none => rfl
  | some r =>
   have hsll : sl.length <= argS s.args := by rw [hsle]; exact argRgs_len
   rcases beta0_inv hb with ⟨us, h1, rfl⟩ | ⟨h0, h1⟩ | ⟨h0, h1⟩
   ·have := (List.getElem?_eq_some_iff.1 h1).1; omega
   ·have := (List.getElem?_eq_some_iff.1 h1).1; omega
   ·have := (List.getElem?_eq_some_iff.1 h1).1; omega
 have hG : ∀ w', Keep ps w w' -> Laid gl w' := by
  intro w' hk g us hg
  obtain ⟨h1, h2⟩ := hL g us hg
  refine ⟨by have := hk.size; omega, fun j v hj => ?_⟩
  obtain ⟨h3, h4⟩ := h2 j v hj
  refine ⟨(hk.cell _ h1 fun r hr hin => ?_).trans h3, h4⟩
  have := hag r hr g us hg
  have hlt := (List.getElem?_eq_some_iff.1 hj).1
  unfold inRg at hin
  unfold Rg.apart gRg at this
  simp only at hin this
  omega
 have hrun := exec_ok (x := x) hX hG k hx hK (hEA x rfl rfl rfl rfl hx hG) body ρ _ _ _ O o3 g3 hg3 (beta0 gl ps sl) _ w hrel hfresh
  (bodyPostM Fence.wide 0 P fn fun e w' => ∃ us β' a', e = .returned (tupV us) /\ mtAll β' ρ xs us /\ Rel x ρ β' σ a' w') fun e a' w' K hk hO => ?_
 ·exact callsIn_wide.1 (callsIn_of_wp_marks hf hbody trivial hrun rfl)
 ·obtain ⟨hKK, β', hE, hR, _⟩ := endSt_ok hx g5 hg5 hO
  have hfin : LeavesInM Fence.wide 0 P fn a'.tmps (fun e w' => ∃ us β' a', e = .returned (tupV us) /\ mtAll β' ρ xs us /\ Rel x ρ β' σ a' w') a'.defers .returning w' :=
   leaves_ok rfl rfl a'.defers hR.noDf hR.df.ma fun w2 hR2 => by
    obtain ⟨us, hus, hum⟩ := rAll_snd (P := P) (x := x) σ fn.results.toList _ _ _ _ g7 hg7 β' _ w2 hR2
    exact ⟨_, results_run hus, us, β', _, rfl, hum, hR2⟩
  rcases hKK with rfl | rfl
  ·rw [kdOf_n hk]
   exact hfin
  ·cases e <;> simp only [kdOf, zOi] at hk <;> (try (cases hk; done))
   exact hfin

theorem contract_gen {P : Program} {Φ : Funs} {X : Hnd} {gl : Gl} (hX : HOk P Φ gl X) {f : Nat} {fn : Func} (hf : P.funcs[f]? = some fn) {k : Ctl} (hK : LoopsOk Φ k) (hEA : EAll P Φ gl k) {s : Sum} {S : Smry} (h : fnX P X gl k fn s = some S)
  (hw : wsEm S.em (argI s.args) (argB s.args) = true) (hne : shOk s = true)
  (hob : ∀ (vs : List Value) (w : World) (is : List Int) (bs : List Bool) (ps : List Rg), flatArgs s.args vs w = some (is, bs, ps) -> (s.pre = true -> (S.run Φ s.pre is bs).2.headD false = true) ->
   obAll (envOf (evEm Φ S.em is bs).1 (evEm Φ S.em is bs).2) S.em = true) : Contract P gl f s (S.run Φ s.pre) := by
 intro vs w is bs ps hL hfl hap hfz hag hsl hpre
 have hlen := flatArgs_len hfl
 have hlens := flatArgs_lens hfl
 have ho := hob vs w is bs ps hfl hpre
 have hw' : wsEm S.em is.length bs.length = true := by rw [hlen.1, hlen.2.1]; exact hw
 have hgood := good_of hw' ho
 have hagree := (evEm_spec Φ S.em is bs hw').1
 unfold fnX at h
 split at h
 ·rename_i r c' out hm
  simp only [zOi] at h
  subst h
  simp only at hgood hagree ho hw' ⊢
  generalize hρ : envOf (evEm Φ out is bs).1 (evEm Φ out is bs).2 = ρ at hgood hagree ho
  unfold fnM at hm
  obtain ⟨body, c1, o1, c2, o2, y, g1, g2, he⟩ := M.bind_inv hm
  simp only [zPi] at he
  obtain ⟨rfl, rfl, rfl⟩ := he
  obtain ⟨body', hbody, he⟩ := lift_inv g1
  simp only [zPi] at he
  obtain ⟨rfl, rfl, rfl⟩ := he
  obtain ⟨O, c3, o3, c4, o4, y, g3, g4, he⟩ := M.bind_inv g2
  simp only [zPi] at he
  obtain ⟨rfl, rfl, rfl⟩ := he
  obtain ⟨σ, c5, o5, c6, o6, y, g5, g6, he⟩ := M.bind_inv g4
  simp only [zPi] at he
  obtain ⟨rfl, rfl, rfl⟩ := he
  obtain ⟨xs, c7, o7, c8, o8, y, g7, g8, he⟩ := M.bind_inv g6
  simp only [zPi] at he
  obtain ⟨rfl, rfl, rfl⟩ := he
  obtain ⟨rr, c9, o9, c10, o10, y, g9, g10, he⟩ := M.bind_inv g8
  simp only [zPi] at he
  obtain ⟨rfl, rfl, rfl⟩ := he
  obtain ⟨rr', hrr, he⟩ := lift_inv g9
  simp only [zPi] at he
  obtain ⟨rfl, rfl, rfl⟩ := he
  obtain ⟨pp, c11, o11, c12, o12, y, g11, g12, he⟩ := M.bind_inv g10
  simp only [zPi] at he
  obtain ⟨rfl, rfl, rfl⟩ := he
  obtain ⟨pp', hpp, he⟩ := lift_inv g11
  simp only [zPi] at he
  obtain ⟨rfl, rfl, rfl⟩ := he
  have he := M.pure_inv g12
  simp only [zPi] at he
  obtain ⟨rfl, rfl, rfl⟩ := he
  simp only [Good.append] at hgood
  obtain ⟨_, hg3, hg5, hg7, _⟩ := hgood
  have hi : ∀ n, n < argI s.args -> ρ.i (0 + n) = is.getD n 0 := fun n hn => by rw [Nat.zero_add]; exact hagree.1 n (by omega)
  have hbb : ∀ n, n < argB s.args -> ρ.b (0 + n) = bs.getD n false := fun n hn => by rw [Nat.zero_add]; exact hagree.2 n (by omega)
  refine Calls.mono (run_gen hX hf hK hEA hbody hne hL hfl hap hfz hag hsl hi hbb g3 hg3 g5 hg5 g7 hg7) fun e w' he => ?_
  obtain ⟨us, β', a', rfl, hum, hR⟩ := he
  have hra : ∀ (k : Nat) (r : Rg), ps[k]? = some r -> r.row = false /\ β' (gl.length + k) = some r := hR.ra
  obtain ⟨hfr, hlies⟩ := takeRes_flat hR.hm hR.bo.sq hlen.2.2.1 (fun k r hk => (hra k r hk).2) hrr hum
  have hfp := takePs_flat hR.hm hR.bo.sq hpp hlens (fun k r hk => by rw [Nat.add_zero]; exact hra k r hk)
  refine ⟨_, rfl, hR.kp, ⟨_, _, hfr, hfp, ?_, ?_⟩, fun r' hr' => ?_⟩
  ·simp only [Smry.run, hρ, List.map_append]
  ·simp only [Smry.run, hρ, List.map_append]
   cases s.pre <;> simp
  ·obtain ⟨i, r0, hi0, hw0, h0⟩ := hlies r' hr'
   have hpos := resRgs_pos hne hr'
   rcases h0 with h0 | h0
   ·rcases hR.bo.rom i r0 hi0 h0 with h1 | h1
    ·exact .inl (by rw [hw0.1]; exact h1)
    ·exact .inr (hR.bo.qs r' r0 h1 hw0)
   ·have hro := hR.bo.rw i r0 hi0 h0
    rcases hR.bo.may i r0 hi0 with h1 | h1
    ·rw [hro] at h1; cases h1
    ·rcases h1 with h1 | ⟨p, hp, h1, h2, h3⟩
     ·exact .inl (by rw [hw0.1]; exact h1)
     ·exfalso
      obtain ⟨k', hk'⟩ := List.mem_iff_getElem?.1 hp
      obtain ⟨e1, e2⟩ := hra k' p hk'
      have hne2 : i ≠ gl.length + k' := fun e => by rw [<- e, hi0] at e2; cases e2; rw [h0] at e1; cases e1
      have := hR.bo.apartW hne2 hi0 e2 hro
      unfold Rg.apart at this
      unfold Rg.within at hw0
      omega
 ·cases h

theorem callable_of {P : Program} {f : Nat} {fn : Func} (hf : P.funcs[f]? = some fn) (hn : (fn.name == "runtime.NumGoroutine") = false) (hb : fn.body.isNone = false) : ∀ args w, (callFunc f args).run P w = .ok (.enter f args) w := by
 intro args w
 unfold callFunc
 simp only [Sem.run_bind, run_program, Result.andThen_ok, hf, hn, hb, zFi, if_false, Sem.run_pure]

def noOb (l : List Em) : Bool := l.all fun | .ob _ _ => false | _ => true
theorem noOb_all {ρ : Env} {l : List Em} (h : noOb l = true) : obAll ρ l = true := by
 unfold obAll noOb at *
 rw [List.all_eq_true] at *
 intro e he
 have := h e he
 cases e <;> simp_all
theorem contract_of {P : Program} {Φ : Funs} {X : Hnd} {gl : Gl} (hX : HOk P Φ gl X) {f : Nat} {fn : Func} (hf : P.funcs[f]? = some fn) {k : Ctl} (hK : LoopsOk Φ k) {s : Sum} {S : Smry} (h : fnX P X gl k fn s = some S)
  (hw : (wsEm S.em (argI s.args) (argB s.args) && shOk s && noOb S.em) = true) (hE : k.E = {} := by rfl) : Contract P gl f s (S.run Φ s.pre) := by
 simp only [zAi] at hw
 exact contract_gen hX hf hK (EAll.nil hE) h hw.1.1 hw.1.2 fun _ _ _ _ _ _ _ => noOb_all hw.2
theorem contract_pre {P : Program} {Φ : Funs} {X : Hnd} {gl : Gl} (hX : HOk P Φ gl X) {f : Nat} {fn : Func} (hf : P.funcs[f]? = some fn) {k : Ctl} (hK : LoopsOk Φ k) {s : Sum} {S : Smry} (h : fnX P X gl k fn s = some S)
  (hw : (wsEm S.em (argI s.args) (argB s.args) && shOk s && s.pre) = true) (hE : k.E = {} := by rfl) : Contract P gl f s (S.run Φ s.pre) := by
 simp only [zAi] at hw
 refine contract_gen hX hf hK (EAll.nil hE) h hw.1.1 hw.1.2 fun vs w is bs ps _ hp => ?_
 have := hp hw.2
 simpa [Smry.run, hw.2] using this
end

def rdOps : List Oper -> List Nat -> List Nat -> List Nat
 | [], _, acc => acc
 | o :: l, wr, acc =>
  let acc' := o.op.operands.toList.foldl (fun a x => match x with | .tmp t => if wr.contains t || a.contains t then a else t :: a | _ => a) acc
  rdOps l (match o.dst with | some d => d :: wr | none => wr) acc'
def rdCode : Code -> List Nat -> List Nat
 | .region _ ops _, acc => rdOps ops.toList [] acc
 | .seq a b, acc => rdCode b (rdCode a acc)
 | .cond c a b, acc => rdCode b (rdCode a (match c with | .tmp t => if acc.contains t then acc else t :: acc | _ => acc))
 | .block _ a, acc => rdCode a acc
 | .loop a, acc => rdCode a acc
 | .rangeFunc g _ as bd, acc => rdCode bd (rdCode as (match g with | .tmp t => if acc.contains t then acc else t :: acc | _ => acc))
 | _, acc => acc
def keepOf (fn : Func) : List Bool :=
 let r := rdCode (fn.body.getD .skip) (fn.results.toList.map fun | .tmp t => t | .cell a _ => a)
 (List.range fn.ntmps).map fun t => r.contains t
def retOf (fn : Func) : List Bool :=
 let r := fn.results.toList.map fun | .tmp t => t | .cell a _ => a
 (List.range fn.ntmps).map fun t => r.contains t
def ctlOf (fn : Func) (gl : Gl) (s : Sum) : Ctl := { keep := { l := keepOf fn, fz := true }, turns := 400, ret := retOf fn, base := gl.length + (ptrShapes s.args).length + argS s.args }

def tabS : List (Nat × Sum × Fun) -> Sums
 | [], _ => none
 | (f, s, _) :: l, n => if n == f then some s else tabS l n
def tabF : List (Nat × Sum × Fun) -> Funs
 | [], _ => fun _ _ => ([], [])
 | (f, _, F) :: l, n => if n == f then F else tabF l n
theorem AllOk.nil {P : Program} {gl : Gl} : AllOk P (tabF []) gl (tabS []) := fun _ _ h => by cases h
theorem AllOk.cons {P : Program} {gl : Gl} {l : List (Nat × Sum × Fun)} {f : Nat} {s : Sum} {F : Fun} (hc : match s.sl with | none => Contract P gl f s F | some p => TabContract P gl f p) (hcall : ∀ args w, (callFunc f args).run P w = .ok (.enter f args) w)
  (hin : ∀ S, s.inl = some S -> s.pre = false /\ ∀ is bs, F is bs = S.run Fun0 false is bs) (h : AllOk P (tabF l) gl (tabS l)) : AllOk P (tabF ((f, s, F) :: l)) gl (tabS ((f, s, F) :: l)) := by
 intro n t ht
 unfold tabS at ht
 unfold tabF
 by_cases e : (n == f) = true
 ·rw [if_pos e] at ht ⊢
  simp only [zOi] at ht
  simp only [beq_iff_eq] at e
  subst e
  subst ht
  exact ⟨hc, hcall, hin⟩
 ·rw [if_neg e] at ht ⊢
  exact h n t ht
def withInl (s : Sum) (S : Smry) : Sum := { s with inl := some S }
def ctlL (fn : Func) (gl : Gl) (s : Sum) (l : List (Nat × LAnn)) : Ctl := { ctlOf fn gl s with loops := l }

def callsOf : List Em -> List Nat
 | [] => []
 | .call f _ _ _ _ _ _ :: l => f :: callsOf l
 | _ :: l => callsOf l
theorem evEm_congr {Φ Φ' : Funs} : ∀ {l : List Em} {is : List Int} {bs : List Bool}, (∀ f, f ∈ callsOf l -> Φ f = Φ' f) -> evEm Φ l is bs = evEm Φ' l is bs
 | [], _, _, _ => rfl
 | .di _ _ :: l, is, bs, h => by unfold evEm; exact evEm_congr h
 | .db _ _ :: l, is, bs, h => by unfold evEm; exact evEm_congr h
 | .ob _ _ :: l, is, bs, h => by unfold evEm; exact evEm_congr h
 | .call f ai ab i ni b nb :: l, is, bs, h => by
  unfold evEm
  simp only
  rw [h f (by simp [callsOf])]
  exact evEm_congr fun g hg => h g (by simp [callsOf, hg])
theorem run_congr {Φ Φ' : Funs} {S : Smry} {pre : Bool} (h : ∀ f, f ∈ callsOf S.em -> Φ f = Φ' f) : S.run Φ pre = S.run Φ' pre := by
 funext is bs
 unfold Smry.run
 rw [evEm_congr h]
noncomputable def lpF : List LAnn -> Funs -> Funs
 | [], Φ => Φ
 | L :: l, Φ => fun n => if n == L.id then loopF (L.S.run (lpF l Φ) true) L.nI L.nB else lpF l Φ n
def notIn (n : Nat) (l : List Nat) : Bool := l.all fun m => !(m == n)
theorem notIn_spec {n : Nat} {l : List Nat} (h : notIn n l = true) {m : Nat} (hm : m ∈ l) : m ≠ n := by
 unfold notIn at h
 rw [List.all_eq_true] at h
 have := h m hm
 simpa using this
def lpOk : List LAnn -> Bool
 | [] => true
 | L :: l => notIn L.id (callsOf L.S.em) && (l.all fun M => !(M.id == L.id) && notIn L.id (callsOf M.S.em)) && lpOk l
theorem lpF_ok {Φ : Funs} : ∀ {l : List LAnn}, lpOk l = true -> ∀ L, L ∈ l -> lpF l Φ L.id = loopF (L.S.run (lpF l Φ) true) L.nI L.nB
 | [], _, L, h => by cases h
 | M :: l, hk, L, h => by
  simp only [lpOk, zAi, List.all_eq_true] at hk
  obtain ⟨⟨h1, h2⟩, h3⟩ := hk
  rcases List.mem_cons.1 h with rfl | h
  ·have : lpF (L :: l) Φ L.id = loopF (L.S.run (lpF l Φ) true) L.nI L.nB := by simp [lpF]
   rw [this]
   congr 1
   refine run_congr fun f hf => ?_
   have := notIn_spec h1 hf
   simp [lpF, this]
  ·have h4 := h2 L h
   simp only [Bool.not_eq_true', beq_eq_false_iff_ne, ne_eq] at h4
   have : lpF (M :: l) Φ L.id = lpF l Φ L.id := by simp [lpF, h4.1]
   rw [this, lpF_ok h3 L h]
   congr 1
   refine run_congr fun f hf => ?_
   have := notIn_spec h4.2 hf
   simp [lpF, this]
theorem lpF_else {Φ : Funs} {n : Nat} : ∀ {l : List LAnn}, (l.all fun L => !(L.id == n)) = true -> lpF l Φ n = Φ n
 | [], _ => rfl
 | L :: l, h => by
  simp only [List.all_cons, zAi] at h
  have h1 : ¬ L.id = n := by simpa using h.1
  have h1' : (n == L.id) = false := by simpa using fun e => h1 (Eq.symm e)
  unfold lpF
  rw [h1']
  simp only [zFi, if_false]
  exact lpF_else h.2
def apartT (l : List LAnn) (T : List (Nat × Sum × Fun)) : Bool := T.all fun e => l.all fun L => !(L.id == e.1)
theorem tabS_mem {n : Nat} {s : Sum} : ∀ {T : List (Nat × Sum × Fun)}, tabS T n = some s -> ∃ e, e ∈ T /\ e.1 = n
 | [], h => by cases h
 | (f, t, F) :: T, h => by
  unfold tabS at h
  split at h
  ·rename_i e
   simp only [beq_iff_eq] at e
   exact ⟨_, List.mem_cons.2 (.inl rfl), e.symm⟩
  ·obtain ⟨e, he, h2⟩ := tabS_mem h
   exact ⟨e, by simp [he], h2⟩
theorem AllOk.loops {P : Program} {gl : Gl} {T : List (Nat × Sum × Fun)} (h : AllOk P (tabF T) gl (tabS T)) {l : List LAnn} (ha : apartT l T = true) : AllOk P (lpF l (tabF T)) gl (tabS T) := by
 intro f s hs
 obtain ⟨e, he, rfl⟩ := tabS_mem hs
 unfold apartT at ha
 rw [List.all_eq_true] at ha
 rw [lpF_else (ha e he)]
 exact h _ _ hs
theorem LoopsOk.of {Φ : Funs} {fn : Func} {gl : Gl} {s : Sum} {l : List (Nat × LAnn)} (h : lpOk (l.map (·.2)) = true) : LoopsOk (lpF (l.map (·.2)) Φ) (ctlL fn gl s l) :=
 fun p hp => lpF_ok h p.2 (List.mem_map.2 ⟨p, hp, rfl⟩)
section

def Beta.cutF (β : Beta) (f : Nat -> Bool) (m : Nat) (p : List Rg) : Beta := fun i => if f i then β i else if m <= i then p[i - m]? else none
theorem cutF_kn {β : Beta} {f : Nat -> Bool} {m : Nat} {p : List Rg} {i : Nat} {r : Rg} (hf : f i = true) (h : β i = some r) : β.cutF f m p i = some r := by
 unfold Beta.cutF; rw [if_pos hf]; exact h
def CutOk (f : Nat -> Bool) (m : Nat) : Prop := ∀ i, m <= i -> f i = false
theorem cutF_pool {β : Beta} {f : Nat -> Bool} {m : Nat} (hm : CutOk f m) {r : Rg} {p : List Rg} (h : r ∈ p) : ∃ i, β.cutF f m p i = some r := by
 obtain ⟨j, hj⟩ := List.mem_iff_getElem?.1 h
 exact ⟨m + j, by unfold Beta.cutF; rw [if_neg (by rw [hm _ (by omega)]; simp), if_pos (by omega), Nat.add_sub_cancel_left]; exact hj⟩
theorem cutF_inv {β : Beta} {f : Nat -> Bool} {m : Nat} {p : List Rg} {i : Nat} {r : Rg} (h : β.cutF f m p i = some r) : (f i = true /\ β i = some r) \/ (m <= i /\ p[i - m]? = some r) := by
 unfold Beta.cutF at h
 split at h
 ·rename_i hf; exact .inl ⟨hf, h⟩
 ·split at h
  ·rename_i hm; exact .inr ⟨hm, h⟩
  ·cases h
theorem cutF_from {β : Beta} {f : Nat -> Bool} {m : Nat} {p : List Rg} (hsq : ∀ i r, β i = some r -> r.sq.isSome = true -> r.ro = true /\ r.row = false) (hp : ∀ r, r ∈ p -> ∃ i, β i = some r /\ r.sq.isSome = true) {i : Nat} {r : Rg} (h : β.cutF f m p i = some r) :
  ∃ i0, β i0 = some r /\ (i0 = i /\ f i = true \/ r.ro = true /\ r.row = false) := by
 rcases cutF_inv h with ⟨h1, h2⟩ | ⟨_, h2⟩
 ·exact ⟨i, h2, .inl ⟨rfl, h1⟩⟩
 ·obtain ⟨i0, e1, e2⟩ := hp r (List.mem_of_getElem? h2)
  exact ⟨i0, e1, .inr (hsq i0 r e1 e2)⟩
def okL (f : Nat -> Bool) (l : List C) : Bool := l.all fun c => c.ids.all f
def okS (f : Nat -> Bool) : S -> Bool
 | .one _ l => okL f l
 | .tup l => l.all fun p => okL f p.2
 | .any => true
def cnC : C -> Nat
 | .slx _ _ _ => 1
 | .pxq _ _ _ _ => 1
 | _ => 0
def cnL : List C -> Nat
 | [] => 0
 | c :: l => cnC c + cnL l
def cnT : List (Bool × List C) -> Nat
 | [] => 0
 | p :: l => cnL p.2 + cnT l
def cnS : S -> Nat
 | .one _ l => cnL l
 | .tup l => cnT l
 | .any => 0
def cnXs : List S -> Nat
 | [] => 0
 | s :: l => cnS s + cnXs l
def cnHl : List (Nat × Blk) -> Nat
 | [] => 0
 | p :: l => cnL p.2.cells + cnHl l
section
variable {f : Nat -> Bool} {m : Nat} {β : Beta} {ρ : Env} (hm : CutOk f m)
theorem cutF_cap {p : List Rg} : ∀ {l : List (Nat × Nat)} {vs : List Value}, (l.map (·.1)).all f = true -> capMt β l vs -> capMt (β.cutF f m p) l vs
 | [], [], _, _ => trivial
 | q :: l, v :: vs, h, ⟨⟨r, hr, hv⟩, h2⟩ => by
  simp only [List.map_cons, List.all_cons, zAi] at h
  exact ⟨⟨r, cutF_kn h.1 hr, hv⟩, cutF_cap h.2 h2⟩
 | [], _ :: _, _, h => h.elim
 | _ :: _, [], _, h => h.elim
include hm
theorem cutF_C {c : C} {v : Value} (hc : c.ids.all f = true) (h : c.mt β ρ v) : Pool β (cnC c) fun p => c.mt (β.cutF f m p) ρ v := by
 cases c with
 | ptr l id off =>
  obtain ⟨r, hr, hv⟩ := h
  refine Pool.triv fun p => ⟨r, cutF_kn ?_ hr, hv⟩
  simp only [C.ids, List.all_cons, zAi] at hc
  rcases pick_mem (ρ := ρ) id off l with e | e
  ·rw [e]; exact hc.1
  ·exact List.all_eq_true.1 hc.2 _ e
 | pix id off s len a k => obtain ⟨h1, h2, r, hr, hv⟩ := h; exact Pool.triv fun p => ⟨h1, h2, r, cutF_kn (by simpa [C.ids] using hc) hr, hv⟩
 | sli id off len cap => obtain ⟨r, hr, hv⟩ := h; exact Pool.triv fun p => ⟨r, cutF_kn (by simpa [C.ids] using hc) hr, hv⟩
 | slx ks q len =>
  obtain ⟨h1, h2, p, cap, hv, hcap, h3⟩ := h
  rcases h3 with h3 | ⟨i, r, o, l, hr, hs, h4⟩
  ·exact Pool.triv fun p' => ⟨h1, h2, p, cap, hv, hcap, .inl h3⟩
  ·refine ⟨[r], by simp [cnC], fun r' hr' => ?_, fun p' hp => ?_⟩
   ·rw [List.mem_singleton.1 hr']
    exact ⟨i, hr, by obtain ⟨L, j, e, _⟩ := hs; rw [e]; rfl⟩
   ·obtain ⟨i', hi'⟩ := cutF_pool (β := β) hm (hp r (by simp))
    exact ⟨h1, h2, p, cap, hv, hcap, .inr ⟨i', r, o, l, hi', hs, h4⟩⟩
 | pxq ks q a k =>
  obtain ⟨h1, i, r, o, l, hr, hs, h2⟩ := h
  refine ⟨[r], by simp [cnC], fun r' hr' => ?_, fun p' hp => ?_⟩
  ·rw [List.mem_singleton.1 hr']
   exact ⟨i, hr, by obtain ⟨L, j, e, _⟩ := hs; rw [e]; rfl⟩
  ·obtain ⟨i', hi'⟩ := cutF_pool (β := β) hm (hp r (by simp))
   exact ⟨h1, i', r, o, l, hi', hs, h2⟩
 | slm id ks => obtain ⟨r, cap, q, hr, h2⟩ := h; exact Pool.triv fun p => ⟨r, cap, q, cutF_kn (by simpa [C.ids] using hc) hr, h2⟩
 | pxm id ks a k => obtain ⟨h1, r, hr, h2⟩ := h; exact Pool.triv fun p => ⟨h1, r, cutF_kn (by simpa [C.ids] using hc) hr, h2⟩
 | fn l d =>
  have hpf := pickF_ids (ρ := ρ) hc
  have h : fvMt β (pickF ρ l d) v := h
  refine Pool.triv fun p => ?_
  show fvMt (β.cutF f m p) (pickF ρ l d) v
  unfold fvMt at *
  cases hd : pickF ρ l d with
  | none => rw [hd] at h; exact h
  | some q =>
   rw [hd] at h hpf
   obtain ⟨vs, h1, h2⟩ := h
   exact ⟨vs, h1, cutF_cap hpf h2⟩
 | mp id => obtain ⟨r, hr, hv⟩ := h; exact Pool.triv fun p => ⟨r, cutF_kn (by simpa [C.ids] using hc) hr, hv⟩
 | vec => exact h.elim
 | int => exact Pool.triv fun p => h
 | bool => exact Pool.triv fun p => h
 | emp => exact Pool.triv fun p => h
 | val => exact Pool.triv fun p => h
 | junk => exact Pool.triv fun p => h
 | str => exact Pool.triv fun p => h
theorem cutF_L : ∀ {l : List C} {vs : List Value}, okL f l = true -> mtL β ρ l vs -> Pool β (cnL l) fun p => mtL (β.cutF f m p) ρ l vs
 | [], [], _, _ => Pool.triv fun _ => trivial
 | c :: l, v :: vs, hc, ⟨h1, h2⟩ => by
  simp only [okL, List.all_cons, zAi] at hc
  exact (cutF_C hm hc.1 h1).and (cutF_L hc.2 h2)
 | [], _ :: _, _, h => h.elim
 | _ :: _, [], _, h => h.elim
theorem cutF_cells {w : World} {b : Nat} : ∀ {l : List C} {o : Nat}, okL f l = true -> cellsAt β ρ w b o l -> Pool β (cnL l) fun p => cellsAt (β.cutF f m p) ρ w b o l
 | [], _, _, _ => Pool.triv fun _ => trivial
 | c :: l, o, hc, ⟨⟨v, hv, h1⟩, h2⟩ => by
  simp only [okL, List.all_cons, zAi] at hc
  exact ((cutF_C hm hc.1 h1).imp (Nat.le_refl _) fun p h => ⟨v, hv, h⟩).and (cutF_cells hc.2 h2)
theorem cutF_1 {agg : Bool} {l : List C} {v : Value} (hc : okL f l = true) (h : mt1 β ρ agg l v) : Pool β (cnL l) fun p => mt1 (β.cutF f m p) ρ agg l v := by
 unfold mt1 at *
 cases agg
 ·obtain ⟨c, rfl, h⟩ := h
  simp only [okL, List.all_cons, List.all_nil, Bool.and_true] at hc
  exact (cutF_C hm hc h).imp (Nat.le_refl _) fun p h => ⟨c, rfl, h⟩
 ·obtain ⟨vs, rfl, h⟩ := h
  exact (cutF_L hm hc h).imp (Nat.le_refl _) fun p h => ⟨vs, rfl, h⟩
theorem cutF_T : ∀ {l : List (Bool × List C)} {vs : List Value}, (l.all fun p => okL f p.2) = true -> mtT β ρ l vs -> Pool β (cnT l) fun p => mtT (β.cutF f m p) ρ l vs
 | [], [], _, _ => Pool.triv fun _ => trivial
 | p :: l, v :: vs, hc, ⟨h1, h2⟩ => by
  simp only [List.all_cons, zAi] at hc
  exact (cutF_1 hm hc.1 h1).and (cutF_T hc.2 h2)
 | [], _ :: _, _, h => h.elim
 | _ :: _, [], _, h => h.elim
theorem cutF_S {s : S} {v : Value} (hc : okS f s = true) (h : s.mt β ρ v) : Pool β (cnS s) fun p => s.mt (β.cutF f m p) ρ v := by
 cases s with
 | one agg l => exact cutF_1 hm hc h
 | tup l => obtain ⟨vs, h1, h2⟩ := h; exact (cutF_T hm hc h2).imp (Nat.le_refl _) fun p h => ⟨vs, h1, h⟩
 | any => exact Pool.triv fun _ => trivial
theorem cutF_All : ∀ {xs : List S} {vs : List Value}, xs.all (okS f) = true -> mtAll β ρ xs vs -> Pool β (cnXs xs) fun p => mtAll (β.cutF f m p) ρ xs vs
 | [], [], _, _ => Pool.triv fun _ => trivial
 | x :: xs, v :: vs, hc, ⟨h1, h2⟩ => by
  simp only [List.all_cons, zAi] at hc
  exact (cutF_S hm hc.1 h1).and (cutF_All hc.2 h2)
 | [], _ :: _, _, h => h.elim
 | _ :: _, [], _, h => h.elim
theorem cutF_blk {w : World} {id : Nat} {b : Blk} (hi : f id = true) (hc : okL f b.cells = true) (h : blkMt β ρ w id b) : Pool β (cnL b.cells) fun p => blkMt (β.cutF f m p) ρ w id b := by
 cases hv : vecOf b.cells with
 | none =>
  obtain ⟨r, hr, h0, hl, hro, hcs, hf⟩ := (blkMt_cs hv).1 h
  exact (cutF_cells hm hc hcs).imp (Nat.le_refl _) fun p hp => (blkMt_cs hv).2 ⟨r, cutF_kn hi hr, h0, hl, hro, hp, hf⟩
 | some y =>
  obtain ⟨h0, r, cap, l, hr, hh⟩ := (blkMt_row hv).1 h
  exact Pool.triv fun p => (blkMt_row hv).2 ⟨h0, r, cap, l, cutF_kn hi hr, hh⟩
theorem cutF_hl {w : World} : ∀ {l : List (Nat × Blk)}, (∀ q, q ∈ l -> f q.1 = true /\ okL f q.2.cells = true /\ blkMt β ρ w q.1 q.2) -> Pool β (cnHl l) fun p => ∀ q, q ∈ l -> blkMt (β.cutF f m p) ρ w q.1 q.2
 | [], _ => Pool.triv fun p q h => by cases h
 | u :: l, hc => by
  obtain ⟨h1, h2, h3⟩ := hc u (by simp)
  refine ((cutF_blk hm h1 h2 h3).and (cutF_hl (w := w) fun q hq => hc q (by simp [hq]))).imp (Nat.le_refl _) fun p h q hq => ?_
  rcases List.mem_cons.1 hq with rfl | hq
  ·exact h.1
  ·exact h.2 q hq
end

def argIds : List S -> List Nat
 | [] => []
 | x :: xs => sIds x ++ argIds xs
def calleeHp (ng lo : Nat) (Γ : Gd) (hp : Hp) : List Nat -> Hl
 | [] => []
 | i :: l => if Nat.blt i ng || !(Nat.blt i lo) then calleeHp ng lo Γ hp l else match hp i with
  | some b => if Gd.sub b.g Γ && !b.cells.isEmpty then (i, { g := [], ro := b.ro, cells := b.cells }) :: calleeHp ng lo Γ hp l else calleeHp ng lo Γ hp l
  | none => calleeHp ng lo Γ hp l
theorem calleeHp_spec {ng lo : Nat} {Γ : Gd} {hp : Hp} : ∀ {l : List Nat} {i : Nat} {b : Blk}, hpOf (calleeHp ng lo Γ hp l) i = some b -> ng <= i /\ i < lo /\ b.g = [] /\ b.cells ≠ [] /\ ∃ b', hp i = some b' /\ Gd.sub b'.g Γ = true /\ b.ro = b'.ro /\ b.cells = b'.cells
 | [], i, b, h => by simp [calleeHp, hpOf] at h
 | j :: l, i, b, h => by
  unfold calleeHp at h
  split at h
  ·exact calleeHp_spec h
  ·rename_i hj
   simp only [Bool.or_eq_true, Nat.blt_eq, Bool.not_eq_true', not_or, Bool.not_eq_false, Nat.not_lt] at hj
   split at h
   ·rename_i b' hb'
    split at h
    ·rename_i hc
     simp only [zAi, Bool.not_eq_true', List.isEmpty_eq_false_iff] at hc
     unfold hpOf at h
     split at h
     ·rename_i he
      simp only [beq_iff_eq] at he
      simp only [zOi] at h
      subst he; subst h
      exact ⟨hj.1, hj.2, rfl, hc.2, b', hb', hc.1, rfl, rfl⟩
     ·exact calleeHp_spec h
    ·exact calleeHp_spec h
   ·exact calleeHp_spec h
def hasB (h : Hl) (i : Nat) : Bool := match hpOf h i with | some _ => true | none => false
def outOld (h : Hl) : Hl -> Option (List (Nat × Blk))
 | [] => some []
 | (i, b) :: l => match outOld h l with
  | none => none
  | some r => if b.ro then some r else match hpOf h i with
   | some b' => if b'.g.isEmpty && !b'.ro then some ((i, b') :: r) else none
   | none => none
def isNewB (lo : Nat) (b : Blk) (i : Nat) : Bool := Nat.ble lo i && b.g.isEmpty && !b.ro
def outNew (lo : Nat) (h : Hl) : List Nat -> List (Nat × Blk)
 | [] => []
 | i :: l => match hpOf h i with
  | some b => if isNewB lo b i then (i, b) :: outNew lo h l else outNew lo h l
  | none => outNew lo h l
def knNew (lo : Nat) (h : Hl) (i : Nat) : Bool := match hpOf h i with | some b => isNewB lo b i | none => false
def tupOf : List S -> Option (List (Bool × List C))
 | [] => some []
 | .one agg l :: r => (tupOf r).map ((agg, l) :: ·)
 | _ => none
def tupS : List S -> Option S
 | [s] => some s
 | l => (tupOf l).map S.tup
theorem tupOf_mt {β : Beta} {ρ : Env} : ∀ {l : List S} {r : List (Bool × List C)} {vs : List Value}, tupOf l = some r -> mtAll β ρ l vs -> mtT β ρ r vs
 | [], r, vs, h, hm => by
  simp only [tupOf, zOi] at h
  subst h
  cases vs with
  | nil => trivial
  | cons _ _ => exact hm.elim
 | .one agg l :: r, q, vs, h, hm => by
  unfold tupOf at h
  cases hr : tupOf r with
  | none => rw [hr] at h; simp at h
  | some t =>
   rw [hr] at h
   simp only [Option.map_some, zOi] at h
   subst h
   cases vs with
   | nil => exact hm.elim
   | cons v vs => exact ⟨hm.1, tupOf_mt hr hm.2⟩
 | .tup _ :: _, _, _, h, _ => by simp [tupOf] at h
 | .any :: _, _, _, h, _ => by simp [tupOf] at h
theorem tupS_mt {β : Beta} {ρ : Env} {l : List S} {s : S} {vs : List Value} (h : tupS l = some s) (hm : mtAll β ρ l vs) : s.mt β ρ (tupV vs) := by
 unfold tupS at h
 split at h
 ·rename_i s'
  simp only [zOi] at h
  subst h
  match vs, hm with
  | [v], ⟨h1, _⟩ => exact h1
 ·rename_i hne
  cases ht : tupOf l with
  | none => rw [ht] at h; simp at h
  | some t =>
   rw [ht] at h
   simp only [Option.map_some, zOi] at h
   subst h
   have := tupOf_mt ht hm
   match vs, hm with
   | [], _ => exact ⟨_, rfl, this⟩
   | [v], hm =>
    match l, hm, hne with
    | [s], _, hne => exact (hne s rfl).elim
   | v :: u :: vs, _ => exact ⟨_, rfl, this⟩

def knOf (ng : Nat) (hl : Hl) (i : Nat) : Bool := Nat.blt i ng || hasB hl i
def knEnd (ng lo mid : Nat) (hl h : Hl) (i : Nat) : Bool := Nat.blt i mid && (knOf ng hl i || knNew lo h i)
def inlOk (ng lo : Nat) (hl : Hl) (xs : List S) : Bool :=
 Nat.ble ng lo && xs.all (okS (knOf ng hl)) && hl.all fun p => okL (knOf ng hl) p.2.cells
def inlW (lo : Nat) (h : Hl) (old : List (Nat × Blk)) : List (Nat × Blk) := old ++ outNew lo h (dedupN (h.map (·.1)))
def inlE (ng lo mid : Nat) (hl h : Hl) (s : S) (w : List (Nat × Blk)) : Bool :=
 okS (knEnd ng lo mid hl h) s && w.all fun p => knEnd ng lo mid hl h p.1 && okL (knEnd ng lo mid hl h) p.2.cells
def isVecH (hl : Hl) (i : Nat) : Bool := match hpOf hl i with | some b => (vecOf b.cells).isSome | none => false
def rowsIn (hl : Hl) : Bool := hl.any fun p => isVecH hl p.1
def rbIn (hl : Hl) (rb : List Nat) : List Nat := (hl.map (·.1)).filter fun i => isVecH hl i && rb.contains i
def ctlH (k : Ctl) (lo : Nat) (hl : Hl) : Ctl := { k with base := lo, keep := { k.keep with fz := k.keep.fz && !rowsIn hl } }
def inlSt (fn : Func) (xs : List S) (hl : Hl) : St := { tm := xs.map (fun s => { g := [], s := s }) ++ List.replicate (fn.ntmps - xs.length) anySV, hp := hl }
def inlB (P : Program) (H : Hnd) (gl : Gl) (k : Ctl) (fn : Func) (xs : List S) (lo : Nat) (body : Code) (hl : Hl) : M Res :=
 if inlOk gl.length lo hl xs then do
  let _ <- newIds (cnXs xs + cnHl hl)
  let O <- M.mono (exec P H (ghOf gl 0) gl.length (ctlH k lo hl) body (inlSt fn xs hl))
  let σ <- M.mono (endSt (ctlH k lo hl).keep O)
  let rs <- M.mono (rAll P (ghOf gl 0) gl.length σ fn.results.toList)
  let s <- lift (tupS rs)
  let old <- lift (outOld σ.hp hl)
  let mid <- getId
  let _ <- newIds (cnS s + cnHl (inlW lo σ.hp old))
  if inlE gl.length lo mid hl σ.hp s (inlW lo σ.hp old) then pure { s := s, w := inlW lo σ.hp old, rb := rbIn hl σ.rb } else M.fail
 else M.fail
def inlM (P : Program) (H : Hnd) (gl : Gl) (k : Ctl) (fn : Func) (Γ : Gd) (hp : Hp) (xs : List S) : M Res := do
 let lo <- getId
 let body <- lift fn.body
 inlB P H gl k fn xs lo body (calleeHp gl.length lo Γ hp (dedupN (reachH hp 3 (argIds xs))))
end
section

theorem hasB_some {h : Hl} {i : Nat} : hasB h i = true ↔ ∃ b, hpOf h i = some b := by
 unfold hasB
 cases hpOf h i <;> simp
theorem outOld_spec {h : Hl} : ∀ {l : Hl} {r : List (Nat × Blk)}, outOld h l = some r -> (∀ p, p ∈ r -> hpOf h p.1 = some p.2 /\ p.2.g = [] /\ p.2.ro = false /\ p.1 ∈ l.map (·.1)) /\ ∀ i b, (i, b) ∈ l -> b.ro = false -> i ∈ r.map (·.1)
 | [], r, e => by
  simp only [outOld, zOi] at e
  subst e
  exact ⟨fun p hp => (by cases hp), fun i b hb => (by cases hb)⟩
 | (j, b0) :: l, r, e => by
  unfold outOld at e
  split at e
  ·cases e
  ·rename_i r' hr'
   obtain ⟨h1, h2⟩ := outOld_spec hr'
   split at e
   ·rename_i hro
    simp only [zOi] at e
    subst e
    refine ⟨fun p hp => ?_, fun i b hb hbr => ?_⟩
    ·obtain ⟨a1, a2, a3, a4⟩ := h1 p hp
     exact ⟨a1, a2, a3, by simp only [List.map_cons, List.mem_cons]; exact .inr a4⟩
    ·rcases List.mem_cons.1 hb with e | hb
     ·cases e; rw [hro] at hbr; cases hbr
     ·exact h2 i b hb hbr
   ·split at e
    ·rename_i b' hb'
     split at e
     ·rename_i hc
      simp only [zAi, List.isEmpty_iff, Bool.not_eq_true'] at hc
      simp only [zOi] at e
      subst e
      refine ⟨fun p hp => ?_, fun i b hb hbr => ?_⟩
      ·rcases List.mem_cons.1 hp with rfl | hp
       ·exact ⟨hb', hc.1, hc.2, by simp⟩
       ·obtain ⟨a1, a2, a3, a4⟩ := h1 p hp
        exact ⟨a1, a2, a3, by simp only [List.map_cons, List.mem_cons]; exact .inr a4⟩
      ·rcases List.mem_cons.1 hb with e | hb
       ·cases e; simp
       ·simp only [List.map_cons, List.mem_cons]; exact .inr (h2 i b hb hbr)
     ·cases e
    ·cases e
theorem isNewB_spec {lo : Nat} {b : Blk} {i : Nat} (h : isNewB lo b i = true) : lo <= i /\ b.g = [] /\ b.ro = false := by
 unfold isNewB at h
 simp only [zAi, Nat.ble_eq, List.isEmpty_iff, Bool.not_eq_true'] at h
 exact ⟨h.1.1, h.1.2, h.2⟩
theorem outNew_spec {lo : Nat} {h : Hl} : ∀ {l : List Nat} {p : Nat × Blk}, p ∈ outNew lo h l -> hpOf h p.1 = some p.2 /\ lo <= p.1 /\ p.2.g = [] /\ p.2.ro = false
 | [], p, hp => by cases hp
 | i :: l, p, hp => by
  unfold outNew at hp
  split at hp
  ·rename_i b hb
   split at hp
   ·rename_i hc
    rcases List.mem_cons.1 hp with rfl | hp
    ·obtain ⟨h1, h2, h3⟩ := isNewB_spec hc
     exact ⟨hb, h1, h2, h3⟩
    ·exact outNew_spec hp
   ·exact outNew_spec hp
  ·exact outNew_spec hp
theorem mtAll_len {β : Beta} {ρ : Env} : ∀ {xs : List S} {vs : List Value}, mtAll β ρ xs vs -> xs.length = vs.length
 | [], [], _ => rfl
 | _ :: _, _ :: _, h => by simp [mtAll_len h.2]
def rg0 : Rg := { blk := 0, off := 0, len := 0, ro := true }
def wrIds (hl : Hl) : List Nat := (hl.map (·.1)).filter fun i => match hpOf hl i with | some b => !b.ro | none => false
theorem wrIds_mem {hl : Hl} {i : Nat} : i ∈ wrIds hl ↔ ∃ b, hpOf hl i = some b /\ b.ro = false := by
 unfold wrIds
 rw [List.mem_filter]
 constructor
 ·rintro ⟨_, h⟩
  split at h
  ·rename_i b hb; exact ⟨b, hb, by simpa using h⟩
  ·cases h
 ·rintro ⟨b, hb, hro⟩
  exact ⟨List.mem_map.2 ⟨_, hpOf_mem' hb, rfl⟩, by rw [hb]; simp [hro]⟩
def wrRg (β : Beta) (hl : Hl) : List Rg := (wrIds hl).map fun i => (β i).getD rg0
def wrIdsN (hl : Hl) : List Nat := (wrIds hl).filter fun i => !isVecH hl i
def wrRgN (β : Beta) (hl : Hl) : List Rg := (wrIdsN hl).map fun i => (β i).getD rg0
theorem wrIdsN_all {hl : Hl} (h : rowsIn hl = false) : wrIdsN hl = wrIds hl := by
 unfold wrIdsN
 rw [List.filter_eq_self]
 intro i hi
 cases hv : isVecH hl i with
 | false => rfl
 | true =>
  obtain ⟨b, hb, _⟩ := wrIds_mem.1 hi
  unfold rowsIn at h
  rw [List.any_eq_false] at h
  exact absurd hv (h _ (hpOf_mem' hb))
theorem rbIn_mem {hl : Hl} {rb : List Nat} {i : Nat} : i ∈ rbIn hl rb ↔ isVecH hl i = true /\ i ∈ rb := by
 unfold rbIn
 rw [List.mem_filter]
 simp only [zAi, List.contains_iff_mem]
 refine ⟨fun h => h.2, fun h => ⟨?_, h⟩⟩
 have h1 := h.1
 unfold isVecH at h1
 split at h1
 ·rename_i b hb; exact List.mem_map.2 ⟨_, hpOf_mem' hb, rfl⟩
 ·cases h1
def inCx (β : Beta) (gl : Gl) (w : World) (hl : Hl) (b0 : Beta) : Cx :=
 { w0 := w, R := wrRg β hl, gl := gl, gr := wrRgN β hl, Q := fun q => ∃ i0 r0, β i0 = some r0 /\ r0.ro = true /\ q.within r0, b0 := b0, gi := fun j => (wrIdsN hl).getD j 0 }
theorem cutF_bo {N : Nat} {R R2 : List Rg} {Q : Rg -> Prop} {β : Beta} {w : World} {f : Nat -> Bool} {m : Nat} {p : List Rg} (hb : BetaOk N R Q β w) (hp : ∀ r, r ∈ p -> ∃ i, β i = some r /\ r.sq.isSome = true) (hcov : ∀ i r, f i = true -> β i = some r -> r.ro = false -> r ∈ R2) :
  BetaOk w.heap.size R2 (fun q => ∃ i0 r0, β i0 = some r0 /\ r0.ro = true /\ q.within r0) (β.cutF f m p) w := by
 have hsq : ∀ i r, β i = some r -> r.sq.isSome = true -> r.ro = true /\ r.row = false := fun i r hi hs => by
  obtain ⟨x, hx⟩ := Option.isSome_iff_exists.1 hs
  have := hb.sq i r x.1 x.2 hi hx
  exact ⟨this.1, this.2.1⟩
 have key : ∀ {i : Nat} {r : Rg}, β.cutF f m p i = some r -> ∃ i0, β i0 = some r /\ (i0 = i /\ f i = true \/ r.ro = true /\ r.row = false) := fun h => cutF_from hsq hp h
 refine ⟨fun i j r q hij hi hj => ?_, fun i r hi => ?_, fun i r hi => ?_, fun i r ks l hi hs => ?_, fun i r hi hro => ?_, fun r q hq hw => ?_, fun i r hi hrow => ?_⟩
 ·obtain ⟨i0, e1, e2⟩ := key hi
  obtain ⟨j0, e3, e4⟩ := key hj
  by_cases he : i0 = j0
  ·subst he
   rw [e1] at e3
   cases e3
   rcases e2 with e2 | e2
   ·rcases e4 with e4 | e4
    ·exact absurd (e2.1.symm.trans e4.1) hij
    ·exact .inl ⟨e4.1, e4.1⟩
   ·exact .inl ⟨e2.1, e2.1⟩
  ·exact hb.apart i0 j0 r q he e1 e3
 ·obtain ⟨i0, e1, _⟩ := key hi; exact hb.place i0 r e1
 ·obtain ⟨i0, e1, e2⟩ := key hi
  rcases e2 with e2 | e2
  ·cases hro : r.ro with
   | true => exact .inl rfl
   | false => exact .inr (.inr ⟨r, hcov i r e2.2 (by rw [<- e2.1]; exact e1) hro, rfl, Nat.le_refl _, Nat.le_refl _⟩)
  ·exact .inl e2.1
 ·obtain ⟨i0, e1, _⟩ := key hi; exact hb.sq i0 r ks l e1 hs
 ·obtain ⟨i0, e1, _⟩ := key hi; exact .inr ⟨i0, r, e1, hro, Rg.within_refl r⟩
 ·obtain ⟨i0, r0, e1, e2, e3⟩ := hq; exact ⟨i0, r0, e1, e2, Rg.within_trans hw e3⟩
 ·obtain ⟨i0, e1, _⟩ := key hi; exact hb.rw i0 r e1 hrow

section
variable {P : Program} {Φ : Funs} {gl : Gl}
theorem knOf_lt {lo : Nat} {Γ : Gd} {hp : Hp} {ids : List Nat} {hl : Hl} (hhl : hl = calleeHp gl.length lo Γ hp ids) (hlo : gl.length <= lo) : CutOk (knOf gl.length hl) lo := fun i hi => by
 cases h : knOf gl.length hl i with
 | false => rfl
 | true =>
  unfold knOf at h
  simp only [Bool.or_eq_true, Nat.blt_eq] at h
  rcases h with h | h
  ·omega
  ·obtain ⟨b, hb'⟩ := hasB_some.1 h
   rw [hhl] at hb'
   obtain ⟨_, h2, _⟩ := calleeHp_spec hb'
   omega
theorem inl_rel {Γ : Gd} {hp : Hp} {xs : List S} {ρ : Env} {N : Nat} {R : List Rg} {Q : Rg -> Prop} {β : Beta} {w : World} {vs : List Value} {lo : Nat} {ids : List Nat} {hl : Hl} (hhl : hl = calleeHp gl.length lo Γ hp ids) (hok : inlOk gl.length lo hl xs = true)
  (hΓ : Gd.d ρ Γ = true) (hm : mtAll β ρ xs vs) (hh : heapMt β ρ hp w) (hb : BetaOk N R Q β w) (hG : GB gl β w) (fn : Func) :
  ∃ p : List Rg, p.length <= cnXs xs + cnHl hl /\ Rel (inCx β gl w hl (β.cutF (knOf gl.length hl) lo p)) ρ (β.cutF (knOf gl.length hl) lo p) (inlSt fn xs hl) { tmps := vs.toArray ++ Array.replicate (fn.ntmps - vs.toArray.size) undef, defers := [] } w /\
   (∀ i b, hpOf hl i = some b -> ∃ r, β i = some r /\ β.cutF (knOf gl.length hl) lo p i = some r /\ r.ro = b.ro /\ r.row = isVecH hl i /\ i < lo /\ gl.length <= i /\ (r.len ≠ 0 -> ∃ j v, w.cell? ⟨r.blk, j, none⟩ = some v)) := by
 unfold inlOk at hok
 simp only [zAi, Nat.ble_eq] at hok
 obtain ⟨⟨hlo, hxs⟩, hcs⟩ := hok
 have hcut : CutOk (knOf gl.length hl) lo := knOf_lt hhl hlo
 have hblk : ∀ i b, hpOf hl i = some b -> knOf gl.length hl i = true /\ okL (knOf gl.length hl) b.cells = true /\ blkMt β ρ w i b /\ ∃ r, β i = some r /\ r.ro = b.ro /\ r.row = isVecH hl i /\ i < lo /\ gl.length <= i /\ (r.len ≠ 0 -> ∃ j v, w.cell? ⟨r.blk, j, none⟩ = some v) := fun i b hi => by
  have hi' := hi
  rw [hhl] at hi'
  obtain ⟨h1, h2, h3, h4, b', hb', hsub, hro, hc⟩ := calleeHp_spec hi'
  have hmb := hh i b' hb' (Gd.sub_d hsub hΓ)
  have hcb : okL (knOf gl.length hl) b.cells = true := by
   rw [List.all_eq_true] at hcs
   exact hcs _ (hpOf_mem' hi)
  cases hv : vecOf b'.cells with
  | none =>
   have h5 : vecOf b.cells = none := by rw [hc]; exact hv
   have h6 : isVecH hl i = false := by unfold isVecH; rw [hi]; simp only [h5]; rfl
   obtain ⟨r, hr, hrow, hl', hro', hca, hf⟩ := (blkMt_cs hv).1 hmb
   refine ⟨by unfold knOf; simp [hasB_some.2 ⟨b, hi⟩], hcb, (blkMt_cs h5).2 ⟨r, hr, hrow, by rw [hl', hc], by rw [hro', hro], by rw [hc]; exact hca, fun h0 j hj => hf (by rw [<- hro]; exact h0) j (by rw [<- hc]; exact hj)⟩, r, hr, by rw [hro', hro], by rw [hrow, h6], h2, h1, fun _ => ?_⟩
   rw [cellsAt_iff] at hca
   rw [hc] at h4
   obtain ⟨v, hv, _⟩ := hca 0 _ (List.getElem?_eq_getElem (List.length_pos_iff.2 h4))
   exact ⟨_, v, hv⟩
  | some y =>
   have h5 : vecOf b.cells = some y := by rw [hc]; exact hv
   have h6 : isVecH hl i = true := by unfold isVecH; rw [hi]; simp only [h5]; rfl
   obtain ⟨h0, hrm⟩ := (blkMt_row hv).1 hmb
   have hrm0 := hrm
   obtain ⟨r, cap, l, hr, hrow, hro', _, _, _, _, _, _, _, _, hcell⟩ := hrm
   refine ⟨by unfold knOf; simp [hasB_some.2 ⟨b, hi⟩], hcb, (blkMt_row h5).2 ⟨by rw [hro, h0], hrm0⟩, r, hr, by rw [hro', hro, h0], by rw [hrow, h6], h2, h1, fun hz => ?_⟩
   obtain ⟨⟨v, hv, _⟩, _⟩ := hcell 0 (by omega)
   exact ⟨_, v, hv⟩
 obtain ⟨hl1, hhl1⟩ : ∃ hl1, hl1 = ((hl.map (·.1)).filterMap fun i => (hpOf hl i).map fun b => (i, b)) := ⟨_, rfl⟩
 have hmem : ∀ q : Nat × Blk, hpOf hl q.1 = some q.2 -> q ∈ hl := fun q hq => hpOf_mem' hq
 have hpool := (cutF_All hcut hxs hm).and (k := cnXs xs) (l := cnHl hl) (X := fun p => mtAll (β.cutF (knOf gl.length hl) lo p) ρ xs vs) (Y := fun p => ∀ q, q ∈ hl -> hpOf hl q.1 = some q.2 -> blkMt (β.cutF (knOf gl.length hl) lo p) ρ w q.1 q.2) (by
  have key : ∀ l : Hl, Pool β (cnHl l) fun p => ∀ q, q ∈ l -> hpOf hl q.1 = some q.2 -> blkMt (β.cutF (knOf gl.length hl) lo p) ρ w q.1 q.2 := by
   intro l
   induction l with
   | nil => exact Pool.triv fun p q h => by cases h
   | cons u l ih =>
    have h0 : Pool β (cnL u.2.cells) fun p => hpOf hl u.1 = some u.2 -> blkMt (β.cutF (knOf gl.length hl) lo p) ρ w u.1 u.2 := Pool.if fun h => by
     obtain ⟨e1, e2, e3, _⟩ := hblk u.1 u.2 h
     exact cutF_blk hcut e1 e2 e3
    refine (h0.and ih).imp (Nat.le_refl _) fun p h q hq => ?_
    rcases List.mem_cons.1 hq with rfl | hq
    ·exact h.1
    ·exact h.2 q hq
  exact key hl)
 obtain ⟨p, hp1, hp2, hp3⟩ := hpool
 obtain ⟨hm', hh'⟩ := hp3 p fun _ h => h
 have hkn : ∀ i r, knOf gl.length hl i = true -> β i = some r -> β.cutF (knOf gl.length hl) lo p i = some r := fun i r hk hi => cutF_kn hk hi
 have hcov : ∀ i r, knOf gl.length hl i = true -> β i = some r -> r.ro = false -> r ∈ wrRg β hl := fun i r hk hi hro => by
  unfold knOf at hk
  simp only [Bool.or_eq_true, Nat.blt_eq] at hk
  rcases hk with hk | hk
  ·have := hG.2 i _ (List.getElem?_eq_getElem hk)
   rw [hi] at this
   simp only [zOi] at this
   rw [this] at hro
   cases hro
  ·obtain ⟨b, hb'⟩ := hasB_some.1 hk
   obtain ⟨_, _, _, r', e1, e2, _⟩ := hblk i b hb'
   rw [hi] at e1
   cases e1
   unfold wrRg
   exact List.mem_map.2 ⟨i, wrIds_mem.2 ⟨b, hb', by rw [<- e2]; exact hro⟩, by rw [hi]; rfl⟩
 refine ⟨p, hp1, ⟨?_, fun t v ht => ?_, Lk.nil rfl rfl _, fun i b hi _ => hh' (i, b) (hpOf_mem' hi) hi, ?_, fun id b hb' => ?_, cutF_bo hb hp2 hcov, Keep.refl _ _, fun g us hg => ?_, fun j r hr => ?_, ExtP.refl _ _⟩, fun i b hi => ?_⟩
 ·simp [inlSt, mtAll_len hm]
 ·have key : ∀ {xs : List S} {vs : List Value} {n : Nat} {t : Nat} {v : SV} {β : Beta}, mtAll β ρ xs vs -> (xs.map (fun s => ({ g := [], s := s } : SV)) ++ List.replicate n anySV)[t]? = some v -> v.mt β ρ ((vs ++ List.replicate n undef).getD t undef) := by
   intro xs
   induction xs with
   | nil =>
    intro vs n t v β hm ht
    simp only [List.map_nil, List.nil_append, List.getElem?_replicate] at ht
    split at ht
    ·simp only [zOi] at ht
     subst ht
     exact anySV_mt _
    ·cases ht
   | cons x xs ih =>
    intro vs n t v β hm ht
    cases vs with
    | nil => exact hm.elim
    | cons u vs =>
     cases t with
     | zero =>
      simp at ht
      subst ht
      exact ⟨fun _ => by simpa using hm.1, fun h => by cases h⟩
     | succ t =>
      have := ih (vs := vs) (n := n) (t := t) (v := v) hm.2 (by simpa using ht)
      simpa using this
  have hlen := mtAll_len hm
  have := key hm' ht
  rw [hlen] at this
  rw [zGi] at this
  have e : (vs.toArray ++ Array.replicate (fn.ntmps - vs.toArray.size) undef).getD t undef = ((vs ++ List.replicate (fn.ntmps - vs.length) undef)[t]?).getD undef := by
   have : (vs.toArray ++ Array.replicate (fn.ntmps - vs.toArray.size) undef) = (vs ++ List.replicate (fn.ntmps - vs.length) undef).toArray := by
    apply Array.toList_inj.1; simp
   rw [this]
   simp
  rw [e]
  exact this
 ·intro id b hb' _
  obtain ⟨us, hus, _, rfl⟩ := ghOf_get hb'
  rw [Nat.sub_zero] at hus
  have hus : gl[id]? = some us := hus
  have hlt : id < gl.length := (List.getElem?_eq_some_iff.1 hus).1
  refine blkMt_mk ⟨_, hkn _ _ (by unfold knOf; simp [hlt]) (hG.2 id us hus), rfl, by simp [gRg], rfl, ?_, fun h => by cases h⟩
  rw [cellsAt_iff]
  intro j c hj
  rw [List.getElem?_map] at hj
  cases hu : us[j]? with
  | none => rw [hu] at hj; simp at hj
  | some u =>
   rw [hu] at hj
   simp only [Option.map_some, zOi] at hj
   subst hj
   have hl := (hG.1 id us hus).2 j u hu
   exact ⟨u, by simpa [gRg] using hl.1, ofC_mt hl.2⟩
 ·obtain ⟨us, _, _, rfl⟩ := ghOf_get hb'
  rfl
 ·have hg : gl[g]? = some us := hg
  have hlt : g < gl.length := (List.getElem?_eq_some_iff.1 hg).1
  exact hkn _ _ (by unfold knOf; simp [hlt]) (hG.2 g us hg)
 ·have hr : (wrRgN β hl)[j]? = some r := hr
  unfold wrRgN at hr
  rw [List.getElem?_map, Option.map_eq_some_iff] at hr
  obtain ⟨i, hi, rfl⟩ := hr
  have hmem' := List.mem_of_getElem? hi
  unfold wrIdsN at hmem'
  obtain ⟨hm1, hm2⟩ := List.mem_filter.1 hmem'
  obtain ⟨b, hb', hro⟩ := wrIds_mem.1 hm1
  obtain ⟨e0, _, _, r', e1, e2, e3, _⟩ := hblk i b hb'
  rw [e1]
  refine ⟨?_, ?_⟩
  ·show r'.row = false
   rw [e3]; simpa using hm2
  show β.cutF (knOf gl.length hl) lo p ((wrIdsN hl).getD j 0) = some r'
  rw [zGi, hi]
  exact hkn _ _ e0 e1
 ·obtain ⟨e0, _, _, r', e1, e2, e3, e4, e5, e6⟩ := hblk i b hi
  exact ⟨r', e1, hkn _ _ e0 e1, e2, e3, e4, e5, e6⟩
def beOut (β δ : Beta) (lo hi : Nat) (rb : List Nat) : Beta := fun i => if (lo <= i /\ i < hi) \/ i ∈ rb then δ i else β i
theorem beOut_old {β δ : Beta} {lo hi i : Nat} {rb : List Nat} (h : ¬ ((lo <= i /\ i < hi) \/ i ∈ rb)) : beOut β δ lo hi rb i = β i := by unfold beOut; rw [if_neg h]
theorem beOut_new {β δ : Beta} {lo hi i : Nat} {rb : List Nat} (h : (lo <= i /\ i < hi) \/ i ∈ rb) : beOut β δ lo hi rb i = δ i := by unfold beOut; rw [if_pos h]
theorem inl_post {ρ : Env} {N : Nat} {R : List Rg} {Q : Rg -> Prop} {β γ β' : Beta} {w w' : World} {lo mid hi : Nat} {hl : Hl} {xs : List S} (hok : inlOk gl.length lo hl xs = true) {σ : St} {old : List (Nat × Blk)} (hold : outOld σ.hp hl = some old) {s : S} (hend : inlE gl.length lo mid hl σ.hp s (inlW lo σ.hp old) = true)
  {v : Value} (hs : s.mt β' ρ v) (hb : BetaOk N R Q β w) (hN : N <= w.heap.size) (hG : GB gl β w) (hfr : ∀ i, lo <= i -> i < hi -> β i = none) (hlm : lo <= mid) (hmh : mid + (cnS s + cnHl (inlW lo σ.hp old)) <= hi)
  (hknown : ∀ i b, hpOf hl i = some b -> ∃ r, β i = some r /\ γ i = some r /\ r.ro = b.ro /\ r.row = isVecH hl i /\ i < lo /\ gl.length <= i /\ (r.len ≠ 0 -> ∃ j v, w.cell? ⟨r.blk, j, none⟩ = some v))
  (hE : Ext γ β') {a : Act} (hrel : Rel (inCx β gl w hl γ) ρ β' σ a w') :
  RPost N R Q ρ β w lo hi { s := s, w := inlW lo σ.hp old, rb := rbIn hl σ.rb } v w' := by
 unfold inlOk at hok
 simp only [zAi, Nat.ble_eq] at hok
 obtain ⟨⟨hlo, _⟩, _⟩ := hok
 unfold inlE at hend
 simp only [zAi] at hend
 obtain ⟨hend1, hend2⟩ := hend
 obtain ⟨ho1, ho2⟩ := outOld_spec hold
 have hcut : CutOk (knEnd gl.length lo mid hl σ.hp) mid := fun i hi => by
  have : Nat.blt i mid = false := by
   cases h : Nat.blt i mid
   ·rfl
   ·rw [Nat.blt_eq] at h; omega
  unfold knEnd
  rw [this, Bool.false_and]
 have hW : ∀ q, q ∈ inlW lo σ.hp old -> knEnd gl.length lo mid hl σ.hp q.1 = true /\ okL (knEnd gl.length lo mid hl σ.hp) q.2.cells = true /\ blkMt β' ρ w' q.1 q.2 := fun q hq => by
  have h1 := (List.all_eq_true.1 hend2) q hq
  simp only [zAi] at h1
  refine ⟨h1.1, h1.2, ?_⟩
  simp only [inlW, List.mem_append] at hq
  rcases hq with hq | hq
  ·obtain ⟨a1, a2, _⟩ := ho1 q hq
   exact hrel.hm q.1 q.2 a1 (by rw [a2]; rfl)
  ·obtain ⟨a1, _, a3, _⟩ := outNew_spec hq
   exact hrel.hm q.1 q.2 a1 (by rw [a3]; rfl)
 obtain ⟨p, hp1, hp2, hp3⟩ := (cutF_S hcut hend1 hs).and (cutF_hl hcut (ρ := ρ) hW)
 obtain ⟨hs', hW'⟩ := hp3 p fun _ h => h
 obtain ⟨δ, hδ⟩ : ∃ δ, δ = β'.cutF (knEnd gl.length lo mid hl σ.hp) mid p := ⟨_, rfl⟩
 rw [<- hδ] at hs' hW'
 have hsqo : ∀ i r, β' i = some r -> r.sq.isSome = true -> r.ro = true /\ r.row = false := fun i r hi hs => by
  obtain ⟨x, hx⟩ := Option.isSome_iff_exists.1 hs
  have := hrel.bo.sq i r x.1 x.2 hi hx
  exact ⟨this.1, this.2.1⟩
 have hfrom : ∀ {i : Nat} {r : Rg}, δ i = some r -> ∃ i0, β' i0 = some r /\ (i0 = i /\ knEnd gl.length lo mid hl σ.hp i = true \/ r.ro = true /\ r.row = false) := fun h => cutF_from hsqo hp2 (by rw [<- hδ]; exact h)
 obtain ⟨rb, hrb⟩ : ∃ rb, rb = rbIn hl σ.rb := ⟨_, rfl⟩
 rw [<- hrb]
 have hstay : ∀ i b r, hpOf hl i = some b -> i ∉ rb -> β i = some r -> β' i = some r := fun i b r hi' hn hr => by
  obtain ⟨r', e1, e2, _, e3, _⟩ := hknown i b hi'
  rw [hr] at e1
  cases e1
  refine hrel.eb i r e2 ?_
  cases hv : isVecH hl i with
  | false => exact .inl (by rw [e3, hv])
  | true =>
   right
   show (!σ.rb.contains i) = true
   cases hc : σ.rb.contains i with
   | false => rfl
   | true => exact absurd (rbIn_mem.2 ⟨hv, by simpa using hc⟩) (by rw [<- hrb]; exact hn)
 have hrbk : ∀ i, i ∈ rb -> ∃ b r, hpOf hl i = some b /\ β i = some r /\ r.row = true /\ r.ro = false /\ b.ro = false /\ i < lo := fun i hi' => by
  rw [hrb] at hi'
  have hv := (rbIn_mem.1 hi').1
  have hv' := hv
  unfold isVecH at hv'
  split at hv'
  ·rename_i b hb'
   obtain ⟨r', e1, _, e3, e4, e5, _⟩ := hknown i b hb'
   have e6 : r'.row = true := by rw [e4, hv]
   have e7 := hb.rw i r' e1 e6
   exact ⟨b, r', hb', e1, e6, e7, by rw [<- e3]; exact e7, e5⟩
  ·cases hv'
 have hsub : ∀ i r, δ i = some r -> beOut β δ lo hi rb i = some r := fun i r hi' => by
  by_cases h : (lo <= i /\ i < hi) \/ i ∈ rb
  ·rw [beOut_new h]; exact hi'
  ·rw [beOut_old h]
   rw [hδ] at hi'
   rcases cutF_inv hi' with ⟨h1, h2⟩ | ⟨h1, h2⟩
   ·unfold knEnd at h1
    simp only [zAi, Nat.blt_eq, Bool.or_eq_true] at h1
    have hlt : i < lo := by
     rcases Nat.lt_or_ge i lo with h3 | h3
     ·exact h3
     ·exact absurd (.inl ⟨h3, by omega⟩) h
    rcases h1.2 with hk | hk
    ·unfold knOf at hk
     simp only [Bool.or_eq_true, Nat.blt_eq] at hk
     rcases hk with hk | hk
     ·have e1 := hrel.gl i _ (List.getElem?_eq_getElem hk)
      have e2 := hG.2 i _ (List.getElem?_eq_getElem hk)
      rw [h2] at e1
      rw [e2, e1]
     ·obtain ⟨b, hb'⟩ := hasB_some.1 hk
      obtain ⟨r', e1, _⟩ := hknown i b hb'
      have := hstay i b r' hb' (fun h4 => h (.inr h4)) e1
      rw [h2] at this
      rw [e1]
      exact this.symm
    ·unfold knNew at hk
     split at hk
     ·obtain ⟨e1, _⟩ := isNewB_spec hk; omega
     ·cases hk
   ·have := (List.getElem?_eq_some_iff.1 h2).1
    exact absurd (.inl ⟨by omega, by omega⟩) h
 have hmv : Mv (fun _ => true) δ (beOut β δ lo hi rb) := ⟨fun i r hi' _ => hsub i r hi', fun i r hi' hs => by
  obtain ⟨i0, e1, _⟩ := hfrom hi'
  exact hsqo i0 r e1 hs⟩
 have hsz : w.heap.size <= w'.heap.size := hrel.kp.size
 have hR2 : ∀ r, r ∈ wrRg β hl -> ∃ i b, hpOf hl i = some b /\ β i = some r /\ r.ro = false /\ b.ro = false /\ i < lo /\ (r.len ≠ 0 -> ∃ j v, w.cell? ⟨r.blk, j, none⟩ = some v) := fun r hr => by
  unfold wrRg at hr
  obtain ⟨i, hi', rfl⟩ := List.mem_map.1 hr
  obtain ⟨b, hb', hro⟩ := wrIds_mem.1 hi'
  obtain ⟨r', e1, e2, e3, e4, e5, e6, e7⟩ := hknown i b hb'
  rw [e1]
  exact ⟨i, b, hb', e1, by simpa [hro] using e3, hro, e5, e7⟩
 have hnew : ∀ j q, β' j = some q -> w.heap.size <= q.blk \/ (q.ro = false /\ ∃ i0 q0, i0 < lo /\ β i0 = some q0 /\ (i0 ∉ rb -> β' i0 = some q0) /\ q0.ro = false /\ q0.blk = q.blk /\ q0.off <= q.off /\ q.off + q.len <= q0.off + q0.len) \/ (q.ro = true /\ ∃ i0 r0, β i0 = some r0 /\ r0.ro = true /\ q.within r0) := fun j q h3 => by
  cases hro : q.ro with
  | false =>
   rcases hrel.bo.may j q h3 with h | h
   ·rw [hro] at h; cases h
   ·rcases h with h | ⟨q0, hq0, e1, e2, e3⟩
    ·exact .inl h
    ·obtain ⟨i0, b0, g1, g2, g3, _, g4, _⟩ := hR2 q0 hq0
     exact .inr (.inl ⟨rfl, i0, q0, g4, g2, fun hn => hstay i0 b0 q0 g1 hn g2, g3, e1, e2, e3⟩)
  | true =>
   rcases hrel.bo.rom j q h3 hro with h | h
   ·exact .inl h
   ·exact .inr (.inr ⟨rfl, h⟩)
 have hold_new : ∀ i j r q, ¬ ((lo <= i /\ i < hi) \/ i ∈ rb) -> ((lo <= j /\ j < hi) \/ j ∈ rb) -> β i = some r -> δ j = some q -> (r.ro = true /\ q.ro = true) \/ r.apart q := fun i j r q h1 h2 h3 h4 => by
  obtain ⟨j0, k1, k2⟩ := hfrom h4
  rcases hnew j0 q k1 with h | ⟨h, i0, q0, e0, e1, e2, e3, e4, e5, e6⟩ | ⟨h, i0, r0, e1, e2, e3⟩
  ·right
   have := hb.place i r h3
   unfold Rg.apart
   omega
  ·right
   have hj0 : j0 = j := by
    rcases k2 with k2 | k2
    ·exact k2.1
    ·rw [h] at k2; cases k2.1
   subst hj0
   by_cases hi0 : i = i0
   ·subst hi0
    rw [h3] at e1
    cases e1
    exact hrel.bo.apartW (fun e => h1 (by rw [e]; exact h2)) (e2 fun h4 => h1 (.inr h4)) k1 e3
   ·have := Rg.apart_symm (hb.apartW (i := i0) (j := i) (fun e => hi0 e.symm) e1 h3 e3)
    unfold Rg.apart at *
    omega
  ·cases hro : r.ro with
   | true => exact .inl ⟨rfl, h⟩
   | false =>
    right
    have hne : i ≠ i0 := fun e => by subst e; rw [h3] at e1; cases e1; rw [hro] at e2; cases e2
    exact Rg.apart_symm (Rg.within_apart e3 (Rg.apart_symm (hb.apartW hne h3 e1 hro)))
 have hb2 : BetaOk N R Q β w' := hb.keep (W := wrRg β hl) (fun r hr => by obtain ⟨i, b, _, e2, e3, _⟩ := hR2 r hr; exact ⟨i, e2, e3⟩) hrel.kp
 refine ⟨beOut β δ lo hi rb, ⟨fun i r hi' hp => ?_, ⟨fun i j r q hij hi' hj => ?_, fun i r hi' => ?_, fun i r hi' => ?_, fun i r ks l hi' hsq => ?_, fun i r hi' hro => ?_, hb.qs, fun i r hi' hrow => ?_⟩, ⟨_, fun r hr => ?_, hrel.kp.nz⟩, fun i hi' hn => beOut_old (by rintro (h | h); omega; exact hn h), fun i hi' => ?_⟩, S.mt_mv hmv hs', fun q hq => ?_⟩
 ·by_cases h : (lo <= i /\ i < hi) \/ i ∈ rb
  ·rcases h with h | h
   ·rw [hfr i h.1 h.2] at hi'; cases hi'
   ·exfalso
    obtain ⟨b, r', _, e1, e2, _⟩ := hrbk i h
    rw [hi'] at e1
    cases e1
    rcases hp with hp | hp
    ·rw [e2] at hp; cases hp
    ·simp at hp; exact hp h
  ·rw [beOut_old h]; exact hi'
 ·by_cases h1 : (lo <= i /\ i < hi) \/ i ∈ rb
  ·rw [beOut_new h1] at hi'
   by_cases h2 : (lo <= j /\ j < hi) \/ j ∈ rb
   ·rw [beOut_new h2] at hj
    obtain ⟨i0, e1, e2⟩ := hfrom hi'
    obtain ⟨j0, e3, e4⟩ := hfrom hj
    by_cases he : i0 = j0
    ·subst he
     rw [e1] at e3
     cases e3
     rcases e2 with e2 | e2
     ·rcases e4 with e4 | e4
      ·exact absurd (e2.1.symm.trans e4.1) hij
      ·exact .inl ⟨e4.1, e4.1⟩
     ·exact .inl ⟨e2.1, e2.1⟩
    ·exact hrel.bo.apart i0 j0 r q he e1 e3
   ·rw [beOut_old h2] at hj
    exact (hold_new j i q r h2 h1 hj hi').imp (fun h => ⟨h.2, h.1⟩) Rg.apart_symm
  ·rw [beOut_old h1] at hi'
   by_cases h2 : (lo <= j /\ j < hi) \/ j ∈ rb
   ·rw [beOut_new h2] at hj
    exact hold_new i j r q h1 h2 hi' hj
   ·rw [beOut_old h2] at hj
    exact hb.apart i j r q hij hi' hj
 ·by_cases h1 : (lo <= i /\ i < hi) \/ i ∈ rb
  ·rw [beOut_new h1] at hi'
   obtain ⟨i0, e1, _⟩ := hfrom hi'
   exact hrel.bo.place i0 r e1
  ·rw [beOut_old h1] at hi'
   exact hb2.place i r hi'
 ·by_cases h1 : (lo <= i /\ i < hi) \/ i ∈ rb
  ·rw [beOut_new h1] at hi'
   obtain ⟨j0, k1, _⟩ := hfrom hi'
   rcases hnew j0 r k1 with h | ⟨h, i0, q0, e0, e1, e2, e3, e4, e5, e6⟩ | ⟨h, _⟩
   ·exact .inr (.inl (by omega))
   ·rcases hb.may i0 q0 e1 with h | h
    ·rw [e3] at h; cases h
    ·right
     rcases h with h | ⟨q, hq, g1, g2, g3⟩
     ·exact .inl (by omega)
     ·exact .inr ⟨q, hq, by omega, by omega, by omega⟩
   ·exact .inl h
  ·rw [beOut_old h1] at hi'
   exact hb.may i r hi'
 ·by_cases h1 : (lo <= i /\ i < hi) \/ i ∈ rb
  ·rw [beOut_new h1] at hi'
   obtain ⟨j0, k1, _⟩ := hfrom hi'
   exact hrel.bo.sq j0 r ks l k1 hsq
  ·rw [beOut_old h1] at hi'
   exact hb2.sq i r ks l hi' hsq
 ·by_cases h1 : (lo <= i /\ i < hi) \/ i ∈ rb
  ·rw [beOut_new h1] at hi'
   obtain ⟨j0, k1, _⟩ := hfrom hi'
   rcases hnew j0 r k1 with h | ⟨h, _⟩ | ⟨_, i0, r0, e1, e2, e3⟩
   ·exact .inl (by omega)
   ·rw [hro] at h; cases h
   ·rcases hb.rom i0 r0 e1 e2 with h | h
    ·exact .inl (by rw [e3.1]; exact h)
    ·exact .inr (hb.qs r r0 h e3)
  ·rw [beOut_old h1] at hi'
   exact hb.rom i r hi' hro
 ·by_cases h1 : (lo <= i /\ i < hi) \/ i ∈ rb
  ·rw [beOut_new h1] at hi'
   obtain ⟨j0, k1, _⟩ := hfrom hi'
   exact hrel.bo.rw j0 r k1 hrow
  ·rw [beOut_old h1] at hi'
   exact hb.rw i r hi' hrow
 ·obtain ⟨hr, hz⟩ := List.mem_filter.1 hr
  obtain ⟨i, b, e1, e2, e3, e4, _, e5⟩ := hR2 r hr
  refine ⟨i, ?_, e2, e3, e5 (by simpa using hz)⟩
  have := ho2 i b (hpOf_mem' e1) e4
  simp only [inlW, List.map_append, List.mem_append]
  exact .inl this
 ·obtain ⟨b, r, e1, e2, e3, _, e5, e6⟩ := hrbk i hi'
  refine ⟨?_, .inl e6, r, e2, e3⟩
  have := ho2 i b (hpOf_mem' e1) e5
  simp only [inlW, List.map_append, List.mem_append]
  exact .inl this
 ·have := blkMt_jk (w' := w') hmv (.inr rfl) (fun r _ j _ => ⟨rfl, rfl⟩) (hW' q hq)
  rwa [Blk.jk_true] at this
theorem newIds_inv {k : Nat} {u : Unit} {c c' : Ctr} {o : List Em} (h : newIds k c = some (u, c', o)) : c'.id = c.id + k /\ o = [] := by
 simp only [newIds, zOi, zPi] at h
 obtain ⟨_, rfl, rfl⟩ := h
 exact ⟨rfl, rfl⟩
theorem inl_ok {H : Hnd} (hH : HOk P Φ gl H) {f : Nat} {fn : Func} (hf : P.funcs[f]? = some fn) (hn : (fn.name == "runtime.NumGoroutine") = false) {k : Ctl} (hK : LoopsOk Φ k) (hkE : k.E = {}) {Γ : Gd} {hp : Hp} {xs : List S} {ρ : Env} {c c' : Ctr} {res : Res} {out : List Em}
  (he : inlM P H gl k fn Γ hp xs c = some (res, c', out)) (hg : Good Φ ρ out) (hΓ : Gd.d ρ Γ = true) {N : Nat} {R : List Rg} {Q : Rg -> Prop} {β : Beta} {w : World} {vs : List Value} (hm : mtAll β ρ xs vs) (hh : heapMt β ρ hp w) (hb : BetaOk N R Q β w) (hN : N <= w.heap.size)
  (hG : GB gl β w) (hfr : ∀ i, c.id <= i -> i < c'.id -> β i = none) :
  (∀ args w, (callFunc f args).run P w = .ok (.enter f args) w) /\ Calls P f vs.toArray w fun e w' => ∃ v, e = .returned v /\ RPost N R Q ρ β w c.id c'.id res v w' := by
 unfold inlM at he
 obtain ⟨lo, c1, o1, c2, o2, y, h1, h2, he⟩ := M.bind_inv he
 simp only [zPi] at he
 obtain ⟨rfl, rfl, rfl⟩ := he
 simp only [getId, zOi, zPi] at h1
 obtain ⟨rfl, rfl, rfl⟩ := h1
 obtain ⟨body, c3, o3, c4, o4, y, h3, h4, he⟩ := M.bind_inv h2
 simp only [zPi] at he
 obtain ⟨rfl, rfl, rfl⟩ := he
 obtain ⟨body', hbody, he⟩ := lift_inv h3
 simp only [zPi] at he
 obtain ⟨rfl, rfl, rfl⟩ := he
 obtain ⟨hl, hhl⟩ : ∃ hl, hl = calleeHp gl.length c3.id Γ hp (dedupN (reachH hp 3 (argIds xs))) := ⟨_, rfl⟩
 rw [<- hhl] at h4
 unfold inlB at h4
 split at h4
 ·rename_i hok
  obtain ⟨u0, c30, o30, c40, o40, y, hn0, h40, he⟩ := M.bind_inv h4
  simp only [zPi] at he
  obtain ⟨rfl, rfl, rfl⟩ := he
  obtain ⟨O, c5, o5, c6, o6, y, h5, h6, he⟩ := M.bind_inv h40
  simp only [zPi] at he
  obtain ⟨rfl, rfl, rfl⟩ := he
  obtain ⟨σ, c7, o7, c8, o8, y, h7, h8, he⟩ := M.bind_inv h6
  simp only [zPi] at he
  obtain ⟨rfl, rfl, rfl⟩ := he
  obtain ⟨rs, c9, o9, c10, o10, y, h9, h10, he⟩ := M.bind_inv h8
  simp only [zPi] at he
  obtain ⟨rfl, rfl, rfl⟩ := he
  obtain ⟨s, c11, o11, c12, o12, y, h11, h12, he⟩ := M.bind_inv h10
  simp only [zPi] at he
  obtain ⟨rfl, rfl, rfl⟩ := he
  obtain ⟨s', hts, he⟩ := lift_inv h11
  simp only [zPi] at he
  obtain ⟨rfl, rfl, rfl⟩ := he
  obtain ⟨old, c13, o13, c14, o14, y, h13, h14, he⟩ := M.bind_inv h12
  simp only [zPi] at he
  obtain ⟨rfl, rfl, rfl⟩ := he
  obtain ⟨old', hold, he⟩ := lift_inv h13
  simp only [zPi] at he
  obtain ⟨rfl, rfl, rfl⟩ := he
  obtain ⟨mid, c15, o15, c16, o16, y, h15, h16, he⟩ := M.bind_inv h14
  simp only [zPi] at he
  obtain ⟨rfl, rfl, rfl⟩ := he
  simp only [getId, zOi, zPi] at h15
  obtain ⟨rfl, rfl, rfl⟩ := h15
  obtain ⟨u1, c17, o17, c18, o18, y, hn1, h17, he⟩ := M.bind_inv h16
  simp only [zPi] at he
  obtain ⟨rfl, rfl, rfl⟩ := he
  split at h17
  ·rename_i hend
   have he := M.pure_inv h17
   simp only [zPi] at he
   obtain ⟨rfl, rfl, rfl⟩ := he
   obtain ⟨h5, le5⟩ := mono_inv h5
   obtain ⟨h7, le7⟩ := mono_inv h7
   obtain ⟨h9, le9⟩ := mono_inv h9
   simp only at le5 le7 le9
   obtain ⟨en0, rfl⟩ := newIds_inv hn0
   obtain ⟨en1, rfl⟩ := newIds_inv hn1
   simp only [Good.append] at hg
   obtain ⟨_, _, _, g5, g7, g9, _⟩ := hg
   obtain ⟨p, hpl, hrel, hknown⟩ := inl_rel (Γ := Γ) (hp := hp) hhl hok hΓ hm hh hb hG fn
   have hlo : gl.length <= c3.id := by
    unfold inlOk at hok
    simp only [zAi, Nat.ble_eq] at hok
    exact hok.1.1
   have hcut : CutOk (knOf gl.length hl) c3.id := knOf_lt hhl hlo
   obtain ⟨γ, hγ⟩ : ∃ γ, γ = β.cutF (knOf gl.length hl) c3.id p := ⟨_, rfl⟩
   rw [<- hγ] at hrel hknown
   have hapG : ∀ r, r ∈ wrRg β hl -> ∀ (g : Nat) (us : List Value), gl[g]? = some us -> r.apart (gRg g us) := fun r hr g us hgu => by
    unfold wrRg at hr
    obtain ⟨i, hi', rfl⟩ := List.mem_map.1 hr
    obtain ⟨b, hb', hro⟩ := wrIds_mem.1 hi'
    obtain ⟨r', e1, _, e3, _⟩ := hknown i b hb'
    rw [e1]
    rw [hro] at e3
    refine hb.apartW (fun e => ?_) e1 (hG.2 g us hgu) e3
    subst e
    rw [hG.2 _ us hgu] at e1
    cases e1
    cases e3
   have hGl : ∀ w', Keep (wrRg β hl) w w' -> Laid gl w' := by
    intro w' hk g us hgu
    obtain ⟨e1, e2⟩ := hG.1 g us hgu
    refine ⟨by have := hk.size; omega, fun j v hj => ?_⟩
    obtain ⟨e3, e4⟩ := e2 j v hj
    refine ⟨(hk.cell _ e1 fun r hr hin => ?_).trans e3, e4⟩
    have := hapG r hr g us hgu
    have hlt := (List.getElem?_eq_some_iff.1 hj).1
    unfold inRg at hin
    unfold Rg.apart gRg at this
    simp only at hin this
    omega
   have hfresh : Fresh γ c30 := fun i hi => by
    rw [hγ]
    unfold Beta.cutF
    rw [if_neg (by rw [hcut i (by omega)]; simp), if_pos (by omega)]
    exact List.getElem?_eq_none (by omega)
   have hK' : LoopsOk Φ (ctlH k c3.id hl) := hK
   have hx : GrOk (inCx β gl w hl γ) (ctlH k c3.id hl).keep := fun hz q hq => by
    have hz : (k.keep.fz && !rowsIn hl) = true := hz
    simp only [zAi, Bool.not_eq_true'] at hz
    refine List.mem_iff_getElem?.1 ?_
    show q ∈ wrRgN β hl
    unfold wrRgN
    rw [wrIdsN_all hz.2]
    exact hq
   refine ⟨callable_of hf hn (by rw [hbody]; rfl), ?_⟩
   have hrun := exec_ok (x := inCx β gl w hl γ) hH hGl (ctlH k c3.id hl) hx hK' (EOk.nil hkE) body ρ _ _ _ O _ h5 g5 γ _ w hrel hfresh
    (bodyPostM Fence.wide 0 P fn fun e w' => ∃ v, e = .returned v /\ RPost N R Q ρ β w c3.id c'.id { s := s, w := inlW c3.id σ.hp old, rb := rbIn hl σ.rb } v w') fun e a' w' K hk hO => ?_
   ·exact callsIn_wide.1 (callsIn_of_wp_marks hf hbody trivial hrun rfl)
   ·obtain ⟨hKK, β', hE, hR, hF⟩ := endSt_ok hx h7 g7 hO
    have hfin : LeavesInM Fence.wide 0 P fn a'.tmps (fun e w' => ∃ v, e = .returned v /\ RPost N R Q ρ β w c3.id c'.id { s := s, w := inlW c3.id σ.hp old, rb := rbIn hl σ.rb } v w') a'.defers .returning w' :=
     leaves_ok (x := inCx β gl w hl γ) rfl rfl a'.defers hR.noDf hR.df.ma fun w2 hR2 => by
      obtain ⟨us, hus, hum⟩ := rAll_snd (P := P) (x := inCx β gl w hl γ) σ fn.results.toList _ _ _ _ h9 g9 β' _ w2 hR2
      exact ⟨_, results_run hus, _, rfl, inl_post hok hold hend (tupS_mt hts hum) hb hN hG hfr (by omega) (by omega) hknown hE hR2⟩
    rcases hKK with rfl | rfl
    ·rw [kdOf_n hk]
     exact hfin
    ·cases e <;> simp only [kdOf, zOi] at hk <;> (try (cases hk; done))
     exact hfin
  ·simp [M.fail] at h17
 ·simp [M.fail] at h4
end
end

def ctlI (fn : Func) : Ctl := { keep := { l := keepOf fn, fz := true }, turns := 400, ret := retOf fn, base := 0 }
def hndI (P : Program) (gl : Gl) (I : List Nat) (H : Hnd) : Nat -> Hnd
 | 0 => H
 | n + 1 => fun f Γ hp xs => if I.contains f then (match P.funcs[f]? with
   | some fn => inlM P (hndI P gl I H n) gl (ctlI fn) fn Γ hp xs
   | none => M.fail) else H f Γ hp xs
def nameOk (P : Program) (I : List Nat) : Bool := I.all fun f => match P.funcs[f]? with
 | some fn => !(fn.name == "runtime.NumGoroutine")
 | none => true
theorem hndI_ok {P : Program} {Φ : Funs} {gl : Gl} {I : List Nat} {H : Hnd} (hH : HOk P Φ gl H) (hI : nameOk P I = true) : ∀ n, HOk P Φ gl (hndI P gl I H n)
 | 0 => hH
 | n + 1 => by
  intro f Γ hp xs ρ c res c' out he hg hΓ N R Q β w vs hm hh hb hN hG hf
  unfold hndI at he
  by_cases hc : I.contains f = true
  ·rw [if_pos hc] at he
   cases hfn : P.funcs[f]? with
   | none => rw [hfn] at he; simp [M.fail] at he
   | some fn =>
    rw [hfn] at he
    have hn : (fn.name == "runtime.NumGoroutine") = false := by
     unfold nameOk at hI
     rw [List.all_eq_true] at hI
     have := hI f (by simpa using hc)
     rw [hfn] at this
     simpa using this
    exact inl_ok (hndI_ok hH hI n) hfn hn (LoopsOk.nil rfl) rfl he hg hΓ hm hh hb hN hG hf
  ·rw [if_neg hc] at he
   exact hH f Γ hp xs ρ c res c' out he hg hΓ N R Q β w vs hm hh hb hN hG hf
def hnd (P : Program) (gl : Gl) (I : List Nat) (X : Sums) : Hnd := hndI P gl I (hnd0 X) 12
def defB (n : Nat) : List Em -> Option RB
 | [] => none
 | .db m r :: l => if m == n then some r else defB n l
 | _ :: l => defB n l
theorem defB_spec {Φ : Funs} {ρ : Env} {n : Nat} {r : RB} : ∀ {l : List Em}, defB n l = some r -> (∀ e, e ∈ l -> match e with | .ob _ _ => True | e => e.ok Φ ρ) -> ρ.b n = r.d ρ
 | e :: l, h, hg => by
  unfold defB at h
  split at h
  ·rename_i e0; cases e0
  ·rename_i m r' l' e0
   simp only [List.cons.injEq] at e0
   obtain ⟨rfl, rfl⟩ := e0
   split at h
   ·rename_i hm
    simp only [beq_iff_eq] at hm
    simp only [zOi] at h
    subst hm; subst h
    exact hg (.db m r') (by simp)
   ·exact defB_spec h fun e he => hg e (by simp [he])
  ·rename_i e' l' _ e0
   simp only [List.cons.injEq] at e0
   obtain ⟨rfl, rfl⟩ := e0
   exact defB_spec h fun e he => hg e (by simp [he])
abbrev Lits := List (Nat × Bool)
def litOf (n : Nat) : Lits -> Option Bool
 | [] => none
 | (m, b) :: l => if m == n then some b else litOf n l
def knB (k : Lits) : B -> Option Bool
 | .c b => some b
 | .v n => litOf n k
def addB (k : Lits) (b : B) (v : Bool) : List (B × Bool) := match knB k b with
 | some w => if w == v then [] else [(.c (!v), v)]
 | none => [(b, v)]
def foll (k : Lits) (v : Bool) : RB -> List (B × Bool)
 | .not a => addB k a (!v)
 | .and a b => if v then addB k a true ++ addB k b true else match knB k a, knB k b with
  | some true, _ => addB k b false
  | _, some true => addB k a false
  | _, _ => []
 | .or a b => if v then (match knB k a, knB k b with
  | some false, _ => addB k b true
  | _, some false => addB k a true
  | _, _ => []) else addB k a false ++ addB k b false
 | .eqb a b => match knB k a, knB k b with
  | some x, _ => addB k b (v == x)
  | _, some y => addB k a (v == y)
  | _, _ => []
 | .ite c a b => match knB k c with
  | some true => addB k a v
  | some false => addB k b v
  | none => match knB k a, knB k b with
   | some x, some y => if x == v then (if y == v then [] else addB k c true) else (if y == v then addB k c false else [(.c (!v), v)])
   | some x, none => if x == v then [] else addB k c false ++ addB k b v
   | none, some y => if y == v then [] else addB k c true ++ addB k a v
   | none, none => []
 | _ => []
def cmBase : BinOp -> Option (BinOp × Bool)
 | .lss => some (.lss, true)
 | .geq => some (.lss, false)
 | .gtr => some (.gtr, true)
 | .leq => some (.gtr, false)
 | .eql => some (.eql, true)
 | .neq => some (.eql, false)
 | _ => none
abbrev Cms := List (BinOp × A × A × Bool)
def cmBad (o : BinOp) (a b : A) (v : Bool) : Cms -> Bool
 | [] => false
 | (p, c, d, w) :: l => (p == o && c.eq a && d.eq b && !(w == v)) || cmBad o a b v l
def cmFact (r : RB) (v : Bool) : Option (BinOp × A × A × Bool) := match r with
 | .cm op a b => match cmBase op with
  | some (o, k) => some (o, a, b, k == v)
  | none => none
 | _ => none
def refute (em : List Em) : Nat -> Cms -> Lits -> List (B × Bool) -> Bool
 | 0, _, _, _ => false
 | _ + 1, _, _, [] => false
 | n + 1, q, k, (.c b, v) :: l => if b == v then refute em n q k l else true
 | n + 1, q, k, (.v m, v) :: l => match litOf m k with
  | some w => if w == v then refute em n q k l else true
  | none => match defB m em with
   | some r => match cmFact r v with
    | some (o, a, b, w) => cmBad o a b w q || refute em n ((o, a, b, w) :: q) ((m, v) :: k) l
    | none => refute em n q ((m, v) :: k) (foll ((m, v) :: k) v r ++ l)
   | none => refute em n q ((m, v) :: k) l
def CmsOk (ρ : Env) (q : Cms) : Prop := ∀ p, p ∈ q -> cmB p.1 (p.2.1.d ρ) (p.2.2.1.d ρ) = p.2.2.2
theorem cmBase_spec {op o : BinOp} {k : Bool} (h : cmBase op = some (o, k)) (x y : Int) : cmB op x y = (k == cmB o x y) := by
 cases op <;> simp only [cmBase, zOi, zPi] at h <;> (try (cases h; done)) <;> obtain ⟨rfl, rfl⟩ := h
 ·cases hb : cmB .eql x y <;> rfl
 ·show (!(x == y)) = (false == (x == y)); cases (x == y) <;> rfl
 ·cases hb : cmB .lss x y <;> rfl
 ·show decide (x <= y) = (false == decide (x > y))
  by_cases h : x <= y
  ·have : ¬ x > y := by omega
   simp [h, this]
  ·have : x > y := by omega
   simp [h, this]
 ·cases hb : cmB .gtr x y <;> rfl
 ·show decide (x >= y) = (false == decide (x < y))
  by_cases h : x >= y
  ·have : ¬ x < y := by omega
   simp [h, this]
  ·have : x < y := by omega
   simp [h, this]
theorem cmFact_spec {ρ : Env} {r : RB} {v : Bool} {p : BinOp × A × A × Bool} (h : cmFact r v = some p) (hr : r.d ρ = v) : cmB p.1 (p.2.1.d ρ) (p.2.2.1.d ρ) = p.2.2.2 := by
 unfold cmFact at h
 split at h
 ·rename_i op a b
  split at h
  ·rename_i o k hb
   simp only [zOi] at h
   subst h
   simp only
   have := cmBase_spec hb (a.d ρ) (b.d ρ)
   simp only [RB.d] at hr
   rw [hr] at this
   rw [this]
   cases k <;> cases cmB o (a.d ρ) (b.d ρ) <;> rfl
  ·cases h
 ·cases h
theorem cmBad_spec {ρ : Env} {o : BinOp} {a b : A} {v : Bool} : ∀ {q : Cms}, cmBad o a b v q = true -> CmsOk ρ q -> cmB o (a.d ρ) (b.d ρ) = v -> False
 | (p, c, d, w) :: l, h, hq, hv => by
  simp only [cmBad, Bool.or_eq_true, zAi, beq_iff_eq, Bool.not_eq_true', beq_eq_false_iff_ne, ne_eq] at h
  rcases h with ⟨⟨⟨rfl, h1⟩, h2⟩, h3⟩ | h
  ·have := hq (p, c, d, w) (by simp)
   simp only at this
   rw [A.eq_sound h1, A.eq_sound h2, hv] at this
   exact h3 this.symm
  ·exact cmBad_spec h (fun p hp => hq p (by simp [hp])) hv
def LitsOk (ρ : Env) (k : Lits) : Prop := ∀ n b, litOf n k = some b -> ρ.b n = b
theorem knB_spec {ρ : Env} {k : Lits} (hk : LitsOk ρ k) {b : B} {v : Bool} (h : knB k b = some v) : b.d ρ = v := by
 cases b with
 | v n => exact hk n v h
 | c x => simp only [knB, zOi] at h; exact h
theorem addB_spec {ρ : Env} {k : Lits} (hk : LitsOk ρ k) {b : B} {v : Bool} (h : b.d ρ = v) : ∀ p, p ∈ addB k b v -> p.1.d ρ = p.2 := by
 intro p hp
 unfold addB at hp
 split at hp
 ·rename_i w hw
  have := knB_spec hk hw
  rw [h] at this
  subst this
  simp at hp
 ·simp only [List.mem_singleton] at hp
  subst hp
  exact h
theorem foll_spec {ρ : Env} {k : Lits} (hk : LitsOk ρ k) {v : Bool} {r : RB} (h : r.d ρ = v) : ∀ p, p ∈ foll k v r -> p.1.d ρ = p.2 := by
 cases r with
 | not a =>
  intro p hp
  simp only [foll] at hp
  exact addB_spec hk (by simp only [RB.d] at h; rw [<- h]; simp) p hp
 | and a b =>
  intro p hp
  simp only [RB.d] at h
  simp only [foll] at hp
  split at hp
  ·rename_i hv
   subst hv
   simp only [zAi] at h
   rcases List.mem_append.1 hp with hp | hp
   ·exact addB_spec hk h.1 p hp
   ·exact addB_spec hk h.2 p hp
  ·rename_i hv
   have hv : v = false := by simpa using hv
   subst hv
   split at hp
   ·rename_i ha
    rw [knB_spec hk ha] at h
    exact addB_spec hk (by simpa using h) p hp
   ·rename_i hb _
    rw [knB_spec hk hb] at h
    exact addB_spec hk (by simpa using h) p hp
   ·cases hp
 | or a b =>
  intro p hp
  simp only [RB.d] at h
  simp only [foll] at hp
  split at hp
  ·rename_i hv
   subst hv
   split at hp
   ·rename_i ha
    rw [knB_spec hk ha] at h
    exact addB_spec hk (by simpa using h) p hp
   ·rename_i hb _
    rw [knB_spec hk hb] at h
    exact addB_spec hk (by simpa using h) p hp
   ·cases hp
  ·rename_i hv
   have hv : v = false := by simpa using hv
   subst hv
   simp only [Bool.or_eq_false_iff] at h
   rcases List.mem_append.1 hp with hp | hp
   ·exact addB_spec hk h.1 p hp
   ·exact addB_spec hk h.2 p hp
 | eqb a b =>
  intro p hp
  simp only [RB.d] at h
  simp only [foll] at hp
  split at hp
  ·rename_i x ha
   rw [knB_spec hk ha] at h
   refine addB_spec hk ?_ p hp
   rw [<- h]
   cases x <;> cases b.d ρ <;> rfl
  ·rename_i y hb _
   rw [knB_spec hk hb] at h
   refine addB_spec hk ?_ p hp
   rw [<- h]
   cases y <;> cases a.d ρ <;> rfl
  ·cases hp
 | ite c a b =>
  intro p hp
  simp only [RB.d] at h
  simp only [foll] at hp
  split at hp
  ·rename_i hc
   rw [knB_spec hk hc] at h
   exact addB_spec hk (by simpa using h) p hp
  ·rename_i hc
   rw [knB_spec hk hc] at h
   exact addB_spec hk (by simpa using h) p hp
  ·split at hp
   ·rename_i x y ha hb
    rw [knB_spec hk ha, knB_spec hk hb] at h
    split at hp
    ·rename_i hx
     simp only [beq_iff_eq] at hx
     split at hp
     ·cases hp
     ·rename_i hy
      refine addB_spec hk ?_ p hp
      cases hcd : c.d ρ with
      | true => rfl
      | false => rw [hcd] at h; simp at h; rw [h] at hy; simp at hy
    ·rename_i hx
     split at hp
     ·rename_i hy
      refine addB_spec hk ?_ p hp
      cases hcd : c.d ρ with
      | false => rfl
      | true => rw [hcd] at h; simp at h; rw [h] at hx; simp at hx
     ·rename_i hy
      exfalso
      cases hcd : c.d ρ <;> rw [hcd] at h <;> simp at h
      ·rw [h] at hy; simp at hy
      ·rw [h] at hx; simp at hx
   ·rename_i x ha hb
    rw [knB_spec hk ha] at h
    split at hp
    ·cases hp
    ·rename_i hx
     have hcd : c.d ρ = false := by
      cases hcd : c.d ρ with
      | false => rfl
      | true => rw [hcd] at h; simp at h; rw [h] at hx; simp at hx
     rw [hcd] at h
     rcases List.mem_append.1 hp with hp | hp
     ·exact addB_spec hk hcd p hp
     ·exact addB_spec hk (by simpa using h) p hp
   ·rename_i y ha hb
    rw [knB_spec hk hb] at h
    split at hp
    ·cases hp
    ·rename_i hy
     have hcd : c.d ρ = true := by
      cases hcd : c.d ρ with
      | true => rfl
      | false => rw [hcd] at h; simp at h; rw [h] at hy; simp at hy
     rw [hcd] at h
     rcases List.mem_append.1 hp with hp | hp
     ·exact addB_spec hk hcd p hp
     ·exact addB_spec hk (by simpa using h) p hp
   ·cases hp
 | _ => intro p hp; cases hp
theorem refute_spec {Φ : Funs} {ρ : Env} {em : List Em} (hg : ∀ e, e ∈ em -> match e with | .ob _ _ => True | e => e.ok Φ ρ) : ∀ {n : Nat} {q : Cms} {k : Lits} {l : List (B × Bool)}, refute em n q k l = true -> CmsOk ρ q -> LitsOk ρ k -> (∀ p, p ∈ l -> p.1.d ρ = p.2) -> False
 | 0, _, _, _, h, _, _, _ => by simp [refute] at h
 | n + 1, _, _, [], h, _, _, _ => by simp [refute] at h
 | n + 1, q, k, (.c b, v) :: l, h, hq, hk, hl => by
  have h0 := hl _ (List.mem_cons_self)
  simp only [B.d_c] at h0
  subst h0
  unfold refute at h
  simp only [beq_self_eq_true, if_true] at h
  exact refute_spec hg h hq hk fun p hp => hl p (by simp [hp])
 | n + 1, q, k, (.v m, v) :: l, h, hq, hk, hl => by
  have h0 : ρ.b m = v := hl _ (List.mem_cons_self)
  unfold refute at h
  split at h
  ·rename_i w hw
   have := hk m w hw
   rw [h0] at this
   subst this
   simp only [beq_self_eq_true, if_true] at h
   exact refute_spec hg h hq hk fun p hp => hl p (by simp [hp])
  ·have hk' : LitsOk ρ ((m, v) :: k) := fun n b hn => by
    unfold litOf at hn
    split at hn
    ·rename_i he
     simp only [beq_iff_eq] at he
     simp only [zOi] at hn
     subst he; subst hn
     exact h0
    ·exact hk n b hn
   split at h
   ·rename_i r hr
    have hrv : r.d ρ = v := by rw [<- defB_spec hr hg]; exact h0
    split at h
    ·rename_i o a b w hf
     have hf' := cmFact_spec hf hrv
     simp only at hf'
     rw [Bool.or_eq_true] at h
     rcases h with h | h
     ·exact cmBad_spec h hq hf'
     ·refine refute_spec hg h (fun p hp => ?_) hk' fun p hp => hl p (by simp [hp])
      rcases List.mem_cons.1 hp with rfl | hp
      ·exact hf'
      ·exact hq p hp
    ·refine refute_spec hg h hq hk' fun p hp => ?_
     rcases List.mem_append.1 hp with hp | hp
     ·exact foll_spec hk' hrv p hp
     ·exact hl p (by simp [hp])
   ·exact refute_spec hg h hq hk' fun p hp => hl p (by simp [hp])
def selfOb (em : List Em) : Bool := em.all fun
 | .ob g b => refute em 400 [] [] (g ++ [(b, false)])
 | _ => true
theorem selfOb_all {Φ : Funs} {ρ : Env} {em : List Em} (hg : ∀ e, e ∈ em -> match e with | .ob _ _ => True | e => e.ok Φ ρ) (h : selfOb em = true) : obAll ρ em = true := by
 unfold obAll
 unfold selfOb at h
 rw [List.all_eq_true] at h ⊢
 intro e he
 have := h e he
 cases e with
 | ob g b =>
  simp only at this ⊢
  cases hgd : Gd.d ρ g with
  | false => rfl
  | true =>
   cases hb : b.d ρ with
   | true => rfl
   | false =>
    refine (refute_spec hg this (fun p hp => by cases hp) (fun n b h => by cases h) fun p hp => ?_).elim
    rcases List.mem_append.1 hp with hp | hp
    ·unfold Gd.d at hgd
     rw [List.all_eq_true] at hgd
     simpa using hgd p hp
    ·simp only [List.mem_singleton] at hp
     subst hp
     exact hb
 | _ => rfl
theorem contract_self {P : Program} {Φ : Funs} {X : Hnd} {gl : Gl} (hX : HOk P Φ gl X) {f : Nat} {fn : Func} (hf : P.funcs[f]? = some fn) {k : Ctl} (hK : LoopsOk Φ k) {s : Sum} {S : Smry} (h : fnX P X gl k fn s = some S)
  (hw : (wsEm S.em (argI s.args) (argB s.args) && shOk s && selfOb S.em) = true) (hEA : EAll P Φ gl k) : Contract P gl f s (S.run Φ s.pre) := by
 simp only [zAi] at hw
 obtain ⟨⟨h1, h2⟩, h3⟩ := hw
 refine contract_gen hX hf hK hEA h h1 h2 fun vs w is bs ps hfl _ => ?_
 have hlen := flatArgs_len hfl
 exact selfOb_all (Φ := Φ) (evEm_spec Φ S.em is bs (by rw [hlen.1, hlen.2.1]; exact h1)).2 h3

def Em.eqn (Φ : Funs) (ρ : Env) : Em -> Prop
 | .di n r => ρ.i n = r.d ρ
 | .db n r => ρ.b n = r.d ρ
 | .call f ai ab i0 ni b0 nb =>
  (∀ j, j < ni -> ρ.i (i0 + j) = (Φ f (ai.map (A.d ρ)) (ab.map (B.d ρ))).1.getD j 0) /\
  (∀ j, j < nb -> ρ.b (b0 + j) = (Φ f (ai.map (A.d ρ)) (ab.map (B.d ρ))).2.getD j false)
 | .ob _ _ => True
def eqns (Φ : Funs) (ρ : Env) : List Em -> Prop
 | [] => True
 | e :: l => e.eqn Φ ρ /\ eqns Φ ρ l
theorem eqns_of {Φ : Funs} {ρ : Env} : ∀ {l : List Em}, (∀ e, e ∈ l -> match e with | .ob _ _ => True | e => e.ok Φ ρ) -> eqns Φ ρ l
 | [], _ => trivial
 | e :: l, h => by
  refine ⟨?_, eqns_of fun e he => h e (by simp [he])⟩
  have := h e (by simp)
  cases e with
  | di n r => exact this
  | db n r => exact this
  | call f ai ab i0 ni b0 nb => exact this
  | ob g b => trivial
def headsI (ρ : Env) : List Int -> Nat -> Prop
 | [], _ => True
 | x :: l, n => ρ.i n = x /\ headsI ρ l (n + 1)
def headsB (ρ : Env) : List Bool -> Nat -> Prop
 | [], _ => True
 | x :: l, n => ρ.b n = x /\ headsB ρ l (n + 1)
theorem headsI_of {ρ : Env} : ∀ {l : List Int} {k : Nat}, (∀ n, n < l.length -> ρ.i (k + n) = l.getD n 0) -> headsI ρ l k
 | [], _, _ => trivial
 | x :: l, k, h => ⟨by simpa using h 0 (by simp), headsI_of fun n hn => by have := h (n + 1) (by simpa using hn); rw [show k + 1 + n = k + (n + 1) by omega, this]; simp⟩
theorem headsB_of {ρ : Env} : ∀ {l : List Bool} {k : Nat}, (∀ n, n < l.length -> ρ.b (k + n) = l.getD n false) -> headsB ρ l k
 | [], _, _ => trivial
 | x :: l, k, h => ⟨by simpa using h 0 (by simp), headsB_of fun n hn => by have := h (n + 1) (by simpa using hn); rw [show k + 1 + n = k + (n + 1) by omega, this]; simp⟩
theorem Smry.run_spec {Φ : Funs} {S : Smry} {is : List Int} {bs : List Bool} (hw : wsEm S.em is.length bs.length = true) : ∃ ρ : Env, S.run Φ false is bs = (S.ri.map (A.d ρ), S.rb.map (B.d ρ)) /\ headsI ρ is 0 /\ headsB ρ bs 0 /\ eqns Φ ρ S.em := by
 obtain ⟨h1, h2⟩ := evEm_spec Φ S.em is bs hw
 refine ⟨envOf (evEm Φ S.em is bs).1 (evEm Φ S.em is bs).2, rfl, headsI_of fun n hn => ?_, headsB_of fun n hn => ?_, eqns_of fun e he => ?_⟩
 ·rw [Nat.zero_add]; exact h1.1 n hn
 ·rw [Nat.zero_add]; exact h1.2 n hn
 ·have := h2 e he
  cases e <;> simp_all

theorem wrap_u8 (n : Int) : IntKind.wrap .u8 n = n % 256 := by simp [IntKind.wrap, IntKind.signed, IntKind.bits]
theorem wrap_i64 (n : Int) : IntKind.wrap .i64 n = if n % 18446744073709551616 >= 9223372036854775808 then n % 18446744073709551616 - 18446744073709551616 else n % 18446744073709551616 := by simp [IntKind.wrap, IntKind.signed, IntKind.bits]
def allR (f : Nat -> Bool) : Nat -> Nat -> Bool
 | 0, lo => f lo
 | k + 1, lo => allR f k lo && allR f k (lo + 2 ^ k)
theorem allR_spec {f : Nat -> Bool} : ∀ {k lo : Nat}, allR f k lo = true -> ∀ n, lo <= n -> n < lo + 2 ^ k -> f n = true
 | 0, lo, h, n, h1, h2 => by
  have : n = lo := by simp at h2; omega
  rw [this]; exact h
 | k + 1, lo, h, n, h1, h2 => by
  simp only [allR, zAi] at h
  rw [Nat.pow_succ] at h2
  by_cases hn : n < lo + 2 ^ k
  ·exact allR_spec h.1 n h1 hn
  ·exact allR_spec h.2 n (by omega) (by omega)
theorem ofInt8 (x : Int) : BitVec.ofInt 8 (x % 256) = BitVec.ofInt 8 x := by
 apply BitVec.eq_of_toNat_eq; simp
theorem and8 (x c : Int) : arI .and .u8 x c = arI .and .u8 (x % 256) c := by
 show IntKind.wrap .u8 _ = IntKind.wrap .u8 _
 show IntKind.wrap .u8 ↑(BitVec.ofInt 8 x &&& BitVec.ofInt 8 c).toNat = IntKind.wrap .u8 ↑(BitVec.ofInt 8 (x % 256) &&& BitVec.ofInt 8 c).toNat
 rw [ofInt8]
theorem rem_nn {k : IntKind} {x c : Int} (hx : 0 <= x) : arI .rem k x c = x % c := Int.tmod_eq_emod_of_nonneg hx
theorem add64 (x y : Int) : arI .add .i64 x y = IntKind.wrap .i64 (x + y) := rfl
theorem wrap_i64_in {n : Int} (h1 : -9223372036854775808 <= n) (h2 : n < 9223372036854775808) : IntKind.wrap .i64 n = n := by
 rw [wrap_i64]
 split <;> omega

def constV : S -> Option Value
 | .one false [.val v] => some v
 | .one false [.int k (.c n)] => some (.int k n)
 | .one false [.bool (.c b)] => some (.bool b)
 | _ => none
def constVs : List S -> Option (List Value)
 | [] => some []
 | x :: xs => match constV x, constVs xs with
  | some v, some vs => some (v :: vs)
  | _, _ => none
theorem constVs_mt {β : Beta} {ρ : Env} : ∀ {xs : List S} {us vs : List Value}, constVs xs = some us -> mtAll β ρ xs vs -> vs = us
 | [], us, vs, h, hm => by
  simp only [constVs, zOi] at h
  subst h
  cases vs with
  | nil => rfl
  | cons _ _ => exact hm.elim
 | x :: xs, us, vs, h, hm => by
  unfold constVs at h
  split at h
  ·rename_i v us' h1 h2
   simp only [zOi] at h
   subst h
   cases vs with
   | nil => exact hm.elim
   | cons u vs =>
    obtain ⟨m1, m2⟩ := hm
    rw [constVs_mt h2 m2]
    congr 1
    unfold constV at h1
    split at h1
    ·simp only [zOi] at h1
     subst h1
     exact (mt_cell rfl m1).1
    ·simp only [zOi] at h1
     subst h1
     exact (mt_int rfl m1).1
    ·simp only [zOi] at h1
     subst h1
     exact mt_bool rfl m1
    ·cases h1
  ·cases h
abbrev Kn := Nat -> List Value -> Option Value
def KnOk (P : Program) (gl : Gl) (G : Kn) : Prop := ∀ f args v, G f args = some v -> (∀ args w, (callFunc f args).run P w = .ok (.enter f args) w) /\ ∀ w, Laid gl w -> Calls P f args.toArray w fun e w' => e = .returned v /\ w' = w
def hndG (G : Kn) (H : Hnd) : Hnd := fun f Γ hp xs => match (constVs xs).bind (G f) with
 | some v => pure { s := ofV v, w := [] }
 | none => H f Γ hp xs
theorem hndG_ok {P : Program} {Φ : Funs} {gl : Gl} {G : Kn} (hG : KnOk P gl G) {H : Hnd} (hH : HOk P Φ gl H) : HOk P Φ gl (hndG G H) := by
 intro f Γ hp xs ρ c res c' out he hg hΓ N R Q β w vs hm hh hb hN hGB hf
 unfold hndG at he
 cases hc : (constVs xs).bind (G f) with
 | none =>
  rw [hc] at he
  exact hH f Γ hp xs ρ c res c' out he hg hΓ N R Q β w vs hm hh hb hN hGB hf
 | some v =>
  rw [hc] at he
  have he := M.pure_inv he
  simp only [zPi] at he
  obtain ⟨rfl, rfl, rfl⟩ := he
  cases hx : constVs xs with
  | none => rw [hx] at hc; simp at hc
  | some us =>
   rw [hx] at hc
   simp only [Option.bind_some] at hc
   have := constVs_mt hx hm
   subst this
   obtain ⟨h1, h2⟩ := hG f _ v hc
   exact ⟨h1, Calls.mono (h2 w hGB.1) fun e w' ⟨e1, e2⟩ => by
    subst e1 e2
    exact ⟨v, rfl, β, Step.refl hb _ _ _, ofV_mt v, fun p hp => by cases hp⟩⟩

def litsI : List A -> Option (List Int)
 | [] => some []
 | .c k :: l => (litsI l).map (k :: ·)
 | _ => none
def litsB : List B -> Option (List Bool)
 | [] => some []
 | .c k :: l => (litsB l).map (k :: ·)
 | _ => none
theorem litsI_spec {ρ : Env} : ∀ {l : List A} {r : List Int}, litsI l = some r -> l.map (A.d ρ) = r
 | [], r, h => by simp only [litsI, zOi] at h; subst h; rfl
 | .c k :: l, r, h => by
  unfold litsI at h
  cases hl : litsI l with
  | none => rw [hl] at h; simp at h
  | some t =>
   rw [hl] at h
   simp only [Option.map_some, zOi] at h
   subst h
   simp [litsI_spec hl]
 | .v _ :: _, _, h => by simp [litsI] at h
theorem litsB_spec {ρ : Env} : ∀ {l : List B} {r : List Bool}, litsB l = some r -> l.map (B.d ρ) = r
 | [], r, h => by simp only [litsB, zOi] at h; subst h; rfl
 | .c k :: l, r, h => by
  unfold litsB at h
  cases hl : litsB l with
  | none => rw [hl] at h; simp at h
  | some t =>
   rw [hl] at h
   simp only [Option.map_some, zOi] at h
   subst h
   simp [litsB_spec hl]
 | .v _ :: _, _, h => by simp [litsB] at h
def caseX (P : Program) (H : Hnd) (gl : Gl) (k : Ctl) (fn : Func) (cks : List CK) (n : Nat) : Option Fl :=
 match inlM P H gl k fn [] (fun _ => none) [.one false [.int .u8 (.c (.ofNat n))]] { i := 0, b := 0, id := gl.length } with
 | some (res, _, out) => if out.isEmpty then (match res.s with
   | .one true cs => if noSl cks then match takeR gl.length 0 (fun _ => none) cks cs with
    | some (as, bs) => match litsI as, litsB bs with
     | some is, some bs => some (is, bs)
     | _, _ => none
    | none => none
    else none
   | _ => none) else none
 | none => none
def sum8 (cks : List CK) : Sum := { args := [.val false [.int .u8]], tup := false, res := [(true, cks)], pre := false }
theorem contract8 {P : Program} {Φ : Funs} {H : Hnd} {gl : Gl} (hH : HOk P Φ gl H) {f : Nat} {fn : Func} (hf : P.funcs[f]? = some fn) (hn : (fn.name == "runtime.NumGoroutine") = false) {k : Ctl} (hK : LoopsOk Φ k) (hkE : k.E = {}) {cks : List CK} {F : Nat -> Fl}
  (h : ∀ n, n < 256 -> caseX P H gl k fn cks n = some (F n)) : Contract P gl f (sum8 cks) (fun is _ => F (is.getD 0 0).toNat) := by
 intro vs w is bs ps hL hfl hap hfz hag hsl hpre
 have hin : ∃ n : Nat, n < 256 /\ vs = [.int .u8 n] /\ is = [(n : Int)] /\ ps = [] := by
  match vs, hfl with
  | [], hfl => simp [sum8, flatArgs] at hfl
  | v :: u :: vs, hfl => simp [sum8, flatArgs] at hfl
  | [v], hfl =>
   simp only [sum8, flatArgs, flat1, zFi, if_false] at hfl
   unfold flatC at hfl
   split at hfl
   ·rename_i i1 b1 is' bs' ps' e1 e2
    simp only [zOi, zPi] at hfl e2
    obtain ⟨rfl, rfl, rfl⟩ := hfl
    obtain ⟨rfl, rfl, rfl⟩ := e2
    split at e1
    ·rename_i k' n is bs hv
     split at e1
     ·rename_i hc
      simp only [flatC, zOi, zPi] at hv e1
      obtain ⟨rfl, rfl⟩ := hv
      obtain ⟨rfl, rfl⟩ := e1
      simp only [zAi, beq_iff_eq] at hc
      obtain ⟨rfl, hr⟩ := hc
      have hr := inR_spec hr
      unfold InR IntKind.min IntKind.max at hr
      simp [IntKind.signed, IntKind.bits] at hr
      obtain ⟨m, rfl⟩ := Int.eq_ofNat_of_zero_le hr.1
      exact ⟨m, by omega, rfl, rfl, rfl⟩
     ·cases e1
    ·cases e1
   ·cases hfl
 obtain ⟨n, hn8, rfl, rfl, rfl⟩ := hin
 have hcx := h n hn8
 unfold caseX at hcx
 split at hcx
 ·rename_i res c' out hrun
  split at hcx
  ·rename_i hemp
   simp only [List.isEmpty_iff] at hemp
   subst hemp
   split at hcx
   ·rename_i cs hcs
    split at hcx
    rename_i hnsl
    split at hcx
    ·rename_i as bs' htr
     split at hcx
     ·rename_i is2 bs2 hli hlb
      simp only [zOi] at hcx
      obtain ⟨ρ⟩ : Nonempty Env := ⟨{ i := fun _ => 0, b := fun _ => false }⟩
      obtain ⟨β, hβ⟩ : ∃ β : Beta, β = beta0 gl [] [] := ⟨_, rfl⟩
      have hinv : ∀ i r, β i = some r -> ∃ us, gl[i]? = some us /\ r = gRg i us := fun i r hi => by
       rw [hβ] at hi
       rcases beta0_inv hi with h | ⟨_, h⟩ | ⟨_, h⟩
       ·exact h
       ·simp at h
       ·simp at h
      have hbo : BetaOk w.heap.size [] (fun _ => True) β w := by
       refine ⟨fun i j r q hij hi hj => ?_, fun i r hi => ?_, fun i r hi => ?_, fun i r ks l hi hs => ?_, fun i r _ _ => .inr trivial, fun _ _ _ _ => trivial, fun i r hi hrow => ?_⟩
       ·obtain ⟨_, _, rfl⟩ := hinv i r hi
        obtain ⟨_, _, rfl⟩ := hinv j q hj
        exact .inl ⟨rfl, rfl⟩
       ·obtain ⟨us, hus, rfl⟩ := hinv i r hi
        exact .inr (hL i us hus).1
       ·obtain ⟨_, _, rfl⟩ := hinv i r hi
        exact .inl rfl
       ·obtain ⟨_, _, rfl⟩ := hinv i r hi
        cases hs
       ·obtain ⟨_, _, rfl⟩ := hinv i r hi
        cases hrow
      have hm : mtAll β ρ [.one false [.int .u8 (.c (.ofNat n))]] [.int .u8 n] := by
       refine ⟨⟨_, rfl, rfl, ?_⟩, trivial⟩
       unfold InR IntKind.min IntKind.max
       simp [IntKind.signed, IntKind.bits]
       omega
      obtain ⟨_, hcalls⟩ := inl_ok hH hf hn hK hkE hrun Good.nil (Γ := []) rfl hm (fun id b hb => by cases hb) hbo (Nat.le_refl _) ⟨hL, fun g us hg => by rw [hβ]; exact beta0_gl hg⟩ (fun i h1 h2 => by
       cases hx : β i with
       | none => rfl
       | some r =>
        obtain ⟨us, hus, _⟩ := hinv i r hx
        have := (List.getElem?_eq_some_iff.1 hus).1
        simp only at h1
        omega)
      refine Calls.mono hcalls fun e w' ⟨v, he, β', hst, hsm, _⟩ => ⟨v, he, ?_, ?_, fun r hr => ?_⟩
      ·obtain ⟨W, hW, hk⟩ := hst.kp
       have : W = [] := by
        rw [List.eq_nil_iff_forall_not_mem]
        intro r hr
        obtain ⟨id, _, hid, hro, _⟩ := hW r hr
        obtain ⟨_, _, rfl⟩ := hinv id r hid
        cases hro
       rw [this] at hk
       exact hk
      ·rw [hcs] at hsm
       obtain ⟨us, rfl, hus⟩ := hsm
       have hflt := (takeR_flat (ρ := ρ) (w := w') (hp := fun _ => none) (fun id b hb => by cases hb) hst.bo.sq (ps := []) (np := 0) rfl (fun k r hk => by simp at hk) htr hus).1
       refine ⟨(is2, bs2), ([], []), ?_, rfl, ?_, ?_⟩
       ·show flat1 w' [] true cks (.agg us) = _
        unfold flat1
        simp only [if_true]
        rw [hflt, litsI_spec hli, litsB_spec hlb]
       ·simp [<- hcx]
       ·simp [sum8, <- hcx]
      ·have hr : r ∈ rg1 w' true cks v := hr
       unfold rg1 at hr
       simp only [if_true] at hr
       split at hr
       ·rw [rgC_noSl (by unfold noSl at hnsl; simpa using hnsl)] at hr
        cases hr
       ·cases hr
     ·cases hcx
    ·cases hcx
    ·cases hcx
   ·cases hcx
  ·cases hcx
 ·cases hcx
def flEq (a : Option Fl) (b : Fl) : Bool := match a with | some x => x.1 == b.1 && x.2 == b.2 | none => false
theorem flEq_spec {a : Option Fl} {b : Fl} (h : flEq a b = true) : a = some b := by
 unfold flEq at h
 split at h
 ·rename_i x
  simp only [zAi, beq_iff_eq] at h
  obtain ⟨h1, h2⟩ := h
  obtain ⟨x1, x2⟩ := x
  simp only at h1 h2
  rw [h1, h2]
 ·cases h
theorem all8 {P : Program} {H : Hnd} {gl : Gl} {k : Ctl} {fn : Func} {cks : List CK} {F : Nat -> Fl} (h : allR (fun n => flEq (caseX P H gl k fn cks n) (F n)) 8 0 = true) : ∀ n, n < 256 -> caseX P H gl k fn cks n = some (F n) :=
 fun n hn => flEq_spec (allR_spec h n (Nat.zero_le _) (by simpa using hn))
end Go.Proofs.YtghlmhlamoagoaaGreat.Sx
