/-
  Merged texts (SxP, SxQ, SxT, SxU, SxY, SxZ, PoL, PoR, PoN, PoF, PoG, PoC, SxCw, PoK, SxCx). No condition.
-/
import Derived.KernelRfl
import Derived.ProofKit
import Derived.WideKeyArgs
import Derived.LaidLaws
import Derived.Handed
import Derived.OpenShut
import Derived.Shelf.Strings.Search3
import Derived.Shelf.Strings.Cut
import Derived.Shelf.Strings.Runes
import Derived.Shelf.Strings.BuilderK
import Derived.Shelf.Strings.Repeat
import Derived.Test.YtfgbfdlacnihkaaDoorChecked
import Derived.WalkKit
import Derived.BigCall
import Derived.Deep.Draws
import Derived.Laws.Runes
import Derived.WalkMore
import Derived.Deep.RegionWith
import Derived.LoopN
import Derived.Laws.BytesString
import Derived.Laws.IdiomStrings
import Derived.Lib.IndexBytes
import Derived.Shelf.SlLaysE0
import Derived.Shelf.RegionOpenPlain
import Derived.Deep.LoopGhost
import Derived.Lib.Walk
import Derived.Lib.SliceRun
import Derived.Shelf.Spec.SlicesGrow
import Derived.Laws.AppendOwn
import Derived.Test.YtfgbfdlacnihkaaDoorPj2
import Derived.Test.YtfgbfdlacnihkaaDoorPj3
import Derived.Test.YtfgbfdlacnihkaaDoorPj6
set_option linter.unusedVariables false
set_option linter.unusedSimpArgs false
namespace Go.Proofs.YtfgbfdlacnihkaaDoor.Sx
open Go

section
variable {P : Program} {Φ : Funs} {X : Hnd} {x : Cx} {ρ : Env}

def plainS (v : SV) : Option S := if v.g.isEmpty then some v.s else none
def rOne (P : Program) (gh : Hl) (ng : Nat) (σ : St) : ResultVar -> M S
 | .tmp t => lift (plainS (σ.tm.getD t anySV))
 | .cell a t => xLoad P [] (hpX gh ng σ.hp) t (rs [] (σ.tm.getD a anySV))
def resSem (tmps : Array Value) : ResultVar -> Sem Value
 | .tmp t => pure (tmps.getD t undef)
 | .cell a t => do loadVar t (<- asAddr (tmps.getD a undef))
theorem slot_getD {β : Beta} {σ : St} {a : Act} {w : World} (h : Rel x ρ β σ a w) (t : Nat) : (σ.tm.getD t anySV).mt β ρ (a.tmps.getD t undef) := by
 rw [List.getD_eq_getElem?_getD]
 cases ht : σ.tm[t]? with
 | none => exact anySV_mt _
 | some v => exact h.slot t v ht
theorem rOne_snd (σ : St) (r : ResultVar) : Snd Φ ρ (rOne P x.gh x.ng σ r) (fun s => ∀ β a w, Rel x ρ β σ a w -> ∃ v, (resSem a.tmps r).run P w = .ok v w /\ s.mt β ρ v) := by
 cases r with
 | tmp t =>
  refine (lift_snd _).mono fun s hs β a w h => ⟨_, rfl, ?_⟩
  unfold plainS at hs
  split at hs
  ·rename_i hg
   simp only [Option.some.injEq] at hs
   subst hs
   rw [List.isEmpty_iff] at hg
   exact (slot_getD h t).1 (by rw [hg]; rfl)
  ·cases hs
 | cell p t =>
  have hL := pure_load (P := P) (Φ := Φ) (Γ := []) (hp := hpX x.gh x.ng σ.hp) (rv := fun o => match o with | .tmp t => σ.tm.getD t anySV | _ => anySV) (dst := none) (ty := 0) (pos := default) (after := #[]) (guard := none) (ρ := ρ) rfl t (.tmp p)
  refine hL.mono fun s hs β a w h => ?_
  obtain ⟨v, hv, hm⟩ := hs β a w (fun z hz => by
   simp only [Op.operands, List.mem_toArray, List.mem_cons, List.not_mem_nil, or_false] at hz
   subst hz
   exact slot_getD h p) h.hx h.bo.sq
  refine ⟨v, ?_, hm⟩
  simp only [execOp, Instr.loadAt, Act.eval, Sem.run_bind, Sem.run_pure] at hv
  cases hp : a.tmps.getD p undef with
  | pointer q =>
   rw [hp] at hv
   cases q with
   | none => simp [Instr.sureAddr] at hv
   | some q =>
    simp only [Instr.sureAddr, Sem.run_pure, Result.andThen_ok] at hv
    cases hl : (loadVar t q).run P w with
    | ok u w' =>
     rw [hl] at hv
     simp only [Result.andThen_ok, Result.ok.injEq, Next.value.injEq] at hv
     obtain ⟨rfl, rfl⟩ := hv
     simp [resSem, hp, asAddr, hl]
    | halt hh w' => rw [hl] at hv; simp [Result.andThen] at hv
  | _ => rw [hp] at hv; simp [Instr.sureAddr, Result.andThen] at hv
def rAll (P : Program) (gh : Hl) (ng : Nat) (σ : St) : List ResultVar -> M (List S)
 | [] => pure []
 | r :: l => do
  let s <- rOne P gh ng σ r
  let ss <- rAll P gh ng σ l
  pure (s :: ss)
theorem rAll_snd (σ : St) : ∀ l : List ResultVar, Snd Φ ρ (rAll P x.gh x.ng σ l) (fun ss => ∀ β a w, Rel x ρ β σ a w -> ∃ vs, (l.mapM (resSem a.tmps)).run P w = .ok vs w /\ mtAll β ρ ss vs)
 | [] => Snd.pure fun β a w _ => ⟨[], rfl, trivial⟩
 | r :: l => by
  unfold rAll
  refine Snd.bind (rOne_snd σ r) fun s hs => Snd.bind (rAll_snd σ l) fun ss hss => Snd.pure fun β a w h => ?_
  obtain ⟨v, hv, hm⟩ := hs β a w h
  obtain ⟨vs, hvs, hms⟩ := hss β a w h
  refine ⟨v :: vs, ?_, hm, hms⟩
  rw [List.mapM_cons]
  simp only [Sem.run_bind, hv, Result.andThen_ok, hvs, Sem.run_pure]
def tupV : List Value -> Value
 | [v] => v
 | vs => .tuple vs.toArray
theorem results_run {fn : Func} {tmps : Array Value} {w : World} {vs : List Value} (h : (fn.results.toList.mapM (resSem tmps)).run P w = .ok vs w) :
  (results fn tmps).run P w = .ok (tupV vs) w := by
 have e : (fn.results.mapM (resSem tmps)).run P w = .ok vs.toArray w := by
  rw [Array.mapM_eq_mapM_toList, Sem.run_map, h]
  rfl
 have e2 : results fn tmps = (do
   let vs <- fn.results.mapM (resSem tmps)
   pure (if h : vs.size = 1 then vs[0] else .tuple vs)) := by
  unfold results
  congr 1
 rw [e2, Sem.run_bind, e]
 simp only [Result.andThen_ok]
 match vs with
 | [] => rfl
 | [v] => rfl
 | v :: u :: vs => rfl

def takeR (ng np : Nat) (hp : Hp) : List CK -> List C -> Option (List A × List B)
 | [], [] => some ([], [])
 | .int k :: l, .int k' a :: cs => match takeR ng np hp l cs with
  | some (aS, bs) => if k' == k then some (a :: aS, bs) else none
  | none => none
 | .bool :: l, .bool b :: cs => match takeR ng np hp l cs with
  | some (aS, bs) => some (aS, b :: bs)
  | none => none
 | .pt k o :: l, .ptr [] id off :: cs => match takeR ng np hp l cs with
  | some r => if id == ng + k && off == o && Nat.blt k np then some r else none
  | none => none
 | .str :: l, c :: cs => match asStr c, takeR ng np hp l cs with
  | some q, some (aS, bs) => some (q :: aS, bs)
  | _, _ => none
 | .sl ks :: l, c :: cs => match slNum [] hp ks c, takeR ng np hp l cs with
  | some p, some (aS, bs) => if slHot hp c == 2 then none else some (p.1 :: p.2 :: aS, bs)
  | _, _ => none
 | _, _ => none
def Lies (β : Beta) (l : List Rg) : Prop := ∀ r', r' ∈ l -> ∃ i r0, β i = some r0 /\ r'.within r0 /\ (r0.ro = true \/ r0.row = true)
theorem Lies.nil {β : Beta} : Lies β [] := fun _ h => by cases h
theorem Lies.append {β : Beta} {l m : List Rg} (h : Lies β l) (h' : Lies β m) : Lies β (l ++ m) := fun r hr => (List.mem_append.1 hr).elim (h r) (h' r)
theorem takeR_flat {β : Beta} {w : World} {hp : Hp} (hh : heapMt β ρ hp w) (hsq : SqOk β w) {ps : List Rg} {ng np : Nat} (hnp : ps.length = np) (hb : ∀ (k : Nat) (r : Rg), ps[k]? = some r -> β (ng + k) = some r) : ∀ {l : List CK} {cs : List C} {aS : List A} {bs : List B} {vs : List Value},
  takeR ng np hp l cs = some (aS, bs) -> mtL β ρ cs vs -> flatC w ps l vs = some (aS.map (A.d ρ), bs.map (B.d ρ)) /\ Lies β (rgC w l vs)
 | l, cs, aS, bs, vs, h, hm => by
  induction l generalizing cs aS bs vs with
  | nil =>
   cases cs with
   | nil =>
    simp only [takeR, Option.some.injEq, Prod.mk.injEq] at h
    obtain ⟨rfl, rfl⟩ := h
    cases vs with
    | nil => exact ⟨rfl, Lies.nil⟩
    | cons _ _ => exact hm.elim
   | cons _ _ => simp [takeR] at h
  | cons ck l ih =>
   cases cs with
   | nil => cases ck <;> simp [takeR] at h
   | cons c cs =>
    cases vs with
    | nil => exact hm.elim
    | cons v vs =>
     obtain ⟨h1, h2⟩ := hm
     unfold takeR at h
     split at h
     ·rename_i he1 he2; cases he1
     ·rename_i k l' k' a cs' he1 he2
      simp only [List.cons.injEq] at he1 he2
      obtain ⟨rfl, rfl⟩ := he1
      obtain ⟨rfl, rfl⟩ := he2
      obtain ⟨rfl, h3⟩ := h1
      split at h
      ·rename_i as' bs' ht
       split at h
       ·rename_i hk
        simp only [beq_iff_eq] at hk
        subst hk
        simp only [Option.some.injEq, Prod.mk.injEq] at h
        obtain ⟨rfl, rfl⟩ := h
        obtain ⟨i1, i2⟩ := ih _ _ _ _ ht h2
        refine ⟨?_, i2⟩
        unfold flatC
        rw [i1]
        simp [inR_mk h3]
       ·cases h
      ·cases h
     ·rename_i l' b cs' he1 he2
      simp only [List.cons.injEq] at he1 he2
      obtain ⟨rfl, rfl⟩ := he1
      obtain ⟨rfl, rfl⟩ := he2
      have h1 : v = .bool (b.d ρ) := h1
      subst h1
      split at h
      ·rename_i as' bs' ht
       simp only [Option.some.injEq, Prod.mk.injEq] at h
       obtain ⟨rfl, rfl⟩ := h
       obtain ⟨i1, i2⟩ := ih _ _ _ _ ht h2
       refine ⟨?_, i2⟩
       unfold flatC
       rw [i1]
       simp
      ·cases h
     ·rename_i k o l' id off cs' he1 he2
      simp only [List.cons.injEq] at he1 he2
      obtain ⟨rfl, rfl⟩ := he1
      obtain ⟨rfl, rfl⟩ := he2
      split at h
      ·rename_i r ht
       split at h
       ·rename_i hc
        simp only [Bool.and_eq_true, beq_iff_eq, Nat.blt_eq] at hc
        obtain ⟨⟨rfl, rfl⟩, hk⟩ := hc
        simp only [Option.some.injEq] at h
        subst h
        obtain ⟨q, hq, rfl⟩ := h1
        have hlt : k < ps.length := by omega
        have hg := List.getElem?_eq_getElem hlt
        have := hb k _ hg
        simp only [pick] at hq
        rw [this] at hq
        simp only [Option.some.injEq] at hq
        obtain ⟨i1, i2⟩ := ih _ _ _ _ ht h2
        refine ⟨?_, i2⟩
        unfold flatC
        rw [hg, i1]
        simp [hq, pick]
       ·cases h
      ·cases h
     ·rename_i l' c' cs' he1 he2
      simp only [List.cons.injEq] at he1 he2
      obtain ⟨rfl, rfl⟩ := he1
      obtain ⟨rfl, rfl⟩ := he2
      split at h
      ·rename_i q as' bs' hq ht
       simp only [Option.some.injEq, Prod.mk.injEq] at h
       obtain ⟨rfl, rfl⟩ := h
       obtain ⟨s, rfl, e1, e2⟩ := asStr_mt hq h1
       obtain ⟨i1, i2⟩ := ih _ _ _ _ ht h2
       refine ⟨?_, i2⟩
       unfold flatC
       rw [i1]
       simp [inR_mk e2, e1]
      ·cases h
     ·rename_i ks l' c' cs' he1 he2
      simp only [List.cons.injEq] at he1 he2
      obtain ⟨rfl, rfl⟩ := he1
      obtain ⟨rfl, rfl⟩ := he2
      split at h
      ·rename_i q as' bs' hq ht
       split at h
       ·cases h
       ·rename_i hot
        simp only [Option.some.injEq, Prod.mk.injEq] at h
        obtain ⟨rfl, rfl⟩ := h
        obtain ⟨ll, r, e1, e2, e3⟩ := slNum_flat (Γ := []) rfl hh hsq hq h1
        obtain ⟨i1, i2⟩ := ih _ _ _ _ ht h2
        constructor
        ·unfold flatC
         rw [i1, e1]
         simp [e2]
        ·unfold rgC
         rw [e1]
         refine Lies.append ?_ i2
         cases r with
         | none => exact Lies.nil
         | some r' =>
          intro r2 hr2
          simp only [List.mem_singleton] at hr2
          subst hr2
          obtain ⟨i, r0, k1, k2, k3⟩ := e3 _ rfl
          refine ⟨i, r0, k1, k2, ?_⟩
          rcases k3 with k3 | k3 | k3
          ·exact .inl k3
          ·exact .inr k3.1
          ·rw [k3] at hot; exact absurd rfl hot
      ·cases h
     ·cases h
def takeTup (ng np : Nat) (hp : Hp) : List (Bool × List CK) -> List S -> Option (List A × List B)
 | [], [] => some ([], [])
 | p :: l, .one agg cs :: ss => match takeR ng np hp p.2 cs, takeTup ng np hp l ss with
  | some (a, b), some (aS, bs) => if agg == p.1 && (agg || p.2.length == 1) then some (a ++ aS, b ++ bs) else none
  | _, _ => none
 | _, _ => none
theorem take1_flat {β : Beta} {w : World} {hp : Hp} (hh : heapMt β ρ hp w) (hsq : SqOk β w) {ps : List Rg} {ng np : Nat} (hnp : ps.length = np) (hb : ∀ (k : Nat) (r : Rg), ps[k]? = some r -> β (ng + k) = some r) {agg : Bool} {l : List CK} {cs : List C} {a : List A} {b : List B} {v : Value}
  (h : takeR ng np hp l cs = some (a, b)) (hc : (agg || l.length == 1) = true) (hm : mt1 β ρ agg cs v) : flat1 w ps agg l v = some (a.map (A.d ρ), b.map (B.d ρ)) /\ Lies β (rg1 w agg l v) := by
 unfold flat1 rg1
 cases agg
 ·obtain ⟨c, rfl, hcm⟩ := hm
  simp only [Bool.false_or, beq_iff_eq] at hc
  match l, hc, h with
  | [ck], _, h =>
   simp only [Bool.false_eq_true, if_false]
   exact takeR_flat (vs := [v]) hh hsq hnp hb h ⟨hcm, trivial⟩
 ·obtain ⟨us, rfl, hcm⟩ := hm
  simp only [if_true]
  exact takeR_flat hh hsq hnp hb h hcm
theorem takeTup_flat {β : Beta} {w : World} {hp : Hp} (hh : heapMt β ρ hp w) (hsq : SqOk β w) {ps : List Rg} {ng np : Nat} (hnp : ps.length = np) (hb : ∀ (k : Nat) (r : Rg), ps[k]? = some r -> β (ng + k) = some r) : ∀ {l : List (Bool × List CK)} {ss : List S} {aS : List A} {bs : List B} {vs : List Value},
  takeTup ng np hp l ss = some (aS, bs) -> mtAll β ρ ss vs -> flatTup w ps l vs = some (aS.map (A.d ρ), bs.map (B.d ρ)) /\ Lies β (rgTup w l vs)
 | [], [], aS, bs, vs, h, hm => by
  simp only [takeTup, Option.some.injEq, Prod.mk.injEq] at h
  obtain ⟨rfl, rfl⟩ := h
  cases vs with
  | nil => exact ⟨rfl, Lies.nil⟩
  | cons _ _ => exact hm.elim
 | p :: l, .one agg cs :: ss, aS, bs, vs, h, hm => by
  cases vs with
  | nil => exact hm.elim
  | cons v vs =>
   obtain ⟨h1, h2⟩ := hm
   unfold takeTup at h
   split at h
   ·rename_i a b as' bs' ht hr
    split at h
    ·rename_i hc
     simp only [Bool.and_eq_true, beq_iff_eq] at hc
     obtain ⟨rfl, hc⟩ := hc
     simp only [Option.some.injEq, Prod.mk.injEq] at h
     obtain ⟨rfl, rfl⟩ := h
     obtain ⟨i1, i2⟩ := take1_flat hh hsq hnp hb ht hc h1
     obtain ⟨j1, j2⟩ := takeTup_flat hh hsq hnp hb hr h2
     refine ⟨?_, i2.append j2⟩
     unfold flatTup
     rw [i1, j1]
     simp
    ·cases h
   ·cases h
 | [], _ :: _, _, _, _, h, _ => by simp [takeTup] at h
 | _ :: _, [], _, _, _, h, _ => by simp [takeTup] at h
 | _ :: _, .tup _ :: _, _, _, _, h, _ => by simp [takeTup] at h
 | _ :: _, .any :: _, _, _, _, h, _ => by simp [takeTup] at h
def takeRes (ng np : Nat) (hp : Hp) (s : Sum) (ss : List S) : Option (List A × List B) :=
 if s.tup then (if ss.length == 1 then none else takeTup ng np hp s.res ss)
 else if s.res.length == 1 && ss.length == 1 then takeTup ng np hp s.res ss else none
theorem flatTup_one {w : World} {ps : List Rg} {p : Bool × List CK} {v : Value} : flatTup w ps [p] [v] = flat1 w ps p.1 p.2 v := by
 unfold flatTup
 cases h : flat1 w ps p.1 p.2 v with
 | none => simp
 | some f => simp [flatTup]
theorem takeRes_flat {β : Beta} {w : World} {hp : Hp} (hh : heapMt β ρ hp w) (hsq : SqOk β w) {ps : List Rg} {ng np : Nat} (hnp : ps.length = np) (hb : ∀ (k : Nat) (r : Rg), ps[k]? = some r -> β (ng + k) = some r) {s : Sum} {ss : List S} {aS : List A} {bs : List B} {vs : List Value}
  (h : takeRes ng np hp s ss = some (aS, bs)) (hm : mtAll β ρ ss vs) : flatRes w ps s (tupV vs) = some (aS.map (A.d ρ), bs.map (B.d ρ)) /\ Lies β (resRgs w s (tupV vs)) := by
 have hlen : ss.length = vs.length := by
  clear h
  induction ss generalizing vs with
  | nil => cases vs with | nil => rfl | cons _ _ => exact hm.elim
  | cons _ ss ih => cases vs with | nil => exact hm.elim | cons _ vs => simp [ih hm.2]
 unfold takeRes at h
 unfold flatRes resRgs
 split at h
 ·rename_i ht
  rw [if_pos ht, if_pos ht]
  split at h
  ·cases h
  ·rename_i hl
   simp only [beq_iff_eq] at hl
   have := takeTup_flat hh hsq hnp hb h hm
   match vs, hlen, this with
   | [], _, this => simpa [tupV] using this
   | [v], hlen, _ => simp at hlen; omega
   | v :: u :: vs, _, this => simpa [tupV] using this
 ·rename_i ht
  rw [if_neg ht, if_neg ht]
  split at h
  ·rename_i hl
   simp only [Bool.and_eq_true, beq_iff_eq] at hl
   have := takeTup_flat hh hsq hnp hb h hm
   match vs, hlen, this with
   | [v], _, this =>
    match hr : s.res, hl.1 with
    | [p], _ =>
     rw [hr] at this
     rw [flatTup_one] at this
     exact ⟨this.1, by have := this.2; simpa [rgTup, tupV] using this⟩
   | [], hlen, _ => have := hl.2; rw [hlen] at this; simp at this
   | _ :: _ :: _, hlen, _ => have := hl.2; rw [hlen] at this; simp at this
  ·cases h
def takePs (ng : Nat) (hp : Hl) : List (List CK) -> Nat -> Option (List A × List B)
 | [], _ => some ([], [])
 | l :: ls, j => match hpOf hp (ng + j) with
  | some b => if b.g.isEmpty then match takeC [] (hpOf hp) l b.cells, takePs ng hp ls (j + 1) with
   | some (a, bb), some (aS, bs) => some (a ++ aS, bb ++ bs)
   | _, _ => none
   else none
  | none => none
theorem takePs_flat {β : Beta} {w : World} {ng : Nat} {hp : Hl} (hh : heapMt β ρ (hpOf hp) w) (hsq : SqOk β w) : ∀ {ls : List (List CK)} {ps : List Rg} {j : Nat} {aS : List A} {bs : List B}, takePs ng hp ls j = some (aS, bs) -> lensOk ls ps ->
  (∀ (k : Nat) (r : Rg), ps[k]? = some r -> r.row = false /\ β (ng + j + k) = some r) -> flatPs w ls ps = some (aS.map (A.d ρ), bs.map (B.d ρ))
 | [], [], j, aS, bs, h, _, _ => by
  simp only [takePs, Option.some.injEq, Prod.mk.injEq] at h
  obtain ⟨rfl, rfl⟩ := h
  rfl
 | l :: ls, r :: ps, j, aS, bs, h, ⟨hl, hls⟩, hb => by
  unfold takePs at h
  split at h
  ·rename_i b hbk
   split at h
   ·rename_i hg
    rw [List.isEmpty_iff] at hg
    split at h
    ·rename_i a bb as' bs' h1 h2
     simp only [Option.some.injEq, Prod.mk.injEq] at h
     obtain ⟨rfl, rfl⟩ := h
     obtain ⟨hrow, hb0⟩ := hb 0 r (by simp)
     simp only [Nat.add_zero] at hb0
     have hmb := hh _ b hbk (by rw [hg]; rfl)
     have hv : vecOf b.cells = none := by
      cases hv : vecOf b.cells with
      | none => rfl
      | some y =>
       obtain ⟨_, q, _, _, hq, hq2, _⟩ := (blkMt_row hv).1 hmb
       rw [hb0] at hq
       cases hq
       rw [hrow] at hq2
       cases hq2
     obtain ⟨q, hq, _, hql, _, hc, _⟩ := (blkMt_cs hv).1 hmb
     rw [hb0] at hq
     cases hq
     obtain ⟨us, hul, hum, hu⟩ := cellsAt_values hc
     have hrd : readCells w r.blk r.off l.length = some us := by
      rw [<- hl, hql, <- hul]; exact readCells_mk hu
     unfold flatPs
     rw [hrd]
     simp only [Option.bind_some]
     rw [(takeC_flat (Γ := []) rfl hh hsq h1 hum).1, takePs_flat hh hsq h2 hls fun k q hk => by have := hb (k + 1) q (by simpa using hk); rwa [show ng + (j + 1) + k = ng + j + (k + 1) by omega]]
     simp
    ·cases h
   ·cases h
  ·cases h
 | [], _ :: _, _, _, _, _, h, _ => h.elim
 | _ :: _, [], _, _, _, _, h, _ => h.elim

def endSt (keep : Kp) (O : Outs) : M St :=
 match getK .n O, getK .r O with
 | some (_, s), none => if (dropK .n O).isEmpty then pure s else M.fail
 | none, some (_, s) => if (dropK .r O).isEmpty then pure s else M.fail
 | some (q, s), some (_, t) => if (dropK .r (dropK .n O)).isEmpty then do
   let a <- gAtom q
   M.mono (joinSt keep a s t)
  else M.fail
 | none, none => M.fail
theorem dropK_empty {k K : Kd} {O : Outs} {q : Gd} {s : St} (h : (dropK k O).isEmpty = true) (hK : getK K O = some (q, s)) : k = K := by
 cases he : k.eq K with
 | true => exact Kd.eq_sound he
 | false =>
  have := dropK_get (k := k) (l := K) O
  rw [List.isEmpty_iff] at h
  rw [h, he] at this
  simp [getK, hK] at this
theorem endSt_ok {keep : Kp} (hx : GrOk x keep) {O : Outs} {u : St} {c c' : Ctr} {out : List Em} (h : endSt keep O c = some (u, c', out)) (hg : Good Φ ρ out) {β : Beta} {K : Kd} {a : Act} {w : World} (hO : OutMt x ρ β c O K a w) : (K = .n \/ K = .r) /\ ∃ β', Ext β β' /\ Rel x ρ β' u a w /\ Fresh β' c' := by
 obtain ⟨h1, q', s', β', hK, hE, hR, hF⟩ := hO
 unfold endSt at h
 cases hn : getK .n O with
 | none => cases hr : getK .r O with
  | none => rw [hn, hr] at h; simp [M.fail] at h
  | some p =>
   obtain ⟨q, s⟩ := p
   rw [hn, hr] at h
   simp only at h
   split at h
   ·rename_i he
    have hp := M.pure_inv h
    simp only [Prod.mk.injEq] at hp
    obtain ⟨rfl, rfl, rfl⟩ := hp
    have := dropK_empty he hK
    subst this
    rw [hr] at hK
    simp only [Option.some.injEq, Prod.mk.injEq] at hK
    obtain ⟨rfl, rfl⟩ := hK
    exact ⟨.inr rfl, β', hE, hR, hF⟩
   ·simp [M.fail] at h
 | some p =>
  obtain ⟨q, s⟩ := p
  cases hr : getK .r O with
  | none =>
   rw [hn, hr] at h
   simp only at h
   split at h
   ·rename_i he
    have hp := M.pure_inv h
    simp only [Prod.mk.injEq] at hp
    obtain ⟨rfl, rfl, rfl⟩ := hp
    have := dropK_empty he hK
    subst this
    rw [hn] at hK
    simp only [Option.some.injEq, Prod.mk.injEq] at hK
    obtain ⟨rfl, rfl⟩ := hK
    exact ⟨.inl rfl, β', hE, hR, hF⟩
   ·simp [M.fail] at h
  | some p =>
   obtain ⟨qr, t⟩ := p
   rw [hn, hr] at h
   simp only at h
   split at h
   ·rename_i he
    obtain ⟨g, c1, o1, c2, o2, y, g1, g2, hee⟩ := M.bind_inv h
    simp only [Prod.mk.injEq] at hee
    obtain ⟨rfl, rfl, rfl⟩ := hee
    rw [Good.append] at hg
    have hgd := gAtom_snd q _ _ _ _ g1 hg.1
    have hid := gAtom_id g1
    obtain ⟨hle, hj⟩ := joinSt_ok (Φ := Φ) (x := x) (ρ := ρ) hx g2 hg.2
    have hqn := h1 _ _ _ hn
    have hF1 : Fresh β' c1 := hF.le (by omega)
    by_cases hKn : K = .n
    ·subst hKn
     rw [hn] at hK
     simp only [Option.some.injEq, Prod.mk.injEq] at hK
     obtain ⟨rfl, rfl⟩ := hK
     obtain ⟨β2, f1, f2, f3⟩ := hj β' a w (by rw [hgd, hqn.2 rfl]; simpa using hR) hF1
     exact ⟨.inl rfl, β2, hE.trans f1, f2, f3⟩
    ·have hf : Gd.d ρ q = false := by
      cases hd : Gd.d ρ q with
      | false => rfl
      | true => exact absurd (hqn.1 hd).symm hKn
     have hK2 : getK K (dropK .n O) = some (q', s') := by
      rw [dropK_get, if_neg (fun h => hKn (Kd.eq_sound h).symm)]; exact hK
     have := dropK_empty he hK2
     subst this
     rw [hr] at hK
     simp only [Option.some.injEq, Prod.mk.injEq] at hK
     obtain ⟨rfl, rfl⟩ := hK
     obtain ⟨β2, f1, f2, f3⟩ := hj β' a w (by rw [hgd, hf]; simpa using hR) hF1
     exact ⟨.inr rfl, β2, hE.trans f1, f2, f3⟩
   ·simp [M.fail] at h
end

def ckNe : CK -> Bool
 | .sl ks => !ks.isEmpty
 | _ => true
def shOk (s : Sum) : Bool := ((ptrShapes s.args).all fun l => !l.isEmpty && noSl l) && s.res.all fun p => p.2.all ckNe
theorem shOk_ne {s : Sum} (h : shOk s = true) : ((ptrShapes s.args).all fun l => !l.isEmpty) = true := by
 unfold shOk at h
 simp only [Bool.and_eq_true, List.all_eq_true] at h ⊢
 exact fun l hl => (h.1 l hl).1
theorem shOk_no {s : Sum} (h : shOk s = true) : ∀ l, l ∈ ptrShapes s.args -> nSl l = 0 := by
 unfold shOk at h
 simp only [Bool.and_eq_true, List.all_eq_true, noSl, beq_iff_eq] at h
 exact fun l hl => (h.1 l hl).2
theorem flatSl_pos {w : World} {ks : List CK} {v : Value} {l : List Int} {n : Int} {r : Rg} (h : flatSl w ks v = some (l, n, some r)) (hk : ks.isEmpty = false) : r.len ≠ 0 := by
 unfold flatSl at h
 split at h
 ·split at h
  ·cases h
  split at h
  ·simp only [Option.some.injEq, Prod.mk.injEq] at h
   cases h.2.2
  ·rename_i h0
   simp only [beq_iff_eq] at h0
   split at h
   ·split at h
    ·split at h
     ·simp only [Option.some.injEq, Prod.mk.injEq] at h
      obtain ⟨_, _, rfl⟩ := h
      have : 0 < ks.length := List.length_pos_iff.2 (fun e => by rw [e] at hk; cases hk)
      have := Nat.mul_pos (Nat.pos_of_ne_zero h0) this
      simp only
      omega
     ·cases h
    ·cases h
   ·cases h
 ·cases h
theorem rgC_pos {w : World} {r : Rg} : ∀ {l : List CK} {vs : List Value}, l.all ckNe = true -> r ∈ rgC w l vs -> r.len ≠ 0
 | [], _, _, h => by simp [rgC] at h
 | ck :: l, [], _, h => by cases ck <;> simp [rgC] at h
 | ck :: l, v :: vs, hc, h => by
  simp only [List.all_cons, Bool.and_eq_true] at hc
  cases ck with
  | sl ks =>
   simp only [rgC, List.mem_append] at h
   rcases h with h | h
   ·split at h
    ·rename_i l' n r' hf
     simp only [List.mem_singleton] at h
     subst h
     exact flatSl_pos hf (by simpa [ckNe] using hc.1)
    ·cases h
   ·exact rgC_pos hc.2 h
  | _ => exact rgC_pos (vs := vs) hc.2 (by simpa only [rgC] using h)
theorem rg1_pos {w : World} {r : Rg} {agg : Bool} {l : List CK} {v : Value} (hc : l.all ckNe = true) (h : r ∈ rg1 w agg l v) : r.len ≠ 0 := by
 unfold rg1 at h
 split at h
 ·split at h
  ·exact rgC_pos hc h
  ·cases h
 ·exact rgC_pos hc h
theorem rgTup_pos {w : World} {r : Rg} : ∀ {l : List (Bool × List CK)} {vs : List Value}, (l.all fun p => p.2.all ckNe) = true -> r ∈ rgTup w l vs -> r.len ≠ 0
 | p :: l, v :: vs, hc, h => by
  simp only [List.all_cons, Bool.and_eq_true] at hc
  simp only [rgTup, List.mem_append] at h
  exact h.elim (rg1_pos hc.1) (rgTup_pos hc.2)
 | [], _, _, h => by simp [rgTup] at h
 | _ :: _, [], _, h => by simp [rgTup] at h
theorem resRgs_pos {w : World} {r : Rg} {s : Sum} {v : Value} (hs : shOk s = true) (h : r ∈ resRgs w s v) : r.len ≠ 0 := by
 unfold shOk at hs
 simp only [Bool.and_eq_true] at hs
 have hs := hs.2
 unfold resRgs at h
 split at h
 ·split at h
  ·exact rgTup_pos hs h
  ·cases h
 ·split at h
  ·rename_i p hp
   rw [hp] at hs
   simp only [List.all_cons, List.all_nil, Bool.and_true] at hs
   exact rg1_pos hs h
  ·cases h
theorem flatArgs_mem {w : World} {s : Sum} {vs : List Value} {is : List Int} {bs : List Bool} {ps : List Rg} (h : flatArgs s.args vs w = some (is, bs, ps)) (hne : shOk s = true) : ∀ r, r ∈ ps -> (r.ro = false /\ r.sq = none /\ r.row = false) /\ ∃ v, w.cell? ⟨r.blk, r.off, none⟩ = some v :=
 flatArgs_mem' h (shOk_ne hne)

def fnM (P : Program) (X : Hnd) (gl : Gl) (k : Ctl) (fn : Func) (s : Sum) : M (List A × List B) := do
 let body <- lift fn.body
 let O <- exec P X (ghOf gl 0) gl.length k body { tm := initTm gl.length s.args 0 0 0 ++ List.replicate (fn.ntmps - s.args.length) anySV, hp := initHp gl.length s.args 0 0 0 }
 let σ <- endSt k.keep O
 let xs <- rAll P (ghOf gl 0) gl.length σ fn.results.toList
 let r <- lift (takeRes gl.length (ptrShapes s.args).length (hpOf σ.hp) s xs)
 let p <- lift (takePs gl.length σ.hp (ptrShapes s.args) 0)
 pure (r.1 ++ p.1, r.2 ++ p.2)
def fnX (P : Program) (X : Hnd) (gl : Gl) (k : Ctl) (fn : Func) (s : Sum) : Option Smry :=
 match fnM P X gl k fn s { i := argI s.args, b := argB s.args, id := gl.length + (ptrShapes s.args).length + argS s.args } with
 | some (r, _, out) => some { em := out, ri := r.1, rb := r.2 }
 | none => none

def st0 (gl : Gl) (fn : Func) (s : Sum) : St := { tm := initTm gl.length s.args 0 0 0 ++ List.replicate (fn.ntmps - s.args.length) anySV, hp := initHp gl.length s.args 0 0 0 }
def ctr0 (gl : Gl) (s : Sum) : Ctr := { i := argI s.args, b := argB s.args, id := gl.length + (ptrShapes s.args).length + argS s.args }
def EAll (P : Program) (Φ : Funs) (gl : Gl) (k : Ctl) : Prop := ∀ x : Cx, x.gl = gl -> x.rl = none -> x.lr = none -> x.ds = [] -> GrOk x k.keep -> (∀ w, Keep x.R x.w0 w -> Laid gl w) -> EOk P Φ x k.E
theorem EAll.nil {P : Program} {Φ : Funs} {gl : Gl} {k : Ctl} (h : k.E = {}) : EAll P Φ gl k := fun _ _ _ _ _ _ _ => EOk.nil h
def fnCx (gl : Gl) (s : Sum) (vs : List Value) (w : World) (ps : List Rg) : Cx :=
 { w0 := w, R := ps, gl := gl, gr := ps, Q := fun r => ∃ q, (q ∈ argRgs s.args vs w \/ ∃ (g : Nat) (us : List Value), gl[g]? = some us /\ q = gRg g us) /\ r.within q, b0 := beta0 gl ps (argRgs s.args vs w), gi := fun j => gl.length + j }
theorem Rg.within_refl (r : Rg) : r.within r := ⟨rfl, Nat.le_refl _, Nat.le_refl _⟩
theorem run_gen {P : Program} {Φ : Funs} {X : Hnd} {gl : Gl} (hX : HOk P Φ gl X) {f : Nat} {fn : Func} (hf : P.funcs[f]? = some fn) {k : Ctl} (hK : LoopsOk Φ k) (hEA : EAll P Φ gl k) {s : Sum} {body : Code} (hbody : fn.body = some body) (hne : shOk s = true)
  {vs : List Value} {w : World} {is : List Int} {bs : List Bool} {ps : List Rg} (hL : Laid gl w) (hfl : flatArgs s.args vs w = some (is, bs, ps)) (hap : apartL ps) (hfz : frzL ps w) (hag : ∀ q, q ∈ ps -> ∀ (g : Nat) (vs : List Value), gl[g]? = some vs -> q.apart (gRg g vs)) (hsl : ∀ q, q ∈ ps -> ∀ r, r ∈ argRgs s.args vs w -> q.apart r)
  {ρ : Env} (hi : ∀ n, n < argI s.args -> ρ.i (0 + n) = is.getD n 0) (hbb : ∀ n, n < argB s.args -> ρ.b (0 + n) = bs.getD n false) {O : Outs} {c3 : Ctr} {o3 : List Em} (g3 : exec P X (ghOf gl 0) gl.length k body (st0 gl fn s) (ctr0 gl s) = some (O, c3, o3)) (hg3 : Good Φ ρ o3)
  {σ : St} {c5 : Ctr} {o5 : List Em} (g5 : endSt k.keep O c3 = some (σ, c5, o5)) (hg5 : Good Φ ρ o5) {xs : List S} {c7 : Ctr} {o7 : List Em} (g7 : rAll P (ghOf gl 0) gl.length σ fn.results.toList c5 = some (xs, c7, o7)) (hg7 : Good Φ ρ o7) :
  Calls P f vs.toArray w fun e w' => ∃ us β' a', e = .returned (tupV us) /\ mtAll β' ρ xs us /\ Rel (fnCx gl s vs w ps) ρ β' σ a' w' := by
 have hlen := flatArgs_len hfl
 let x : Cx := fnCx gl s vs w ps
 have hx : GrOk x k.keep := fun _ q hq => List.mem_iff_getElem?.1 hq
 obtain ⟨sl, hsle⟩ : ∃ sl, sl = argRgs s.args vs w := ⟨_, rfl⟩
 have hslm : ∀ {k : Nat} {r : Rg}, sl[k]? = some r -> r.ro = true /\ r.row = false /\ (r.len = 0 \/ r.blk < w.heap.size) /\ ∀ ks l, r.sq = some (ks, l) -> l.length = r.len /\ seqAt w r.blk r.off ks l := fun {k r} hk => by
  obtain ⟨g1, g2, ks, q, g3, g4, g5⟩ := argRgs_sq (hsle ▸ List.mem_of_getElem? hk)
  refine ⟨g1, g2, ?_, fun ks' l' he => ?_⟩
  ·cases q with
   | nil => exact .inl (by simpa using g4.symm)
   | cons n q =>
    obtain ⟨_, v, _, hv, _⟩ := g5 0 n rfl
    exact .inr (World.block_lt_of_cell? w ⟨r.blk, r.off + 0, none⟩ hv)
  ·rw [g3] at he
   cases he
   exact ⟨g4, g5⟩
 have hbps : ∀ (k : Nat) (r : Rg), ps[k]? = some r -> beta0 gl ps sl (gl.length + k) = some r := fun k r hk => beta0_ps hk
 have hpsm := flatArgs_mem hfl hne
 obtain ⟨i1, i2, i3⟩ := init_ok (ρ := ρ) (β := beta0 gl ps sl) gl.length (i := 0) (b := 0) (j := 0) hfl hfz hi hbb (fun k r hk => by rw [Nat.add_zero]; exact hbps k r hk) (shOk_no hne) (fun r hr => beta0_sl (hsle ▸ hr))
 have hglsq : ∀ (g : Nat) (vs : List Value), (gRg g vs).sq = none := fun _ _ => rfl
 have hbo : BetaOk w.heap.size ps x.Q (beta0 gl ps sl) w := by
  refine ⟨fun i j r q hij hi hj => ?_, fun i r hi => ?_, fun i r hi => ?_, fun i r ks l hi hs => ?_, fun i r hi hro => ?_, fun r q hq hw => ?_, fun i r hi hrow => ?_⟩
  ·rcases beta0_inv hi with ⟨us, h1, rfl⟩ | ⟨h0, h1⟩ | ⟨h0, h1⟩
   ·rcases beta0_inv hj with ⟨us', h2, rfl⟩ | ⟨h0', h2⟩ | ⟨h0', h2⟩
    ·exact .inl ⟨rfl, rfl⟩
    ·exact .inr (Rg.apart_symm (hag q (List.mem_of_getElem? h2) i us h1))
    ·exact .inl ⟨rfl, (hslm h2).1⟩
   ·rcases beta0_inv hj with ⟨us', h2, rfl⟩ | ⟨h0', h2⟩ | ⟨h0', h2⟩
    ·exact .inr (hag r (List.mem_of_getElem? h1) j us' h2)
    ·rcases Nat.lt_or_ge i j with h | h
     ·exact .inr (apartL_get hap (by omega) h1 h2)
     ·exact .inr (Rg.apart_symm (apartL_get hap (by omega) h2 h1))
    ·exact .inr (hsl r (List.mem_of_getElem? h1) q (hsle ▸ List.mem_of_getElem? h2))
   ·rcases beta0_inv hj with ⟨us', h2, rfl⟩ | ⟨h0', h2⟩ | ⟨h0', h2⟩
    ·exact .inl ⟨(hslm h1).1, rfl⟩
    ·exact .inr (Rg.apart_symm (hsl q (List.mem_of_getElem? h2) r (hsle ▸ List.mem_of_getElem? h1)))
    ·exact .inl ⟨(hslm h1).1, (hslm h2).1⟩
  ·rcases beta0_inv hi with ⟨us, h1, rfl⟩ | ⟨h0, h1⟩ | ⟨h0, h1⟩
   ·exact .inr (hL i _ h1).1
   ·obtain ⟨_, v, hv⟩ := hpsm r (List.mem_of_getElem? h1)
    exact .inr (World.block_lt_of_cell? w _ hv)
   ·exact (hslm h1).2.2.1
  ·rcases beta0_inv hi with ⟨us, h1, rfl⟩ | ⟨h0, h1⟩ | ⟨h0, h1⟩
   ·exact .inl rfl
   ·exact .inr (.inr ⟨r, List.mem_of_getElem? h1, rfl, Nat.le_refl _, Nat.le_refl _⟩)
   ·exact .inl (hslm h1).1
  ·rcases beta0_inv hi with ⟨us, h1, rfl⟩ | ⟨h0, h1⟩ | ⟨h0, h1⟩
   ·cases hs
   ·rw [(hpsm r (List.mem_of_getElem? h1)).1.2.1] at hs
    cases hs
   ·exact ⟨(hslm h1).1, (hslm h1).2.1, (hslm h1).2.2.2 ks l hs⟩
  ·rcases beta0_inv hi with ⟨us, h1, rfl⟩ | ⟨h0, h1⟩ | ⟨h0, h1⟩
   ·exact .inr ⟨_, .inr ⟨i, us, h1, rfl⟩, Rg.within_refl _⟩
   ·rw [(hpsm r (List.mem_of_getElem? h1)).1.1] at hro
    cases hro
   ·exact .inr ⟨r, .inl (hsle ▸ List.mem_of_getElem? h1), Rg.within_refl _⟩
  ·obtain ⟨p, hp, hpw⟩ := hq
   exact ⟨p, hp, Rg.within_trans hw hpw⟩
  ·exfalso
   rcases beta0_inv hi with ⟨us, h1, rfl⟩ | ⟨h0, h1⟩ | ⟨h0, h1⟩
   ·cases hrow
   ·rw [(hpsm r (List.mem_of_getElem? h1)).1.2.2] at hrow
    cases hrow
   ·rw [(hslm h1).2.1] at hrow
    cases hrow
 have hgm : heapMt (beta0 gl ps sl) ρ (hpOf (ghOf gl 0)) w := by
  intro id b hb _
  obtain ⟨us, hus, _, rfl⟩ := ghOf_get hb
  rw [Nat.sub_zero] at hus
  refine blkMt_mk ⟨_, beta0_gl hus, rfl, by simp [gRg], rfl, ?_, fun h => by cases h⟩
  rw [cellsAt_iff]
  intro j c hj
  rw [List.getElem?_map] at hj
  cases hu : us[j]? with
  | none => rw [hu] at hj; simp at hj
  | some u =>
   rw [hu] at hj
   simp only [Option.map_some, Option.some.injEq] at hj
   subst hj
   have hl := (hL id us hus).2 j u hu
   exact ⟨u, by simpa [gRg] using hl.1, ofC_mt hl.2⟩
 have hvl : vs.length = s.args.length := hlen.2.2.2
 have hrel : Rel x ρ (beta0 gl ps sl) (st0 gl fn s) { tmps := vs.toArray ++ Array.replicate (fn.ntmps - vs.toArray.size) undef, defers := [] } w := by
  refine ⟨?_, fun t v ht => ?_, Lk.nil rfl rfl _, i3, hgm, fun id b hb => ?_, hbo, Keep.refl _ _, fun g vs hg => beta0_gl hg, fun j r hr => ⟨(hpsm r (List.mem_of_getElem? hr)).1.2.2, hbps j r hr⟩, hsle ▸ ExtP.refl _ _⟩
  ·simp [st0, i2, hvl]
  ·simp only [st0] at ht ⊢
   rcases Nat.lt_or_ge t (initTm gl.length s.args 0 0 0).length with h | h
   ·rw [List.getElem?_append_left h] at ht
    have := i1 t v ht
    have hlt : t < vs.length := by omega
    rw [List.getD_eq_getElem?_getD, List.getElem?_eq_getElem hlt] at this
    simpa [Array.getElem?_append, hlt] using this
   ·rw [List.getElem?_append_right h, List.getElem?_replicate] at ht
    split at ht
    ·simp only [Option.some.injEq] at ht
     subst ht
     exact anySV_mt _
    ·cases ht
  ·obtain ⟨us, _, _, rfl⟩ := ghOf_get hb
   rfl
 have hfresh : Fresh (beta0 gl ps sl) (ctr0 gl s) := by
  intro i hi
  simp only [ctr0] at hi
  cases hb : beta0 gl ps sl i with
  | none => rfl
  | some r =>
   have hsll : sl.length <= argS s.args := by rw [hsle]; exact argRgs_len
   rcases beta0_inv hb with ⟨us, h1, rfl⟩ | ⟨h0, h1⟩ | ⟨h0, h1⟩
   ·have := (List.getElem?_eq_some_iff.1 h1).1; omega
   ·have := (List.getElem?_eq_some_iff.1 h1).1; omega
   ·have := (List.getElem?_eq_some_iff.1 h1).1; omega
 have hG : ∀ w', Keep ps w w' -> Laid gl w' := by
  intro w' hk g us hg
  obtain ⟨h1, h2⟩ := hL g us hg
  refine ⟨by have := hk.size; omega, fun j v hj => ?_⟩
  obtain ⟨h3, h4⟩ := h2 j v hj
  refine ⟨(hk.cell _ h1 fun r hr hin => ?_).trans h3, h4⟩
  have := hag r hr g us hg
  have hlt := (List.getElem?_eq_some_iff.1 hj).1
  unfold inRg at hin
  unfold Rg.apart gRg at this
  simp only at hin this
  omega
 have hrun := exec_ok (x := x) hX hG k hx hK (hEA x rfl rfl rfl rfl hx hG) body ρ _ _ _ O o3 g3 hg3 (beta0 gl ps sl) _ w hrel hfresh
  (bodyPostM Fence.wide 0 P fn fun e w' => ∃ us β' a', e = .returned (tupV us) /\ mtAll β' ρ xs us /\ Rel x ρ β' σ a' w') fun e a' w' K hk hO => ?_
 ·exact callsIn_wide.1 (callsIn_of_wp_marks hf hbody trivial hrun rfl)
 ·obtain ⟨hKK, β', hE, hR, _⟩ := endSt_ok hx g5 hg5 hO
  have hfin : LeavesInM Fence.wide 0 P fn a'.tmps (fun e w' => ∃ us β' a', e = .returned (tupV us) /\ mtAll β' ρ xs us /\ Rel x ρ β' σ a' w') a'.defers .returning w' :=
   leaves_ok rfl rfl a'.defers hR.noDf hR.df.ma fun w2 hR2 => by
    obtain ⟨us, hus, hum⟩ := rAll_snd (P := P) (x := x) σ fn.results.toList _ _ _ _ g7 hg7 β' _ w2 hR2
    exact ⟨_, results_run hus, us, β', _, rfl, hum, hR2⟩
  rcases hKK with rfl | rfl
  ·rw [kdOf_n hk]
   exact hfin
  ·cases e <;> simp only [kdOf, Option.some.injEq] at hk <;> (try (cases hk; done))
   exact hfin

theorem contract_gen {P : Program} {Φ : Funs} {X : Hnd} {gl : Gl} (hX : HOk P Φ gl X) {f : Nat} {fn : Func} (hf : P.funcs[f]? = some fn) {k : Ctl} (hK : LoopsOk Φ k) (hEA : EAll P Φ gl k) {s : Sum} {S : Smry} (h : fnX P X gl k fn s = some S)
  (hw : wsEm S.em (argI s.args) (argB s.args) = true) (hne : shOk s = true)
  (hob : ∀ (vs : List Value) (w : World) (is : List Int) (bs : List Bool) (ps : List Rg), flatArgs s.args vs w = some (is, bs, ps) -> (s.pre = true -> (S.run Φ s.pre is bs).2.headD false = true) ->
   obAll (envOf (evEm Φ S.em is bs).1 (evEm Φ S.em is bs).2) S.em = true) : Contract P gl f s (S.run Φ s.pre) := by
 intro vs w is bs ps hL hfl hap hfz hag hsl hpre
 have hlen := flatArgs_len hfl
 have hlens := flatArgs_lens hfl
 have ho := hob vs w is bs ps hfl hpre
 have hw' : wsEm S.em is.length bs.length = true := by rw [hlen.1, hlen.2.1]; exact hw
 have hgood := good_of hw' ho
 have hagree := (evEm_spec Φ S.em is bs hw').1
 unfold fnX at h
 split at h
 ·rename_i r c' out hm
  simp only [Option.some.injEq] at h
  subst h
  simp only at hgood hagree ho hw' ⊢
  generalize hρ : envOf (evEm Φ out is bs).1 (evEm Φ out is bs).2 = ρ at hgood hagree ho
  unfold fnM at hm
  obtain ⟨body, c1, o1, c2, o2, y, g1, g2, he⟩ := M.bind_inv hm
  simp only [Prod.mk.injEq] at he
  obtain ⟨rfl, rfl, rfl⟩ := he
  obtain ⟨body', hbody, he⟩ := lift_inv g1
  simp only [Prod.mk.injEq] at he
  obtain ⟨rfl, rfl, rfl⟩ := he
  obtain ⟨O, c3, o3, c4, o4, y, g3, g4, he⟩ := M.bind_inv g2
  simp only [Prod.mk.injEq] at he
  obtain ⟨rfl, rfl, rfl⟩ := he
  obtain ⟨σ, c5, o5, c6, o6, y, g5, g6, he⟩ := M.bind_inv g4
  simp only [Prod.mk.injEq] at he
  obtain ⟨rfl, rfl, rfl⟩ := he
  obtain ⟨xs, c7, o7, c8, o8, y, g7, g8, he⟩ := M.bind_inv g6
  simp only [Prod.mk.injEq] at he
  obtain ⟨rfl, rfl, rfl⟩ := he
  obtain ⟨rr, c9, o9, c10, o10, y, g9, g10, he⟩ := M.bind_inv g8
  simp only [Prod.mk.injEq] at he
  obtain ⟨rfl, rfl, rfl⟩ := he
  obtain ⟨rr', hrr, he⟩ := lift_inv g9
  simp only [Prod.mk.injEq] at he
  obtain ⟨rfl, rfl, rfl⟩ := he
  obtain ⟨pp, c11, o11, c12, o12, y, g11, g12, he⟩ := M.bind_inv g10
  simp only [Prod.mk.injEq] at he
  obtain ⟨rfl, rfl, rfl⟩ := he
  obtain ⟨pp', hpp, he⟩ := lift_inv g11
  simp only [Prod.mk.injEq] at he
  obtain ⟨rfl, rfl, rfl⟩ := he
  have he := M.pure_inv g12
  simp only [Prod.mk.injEq] at he
  obtain ⟨rfl, rfl, rfl⟩ := he
  simp only [Good.append] at hgood
  obtain ⟨_, hg3, hg5, hg7, _⟩ := hgood
  have hi : ∀ n, n < argI s.args -> ρ.i (0 + n) = is.getD n 0 := fun n hn => by rw [Nat.zero_add]; exact hagree.1 n (by omega)
  have hbb : ∀ n, n < argB s.args -> ρ.b (0 + n) = bs.getD n false := fun n hn => by rw [Nat.zero_add]; exact hagree.2 n (by omega)
  refine Calls.mono (run_gen hX hf hK hEA hbody hne hL hfl hap hfz hag hsl hi hbb g3 hg3 g5 hg5 g7 hg7) fun e w' he => ?_
  obtain ⟨us, β', a', rfl, hum, hR⟩ := he
  have hra : ∀ (k : Nat) (r : Rg), ps[k]? = some r -> r.row = false /\ β' (gl.length + k) = some r := hR.ra
  obtain ⟨hfr, hlies⟩ := takeRes_flat hR.hm hR.bo.sq hlen.2.2.1 (fun k r hk => (hra k r hk).2) hrr hum
  have hfp := takePs_flat hR.hm hR.bo.sq hpp hlens (fun k r hk => by rw [Nat.add_zero]; exact hra k r hk)
  refine ⟨_, rfl, hR.kp, ⟨_, _, hfr, hfp, ?_, ?_⟩, fun r' hr' => ?_⟩
  ·simp only [Smry.run, hρ, List.map_append]
  ·simp only [Smry.run, hρ, List.map_append]
   cases s.pre <;> simp
  ·obtain ⟨i, r0, hi0, hw0, h0⟩ := hlies r' hr'
   have hpos := resRgs_pos hne hr'
   rcases h0 with h0 | h0
   ·rcases hR.bo.rom i r0 hi0 h0 with h1 | h1
    ·exact .inl (by rw [hw0.1]; exact h1)
    ·exact .inr (hR.bo.qs r' r0 h1 hw0)
   ·have hro := hR.bo.rw i r0 hi0 h0
    rcases hR.bo.may i r0 hi0 with h1 | h1
    ·rw [hro] at h1; cases h1
    ·rcases h1 with h1 | ⟨p, hp, h1, h2, h3⟩
     ·exact .inl (by rw [hw0.1]; exact h1)
     ·exfalso
      obtain ⟨k', hk'⟩ := List.mem_iff_getElem?.1 hp
      obtain ⟨e1, e2⟩ := hra k' p hk'
      have hne2 : i ≠ gl.length + k' := fun e => by rw [<- e, hi0] at e2; cases e2; rw [h0] at e1; cases e1
      have := hR.bo.apartW hne2 hi0 e2 hro
      unfold Rg.apart at this
      unfold Rg.within at hw0
      omega
 ·cases h

theorem callable_of {P : Program} {f : Nat} {fn : Func} (hf : P.funcs[f]? = some fn) (hn : (fn.name == "runtime.NumGoroutine") = false) (hb : fn.body.isNone = false) : ∀ args w, (callFunc f args).run P w = .ok (.enter f args) w := by
 intro args w
 unfold callFunc
 simp only [Sem.run_bind, run_program, Result.andThen_ok, hf, hn, hb, Bool.false_eq_true, if_false, Sem.run_pure]

def noOb (l : List Em) : Bool := l.all fun | .ob _ _ => false | _ => true
theorem noOb_all {ρ : Env} {l : List Em} (h : noOb l = true) : obAll ρ l = true := by
 unfold obAll noOb at *
 rw [List.all_eq_true] at *
 intro e he
 have := h e he
 cases e <;> simp_all
theorem contract_of {P : Program} {Φ : Funs} {X : Hnd} {gl : Gl} (hX : HOk P Φ gl X) {f : Nat} {fn : Func} (hf : P.funcs[f]? = some fn) {k : Ctl} (hK : LoopsOk Φ k) {s : Sum} {S : Smry} (h : fnX P X gl k fn s = some S)
  (hw : (wsEm S.em (argI s.args) (argB s.args) && shOk s && noOb S.em) = true) (hE : k.E = {} := by rfl) : Contract P gl f s (S.run Φ s.pre) := by
 simp only [Bool.and_eq_true] at hw
 exact contract_gen hX hf hK (EAll.nil hE) h hw.1.1 hw.1.2 fun _ _ _ _ _ _ _ => noOb_all hw.2
theorem contract_pre {P : Program} {Φ : Funs} {X : Hnd} {gl : Gl} (hX : HOk P Φ gl X) {f : Nat} {fn : Func} (hf : P.funcs[f]? = some fn) {k : Ctl} (hK : LoopsOk Φ k) {s : Sum} {S : Smry} (h : fnX P X gl k fn s = some S)
  (hw : (wsEm S.em (argI s.args) (argB s.args) && shOk s && s.pre) = true) (hE : k.E = {} := by rfl) : Contract P gl f s (S.run Φ s.pre) := by
 simp only [Bool.and_eq_true] at hw
 refine contract_gen hX hf hK (EAll.nil hE) h hw.1.1 hw.1.2 fun vs w is bs ps _ hp => ?_
 have := hp hw.2
 simpa [Smry.run, hw.2] using this
end Go.Proofs.YtfgbfdlacnihkaaDoor.Sx
namespace Go.Proofs.YtfgbfdlacnihkaaDoor.Sx
open Go

def rdOps : List Oper -> List Nat -> List Nat -> List Nat
 | [], _, acc => acc
 | o :: l, wr, acc =>
  let acc' := o.op.operands.toList.foldl (fun a x => match x with | .tmp t => if wr.contains t || a.contains t then a else t :: a | _ => a) acc
  rdOps l (match o.dst with | some d => d :: wr | none => wr) acc'
def rdCode : Code -> List Nat -> List Nat
 | .region _ ops _, acc => rdOps ops.toList [] acc
 | .seq a b, acc => rdCode b (rdCode a acc)
 | .cond c a b, acc => rdCode b (rdCode a (match c with | .tmp t => if acc.contains t then acc else t :: acc | _ => acc))
 | .block _ a, acc => rdCode a acc
 | .scope a, acc => rdCode a acc
 | .loop a, acc => rdCode a acc
 | .rangeFunc g _ aS bd, acc => rdCode bd (rdCode aS (match g with | .tmp t => if acc.contains t then acc else t :: acc | _ => acc))
 | _, acc => acc
def keepOf (fn : Func) : List Bool :=
 let r := rdCode (fn.body.getD .skip) (fn.results.toList.map fun | .tmp t => t | .cell a _ => a)
 (List.range fn.ntmps).map fun t => r.contains t
def retOf (fn : Func) : List Bool :=
 let r := fn.results.toList.map fun | .tmp t => t | .cell a _ => a
 (List.range fn.ntmps).map fun t => r.contains t
def ctlOf (fn : Func) (gl : Gl) (s : Sum) : Ctl := { keep := { l := keepOf fn, fz := true }, turns := 400, ret := retOf fn, base := gl.length + (ptrShapes s.args).length + argS s.args }

def tabS : List (Nat × Sum × Fun) -> Sums
 | [], _ => none
 | (f, s, _) :: l, n => if n == f then some s else tabS l n
def tabF : List (Nat × Sum × Fun) -> Funs
 | [], _ => fun _ _ => ([], [])
 | (f, _, F) :: l, n => if n == f then F else tabF l n
theorem AllOk.nil {P : Program} {gl : Gl} : AllOk P (tabF []) gl (tabS []) := fun _ _ h => by cases h
theorem AllOk.cons {P : Program} {gl : Gl} {l : List (Nat × Sum × Fun)} {f : Nat} {s : Sum} {F : Fun} (hc : match s.sl with | none => Contract P gl f s F | some p => TabContract P gl f p) (hcall : ∀ args w, (callFunc f args).run P w = .ok (.enter f args) w)
  (hin : ∀ S, s.inl = some S -> s.pre = false /\ ∀ is bs, F is bs = S.run Fun0 false is bs) (h : AllOk P (tabF l) gl (tabS l)) : AllOk P (tabF ((f, s, F) :: l)) gl (tabS ((f, s, F) :: l)) := by
 intro n t ht
 unfold tabS at ht
 unfold tabF
 by_cases e : (n == f) = true
 ·rw [if_pos e] at ht ⊢
  simp only [Option.some.injEq] at ht
  simp only [beq_iff_eq] at e
  subst e
  subst ht
  exact ⟨hc, hcall, hin⟩
 ·rw [if_neg e] at ht ⊢
  exact h n t ht
def withInl (s : Sum) (S : Smry) : Sum := { s with inl := some S }
def ctlL (fn : Func) (gl : Gl) (s : Sum) (l : List (Nat × LAnn)) : Ctl := { ctlOf fn gl s with loops := l }

def callsOf : List Em -> List Nat
 | [] => []
 | .call f _ _ _ _ _ _ :: l => f :: callsOf l
 | _ :: l => callsOf l
theorem evEm_congr {Φ Φ' : Funs} : ∀ {l : List Em} {is : List Int} {bs : List Bool}, (∀ f, f ∈ callsOf l -> Φ f = Φ' f) -> evEm Φ l is bs = evEm Φ' l is bs
 | [], _, _, _ => rfl
 | .di _ _ :: l, is, bs, h => by unfold evEm; exact evEm_congr h
 | .db _ _ :: l, is, bs, h => by unfold evEm; exact evEm_congr h
 | .ob _ _ :: l, is, bs, h => by unfold evEm; exact evEm_congr h
 | .call f ai ab i ni b nb :: l, is, bs, h => by
  unfold evEm
  simp only
  rw [h f (by simp [callsOf])]
  exact evEm_congr fun g hg => h g (by simp [callsOf, hg])
theorem run_congr {Φ Φ' : Funs} {S : Smry} {pre : Bool} (h : ∀ f, f ∈ callsOf S.em -> Φ f = Φ' f) : S.run Φ pre = S.run Φ' pre := by
 funext is bs
 unfold Smry.run
 rw [evEm_congr h]
noncomputable def lpF : List LAnn -> Funs -> Funs
 | [], Φ => Φ
 | L :: l, Φ => fun n => if n == L.id then loopF (L.S.run (lpF l Φ) true) L.nI L.nB else lpF l Φ n
def notIn (n : Nat) (l : List Nat) : Bool := l.all fun m => !(m == n)
theorem notIn_spec {n : Nat} {l : List Nat} (h : notIn n l = true) {m : Nat} (hm : m ∈ l) : m ≠ n := by
 unfold notIn at h
 rw [List.all_eq_true] at h
 have := h m hm
 simpa using this
def lpOk : List LAnn -> Bool
 | [] => true
 | L :: l => notIn L.id (callsOf L.S.em) && (l.all fun M => !(M.id == L.id) && notIn L.id (callsOf M.S.em)) && lpOk l
theorem lpF_ok {Φ : Funs} : ∀ {l : List LAnn}, lpOk l = true -> ∀ L, L ∈ l -> lpF l Φ L.id = loopF (L.S.run (lpF l Φ) true) L.nI L.nB
 | [], _, L, h => by cases h
 | M :: l, hk, L, h => by
  simp only [lpOk, Bool.and_eq_true, List.all_eq_true] at hk
  obtain ⟨⟨h1, h2⟩, h3⟩ := hk
  rcases List.mem_cons.1 h with rfl | h
  ·have : lpF (L :: l) Φ L.id = loopF (L.S.run (lpF l Φ) true) L.nI L.nB := by simp [lpF]
   rw [this]
   congr 1
   refine run_congr fun f hf => ?_
   have := notIn_spec h1 hf
   simp [lpF, this]
  ·have h4 := h2 L h
   simp only [Bool.not_eq_true', beq_eq_false_iff_ne, ne_eq] at h4
   have : lpF (M :: l) Φ L.id = lpF l Φ L.id := by simp [lpF, h4.1]
   rw [this, lpF_ok h3 L h]
   congr 1
   refine run_congr fun f hf => ?_
   have := notIn_spec h4.2 hf
   simp [lpF, this]
theorem lpF_else {Φ : Funs} {n : Nat} : ∀ {l : List LAnn}, (l.all fun L => !(L.id == n)) = true -> lpF l Φ n = Φ n
 | [], _ => rfl
 | L :: l, h => by
  simp only [List.all_cons, Bool.and_eq_true] at h
  have h1 : ¬ L.id = n := by simpa using h.1
  have h1' : (n == L.id) = false := by simpa using fun e => h1 (Eq.symm e)
  unfold lpF
  rw [h1']
  simp only [Bool.false_eq_true, if_false]
  exact lpF_else h.2
def apartT (l : List LAnn) (T : List (Nat × Sum × Fun)) : Bool := T.all fun e => l.all fun L => !(L.id == e.1)
theorem tabS_mem {n : Nat} {s : Sum} : ∀ {T : List (Nat × Sum × Fun)}, tabS T n = some s -> ∃ e, e ∈ T /\ e.1 = n
 | [], h => by cases h
 | (f, t, F) :: T, h => by
  unfold tabS at h
  split at h
  ·rename_i e
   simp only [beq_iff_eq] at e
   exact ⟨_, List.mem_cons.2 (.inl rfl), e.symm⟩
  ·obtain ⟨e, he, h2⟩ := tabS_mem h
   exact ⟨e, by simp [he], h2⟩
theorem AllOk.loops {P : Program} {gl : Gl} {T : List (Nat × Sum × Fun)} (h : AllOk P (tabF T) gl (tabS T)) {l : List LAnn} (ha : apartT l T = true) : AllOk P (lpF l (tabF T)) gl (tabS T) := by
 intro f s hs
 obtain ⟨e, he, rfl⟩ := tabS_mem hs
 unfold apartT at ha
 rw [List.all_eq_true] at ha
 rw [lpF_else (ha e he)]
 exact h _ _ hs
theorem LoopsOk.of {Φ : Funs} {fn : Func} {gl : Gl} {s : Sum} {l : List (Nat × LAnn)} (h : lpOk (l.map (·.2)) = true) : LoopsOk (lpF (l.map (·.2)) Φ) (ctlL fn gl s l) :=
 fun p hp => lpF_ok h p.2 (List.mem_map.2 ⟨p, hp, rfl⟩)
end Go.Proofs.YtfgbfdlacnihkaaDoor.Sx
namespace Go.Proofs.YtfgbfdlacnihkaaDoor.Sx
open Go

def Em.eqn (Φ : Funs) (ρ : Env) : Em -> Prop
 | .di n r => ρ.i n = r.d ρ
 | .db n r => ρ.b n = r.d ρ
 | .call f ai ab i0 ni b0 nb =>
  (∀ j, j < ni -> ρ.i (i0 + j) = (Φ f (ai.map (A.d ρ)) (ab.map (B.d ρ))).1.getD j 0) /\
  (∀ j, j < nb -> ρ.b (b0 + j) = (Φ f (ai.map (A.d ρ)) (ab.map (B.d ρ))).2.getD j false)
 | .ob _ _ => True
def eqns (Φ : Funs) (ρ : Env) : List Em -> Prop
 | [] => True
 | e :: l => e.eqn Φ ρ /\ eqns Φ ρ l
theorem eqns_of {Φ : Funs} {ρ : Env} : ∀ {l : List Em}, (∀ e, e ∈ l -> match e with | .ob _ _ => True | e => e.ok Φ ρ) -> eqns Φ ρ l
 | [], _ => trivial
 | e :: l, h => by
  refine ⟨?_, eqns_of fun e he => h e (by simp [he])⟩
  have := h e (by simp)
  cases e with
  | di n r => exact this
  | db n r => exact this
  | call f ai ab i0 ni b0 nb => exact this
  | ob g b => trivial
def headsI (ρ : Env) : List Int -> Nat -> Prop
 | [], _ => True
 | x :: l, n => ρ.i n = x /\ headsI ρ l (n + 1)
def headsB (ρ : Env) : List Bool -> Nat -> Prop
 | [], _ => True
 | x :: l, n => ρ.b n = x /\ headsB ρ l (n + 1)
theorem headsI_of {ρ : Env} : ∀ {l : List Int} {k : Nat}, (∀ n, n < l.length -> ρ.i (k + n) = l.getD n 0) -> headsI ρ l k
 | [], _, _ => trivial
 | x :: l, k, h => ⟨by simpa using h 0 (by simp), headsI_of fun n hn => by have := h (n + 1) (by simpa using hn); rw [show k + 1 + n = k + (n + 1) by omega, this]; simp⟩
theorem headsB_of {ρ : Env} : ∀ {l : List Bool} {k : Nat}, (∀ n, n < l.length -> ρ.b (k + n) = l.getD n false) -> headsB ρ l k
 | [], _, _ => trivial
 | x :: l, k, h => ⟨by simpa using h 0 (by simp), headsB_of fun n hn => by have := h (n + 1) (by simpa using hn); rw [show k + 1 + n = k + (n + 1) by omega, this]; simp⟩
theorem wrap_i64 (n : Int) : IntKind.wrap .i64 n = if n % 18446744073709551616 >= 9223372036854775808 then n % 18446744073709551616 - 18446744073709551616 else n % 18446744073709551616 := by simp [IntKind.wrap, IntKind.signed, IntKind.bits]
def allR (f : Nat -> Bool) : Nat -> Nat -> Bool
 | 0, lo => f lo
 | k + 1, lo => allR f k lo && allR f k (lo + 2 ^ k)
theorem wrap_i64_in {n : Int} (h1 : -9223372036854775808 <= n) (h2 : n < 9223372036854775808) : IntKind.wrap .i64 n = n := by
 rw [wrap_i64]
 split <;> omega
end Go.Proofs.YtfgbfdlacnihkaaDoor.Sx
namespace Go.Proofs.YtfgbfdlacnihkaaDoor.Sx
open Go Go.ChangeShapes Go.WideShapes Go.ChangeAt Go.RowKit

def shOf (P : Program) (t : TypeId) : Option Sh := match P.underlying t with
 | some .bool => some (.val false [.bool])
 | some (.int k) => some (.val false [.int k])
 | some (.struct _) => (ckOf P 8 t).map (.val true ·)
 | some (.array _ _) => (ckOf P 8 t).map (.val true ·)
 | some .string => some (.val false [.str])
 | some (.slice _) => (ckOf P 8 t).map (.val false ·)
 | _ => none
def shsOf (P : Program) : List TypeId -> Option (List Sh)
 | [] => some []
 | t :: ts => match shOf P t, shsOf P ts with
  | some s, some ss => some (s :: ss)
  | _, _ => none

theorem flatC_append {w : World} {ps : List Rg} : ∀ {l1 : List CK} {v1 : List Value} {l2 : List CK} {v2 : List Value} {f1 f2 : Fl}, flatC w ps l1 v1 = some f1 -> flatC w ps l2 v2 = some f2 -> ∃ f, flatC w ps (l1 ++ l2) (v1 ++ v2) = some f
 | [], [], l2, v2, f1, f2, _, h2 => ⟨f2, h2⟩
 | .int k :: l1, v :: v1, l2, v2, f1, f2, h1, h2 => by
  unfold flatC at h1
  split at h1
  ·rename_i k' n is bs hv
   split at h1
   ·rename_i hc
    obtain ⟨f, hf⟩ := flatC_append hv h2
    refine ⟨(n :: f.1, f.2), ?_⟩
    simp only [List.cons_append, flatC, hf]
    rw [if_pos hc]
   ·cases h1
  ·cases h1
 | .bool :: l1, v :: v1, l2, v2, f1, f2, h1, h2 => by
  unfold flatC at h1
  split at h1
  ·rename_i b is bs hv
   obtain ⟨f, hf⟩ := flatC_append hv h2
   exact ⟨(f.1, b :: f.2), by simp only [List.cons_append, flatC, hf]⟩
  ·cases h1
 | .pt k o :: l1, v :: v1, l2, v2, f1, f2, h1, h2 => by
  unfold flatC at h1
  split at h1
  ·rename_i a r is bs hr hv
   split at h1
   ·rename_i hc
    obtain ⟨f, hf⟩ := flatC_append hv h2
    refine ⟨(f.1, f.2), ?_⟩
    simp only [List.cons_append, flatC, hf, hr]
    rw [if_pos hc]
   ·cases h1
  ·cases h1
 | .str :: l1, v :: v1, l2, v2, f1, f2, h1, h2 => by
  unfold flatC at h1
  split at h1
  ·rename_i s is bs hv
   split at h1
   ·rename_i hc
    obtain ⟨f, hf⟩ := flatC_append hv h2
    refine ⟨(encS s :: f.1, f.2), ?_⟩
    simp only [List.cons_append, flatC, hf]
    rw [if_pos hc]
   ·cases h1
  ·cases h1
 | .sl ks :: l1, v :: v1, l2, v2, f1, f2, h1, h2 => by
  unfold flatC at h1
  split at h1
  ·rename_i q n r is bs hs hv
   obtain ⟨f, hf⟩ := flatC_append hv h2
   exact ⟨(enc q :: n :: f.1, f.2), by simp only [List.cons_append, flatC, hf, hs]⟩
  ·cases h1
 | .sl _ :: _, [], _, _, _, _, h1, _ => by simp [flatC] at h1
 | .str :: _, [], _, _, _, _, h1, _ => by simp [flatC] at h1
 | [], _ :: _, _, _, _, _, h1, _ => by simp [flatC] at h1
 | .int _ :: _, [], _, _, _, _, h1, _ => by simp [flatC] at h1
 | .bool :: _, [], _, _, _, _, h1, _ => by simp [flatC] at h1
 | .pt _ _ :: _, [], _, _, _, _, h1, _ => by simp [flatC] at h1

section
variable {H : Type} {enc : TypeId × Value -> H} {P : Program} {w : World} {base : Nat} {spare : Nat -> Bool} {held : Bool}
theorem ckFields_flat {g : TypeId -> Option (List CK)} {n : Nat} (hg : ∀ (t : TypeId) (l : List CK) (cs : List Value) (x : DataW H × List MemPlace), g t = some l -> DataW.trod enc P w base spare held n t cs = some x -> ∃ f, flatC w [] l cs = some f) {cs : List Value} : ∀ {fs : List Field} {off : Nat} {l : List CK},
  ckFields P g fs off = some l -> (∀ f, f ∈ fs -> ∃ x, DataW.trod enc P w base spare held n f.type ((cs.drop f.offset).take (P.cellsOf f.type)) = some x) -> ∃ f, flatC w [] l ((cs.drop off).take l.length) = some f
 | [], off, l, h, _ => by
  simp only [ckFields, Option.some.injEq] at h
  subst h
  exact ⟨_, rfl⟩
 | f :: fs, off, l, h, hx => by
  unfold ckFields at h
  split at h
  ·rename_i ho
   simp only [beq_iff_eq] at ho
   split at h
   ·rename_i l1 hl1
    split at h
    ·rename_i hlen
     simp only [beq_iff_eq] at hlen
     split at h
     ·rename_i r hr
      simp only [Option.some.injEq] at h
      subst h
      obtain ⟨x, hx1⟩ := hx f (by simp)
      obtain ⟨f1, hf1⟩ := hg _ _ _ _ hl1 hx1
      obtain ⟨f2, hf2⟩ := ckFields_flat hg hr (fun g hm => hx g (by simp [hm]))
      obtain ⟨f3, hf3⟩ := flatC_append hf1 hf2
      refine ⟨f3, ?_⟩
      rw [List.length_append, List.take_add, List.drop_drop, <- ho, hlen]
      rw [<- ho, hlen] at hf3
      exact hf3
     ·cases h
    ·cases h
   ·cases h
  ·cases h
theorem repCK_flat {l : List CK} {cs : List Value} : ∀ {m off : Nat}, (∀ i, i < m -> ∃ f, flatC w [] l ((cs.drop (off + i * l.length)).take l.length) = some f) -> ∃ f, flatC w [] (repCK l m) ((cs.drop off).take (m * l.length)) = some f
 | 0, off, _ => ⟨_, by simp [repCK]; rfl⟩
 | m + 1, off, h => by
  obtain ⟨f1, hf1⟩ := h 0 (by omega)
  obtain ⟨f2, hf2⟩ := repCK_flat (l := l) (cs := cs) (m := m) (off := off + l.length) (fun i hi => by
   have := h (i + 1) (by omega)
   rwa [show off + (i + 1) * l.length = off + l.length + i * l.length by rw [Nat.add_mul]; omega] at this)
  simp only [Nat.zero_mul, Nat.add_zero] at hf1
  obtain ⟨f3, hf3⟩ := flatC_append hf1 hf2
  refine ⟨f3, ?_⟩
  rw [show (m + 1) * l.length = l.length + m * l.length by rw [Nat.add_mul]; omega, List.take_add, List.drop_drop]
  exact hf3
theorem flatC_dec : ∀ {l : List CK} {vs : List Value} {f : Fl}, flatC w [] l vs = some f -> l.all ckPlain = true -> vs.length = l.length /\ ∀ (k : Nat) (ck : CK), l[k]? = some ck -> ∃ v n, vs[k]? = some v /\ decV ck v = some n
 | [], [], f, h, _ => ⟨rfl, fun k ck hk => by simp at hk⟩
 | .int kd :: l, v :: vs, f, h, hp => by
  unfold flatC at h
  split at h
  ·rename_i k' n is bs hf
   split at h
   ·rename_i hc
    obtain ⟨h1, h2⟩ := flatC_dec hf (by simpa [ckPlain] using hp)
    refine ⟨by simp [h1], fun k ck hk => ?_⟩
    cases k with
    | zero => simp at hk; subst hk; exact ⟨_, n, by simp; rfl, by simp only [decV]; rw [if_pos hc]⟩
    | succ k => simp at hk; simpa using h2 k ck hk
   ·cases h
  ·cases h
 | .bool :: l, v :: vs, f, h, hp => by
  unfold flatC at h
  split at h
  ·rename_i b is bs hf
   obtain ⟨h1, h2⟩ := flatC_dec hf (by simpa [ckPlain] using hp)
   refine ⟨by simp [h1], fun k ck hk => ?_⟩
   cases k with
   | zero => simp at hk; subst hk; exact ⟨_, _, by simp; rfl, rfl⟩
   | succ k => simp at hk; simpa using h2 k ck hk
  ·cases h
 | .pt k o :: l, v :: vs, f, h, hp => by
  unfold flatC at h
  split at h
  ·rename_i a r is bs hr hf
   simp at hr
  ·cases h
 | .str :: l, v :: vs, f, h, hp => by
  unfold flatC at h
  split at h
  ·rename_i s is bs hf
   split at h
   ·rename_i hc
    obtain ⟨h1, h2⟩ := flatC_dec hf (by simpa [ckPlain] using hp)
    refine ⟨by simp [h1], fun k ck hk => ?_⟩
    cases k with
    | zero => simp at hk; subst hk; exact ⟨_, encS s, by simp; rfl, by simp only [decV]; rw [if_pos hc]⟩
    | succ k => simp at hk; simpa using h2 k ck hk
   ·cases h
  ·cases h
 | .sl _ :: _, _, f, h, hp => by simp [ckPlain] at hp
 | .str :: _, [], f, h, _ => by simp [flatC] at h
 | [], _ :: _, f, h, _ => by simp [flatC] at h
 | .int _ :: _, [], f, h, _ => by simp [flatC] at h
 | .bool :: _, [], f, h, _ => by simp [flatC] at h
 | .pt _ _ :: _, [], f, h, _ => by simp [flatC] at h
theorem read_dec {ks : List CK} {b : Nat} {w : World} : ∀ {n o j : Nat}, (∀ i, i < n -> ∃ ck v m, ks[(j + i) % ks.length]? = some ck /\ w.cell? ⟨b, o + i, none⟩ = some v /\ decV ck v = some m) -> ∃ us l, readCells w b o n = some us /\ decVs ks j us = some l
 | 0, o, j, _ => ⟨[], [], rfl, rfl⟩
 | n + 1, o, j, h => by
  obtain ⟨ck, v, m, h1, h2, h3⟩ := h 0 (by omega)
  rw [Nat.add_zero] at h1 h2
  obtain ⟨us, l, g1, g2⟩ := read_dec (ks := ks) (b := b) (w := w) (n := n) (o := o + 1) (j := j + 1) fun i hi => by
   obtain ⟨ck, v, m, h1, h2, h3⟩ := h (i + 1) (by omega)
   exact ⟨ck, v, m, by rw [show j + 1 + i = j + (i + 1) by omega]; exact h1, by rw [show o + 1 + i = o + (i + 1) by omega]; exact h2, h3⟩
  exact ⟨v :: us, m :: l, by simp only [readCells, h2, g1], by simp only [decVs, h1, g2, h3, Option.map_some]⟩
theorem cells?_get {w : World} {base : Nat} {a : Addr} {n : Nat} {cs : List Value} (h : w.cells? base a n = some cs) : ∀ k, k < n -> ∃ v, cs[k]? = some v /\ w.cell? (a.add k) = some v := by
 unfold World.cells? at h
 split at h
 ·intro k hk
  have := mapM_some_get h k k (by simp [hk])
  have hl := mapM_some_length h
  simp at hl
  have hkl : k < cs.length := by omega
  exact ⟨cs[k], List.getElem?_eq_getElem hkl, by rw [this]; exact List.getElem?_eq_getElem hkl⟩
 ·cases h
theorem flatSl_trod {fuel : Nat} {t e : TypeId} {ks : List CK} {v : Value} {x : DataW H × List MemPlace} (ht : P.underlying t = some (.slice e)) (hk : ∀ (n : Nat) (cs : List Value) (x : DataW H × List MemPlace), DataW.trod enc P w base spare held n e cs = some x -> ∃ f, flatC w [] ks cs = some f) (hpl : ks.all ckPlain = true) (hlen : ks.length = P.cellsOf e) (hne : ks ≠ [])
  (h : DataW.trod enc P w base spare held fuel t [v] = some x) : ∃ l n r, flatSl w ks v = some (l, n, r) := by
 rcases DataW.trod_slice ht h with ⟨h1, _⟩ | ⟨a, len, cap, elems, rest, n, rfl, h1, _, _, hl, hc, hlc, hel, _⟩
 ·simp only [List.cons.injEq, and_true] at h1
  subst h1
  exact ⟨[], 0, none, flatSl_0⟩
 ·simp only [List.cons.injEq, and_true] at h1
  subst h1
  have hpos : 0 < ks.length := List.length_pos_iff.2 hne
  by_cases h0 : len = 0
  ·subst h0
   exact ⟨[], 0, none, flatSl_0⟩
  ·-- an element's cells
   have cell : ∀ i, i < len -> ∀ k, k < ks.length -> ∃ ck v m, ks[k]? = some ck /\ w.cell? ((a.add (i * P.cellsOf e)).add k) = some v /\ decV ck v = some m := by
    intro i hi k hkl
    have h2 := hel i hi
    cases hcs : w.cells? base (a.add (i * P.cellsOf e)) (P.cellsOf e) with
    | none =>
     rw [hcs] at h2
     simp only [Option.bind_none] at h2
     have : elems[i]? = none := h2.symm
     rw [List.getElem?_eq_none_iff] at this
     omega
    | some cs =>
     rw [hcs] at h2
     simp only [Option.bind_some] at h2
     have hi' : i < elems.length := by omega
     rw [List.getElem?_eq_getElem hi'] at h2
     obtain ⟨f, hf⟩ := hk _ _ _ h2
     obtain ⟨g1, g2⟩ := flatC_dec hf hpl
     obtain ⟨v, m, g3, g4⟩ := g2 k _ (List.getElem?_eq_getElem hkl)
     obtain ⟨v', g5, g6⟩ := cells?_get hcs k (by omega)
     rw [g3] at g5
     cases g5
     exact ⟨_, v, m, List.getElem?_eq_getElem hkl, g6, g4⟩
   have hspot : a.spot = none := by
    obtain ⟨ck, v, m, _, hv, _⟩ := cell 0 (by omega) 0 hpos
    simp only [Nat.zero_mul, Addr.add, if_true] at hv
    unfold World.cell? at hv
    split at hv
    ·split at hv
     ·cases hv
     ·rename_i hs; simpa using hs
    ·cases hv
   obtain ⟨b, o, sp⟩ := a
   simp only at hspot
   subst hspot
   obtain ⟨us, l, g1, g2⟩ := read_dec (ks := ks) (b := b) (w := w) (n := len * ks.length) (o := o) (j := 0) fun i hi => by
    have hdiv : i / ks.length < len := (Nat.div_lt_iff_lt_mul hpos).2 hi
    have hmod : i % ks.length < ks.length := Nat.mod_lt _ hpos
    obtain ⟨ck, v, m, k1, k2, k3⟩ := cell (i / ks.length) hdiv (i % ks.length) hmod
    refine ⟨ck, v, m, by rw [Nat.zero_add]; exact k1, ?_, k3⟩
    rw [add_lit, add_lit, <- hlen] at k2
    have := Nat.div_add_mod i ks.length
    rw [Nat.mul_comm] at this
    rwa [Nat.add_assoc, this] at k2
   have hin : inR .i64 (len : Int) = true := by
    refine inR_mk ⟨?_, ?_⟩
    ·show -9223372036854775808 <= (len : Int); omega
    ·show (len : Int) <= 9223372036854775807
     unfold maxLen at hc
     omega
   refine ⟨l, len, some { blk := b, off := o, len := len * ks.length, ro := true, sq := some (ks, l) }, ?_⟩
   unfold flatSl
   have : (len == 0) = false := by simpa using h0
   have hblt : Nat.blt cap len = false := by
    cases h : Nat.blt cap len
    ·rfl
    ·rw [Nat.blt_eq] at h; omega
   simp only [hblt, this, Bool.false_eq_true, if_false, hin, if_true, g1, Option.bind_some, g2]

theorem ckOf_flat : ∀ (m : Nat) (n : Nat) (t : TypeId) (l : List CK) (cs : List Value) (x : DataW H × List MemPlace), ckOf P m t = some l -> DataW.trod enc P w base spare held n t cs = some x -> ∃ f, flatC w [] l cs = some f
 | 0, n, t, l, cs, x, h, _ => by simp [ckOf] at h
 | m + 1, n, t, l, cs, x, h, hx => by
  unfold ckOf at h
  split at h
  ·rename_i ht
   simp only [Option.some.injEq] at h
   subst h
   obtain ⟨b, rfl, _⟩ := DataW.trod_bool ht hx
   exact ⟨_, rfl⟩
  ·rename_i k ht
   simp only [Option.some.injEq] at h
   subst h
   obtain ⟨v, rfl, _, hwf⟩ := DataW.trod_int ht hx
   refine ⟨([v], []), ?_⟩
   have : inR k v = true := by simpa [Lit.wf, inR] using hwf
   simp [flatC, this]
  ·rename_i ht
   simp only [Option.some.injEq] at h
   subst h
   obtain ⟨s, rfl, _, hs⟩ := DataW.trod_string ht hx
   have : inR .i64 (s.size : Int) = true := by
    refine inR_mk ⟨?_, ?_⟩
    ·show -9223372036854775808 <= (s.size : Int); omega
    ·show (s.size : Int) <= 9223372036854775807
     unfold maxLen at hs
     omega
   exact ⟨([encS s], []), by simp [flatC, this]⟩
  ·rename_i e ht
   split at h
   ·rename_i ks hks
    split at h
    ·rename_i hc
     simp only [Bool.and_eq_true, beq_iff_eq, Bool.not_eq_true', List.isEmpty_eq_false_iff] at hc
     simp only [Option.some.injEq] at h
     subst h
     have hcs : ∃ v, cs = [v] := by
      rcases DataW.trod_slice ht hx with ⟨h1, _⟩ | ⟨_, _, _, _, _, _, _, h1, _⟩ <;> exact ⟨_, h1⟩
     obtain ⟨v, rfl⟩ := hcs
     obtain ⟨l, m, q, hq⟩ := flatSl_trod ht (fun n' cs x hx => ckOf_flat m n' e ks cs x hks hx) hc.2 hc.1.1 hc.1.2 hx
     exact ⟨(Sx.enc l :: m :: [], []), by simp [flatC, hq]⟩
    ·cases h
   ·cases h
  ·rename_i fs ht
   split at h
   ·rename_i l' hl
    split at h
    ·rename_i hlen
     simp only [beq_iff_eq] at hlen
     simp only [Option.some.injEq] at h
     subst h
     obtain ⟨xs, n', rfl, _, hcs, hxl, hf⟩ := DataW.trod_struct ht hx
     have := ckFields_flat (cs := cs) (fun t l cs x h1 h2 => ckOf_flat m n' t l cs x h1 h2) hl (fun f hm => by
      obtain ⟨i, hi⟩ := List.getElem?_of_mem hm
      have hi' : fs[i]? = some f := by simpa using hi
      have := hf i f hi'
      have hlt : i < xs.length := by rw [hxl]; exact (Array.getElem?_eq_some_iff.1 hi').1
      exact ⟨xs[i], by rw [this]; exact List.getElem?_eq_getElem hlt⟩)
     simpa [hlen, <- hcs] using this
    ·cases h
   ·cases h
  ·rename_i k e ht
   split at h
   ·rename_i l' hl
    split at h
    ·rename_i hc
     simp only [Bool.and_eq_true, beq_iff_eq] at hc
     simp only [Option.some.injEq] at h
     subst h
     obtain ⟨xs, n', rfl, _, hcs, hxl, hf⟩ := DataW.trod_array ht hx
     have := repCK_flat (l := l') (cs := cs) (m := k) (off := 0) (fun i hi => by
      have h1 := hf i hi
      have hlt : i < xs.length := by omega
      rw [List.getElem?_eq_getElem hlt] at h1
      rw [Nat.zero_add, hc.1]
      exact ckOf_flat m n' e l' _ _ hl h1)
     rw [hc.2, <- hcs] at this
     simpa using this
    ·cases h
   ·cases h
  ·cases h

theorem shOf_flat {r : Reach} {b0 : Nat} {t : TypeId} {s : Sh} {v : Value} {d : DataW H} {p : List MemPlace} (h : shOf P t = some s) (hv : Value.okWide P w r b0 t v) (hd : DataW.Trod enc P w base spare held t v d p) : ∃ agg l f, s = .val agg l /\ flat1 w [] agg l v = some f := by
 obtain ⟨n, hn⟩ := hd
 unfold shOf at h
 split at h
 ·rename_i ht
  simp only [Option.some.injEq] at h
  subst h
  obtain ⟨b, rfl⟩ := okWide_bool ht hv
  exact ⟨_, _, _, rfl, rfl⟩
 ·rename_i k ht
  simp only [Option.some.injEq] at h
  subst h
  obtain ⟨m, rfl⟩ := okWide_int ht hv
  obtain ⟨m', hm, _, hwf⟩ := DataW.trod_int ht hn
  have e : m = m' := by simpa [Value.cells] using hm
  subst e
  have : inR k m = true := by simpa [Lit.wf, inR] using hwf
  exact ⟨_, _, ([m], []), rfl, by simp [flat1, flatC, this]⟩
 ·rename_i fs ht
  cases hc : ckOf P 8 t with
  | none => rw [hc] at h; cases h
  | some l =>
   rw [hc] at h
   simp only [Option.map_some, Option.some.injEq] at h
   subst h
   obtain ⟨cs, rfl, _⟩ := okWide_struct ht hv
   obtain ⟨f, hf⟩ := ckOf_flat 8 _ _ _ _ _ hc hn
   exact ⟨_, _, f, rfl, hf⟩
 ·rename_i k e ht
  cases hc : ckOf P 8 t with
  | none => rw [hc] at h; cases h
  | some l =>
   rw [hc] at h
   simp only [Option.map_some, Option.some.injEq] at h
   subst h
   obtain ⟨f, hf⟩ := ckOf_flat 8 _ _ _ _ _ hc hn
   obtain ⟨_, _, _, _, hcs, _⟩ := DataW.trod_array ht hn
   have hagg : ∃ cs, v = .agg cs := by
    simp only [Value.okWide, ht] at hv
    obtain ⟨cs, h1, _⟩ := hv
    exact ⟨cs, h1⟩
   obtain ⟨cs, rfl⟩ := hagg
   exact ⟨_, _, f, rfl, hf⟩
 ·rename_i ht
  simp only [Option.some.injEq] at h
  subst h
  obtain ⟨s, hs, _, hm⟩ := DataW.trod_string ht hn
  have hv' : ∃ s, v = .string s := by
   cases v <;> simp_all [Value.okWide, Value.cells, Cell.okWide, Cell.ok]
  obtain ⟨s', rfl⟩ := hv'
  have e : s' = s := by simpa [Value.cells] using hs
  subst e
  have : inR .i64 (s'.size : Int) = true := by
   refine inR_mk ⟨?_, ?_⟩
   ·show -9223372036854775808 <= (s'.size : Int); omega
   ·show (s'.size : Int) <= 9223372036854775807
    unfold maxLen at hm
    omega
  exact ⟨_, _, ([encS s'], []), rfl, by simp [flat1, flatC, this]⟩
 ·rename_i e ht
  cases hc : ckOf P 8 t with
  | none => rw [hc] at h; cases h
  | some l =>
   rw [hc] at h
   simp only [Option.map_some, Option.some.injEq] at h
   subst h
   obtain ⟨a, len, cap, rfl⟩ := okWide_slice ht hv
   obtain ⟨f, hf⟩ := ckOf_flat 8 _ _ _ _ _ hc hn
   refine ⟨_, _, f, rfl, ?_⟩
   have hl : ∃ ck, l = [ck] := by
    unfold ckOf at hc
    simp only [ht] at hc
    split at hc
    ·split at hc
     ·simp only [Option.some.injEq] at hc; exact ⟨_, hc.symm⟩
     ·cases hc
    ·cases hc
   obtain ⟨ck, rfl⟩ := hl
   simpa [flat1, Value.cells] using hf
 ·cases h

theorem flat_of_trod {r : Reach} {b0 : Nat} : ∀ {ts : List TypeId} {ss : List Sh} {vs : List Value} {ds : List (DataW H)} {p : List MemPlace}, shsOf P ts = some ss -> (∀ (j : Nat) t v, ts[j]? = some t -> vs[j]? = some v -> Value.okWide P w r b0 t v) ->
  DataW.TrodAll enc P w base spare held ts vs ds p -> ∃ is bs, flatArgs ss vs w = some (is, bs, []) /\ ptrShapes ss = []
 | [], ss, vs, ds, p, h, _, hA => by
  simp only [shsOf, Option.some.injEq] at h
  subst h
  obtain ⟨rfl, _, _⟩ := trodAll_nil hA
  exact ⟨[], [], rfl, rfl⟩
 | t :: ts, ss, vs, ds, p, h, hv, hA => by
  unfold shsOf at h
  split at h
  ·rename_i s ss' hs hss
   simp only [Option.some.injEq] at h
   subst h
   obtain ⟨v, vs', d, ds', p', q, rfl, rfl, rfl, h1, h2⟩ := trodAll_cons hA
   obtain ⟨is, bs, hr, hp⟩ := flat_of_trod hss (fun j t v hj hvj => hv (j + 1) t v (by simpa using hj) (by simpa using hvj)) h2
   obtain ⟨agg, l, f, rfl, hf⟩ := shOf_flat hs (hv 0 t v (by simp) (by simp)) h1
   refine ⟨f.1 ++ is, f.2 ++ bs, ?_, hp⟩
   simp only [flatArgs, hf, hr]
  ·cases h

theorem trodAll_len : ∀ {ts : List TypeId} {vs : List Value} {ds : List (DataW H)} {p : List MemPlace}, DataW.TrodAll enc P w base spare held ts vs ds p -> vs.length = ts.length /\ ds.length = ts.length
 | [], vs, ds, p, h => by obtain ⟨rfl, rfl, _⟩ := trodAll_nil h; exact ⟨rfl, rfl⟩
 | t :: ts, vs, ds, p, h => by
  obtain ⟨v, vs', d, ds', p', q, rfl, rfl, rfl, _, h2⟩ := trodAll_cons h
  have := trodAll_len h2
  simp [this.1, this.2]
theorem trodAll_stays (hl : laidOutB P = true) {W W' : World} {sp' : Nat -> Bool} : ∀ {ts : List TypeId} {vs : List Value} {ds : List (DataW H)} {ps : List MemPlace}, (∀ t, t ∈ ts -> P.readableRec t = true /\ t < P.types.size) ->
  DataW.TrodAll enc P W base (fun _ => true) true ts vs ds ps -> (∀ p ∈ ps, W.sameAt W' p) -> (∀ p ∈ ps, sp' p.block = true) -> DataW.TrodAll enc P W' base sp' true ts vs ds ps
 | [], vs, ds, ps, _, h, _, _ => by obtain ⟨rfl, rfl, rfl⟩ := trodAll_nil h; exact trodAll_mk0
 | t :: ts, vs, ds, ps, hr, h, hs, hp => by
  obtain ⟨v, vs', d, ds', p', q, rfl, rfl, rfl, h1, h2⟩ := trodAll_cons h
  obtain ⟨hr1, hr2⟩ := hr t (by simp)
  exact trodAll_cons_mk (WideElems.Trod_stays hl hr1 hr2 h1 (fun p hm => hs p (by simp [hm])) (fun p hm => hp p (by simp [hm])))
   (trodAll_stays hl (fun t hm => hr t (by simp [hm])) h2 (fun p hm => hs p (by simp [hm])) (fun p hm => hp p (by simp [hm])))
end

def inCK : CK -> Int -> Prop
 | .int k, m => InR k m
 | .bool, m => m = 0 \/ m = 1
 | .pt _ _, _ => False
 | .str, m => ∃ s : ByteArray, m = encS s /\ InR .i64 s.size
 | .sl _, _ => False
def slRng (ks : List CK) (q n : Int) : Prop := 0 <= n /\ n <= 9223372036854775807 /\ ∃ l, q = enc l /\ l.length = n.toNat * ks.length /\ ∀ (j : Nat) (m : Int), l[j]? = some m -> ∃ ck, ks[j % ks.length]? = some ck /\ inCK ck m
def rngC : List CK -> List Int -> Prop
 | [], [] => True
 | .int k :: l, n :: is => (k.min <= n /\ n <= k.max) /\ rngC l is
 | .bool :: l, is => rngC l is
 | .pt _ _ :: l, is => rngC l is
 | .str :: l, n :: is => (∃ s : ByteArray, n = encS s /\ InR .i64 s.size) /\ rngC l is
 | .sl ks :: l, q :: n :: is => slRng ks q n /\ rngC l is
 | _, _ => False
def rngK : List CK -> (List Int -> Prop) -> List Int -> Prop
 | [], k, is => k is
 | .int kd :: l, k, n :: is => (kd.min <= n /\ n <= kd.max) /\ rngK l k is
 | .int _ :: _, _, [] => False
 | .bool :: l, k, is => rngK l k is
 | .pt _ _ :: l, k, is => rngK l k is
 | .str :: l, k, n :: is => (∃ s : ByteArray, n = encS s /\ InR .i64 s.size) /\ rngK l k is
 | .str :: _, _, [] => False
 | .sl ks :: l, k, q :: n :: is => slRng ks q n /\ rngK l k is
 | .sl _ :: _, _, [] => False
 | .sl _ :: _, _, [_] => False
def rngA : List Sh -> List Int -> Prop
 | [], is => is = []
 | .val _ l :: ss, is => rngK l (rngA ss) is
 | .ptr l :: ss, is => rngK l (rngA ss) is
theorem rngK_of {k : List Int -> Prop} : ∀ {l : List CK} {i1 i2 : List Int}, rngC l i1 -> k i2 -> rngK l k (i1 ++ i2)
 | [], [], i2, _, h => h
 | .int kd :: l, n :: i1, i2, h1, h2 => ⟨h1.1, rngK_of h1.2 h2⟩
 | .bool :: l, i1, i2, h1, h2 => rngK_of (l := l) (by cases i1 <;> exact h1) h2
 | .pt _ _ :: l, i1, i2, h1, h2 => rngK_of (l := l) (by cases i1 <;> exact h1) h2
 | .str :: l, n :: i1, i2, h1, h2 => ⟨h1.1, rngK_of h1.2 h2⟩
 | .sl ks :: l, q :: n :: i1, i2, h1, h2 => ⟨h1.1, rngK_of h1.2 h2⟩
 | .sl _ :: _, [], _, h, _ => h.elim
 | .sl _ :: _, [_], _, h, _ => h.elim
 | .str :: _, [], _, h, _ => h.elim
 | [], _ :: _, _, h, _ => h.elim
 | .int _ :: _, [], _, h, _ => h.elim
theorem flatSl_rng {w : World} {ks : List CK} {v : Value} {l : List Int} {n : Int} {r : Option Rg} (h : flatSl w ks v = some (l, n, r)) : slRng ks (enc l) n := by
 unfold flatSl at h
 split at h
 ·rename_i p len cap
  split at h
  ·cases h
  split at h
  ·simp only [Option.some.injEq, Prod.mk.injEq] at h
   obtain ⟨rfl, rfl, rfl⟩ := h
   exact ⟨by omega, by omega, [], rfl, by simp, fun j m hj => by simp at hj⟩
  ·split at h
   ·rename_i b o
    split at h
    ·rename_i hin
     split at h
     ·rename_i l' hl
      simp only [Option.some.injEq, Prod.mk.injEq] at h
      obtain ⟨rfl, rfl, rfl⟩ := h
      cases hrd : readCells w b o (len * ks.length) with
      | none => rw [hrd] at hl; simp at hl
      | some us =>
       rw [hrd] at hl
       simp only [Option.bind_some] at hl
       obtain ⟨g1, g2⟩ := readCells_get hrd
       obtain ⟨g3, g4⟩ := seq_of_read (b := b) (o := o) (w := w) hl g2
       refine ⟨by omega, (inR_spec hin).2, l', rfl, by rw [Int.toNat_natCast]; omega, fun j m hj => ?_⟩
       obtain ⟨ck, v, k1, k2, k3⟩ := g4 j m hj
       refine ⟨ck, by simpa using k1, ?_⟩
       cases ck with
       | int k => exact k3.2
       | bool => exact k3.1
       | str => obtain ⟨s, _, k4, k5⟩ := k3; exact ⟨s, k4, k5⟩
       | pt _ _ => exact k3
       | sl _ => exact k3
     ·cases h
    ·cases h
   ·cases h
 ·cases h
theorem flatC_rng {w : World} {ps : List Rg} : ∀ {l : List CK} {vs : List Value} {f : Fl}, flatC w ps l vs = some f -> rngC l f.1
 | [], [], f, h => by simp only [flatC, Option.some.injEq] at h; subst h; trivial
 | .int k :: l, v :: vs, f, h => by
  unfold flatC at h
  split at h
  ·rename_i k' n is bs hv
   split at h
   ·rename_i hc
    simp only [Option.some.injEq] at h
    subst h
    simp only [Bool.and_eq_true, beq_iff_eq] at hc
    have h2 := hc.2
    simp only [inR, Bool.and_eq_true, decide_eq_true_eq] at h2
    exact ⟨h2, flatC_rng hv⟩
   ·cases h
  ·cases h
 | .bool :: l, v :: vs, f, h => by
  unfold flatC at h
  split at h
  ·rename_i b is bs hv
   simp only [Option.some.injEq] at h
   subst h
   have := flatC_rng hv
   cases is <;> exact this
  ·cases h
 | .pt k o :: l, v :: vs, f, h => by
  unfold flatC at h
  split at h
  ·rename_i a r is bs hr hv
   split at h
   ·simp only [Option.some.injEq] at h
    subst h
    have := flatC_rng hv
    cases is <;> exact this
   ·cases h
  ·cases h
 | .str :: l, v :: vs, f, h => by
  unfold flatC at h
  split at h
  ·rename_i s is bs hv
   split at h
   ·rename_i hc
    simp only [Option.some.injEq] at h
    subst h
    exact ⟨⟨s, rfl, inR_spec hc⟩, flatC_rng hv⟩
   ·cases h
  ·cases h
 | .sl ks :: l, v :: vs, f, h => by
  unfold flatC at h
  split at h
  ·rename_i q n r is bs hs hv
   simp only [Option.some.injEq] at h
   subst h
   exact ⟨flatSl_rng hs, flatC_rng hv⟩
  ·cases h
 | .sl _ :: _, [], _, h => by simp [flatC] at h
 | .str :: _, [], _, h => by simp [flatC] at h
 | [], _ :: _, _, h => by simp [flatC] at h
 | .int _ :: _, [], _, h => by simp [flatC] at h
 | .bool :: _, [], _, h => by simp [flatC] at h
 | .pt _ _ :: _, [], _, h => by simp [flatC] at h
theorem flatArgs_rng {w : World} : ∀ {ss : List Sh} {vs : List Value} {is : List Int} {bs : List Bool} {ps : List Rg}, flatArgs ss vs w = some (is, bs, ps) -> rngA ss is
 | [], [], is, bs, ps, h => by
  simp only [flatArgs, Option.some.injEq, Prod.mk.injEq] at h
  exact h.1.symm
 | .val agg l :: ss, v :: vs, is, bs, ps, h => by
  unfold flatArgs at h
  split at h
  ·rename_i i b is' bs' ps' h1 h2
   simp only [Option.some.injEq, Prod.mk.injEq] at h
   obtain ⟨rfl, _⟩ := h
   obtain ⟨us, hf, _⟩ := flat1_inv h1
   exact rngK_of (flatC_rng hf) (flatArgs_rng h2)
  ·cases h
 | .ptr l :: ss, v :: vs, is, bs, ps, h => by
  unfold flatArgs at h
  split at h
  ·rename_i b o is' bs' ps' h2
   split at h
   ·rename_i i bb h1
    simp only [Option.some.injEq, Prod.mk.injEq] at h
    obtain ⟨rfl, _⟩ := h
    cases hr : readCells w b o l.length with
    | none => rw [hr] at h1; simp at h1
    | some us =>
     rw [hr] at h1
     simp only [Option.bind_some] at h1
     exact rngK_of (flatC_rng h1) (flatArgs_rng h2)
   ·cases h
  ·cases h
 | [], _ :: _, _, _, _, h => by simp [flatArgs] at h
 | .val _ _ :: _, [], _, _, _, h => by simp [flatArgs] at h
 | .ptr _ :: _, [], _, _, _, h => by simp [flatArgs] at h
theorem len_cons {α : Type} {l : List α} {n : Nat} (h : l.length = n + 1) : ∃ a t, l = a :: t /\ t.length = n := by
 cases l with
 | nil => simp at h
 | cons a t => exact ⟨a, t, rfl, by simpa using h⟩
theorem len_nil {α : Type} {l : List α} (h : l.length = 0) : l = [] := List.eq_nil_of_length_eq_zero h
theorem Keep.sameAt {w w' : World} (h : Keep [] w w') {p : MemPlace} (hp : p.block < w.heap.size) : w.sameAt w' p := by
 cases p with
 | cell b off => exact h.cell ⟨b, off, none⟩ hp fun r hr => by cases hr
 | map b => exact h.blk b hp fun r hr => by cases hr
theorem Keep.keptBut {w w' : World} (h : Keep [] w w') (may : MemPlace -> Prop) : w.keptBut w' may := by
 refine ⟨h.os, h.output, fun i hi => ?_⟩
 rw [h.blk i hi fun r hr => by cases hr]
 cases hw : w.heap[i]? with
 | none => trivial
 | some o =>
  cases o <;> simp

theorem trod_ints {H : Type} {enc : TypeId × Value -> H} {P : Program} {w : World} {base : Nat} {spare : Nat -> Bool} {held : Bool} {fuel : Nat} {t e : TypeId} {n : Nat} {k : IntKind} (ht : P.underlying t = some (.array n e)) (he : P.underlying e = some (.int k)) (hc : P.cellsOf e = 1) (hct : P.cellsOf t = n)
  {l : List Int} {cs : List Value} {p : List MemPlace} (h : DataW.trod enc P w base spare held fuel t cs = some (.agg (l.map fun m => .lit (.int k m)), p)) : cs = l.map (Value.int k) := by
 obtain ⟨xs, m, rfl, hx, hcs, hxl, hf⟩ := DataW.trod_array ht h
 obtain ⟨hx1, _⟩ := Prod.mk.inj hx
 simp only [DataW.agg.injEq] at hx1
 have hll : l.length = n := by
  have := congrArg List.length hx1
  simpa [hxl] using this
 apply List.ext_getElem?
 intro i
 by_cases hi : i < n
 ·have h1 := hf i hi
  have hix : i < xs.length := by omega
  rw [List.getElem?_eq_getElem hix, hc, Nat.mul_one] at h1
  obtain ⟨v, hv, hxv, _⟩ := DataW.trod_int he h1
  have hil : i < l.length := by omega
  have e1 : (l.map fun m => (DataW.lit (.int k m) : DataW H))[i]? = (xs.map (·.1))[i]? := by rw [hx1]
  rw [List.getElem?_map, List.getElem?_map, List.getElem?_eq_getElem hix, List.getElem?_eq_getElem hil] at e1
  simp only [Option.map_some, Option.some.injEq, hxv, DataW.lit.injEq, Lit.int.injEq, true_and] at e1
  have hic : i < cs.length := by omega
  have e2 : cs[i]? = some (.int k v) := by
   have := congrArg (·[0]?) hv
   simpa [List.getElem?_take, List.getElem?_drop] using this
  rw [e2, List.getElem?_map, List.getElem?_eq_getElem hil, e1]
  rfl
 ·rw [List.getElem?_eq_none (by omega), List.getElem?_eq_none (by simp; omega)]

theorem law_post {P : Program} {fn : Func} {s : ChangeSpec} {H : Type} {enc : TypeId × Value -> H} {W W' : World} {args : Array Value} {ds gs : List (DataW H)} {before p : List MemPlace} (hl : laidOutB P = true) (hpar : ∀ t, t ∈ fn.params.toList -> P.readableRec t = true /\ t < P.types.size)
  {tb : TypeId} (hres : fn.resultTypes = #[tb]) (hb : P.underlying tb = some .bool) (hvars : s.vars = []) (hW : DataW.Whole enc P fn.params.toList s.vars false W args.toList ds gs before) (hA : DataW.TrodAll enc P W 0 (fun _ => true) true fn.params.toList args.toList ds p) (hbe : before = p) (hgs : gs = [])
  (hfn : s.fn H (ds ++ []) = { results := [.lit (.bool true)], args := ds }) (hk : Keep [] W W') : s.post enc P fn false true false false W args (.bool true) W' := by
 subst hbe hgs
 have hlt : ∀ x ∈ before, x.block < W.heap.size := fun x hx => hW.lt x hx
 have hsame : ∀ x ∈ before, W.sameAt W' x := fun x hx => hk.sameAt (hlt x hx)
 refine ⟨ds, [], before, [], before, [], hW, ?_, ?_, ?_, ?_, fun h => by cases h⟩
 ·rw [hfn, hres]
  exact trodAll_mk1 (shut_bool hb true)
 ·rw [hfn]
  exact trodAll_stays hl hpar hA hsame (fun x hx => by simpa using hlt x hx)
 ·rw [hvars, hfn]
  rfl
 ·exact hk.keptBut _
end Go.Proofs.YtfgbfdlacnihkaaDoor.Sx
namespace Go.Proofs.YtfgbfdlacnihkaaDoor.Sx
open Go

theorem Smry.run_specT {Φ : Funs} {S : Smry} {is : List Int} {bs : List Bool} (hw : wsEm S.em is.length bs.length = true) : ∃ ρ : Env, S.run Φ true is bs = (S.ri.map (A.d ρ), obAll ρ S.em :: S.rb.map (B.d ρ)) /\ headsI ρ is 0 /\ headsB ρ bs 0 /\ eqns Φ ρ S.em := by
 obtain ⟨h1, h2⟩ := evEm_spec Φ S.em is bs hw
 refine ⟨envOf (evEm Φ S.em is bs).1 (evEm Φ S.em is bs).2, rfl, headsI_of fun n hn => ?_, headsB_of fun n hn => ?_, eqns_of fun e he => ?_⟩
 ·rw [Nat.zero_add]; exact h1.1 n hn
 ·rw [Nat.zero_add]; exact h1.2 n hn
 ·have := h2 e he
  cases e <;> simp_all

def obs (ρ : Env) : List Em -> Bool
 | [] => true
 | .ob g b :: l => (!(Gd.d ρ g) || b.d ρ) && obs ρ l
 | .di _ _ :: l => obs ρ l
 | .db _ _ :: l => obs ρ l
 | .call _ _ _ _ _ _ _ :: l => obs ρ l
theorem obAll_eq {ρ : Env} : ∀ {l : List Em}, obAll ρ l = obs ρ l
 | [] => rfl
 | e :: l => by
  have ih := obAll_eq (ρ := ρ) (l := l)
  unfold obAll at ih ⊢
  cases e <;> simp [obs, ih]

theorem loop_rule {F : Fun} {nI nB : Nat} (Inv : List Int -> List Bool -> Prop) (mu : List Int -> List Bool -> Nat) (Post : Fl -> Prop)
  (step : ∀ is bs, Inv is bs -> ∃ c rb, (F is bs).2 = true :: c :: rb /\ (c = false -> Post ((F is bs).1.drop nI, rb.drop nB)) /\
   (c = true -> Inv ((F is bs).1.take nI) (rb.take nB) /\ mu ((F is bs).1.take nI) (rb.take nB) < mu is bs)) :
  ∀ is bs, Inv is bs -> ∃ o, loopF F nI nB is bs = (o.1, true :: o.2) /\ Post o := by
 have key : ∀ n is bs, mu is bs <= n -> Inv is bs -> ∃ m o, LRun F nI nB m is bs o /\ Post o := by
  intro n
  induction n with
  | zero =>
   intro is bs hn hi
   obtain ⟨c, rb, h1, h2, h3⟩ := step is bs hi
   cases c
   ·exact ⟨1, _, .stop h1, h2 rfl⟩
   ·have := (h3 rfl).2; omega
  | succ n ih =>
   intro is bs hn hi
   obtain ⟨c, rb, h1, h2, h3⟩ := step is bs hi
   cases c
   ·exact ⟨1, _, .stop h1, h2 rfl⟩
   ·obtain ⟨h4, h5⟩ := h3 rfl
    obtain ⟨m, o, h6, h7⟩ := ih _ _ (by omega) h4
    exact ⟨m + 1, o, .turn h1 h6, h7⟩
 intro is bs hi
 obtain ⟨m, o, h1, h2⟩ := key _ is bs (Nat.le_refl _) hi
 exact ⟨o, loopF_of h1, h2⟩

theorem cm_eql (x y : Int) : cmB .eql x y = (x == y) := rfl
theorem cm_neq (x y : Int) : cmB .neq x y = (x != y) := rfl
theorem cm_lss (x y : Int) : cmB .lss x y = decide (x < y) := rfl
theorem cm_leq (x y : Int) : cmB .leq x y = decide (x <= y) := rfl
theorem cm_gtr (x y : Int) : cmB .gtr x y = decide (y < x) := rfl
theorem cm_geq (x y : Int) : cmB .geq x y = decide (y <= x) := rfl
def upto (p : Nat -> Prop) : Nat -> Nat -> Prop
 | _, 0 => True
 | k, n + 1 => p k /\ upto p (k + 1) n
theorem upto_of {p : Nat -> Prop} : ∀ {n k : Nat}, (∀ j, k <= j -> j < k + n -> p j) -> upto p k n
 | 0, _, _ => trivial
 | n + 1, k, h => ⟨h k (Nat.le_refl _) (by omega), upto_of fun j h1 h2 => h j (by omega) (by omega)⟩
theorem of_upto {p : Nat -> Prop} : ∀ {n k : Nat}, upto p k n -> ∀ j, k <= j -> j < k + n -> p j
 | 0, k, _, j, h1, h2 => by omega
 | n + 1, k, h, j, h1, h2 => by
  rcases Nat.eq_or_lt_of_le h1 with e | e
  ·subst e; exact h.1
  ·exact of_upto h.2 j e (by omega)
theorem ltn {p : Nat -> Prop} (n : Nat) : (∀ j, j < n -> p j) ↔ upto p 0 n :=
 ⟨fun h => upto_of fun j _ h2 => h j (by omega), fun h j hj => of_upto h j (Nat.zero_le _) (by omega)⟩
end Go.Proofs.YtfgbfdlacnihkaaDoor.Sx
namespace Go.Proofs.YtfgbfdlacnihkaaDoor.Sx
open Go

theorem oneCell_ints {k : IntKind} {l : List Int} {j : Nat} {v : Value} (h : (l.map (Value.int k))[j]? = some v) : oneCell v = true := by
 rw [List.getElem?_map] at h
 cases hl : l[j]? with
 | none => rw [hl] at h; simp at h
 | some m => rw [hl] at h; simp only [Option.map_some, Option.some.injEq] at h; subst h; rfl

theorem out_trueP {s : Sum} {v : Value} {w' : World} (ht : s.tup = false) (hr : s.res = [(false, [.bool])]) (hp : s.pre = true) (hps : ptrShapes s.args = []) (h : OutOk s [] v w' ([], [true, true])) : v = .bool true := by
 obtain ⟨r, p, h1, h2, h3, h4⟩ := h
 unfold flatRes at h1
 rw [ht, hr] at h1
 rw [hps] at h2
 simp only [flatPs, Option.some.injEq] at h2
 subst h2
 rw [hp] at h4
 simp only [if_true, Bool.false_eq_true, if_false, List.append_nil, List.tail_cons] at h4 h1
 obtain ⟨us, hf, hu⟩ := flat1_inv h1
 simp only [Bool.false_eq_true, if_false] at hu hf
 replace hu := hu.1
 subst hu
 unfold flatC at hf
 split at hf
 ·rename_i b is bs hb
  simp only [Option.some.injEq] at hf
  subst hf
  simp only [flatC, Option.some.injEq, Prod.mk.injEq] at hb
  obtain ⟨_, rfl⟩ := hb
  have h5 : (true : Bool) = b := by simpa using h4
  rw [<- h5]
 ·cases hf
end Go.Proofs.YtfgbfdlacnihkaaDoor.Sx
namespace Go.Proofs
open Go.Shelf Go.RowKit Go.Lib
def Tryd.lays143_ren : Go.Shelf.Ren := ⟨fun | 143 => 47 | 219 => 48 | 217 => 62 | 225 => 63 | 224 => 64 | 267 => 65 | 266 => 79 | 314 => 80 | n => n, fun | 9 => 9 | 3 => 3 | 4 => 4 | 5 => 5 | 46 => 37 | 146 => 124 | 51 => 123 | n => n, fun | 1 => 0 | n => n⟩
theorem Tryd.lays143 : Go.Proofs.Lays.n143 Tryd.prog Tryd.lays143_ren := {
 mixed := by kernel_rfl
 f143 := Tryd.func47.trans (congrArg some (by kernel_rfl))
 f217 := Tryd.func62.trans (congrArg some (by kernel_rfl))
 f219 := Tryd.func48.trans (congrArg some (by kernel_rfl))
 f224 := Tryd.func64.trans (congrArg some (by kernel_rfl))
 f225 := Tryd.func63.trans (congrArg some (by kernel_rfl))
 f266 := Tryd.func79.trans (congrArg some (by kernel_rfl))
 f267 := Tryd.func65.trans (congrArg some (by kernel_rfl))
 f314 := Tryd.func80.trans (congrArg some (by kernel_rfl))
 t3 := Tryd.underlying3
 a3 := Tryd.isAgg3
 z3 := Tryd.sizeOf3
 v3 := Tryd.zeroValue3
 t4 := Tryd.underlying4
 a4 := Tryd.isAgg4
 z4 := Tryd.sizeOf4
 v4 := Tryd.zeroValue4
 t5 := Tryd.underlying5
 a5 := Tryd.isAgg5
 z5 := Tryd.sizeOf5
 v5 := Tryd.zeroValue5
 t9 := Tryd.underlying9
 a9 := Tryd.isAgg9
 z9 := Tryd.sizeOf9
 v9 := Tryd.zeroValue9
 t46 := Tryd.underlying37
 a46 := Tryd.isAgg37
 z46 := Tryd.sizeOf37
 v46 := Tryd.zeroValue37
 t51 := Tryd.underlying123
 a51 := Tryd.isAgg123
 z51 := Tryd.sizeOf123
 v51 := Tryd.zeroValue123
 t146 := Tryd.underlying124
 a146 := Tryd.isAgg124
 z146 := Tryd.sizeOf124
 v146 := Tryd.zeroValue124
 g1 := by kernel_rfl }
def Tryd.lays145_ren : Go.Shelf.Ren := ⟨fun | 145 => 17 | 220 => 31 | 219 => 48 | 217 => 62 | 225 => 63 | 224 => 64 | 267 => 65 | 266 => 79 | 314 => 80 | n => n, fun | 9 => 9 | 4 => 4 | 59 => 49 | 3 => 3 | 5 => 5 | 46 => 37 | 146 => 124 | 51 => 123 | n => n, fun | 1 => 0 | n => n⟩
theorem Tryd.lays145 : Go.Proofs.Lays.n145 Tryd.prog Tryd.lays145_ren := {
 mixed := by kernel_rfl
 f145 := Tryd.func17.trans (congrArg some (by kernel_rfl))
 f217 := Tryd.func62.trans (congrArg some (by kernel_rfl))
 f219 := Tryd.func48.trans (congrArg some (by kernel_rfl))
 f220 := Tryd.func31.trans (congrArg some (by kernel_rfl))
 f224 := Tryd.func64.trans (congrArg some (by kernel_rfl))
 f225 := Tryd.func63.trans (congrArg some (by kernel_rfl))
 f266 := Tryd.func79.trans (congrArg some (by kernel_rfl))
 f267 := Tryd.func65.trans (congrArg some (by kernel_rfl))
 f314 := Tryd.func80.trans (congrArg some (by kernel_rfl))
 t3 := Tryd.underlying3
 a3 := Tryd.isAgg3
 z3 := Tryd.sizeOf3
 v3 := Tryd.zeroValue3
 t4 := Tryd.underlying4
 a4 := Tryd.isAgg4
 z4 := Tryd.sizeOf4
 v4 := Tryd.zeroValue4
 t5 := Tryd.underlying5
 a5 := Tryd.isAgg5
 z5 := Tryd.sizeOf5
 v5 := Tryd.zeroValue5
 t9 := Tryd.underlying9
 a9 := Tryd.isAgg9
 z9 := Tryd.sizeOf9
 v9 := Tryd.zeroValue9
 t46 := Tryd.underlying37
 a46 := Tryd.isAgg37
 z46 := Tryd.sizeOf37
 v46 := Tryd.zeroValue37
 t51 := Tryd.underlying123
 a51 := Tryd.isAgg123
 z51 := Tryd.sizeOf123
 v51 := Tryd.zeroValue123
 t59 := Tryd.underlying49
 a59 := Tryd.isAgg49
 z59 := Tryd.sizeOf49
 v59 := Tryd.zeroValue49
 t146 := Tryd.underlying124
 a146 := Tryd.isAgg124
 z146 := Tryd.sizeOf124
 v146 := Tryd.zeroValue124
 g1 := by kernel_rfl }
def Tryd.lays152_ren : Go.Shelf.Ren := ⟨fun | 152 => 49 | 137 => 66 | 119 => 67 | 224 => 64 | 225 => 63 | 217 => 62 | 266 => 79 | n => n, fun | 9 => 9 | 21 => 21 | 3 => 3 | 4 => 4 | 5 => 5 | 0 => 0 | 46 => 37 | n => n, fun | n => n⟩
theorem Tryd.lays152 : Go.Proofs.Lays.n152 Tryd.prog Tryd.lays152_ren := {
 mixed := by kernel_rfl
 f119 := Tryd.func67.trans (congrArg some (by kernel_rfl))
 f137 := Tryd.func66.trans (congrArg some (by kernel_rfl))
 f152 := Tryd.func49.trans (congrArg some (by kernel_rfl))
 f217 := Tryd.func62.trans (congrArg some (by kernel_rfl))
 f224 := Tryd.func64.trans (congrArg some (by kernel_rfl))
 f225 := Tryd.func63.trans (congrArg some (by kernel_rfl))
 f266 := Tryd.func79.trans (congrArg some (by kernel_rfl))
 t0 := Tryd.underlying0
 a0 := Tryd.isAgg0
 z0 := Tryd.sizeOf0
 v0 := Tryd.zeroValue0
 t3 := Tryd.underlying3
 a3 := Tryd.isAgg3
 z3 := Tryd.sizeOf3
 v3 := Tryd.zeroValue3
 t4 := Tryd.underlying4
 a4 := Tryd.isAgg4
 z4 := Tryd.sizeOf4
 v4 := Tryd.zeroValue4
 t5 := Tryd.underlying5
 a5 := Tryd.isAgg5
 z5 := Tryd.sizeOf5
 v5 := Tryd.zeroValue5
 t9 := Tryd.underlying9
 a9 := Tryd.isAgg9
 z9 := Tryd.sizeOf9
 v9 := Tryd.zeroValue9
 t21 := Tryd.underlying21
 a21 := Tryd.isAgg21
 z21 := Tryd.sizeOf21
 v21 := Tryd.zeroValue21
 t46 := Tryd.underlying37
 a46 := Tryd.isAgg37
 z46 := Tryd.sizeOf37
 v46 := Tryd.zeroValue37 }
def Tryd.lays105_ren : Go.Shelf.Ren := ⟨fun | 105 => 59 | 212 => 75 | 99 => 76 | 165 => 77 | 166 => 37 | 170 => 78 | 169 => 39 | 263 => 88 | 264 => 89 | 206 => 90 | 240 => 57 | 241 => 91 | 276 => 73 | 277 => 106 | n => n, fun | 9 => 9 | 3 => 3 | 4 => 4 | 20 => 20 | 0 => 0 | 46 => 37 | 109 => 115 | 5 => 5 | 72 => 76 | 76 => 80 | 51 => 123 | 146 => 124 | 53 => 102 | 148 => 135 | 70 => 73 | 37 => 74 | 75 => 79 | 127 => 104 | 164 => 113 | 80 => 83 | n => n, fun | n => n⟩
theorem Tryd.lays105 : Go.Proofs.Lays.n105 Tryd.prog Tryd.lays105_ren := {
 mixed := by kernel_rfl
 f99 := Tryd.func76.trans (congrArg some (by kernel_rfl))
 f105 := Tryd.func59.trans (congrArg some (by kernel_rfl))
 f165 := Tryd.func77.trans (congrArg some (by kernel_rfl))
 f166 := Tryd.func37.trans (congrArg some (by kernel_rfl))
 f169 := Tryd.func39.trans (congrArg some (by kernel_rfl))
 f170 := Tryd.func78.trans (congrArg some (by kernel_rfl))
 f206 := Tryd.func90.trans (congrArg some (by kernel_rfl))
 f212 := Tryd.func75.trans (congrArg some (by kernel_rfl))
 f240 := Tryd.func57.trans (congrArg some (by kernel_rfl))
 f241 := Tryd.func91.trans (congrArg some (by kernel_rfl))
 f263 := Tryd.func88.trans (congrArg some (by kernel_rfl))
 f264 := Tryd.func89.trans (congrArg some (by kernel_rfl))
 f276 := Tryd.func73.trans (congrArg some (by kernel_rfl))
 f277 := Tryd.func106.trans (congrArg some (by kernel_rfl))
 t0 := Tryd.underlying0
 a0 := Tryd.isAgg0
 z0 := Tryd.sizeOf0
 v0 := Tryd.zeroValue0
 t3 := Tryd.underlying3
 a3 := Tryd.isAgg3
 z3 := Tryd.sizeOf3
 v3 := Tryd.zeroValue3
 t4 := Tryd.underlying4
 a4 := Tryd.isAgg4
 z4 := Tryd.sizeOf4
 v4 := Tryd.zeroValue4
 t5 := Tryd.underlying5
 a5 := Tryd.isAgg5
 z5 := Tryd.sizeOf5
 v5 := Tryd.zeroValue5
 t9 := Tryd.underlying9
 a9 := Tryd.isAgg9
 z9 := Tryd.sizeOf9
 v9 := Tryd.zeroValue9
 t20 := Tryd.underlying20
 a20 := Tryd.isAgg20
 z20 := Tryd.sizeOf20
 v20 := Tryd.zeroValue20
 t37 := Tryd.underlying74
 a37 := Tryd.isAgg74
 z37 := Tryd.sizeOf74
 v37 := Tryd.zeroValue74
 t46 := Tryd.underlying37
 a46 := Tryd.isAgg37
 z46 := Tryd.sizeOf37
 v46 := Tryd.zeroValue37
 t51 := Tryd.underlying123
 a51 := Tryd.isAgg123
 z51 := Tryd.sizeOf123
 v51 := Tryd.zeroValue123
 t53 := Tryd.underlying102
 a53 := Tryd.isAgg102
 z53 := Tryd.sizeOf102
 v53 := Tryd.zeroValue102
 t70 := Tryd.underlying73
 a70 := Tryd.isAgg73
 z70 := Tryd.sizeOf73
 v70 := Tryd.zeroValue73
 t72 := Tryd.underlying76
 a72 := Tryd.isAgg76
 z72 := Tryd.sizeOf76
 v72 := Tryd.zeroValue76
 t75 := Tryd.underlying79
 a75 := Tryd.isAgg79
 z75 := Tryd.sizeOf79
 v75 := Tryd.zeroValue79
 t76 := Tryd.underlying80
 a76 := Tryd.isAgg80
 z76 := Tryd.sizeOf80
 v76 := Tryd.zeroValue80
 t109 := Tryd.underlying115
 a109 := Tryd.isAgg115
 z109 := Tryd.sizeOf115
 v109 := Tryd.zeroValue115
 t127 := Tryd.underlying104
 a127 := Tryd.isAgg104
 z127 := Tryd.sizeOf104
 v127 := Tryd.zeroValue104
 t146 := Tryd.underlying124
 a146 := Tryd.isAgg124
 z146 := Tryd.sizeOf124
 v146 := Tryd.zeroValue124
 t148 := Tryd.underlying135
 a148 := Tryd.isAgg135
 z148 := Tryd.sizeOf135
 v148 := Tryd.zeroValue135
 t164 := Tryd.underlying113
 a164 := Tryd.isAgg113
 z164 := Tryd.sizeOf113
 v164 := Tryd.zeroValue113 }
end Go.Proofs
namespace Go.Proofs
open Go.Shelf Go.RowKit Go.Lib
def Tryd.hexs : ByteArray := ⟨#[48, 49, 50, 51, 52, 53, 54, 55, 56, 57, 97, 98, 99, 100, 101, 102]⟩
theorem Tryd.validRune (r : Int) (w : World) (h1 : 128 <= r) (h2 : r <= 2147483647) : Calls Tryd.prog 67 #[.int .i32 r] w fun e w' => e = .returned (.bool (decide (r < 55296) || (decide (57343 < r) && decide (r <= 1114111)))) /\ w' = w := by
 go_enter Tryd.func67, Tryd.ntmps67
 go_wp2
 all_goals (
  go_ret
  refine ⟨?_, rfl⟩
  simp_all <;> omega)
theorem Tryd.hexs_dec : ∀ p : Fin 16, (Utf8.decode Tryd.hexs p.val).1 < 128 /\ (Utf8.decode Tryd.hexs p.val).2 = 1 := by decide
set_option maxHeartbeats 4000000 in
set_option maxRecDepth 1000000 in
theorem Tryd.indexRune_err (w : World) : Calls Tryd.prog 49 #[.string Tryd.hexs, .int .i32 65533] w fun e w' => e = .returned (.int .i64 (-1)) /\ Below w.heap.size w w' := by
 go_enter Tryd.func49, Tryd.ntmps49
 go_wp2
 go_loopw [] (fun wr => ∃ pos : Nat, pos <= 16 /\ wr.heap[w.heap.size]? = some (.stringIter Tryd.hexs pos) /\ Below w.heap.size w wr) (fun wr => 16 - wr.iterPos w.heap.size)
 case atStart =>
  refine ⟨0, by omega, ?_, (Below.refl _ w).alloc (Nat.le_refl _) _⟩
  simpa using World.iter_heap w Tryd.hexs 0
 case round =>
  obtain ⟨pos, hp16, hit, hbw⟩ := hrel
  have hsz : w.heap.size < wr.heap.size := (Array.getElem?_eq_some_iff.1 hit).1
  by_cases hp : pos < Tryd.hexs.size
  ·have hnx : ∀ ty, (Instr.next (.pointer (some ⟨w.heap.size, 0, none⟩)) true ty).run Tryd.prog wr = _ := fun ty => Lib.run_next_any_at wr w.heap.size Tryd.hexs pos ty hit hp
   obtain ⟨hd1, hd2⟩ := Tryd.hexs_dec ⟨pos, hp⟩
   simp only at hd1 hd2
   have hne : ¬ (((Utf8.decode Tryd.hexs pos).1 : Nat) : Int) = 65533 := by omega
   have hit2 := Lib.iterAt_heap wr w.heap.size Tryd.hexs pos (pos + (Utf8.decode Tryd.hexs pos).2) hit
   have hbw2 := Lib.below_iterAt hbw (k := w.heap.size) (Nat.le_refl _) Tryd.hexs (pos + (Utf8.decode Tryd.hexs pos).2)
   rw [hd2] at hit2 hbw2
   have hp' : pos < 16 := hp
   go_wp2
   go_roundw
   case rel => exact ⟨pos + 1, by omega, hit2, hbw2⟩
   case measure =>
    simp only [World.iterPos, hit2, hit]
    omega
  ·have hnx : ∀ ty, (Instr.next (.pointer (some ⟨w.heap.size, 0, none⟩)) true ty).run Tryd.prog wr = _ := fun ty => Lib.run_next_end_at wr w.heap.size Tryd.hexs pos ty hit hp
   go_wp2
   go_ret
   exact ⟨rfl, hbw⟩
theorem Tryd.lays137 : Lays.n137 Tryd.prog Tryd.lays152_ren := { Tryd.lays152 with }
theorem Tryd.indexByte (s : ByteArray) (c : Int) (w : World) : Calls Tryd.prog 66 #[.string s, .int .u8 c] w fun e w' => e = .returned (.int .i64 (Lib.indexByte s.data.toList c.toNat.toUInt8)) /\ w' = w := Any.strings_IndexByte Tryd.lays137 s c w
theorem Tryd.indexByte_none : ∀ (l : List UInt8) (c : UInt8), (∀ b, b ∈ l -> b ≠ c) -> Lib.indexByte l c = -1
 | [], _, _ => rfl
 | b :: l, c, h => by
  unfold Lib.indexByte
  rw [if_neg (by simp; exact h b (by simp)), Tryd.indexByte_none l c fun x hx => h x (by simp [hx])]
  simp
theorem Tryd.hexs_low : ∀ b, b ∈ Tryd.hexs.data.toList -> b.toNat < 128 := by decide
theorem Tryd.hexs_part (c : UInt8) (hc : 128 <= c.toNat) (i k : Nat) : Lib.indexByte ((Tryd.hexs.data.toList.drop i).take k) c = -1 :=
 Tryd.indexByte_none _ _ fun b hb e => by
  have := Tryd.hexs_low b (List.mem_of_mem_drop (List.mem_of_mem_take hb))
  subst e
  omega
theorem Tryd.encode_high (r : Int) (h1 : 128 <= r) (h2 : r <= 2147483647) (hb : (decide (r < 55296) || (decide (57343 < r) && decide (r <= 1114111))) = true) :
  (∃ x y : UInt8, Utf8.encode r = ⟨#[x, y]⟩ /\ 128 <= y.toNat) \/ (∃ x y z : UInt8, Utf8.encode r = ⟨#[x, y, z]⟩ /\ 128 <= z.toNat) \/ (∃ x y z v : UInt8, Utf8.encode r = ⟨#[x, y, z, v]⟩ /\ 128 <= v.toNat) := by
 have hv : Utf8.valid r = true := by
  unfold Utf8.valid
  simp only [Bool.or_eq_true, Bool.and_eq_true, decide_eq_true_eq] at hb ⊢
  omega
 have key : ∀ m : Nat, 128 <= (UInt8.ofNat (128 + m % 64)).toNat := fun m => by
  rw [UInt8.toNat_ofNat']
  omega
 unfold Utf8.encode
 simp only [hv, if_true]
 by_cases c1 : r.toNat < 2048
 ·left
  rw [if_neg (by omega), if_pos c1]
  exact ⟨_, _, rfl, key _⟩
 ·right
  by_cases c2 : r.toNat < 65536
  ·left
   rw [if_neg (by omega), if_neg c1, if_pos c2]
   exact ⟨_, _, _, rfl, key _⟩
  ·right
   rw [if_neg (by omega), if_neg c1, if_neg c2]
   exact ⟨_, _, _, _, rfl, key _⟩
set_option maxHeartbeats 4000000 in
set_option maxRecDepth 1000000 in
theorem Tryd.indexRune_high (r : Int) (w : World) (h1 : 128 <= r) (h2 : r <= 2147483647) (h3 : r ≠ 65533) : Calls Tryd.prog 49 #[.string Tryd.hexs, .int .i32 r] w fun e w' => e = .returned (.int .i64 (-1)) /\ Below w.heap.size w w' := by
 have hv := Tryd.validRune r w h1 (by omega)
 generalize hb : (decide (r < 55296) || (decide (57343 < r) && decide (r <= 1114111))) = b at hv
 cases b
 ·go_enter Tryd.func49, Tryd.ntmps49
  go_wp2_with (go_at_call 67; refine hv.mono ?_; rintro e w' ⟨rfl, rfl⟩)
  go_ret
  exact ⟨rfl, Below.refl _ _⟩
 ·have hsz : Tryd.hexs.size = 16 := by decide
  have mixed : Tryd.prog.follows .mixedOrders = true := by kernel_rfl
  rcases Tryd.encode_high r h1 h2 hb with ⟨x, y, hE, hy⟩ | ⟨x, y, z, hE, hy⟩ | ⟨x, y, z, v, hE, hy⟩
  ·go_enter Tryd.func49, Tryd.ntmps49
   go_wp2_with (go_at_call 67; refine hv.mono ?_; rintro e w' ⟨rfl, rfl⟩)
   have hlt : 1 < ({ data := #[x, y] } : ByteArray).size := by show 1 < 2; omega
   have hne : ¬ ((Tryd.hexs[1].toNat : Int) = ((({ data := #[x, y] } : ByteArray)[1]'hlt).toNat : Int)) := by
    show ¬ ((49 : Nat) : Int) = (y.toNat : Int)
    omega
   have hib : Lib.indexByte (List.take 14 (List.drop 2 Tryd.hexs.data.toList)) (({ data := #[x, y] } : ByteArray)[1]'hlt) = -1 := Tryd.hexs_part y hy 2 14
   go_step3
   go_wp2
   refine wp_loop_rounds 1 ?_
   rw [rounds_succ]
   go_wp2
   go_step3
   go_wp2
   go_region_o
   go_wp2
   go_region_with (go_at_call 66; refine (Tryd.indexByte _ _ _).mono ?_; rintro e w' ⟨rfl, rfl⟩)
   go_wp2
   all_goals (
    simp only [Exit.noGoto, Exit.inBlock, Exit.then]
    go_ret
    exact ⟨rfl, ((Below.refl _ _).drew).drew⟩)
  ·go_enter Tryd.func49, Tryd.ntmps49
   go_wp2_with (go_at_call 67; refine hv.mono ?_; rintro e w' ⟨rfl, rfl⟩)
   have hlt : 2 < ({ data := #[x, y, z] } : ByteArray).size := by show 2 < 3; omega
   have hne : ¬ ((Tryd.hexs[2].toNat : Int) = ((({ data := #[x, y, z] } : ByteArray)[2]'hlt).toNat : Int)) := by
    show ¬ ((50 : Nat) : Int) = (z.toNat : Int)
    omega
   have hib : Lib.indexByte (List.take 13 (List.drop 3 Tryd.hexs.data.toList)) (({ data := #[x, y, z] } : ByteArray)[2]'hlt) = -1 := Tryd.hexs_part z hy 3 13
   go_step3
   go_wp2
   refine wp_loop_rounds 1 ?_
   rw [rounds_succ]
   go_wp2
   go_step3
   go_wp2
   go_region_o
   go_wp2
   go_region_with (go_at_call 66; refine (Tryd.indexByte _ _ _).mono ?_; rintro e w' ⟨rfl, rfl⟩)
   go_wp2
   all_goals (
    simp only [Exit.noGoto, Exit.inBlock, Exit.then]
    go_ret
    exact ⟨rfl, ((Below.refl _ _).drew).drew⟩)
  ·go_enter Tryd.func49, Tryd.ntmps49
   go_wp2_with (go_at_call 67; refine hv.mono ?_; rintro e w' ⟨rfl, rfl⟩)
   have hlt : 3 < ({ data := #[x, y, z, v] } : ByteArray).size := by show 3 < 4; omega
   have hne : ¬ ((Tryd.hexs[3].toNat : Int) = ((({ data := #[x, y, z, v] } : ByteArray)[3]'hlt).toNat : Int)) := by
    show ¬ ((51 : Nat) : Int) = (v.toNat : Int)
    omega
   have hib : Lib.indexByte (List.take 12 (List.drop 4 Tryd.hexs.data.toList)) (({ data := #[x, y, z, v] } : ByteArray)[3]'hlt) = -1 := Tryd.hexs_part v hy 4 12
   go_step3
   go_wp2
   refine wp_loop_rounds 1 ?_
   rw [rounds_succ]
   go_wp2
   go_step3
   go_wp2
   go_region_o
   go_wp2
   go_region_with (go_at_call 66; refine (Tryd.indexByte _ _ _).mono ?_; rintro e w' ⟨rfl, rfl⟩)
   go_wp2
   all_goals (
    simp only [Exit.noGoto, Exit.inBlock, Exit.then]
    go_ret
    exact ⟨rfl, ((Below.refl _ _).drew).drew⟩)
end Go.Proofs
namespace Go.Proofs
open Go.Shelf Go.RowKit Go.Lib
def Tryd.hexR (r : Nat) : Int := if r < 128 then Lib.indexByte Tryd.hexs.data.toList (UInt8.ofNat r) else -1
theorem Tryd.indexRune (r : Nat) (w : World) (h2 : r <= 2147483647) : Calls Tryd.prog 49 #[.string Tryd.hexs, .int .i32 (r : Int)] w fun e w' => e = .returned (.int .i64 (Tryd.hexR r)) /\ Below w.heap.size w w' := by
 unfold Tryd.hexR
 by_cases h : r < 128
 ·rw [if_pos h]
  refine (Any.strings_IndexRune_ascii Tryd.lays152 Tryd.hexs (r : Int) w (by omega) (by omega)).mono ?_
  rintro e w' ⟨rfl, rfl⟩
  exact ⟨by simp, Below.refl _ _⟩
 ·rw [if_neg h]
  by_cases h3 : (r : Int) = 65533
  ·rw [h3]; exact Tryd.indexRune_err w
  ·exact Tryd.indexRune_high r w (by omega) (by omega) h3
theorem Tryd.indexByte_lt : ∀ (l : List UInt8) (c : UInt8), Lib.indexByte l c < max l.length 1
 | [], c => by show (-1 : Int) < _; omega
 | b :: l, c => by
  have := Tryd.indexByte_lt l c
  unfold Lib.indexByte
  rw [List.length_cons]
  split
  ·omega
  ·split
   ·omega
   ·rename_i h1 h2
    have h3 : Lib.indexByte l c ≠ -1 := by simpa using h2
    cases l with
    | nil => exact (h3 rfl).elim
    | cons x l => rw [List.length_cons] at *; omega
theorem Tryd.hexR_lt (r : Nat) : Tryd.hexR r < 16 := by
 unfold Tryd.hexR
 split
 ·exact Tryd.indexByte_lt _ _
 ·omega
theorem Tryd.or64 (a b : Nat) (ha : a < 4611686018427387904) (hb : b < 4611686018427387904) : bits .or .i64 (a : Int) (b : Int) = ((a ||| b : Nat) : Int) := by
 have hx : a ||| b < 2 ^ 62 := Nat.or_lt_two_pow (by omega) (by omega)
 have h1 : (BitVec.ofInt 64 (a : Int)).toNat = a := by
  rw [BitVec.ofInt_natCast, BitVec.toNat_ofNat]; exact Nat.mod_eq_of_lt (by omega)
 have h2 : (BitVec.ofInt 64 (b : Int)).toNat = b := by
  rw [BitVec.ofInt_natCast, BitVec.toNat_ofNat]; exact Nat.mod_eq_of_lt (by omega)
 show IntKind.i64.wrap ((BitVec.ofInt 64 (a : Int) ||| BitVec.ofInt 64 (b : Int)).toNat : Int) = _
 rw [BitVec.toNat_or, h1, h2, IntKind.wrap_i64]
 omega
theorem Tryd.digit (n d : Int) (hn : 0 <= n) (hn4 : n < 65536) (hd : 0 <= d) (hd16 : d < 16) : bits .or .i64 (wrap64 (n * 16)) d = n * 16 + d := by
 have hw : wrap64 (n * 16) = n * 16 := by unfold wrap64; omega
 rw [hw]
 obtain ⟨a, rfl⟩ := Int.eq_ofNat_of_zero_le hn
 obtain ⟨b, rfl⟩ := Int.eq_ofNat_of_zero_le hd
 have := Tryd.or64 (2 ^ 4 * a) b (by omega) (by omega)
 rw [<- Nat.two_pow_add_eq_or_of_lt (by omega)] at this
 rw [show ((a : Int) * 16) = ((2 ^ 4 * a : Nat) : Int) by omega, this]
 omega
theorem Tryd.pow16 {a b : Nat} (h : a <= b) : (16 : Int) ^ a <= 16 ^ b := by
 have : (16 : Nat) ^ a <= 16 ^ b := Nat.pow_le_pow_right (by decide) h
 exact_mod_cast this
theorem Tryd.width_pos (s : ByteArray) (pos : Nat) (h : pos < s.size) : 1 <= (Utf8.decode s pos).2 := by
 by_cases ha : (s[pos]'h).toNat < 128
 ·rw [decode_ascii s pos h ha]
  exact Nat.le_refl _
 ·exact (decode_high s pos h (by omega)).2
theorem Tryd.indexRune' (r : Nat) (w : World) (h2 : r <= 2147483647) : Calls Tryd.prog 49 #[.string ⟨#[48, 49, 50, 51, 52, 53, 54, 55, 56, 57, 97, 98, 99, 100, 101, 102]⟩, .int .i32 (r : Int)] w fun e w' => e = .returned (.int .i64 (Tryd.hexR r)) /\ Below w.heap.size w w' := Tryd.indexRune r w h2
def Tryd.numFrom (s : ByteArray) : Nat -> Nat -> Int -> Option Int
 | 0, _, n => some n
 | k + 1, pos, n => if pos < s.size then (if Tryd.hexR (Utf8.decode s pos).1 < 0 then none else Tryd.numFrom s k (pos + (Utf8.decode s pos).2) (n * 16 + Tryd.hexR (Utf8.decode s pos).1)) else some n
def Tryd.num (s : ByteArray) : Option Int := if s.size < 1 \/ 4 < s.size then none else Tryd.numFrom s s.size 0 0
def Tryd.numV (o : Option Int) : Value := match o with | some n => .tuple #[.int .i64 n, .bool true] | none => .tuple #[.int .i64 0, .bool false]
set_option maxHeartbeats 4000000 in
set_option maxRecDepth 1000000 in
theorem Tryd.number (s : ByteArray) (w : World) : Calls Tryd.prog 32 #[.string s] w fun e w' => e = .returned (Tryd.numV (Tryd.num s)) /\ Below w.heap.size w w' := by
 by_cases h1 : s.size < 1
 ·have : Tryd.num s = none := by unfold Tryd.num; rw [if_pos (.inl h1)]
  rw [this]
  go_enter Tryd.func32, Tryd.ntmps32
  go_wp2
  go_ret2
  exact ⟨rfl, Below.refl _ _⟩
 by_cases h4 : 4 < s.size
 ·have : Tryd.num s = none := by unfold Tryd.num; rw [if_pos (.inr h4)]
  rw [this]
  go_enter Tryd.func32, Tryd.ntmps32
  go_wp2
  go_ret2
  exact ⟨rfl, Below.refl _ _⟩
 have hnum : Tryd.num s = Tryd.numFrom s s.size 0 0 := by unfold Tryd.num; rw [if_neg (by omega)]
 rw [hnum]
 go_enter Tryd.func32, Tryd.ntmps32
 go_wp2
 go_loopw [4] (fun v wr => ∃ (pos fuel : Nat) (n : Int), v = .int .i64 n /\ 0 <= n /\ n < 16 ^ pos /\ s.size <= pos + fuel /\ Tryd.numFrom s fuel pos n = Tryd.numFrom s s.size 0 0 /\ wr.heap[w.heap.size]? = some (.stringIter s pos) /\ Below w.heap.size w wr) (fun _ wr => s.size - wr.iterPos w.heap.size)
 case atStart =>
  refine ⟨0, s.size, 0, rfl, by omega, by omega, by omega, rfl, ?_, (Below.refl _ w).alloc (Nat.le_refl _) _⟩
  simpa using World.iter_heap w s 0
 case round =>
  obtain ⟨pos, fuel, n, rfl, hn0, hn1, hfu, hrec, hit, hbw⟩ := hrel
  have hsz : w.heap.size < wr.heap.size := (Array.getElem?_eq_some_iff.1 hit).1
  by_cases hp : pos < s.size
  ·have hnx : ∀ ty, (Instr.next (.pointer (some ⟨w.heap.size, 0, none⟩)) true ty).run Tryd.prog wr = _ := fun ty => Lib.run_next_any_at wr w.heap.size s pos ty hit hp
   obtain ⟨f, rfl⟩ : ∃ f, fuel = f + 1 := ⟨fuel - 1, by omega⟩
   have hd1 := decode_le s pos
   have hit2 := Lib.iterAt_heap wr w.heap.size s pos (pos + (Utf8.decode s pos).2) hit
   have hbw2 := Lib.below_iterAt hbw (k := w.heap.size) (Nat.le_refl _) s (pos + (Utf8.decode s pos).2)
   rw [Tryd.numFrom, if_pos hp] at hrec
   have hd16 := Tryd.hexR_lt (Utf8.decode s pos).1
   have hwp := Tryd.width_pos s pos hp
   generalize hdd : Utf8.decode s pos = dd at hd1 hit2 hbw2 hrec hd16 hnx hwp
   obtain ⟨r, k⟩ := dd
   simp only at hd1 hit2 hbw2 hrec hd16 hnx hwp
   by_cases hneg : Tryd.hexR r < 0
   ·rw [if_pos hneg] at hrec
    rw [<- hrec]
    go_wp2_with (go_at_call 49; refine (Tryd.indexRune' r _ (by omega)).mono ?_)
    rintro e W1 ⟨rfl, b1⟩
    go_wp2
    go_ret2
    refine ⟨by rw [<- hrec]; rfl, hbw2.trans (b1.mono ?_)⟩
    rw [Lib.iterAt_size]; omega
   ·rw [if_neg hneg] at hrec
    go_wp2_with (go_at_call 49; refine (Tryd.indexRune' r _ (by omega)).mono ?_; rintro e W1 ⟨rfl, b1⟩)
    have hit3 : W1.heap[w.heap.size]? = some (.stringIter s (pos + k)) := by
     rw [b1.block _ (by rw [Lib.iterAt_size]; exact hsz)]
     exact hit2
    have hn4 : n < 65536 := by
     have : (16 : Int) ^ pos <= 16 ^ 4 := Tryd.pow16 (by omega)
     omega
    refine ⟨⟨pos + k, f, n * 16 + Tryd.hexR r, ?_, by omega, ?_, by omega, hrec, hit3, hbw2.trans (b1.mono ?_)⟩, ?_⟩
    ·rw [Tryd.digit n _ hn0 hn4 (by omega) hd16]
    ·have h5 : (16 : Int) ^ (pos + 1) <= 16 ^ (pos + k) := Tryd.pow16 (by omega)
     rw [Int.pow_succ] at h5
     omega
    ·rw [Lib.iterAt_size]; omega
    ·simp only [World.iterPos, hit3, hit]
     omega
  ·have hnx : ∀ ty, (Instr.next (.pointer (some ⟨w.heap.size, 0, none⟩)) true ty).run Tryd.prog wr = _ := fun ty => Lib.run_next_end_at wr w.heap.size s pos ty hit hp
   go_wp2
   go_ret2
   refine ⟨?_, hbw⟩
   rw [<- hrec]
   cases fuel with
   | zero => rfl
   | succ f => rw [Tryd.numFrom, if_neg hp]; rfl
end Go.Proofs
namespace Go.Proofs
open Go.Shelf Go.RowKit Go.Lib
theorem Tryd.isPow (w : World) : Calls Tryd.prog 104 #[.int .i64 16] w fun e w' => e = .returned (.bool true) /\ w' = w := by
 go_enter Tryd.func104, Tryd.ntmps104
 go_wp2
 go_ret
 exact ⟨rfl, rfl⟩
theorem Tryd.tz (w : World) (hg : w.cell? ⟨5, 15, none⟩ = some (.int .u8 4)) : Calls Tryd.prog 105 #[.int .u64 16] w fun e w' => e = .returned (.int .i64 4) /\ w' = w := by
 have hix : IntKind.u64.wrap (bits BinOp.and IntKind.u64 16 (IntKind.u64.wrap (-16)) * 285870213051353865) / 288230376151711744 = 15 := by decide
 go_enter Tryd.func105, Tryd.ntmps105
 go_wp2
 go_ret
 exact ⟨rfl, rfl⟩
theorem Tryd.cell_alloc {w : World} {a : Addr} {v : Value} (o : Obj) (h : w.cell? a = some v) : (w.alloc o).cell? a = some v := by
 have hlt := World.block_lt_of_cell? w a h
 rw [<- h]
 exact YtfgbfdlacnihkaaDoor.Sx.cell?_of_blk (Below.heap_alloc w o _ hlt)
theorem Tryd.conv (l : List UInt8) (k : Nat) (hk : l.length = k) (w : World) (a : Addr) (cap : Nat) (hc : ∀ j (hj : j < l.length), w.cell? (a.add j) = some (.int .u8 (l[j].toNat : Int))) :
  (convert 74 9 (.slice (some a) k cap)).run Tryd.prog w = .ok (.string ⟨l.toArray⟩) w := by
 subst hk
 exact run_convert_bytes_back w 74 9 5 a cap l Tryd.underlying74 Tryd.underlying5 Tryd.underlying9 hc
theorem Tryd.cell_new (w : World) (cs : Array Value) (t : TypeId) (off : Nat) : (w.alloc (.cells cs t)).cell? ⟨w.heap.size, off, none⟩ = cs[off]? := World.cell?_alloc_at cs t _ off rfl
theorem Tryd.z65 : Tryd.zeroCells147.size = 65 := by kernel_rfl
def Tryd.digs : ByteArray := ⟨#[48, 49, 50, 51, 52, 53, 54, 55, 56, 57, 97, 98, 99, 100, 101, 102, 103, 104, 105, 106, 107, 108, 109, 110, 111, 112, 113, 114, 115, 116, 117, 118, 119, 120, 121, 122]⟩
def Tryd.hx (k : Nat) : UInt8 := if h : k < Tryd.digs.size then Tryd.digs[k] else 0
theorem Tryd.hx_eq {k : Nat} (h : k < 36) : Tryd.hx k = Tryd.digs[k]'h := dif_pos h
theorem Tryd.and15 (x : Int) (h0 : 0 <= x) (h : x < 18446744073709551616) : bits BinOp.and IntKind.u64 x 15 = x % 16 := by
 obtain ⟨n, rfl⟩ := Int.eq_ofNat_of_zero_le h0
 have := bits_and_u64_nat n 15 (by omega) (by omega)
 rw [show ((15 : Nat) : Int) = 15 from rfl] at this
 rw [this, show (15 : Nat) = 2 ^ 4 - 1 from rfl, Nat.and_two_pow_sub_one_eq_mod]
 omega
set_option maxHeartbeats 8000000 in
set_option maxRecDepth 1000000 in
theorem Tryd.bits1 (n : Nat) (w : World) (hg : w.cell? ⟨5, 15, none⟩ = some (.int .u8 4)) (hn : n < 16) : Calls Tryd.prog 87 #[.slice none 0 0, .int .u64 n, .int .i64 16, .bool false, .bool false] w fun e w' => e = .returned (.tuple #[.slice none 0 0, .string ⟨[Tryd.hx (n)].toArray⟩]) /\ Below w.heap.size w w' := by
 have hg1 : ∀ o, (w.alloc o).cell? ⟨5, 15, none⟩ = some (.int .u8 4) := fun o => Tryd.cell_alloc o hg
 have e0 := Tryd.hx_eq (k := n) (by omega)
 go_enter Tryd.func87, Tryd.ntmps87
 go_wp2_with (first | (go_at_call 104; refine (Tryd.isPow _).mono ?_; rintro e w' ⟨rfl, rfl⟩) | (go_at_call 105; refine (Tryd.tz _ (hg1 _)).mono ?_; rintro e w' ⟨rfl, rfl⟩))
 refine wp_loop_rounds 1 ?_
 rw [rounds_succ]
 have hlt : ¬ ((n : Int) >= 16) := by omega
 have hma : (n : Int) < 36 := by omega
 have hmb : 0 <= (n : Int) := by omega
 go_wp2
 rw [Tryd.conv [Tryd.hx (n)] 1 rfl _ _ _ ?hc]
 case hc =>
  have hz := Tryd.z65
  generalize Tryd.zeroCells147 = Z at hz ⊢
  intro j hj
  match j, hj with
  | 0, _ =>
   show World.cell? _ ⟨_, 64, none⟩ = some (.int .u8 ((Tryd.hx (n)).toNat : Int))
   rw [Tryd.cell_new, e0]
   simp [Array.getElem?_setIfInBounds, hz]
   try rfl
 go_wp2
 go_ret2
 exact ⟨by rw [e0]; rfl, (Below.refl _ w).alloc (Nat.le_refl _) _⟩
set_option maxHeartbeats 8000000 in
set_option maxRecDepth 1000000 in
theorem Tryd.bits2 (n : Nat) (w : World) (hg : w.cell? ⟨5, 15, none⟩ = some (.int .u8 4)) (h0 : 16 <= n) (hn : n < 256) : Calls Tryd.prog 87 #[.slice none 0 0, .int .u64 n, .int .i64 16, .bool false, .bool false] w fun e w' => e = .returned (.tuple #[.slice none 0 0, .string ⟨[Tryd.hx (n / 16), Tryd.hx (n % 16)].toArray⟩]) /\ Below w.heap.size w w' := by
 have hg1 : ∀ o, (w.alloc o).cell? ⟨5, 15, none⟩ = some (.int .u8 4) := fun o => Tryd.cell_alloc o hg
 have e0 := Tryd.hx_eq (k := n / 16) (by omega)
 have e1 := Tryd.hx_eq (k := n % 16) (by omega)
 go_enter Tryd.func87, Tryd.ntmps87
 go_wp2_with (first | (go_at_call 104; refine (Tryd.isPow _).mono ?_; rintro e w' ⟨rfl, rfl⟩) | (go_at_call 105; refine (Tryd.tz _ (hg1 _)).mono ?_; rintro e w' ⟨rfl, rfl⟩))
 refine wp_loop_rounds 2 ?_
 rw [rounds_succ]
 have hge0 : (n : Int) >= 16 := by omega
 have ha0 := Tryd.and15 ((n : Int)) (by omega) (by omega)
 have hm0 : (n : Int) % 16 < 36 := by omega
 have hp0 : 0 <= (n : Int) % 16 := by omega
 go_wp2
 rw [rounds_succ]
 have hlt : ¬ ((n : Int) / 16 >= 16) := by omega
 have hma : (n : Int) / 16 < 36 := by omega
 have hmb : 0 <= (n : Int) / 16 := by omega
 go_wp2
 rw [Tryd.conv [Tryd.hx (n / 16), Tryd.hx (n % 16)] 2 rfl _ _ _ ?hc]
 case hc =>
  have hz := Tryd.z65
  generalize Tryd.zeroCells147 = Z at hz ⊢
  intro j hj
  match j, hj with
  | 0, _ =>
   show World.cell? _ ⟨_, 63, none⟩ = some (.int .u8 ((Tryd.hx (n / 16)).toNat : Int))
   rw [Tryd.cell_new, e0]
   simp [Array.getElem?_setIfInBounds, hz]
   try rfl
  | 1, _ =>
   show World.cell? _ ⟨_, 64, none⟩ = some (.int .u8 ((Tryd.hx (n % 16)).toNat : Int))
   rw [Tryd.cell_new, e1]
   simp [Array.getElem?_setIfInBounds, hz]
   try rfl
 go_wp2
 go_ret2
 exact ⟨by rw [e0, e1]; rfl, (Below.refl _ w).alloc (Nat.le_refl _) _⟩
set_option maxHeartbeats 8000000 in
set_option maxRecDepth 1000000 in
theorem Tryd.bits3 (n : Nat) (w : World) (hg : w.cell? ⟨5, 15, none⟩ = some (.int .u8 4)) (h0 : 256 <= n) (hn : n < 4096) : Calls Tryd.prog 87 #[.slice none 0 0, .int .u64 n, .int .i64 16, .bool false, .bool false] w fun e w' => e = .returned (.tuple #[.slice none 0 0, .string ⟨[Tryd.hx (n / 16 / 16), Tryd.hx (n / 16 % 16), Tryd.hx (n % 16)].toArray⟩]) /\ Below w.heap.size w w' := by
 have hg1 : ∀ o, (w.alloc o).cell? ⟨5, 15, none⟩ = some (.int .u8 4) := fun o => Tryd.cell_alloc o hg
 have e0 := Tryd.hx_eq (k := n / 16 / 16) (by omega)
 have e1 := Tryd.hx_eq (k := n / 16 % 16) (by omega)
 have e2 := Tryd.hx_eq (k := n % 16) (by omega)
 go_enter Tryd.func87, Tryd.ntmps87
 go_wp2_with (first | (go_at_call 104; refine (Tryd.isPow _).mono ?_; rintro e w' ⟨rfl, rfl⟩) | (go_at_call 105; refine (Tryd.tz _ (hg1 _)).mono ?_; rintro e w' ⟨rfl, rfl⟩))
 refine wp_loop_rounds 3 ?_
 rw [rounds_succ]
 have hge0 : (n : Int) >= 16 := by omega
 have ha0 := Tryd.and15 ((n : Int)) (by omega) (by omega)
 have hm0 : (n : Int) % 16 < 36 := by omega
 have hp0 : 0 <= (n : Int) % 16 := by omega
 go_wp2
 rw [rounds_succ]
 have hge1 : (n : Int) / 16 >= 16 := by omega
 have ha1 := Tryd.and15 ((n : Int) / 16) (by omega) (by omega)
 have hm1 : (n : Int) / 16 % 16 < 36 := by omega
 have hp1 : 0 <= (n : Int) / 16 % 16 := by omega
 go_wp2
 rw [rounds_succ]
 have hlt : ¬ ((n : Int) / 16 / 16 >= 16) := by omega
 have hma : (n : Int) / 16 / 16 < 36 := by omega
 have hmb : 0 <= (n : Int) / 16 / 16 := by omega
 go_wp2
 rw [Tryd.conv [Tryd.hx (n / 16 / 16), Tryd.hx (n / 16 % 16), Tryd.hx (n % 16)] 3 rfl _ _ _ ?hc]
 case hc =>
  have hz := Tryd.z65
  generalize Tryd.zeroCells147 = Z at hz ⊢
  intro j hj
  match j, hj with
  | 0, _ =>
   show World.cell? _ ⟨_, 62, none⟩ = some (.int .u8 ((Tryd.hx (n / 16 / 16)).toNat : Int))
   rw [Tryd.cell_new, e0]
   simp [Array.getElem?_setIfInBounds, hz]
   try rfl
  | 1, _ =>
   show World.cell? _ ⟨_, 63, none⟩ = some (.int .u8 ((Tryd.hx (n / 16 % 16)).toNat : Int))
   rw [Tryd.cell_new, e1]
   simp [Array.getElem?_setIfInBounds, hz]
   try rfl
  | 2, _ =>
   show World.cell? _ ⟨_, 64, none⟩ = some (.int .u8 ((Tryd.hx (n % 16)).toNat : Int))
   rw [Tryd.cell_new, e2]
   simp [Array.getElem?_setIfInBounds, hz]
   try rfl
 go_wp2
 go_ret2
 exact ⟨by rw [e0, e1, e2]; rfl, (Below.refl _ w).alloc (Nat.le_refl _) _⟩
set_option maxHeartbeats 8000000 in
set_option maxRecDepth 1000000 in
theorem Tryd.bits4 (n : Nat) (w : World) (hg : w.cell? ⟨5, 15, none⟩ = some (.int .u8 4)) (h0 : 4096 <= n) (hn : n < 65536) : Calls Tryd.prog 87 #[.slice none 0 0, .int .u64 n, .int .i64 16, .bool false, .bool false] w fun e w' => e = .returned (.tuple #[.slice none 0 0, .string ⟨[Tryd.hx (n / 16 / 16 / 16), Tryd.hx (n / 16 / 16 % 16), Tryd.hx (n / 16 % 16), Tryd.hx (n % 16)].toArray⟩]) /\ Below w.heap.size w w' := by
 have hg1 : ∀ o, (w.alloc o).cell? ⟨5, 15, none⟩ = some (.int .u8 4) := fun o => Tryd.cell_alloc o hg
 have e0 := Tryd.hx_eq (k := n / 16 / 16 / 16) (by omega)
 have e1 := Tryd.hx_eq (k := n / 16 / 16 % 16) (by omega)
 have e2 := Tryd.hx_eq (k := n / 16 % 16) (by omega)
 have e3 := Tryd.hx_eq (k := n % 16) (by omega)
 go_enter Tryd.func87, Tryd.ntmps87
 go_wp2_with (first | (go_at_call 104; refine (Tryd.isPow _).mono ?_; rintro e w' ⟨rfl, rfl⟩) | (go_at_call 105; refine (Tryd.tz _ (hg1 _)).mono ?_; rintro e w' ⟨rfl, rfl⟩))
 refine wp_loop_rounds 4 ?_
 rw [rounds_succ]
 have hge0 : (n : Int) >= 16 := by omega
 have ha0 := Tryd.and15 ((n : Int)) (by omega) (by omega)
 have hm0 : (n : Int) % 16 < 36 := by omega
 have hp0 : 0 <= (n : Int) % 16 := by omega
 go_wp2
 rw [rounds_succ]
 have hge1 : (n : Int) / 16 >= 16 := by omega
 have ha1 := Tryd.and15 ((n : Int) / 16) (by omega) (by omega)
 have hm1 : (n : Int) / 16 % 16 < 36 := by omega
 have hp1 : 0 <= (n : Int) / 16 % 16 := by omega
 go_wp2
 rw [rounds_succ]
 have hge2 : (n : Int) / 16 / 16 >= 16 := by omega
 have ha2 := Tryd.and15 ((n : Int) / 16 / 16) (by omega) (by omega)
 have hm2 : (n : Int) / 16 / 16 % 16 < 36 := by omega
 have hp2 : 0 <= (n : Int) / 16 / 16 % 16 := by omega
 go_wp2
 rw [rounds_succ]
 have hlt : ¬ ((n : Int) / 16 / 16 / 16 >= 16) := by omega
 have hma : (n : Int) / 16 / 16 / 16 < 36 := by omega
 have hmb : 0 <= (n : Int) / 16 / 16 / 16 := by omega
 go_wp2
 rw [Tryd.conv [Tryd.hx (n / 16 / 16 / 16), Tryd.hx (n / 16 / 16 % 16), Tryd.hx (n / 16 % 16), Tryd.hx (n % 16)] 4 rfl _ _ _ ?hc]
 case hc =>
  have hz := Tryd.z65
  generalize Tryd.zeroCells147 = Z at hz ⊢
  intro j hj
  match j, hj with
  | 0, _ =>
   show World.cell? _ ⟨_, 61, none⟩ = some (.int .u8 ((Tryd.hx (n / 16 / 16 / 16)).toNat : Int))
   rw [Tryd.cell_new, e0]
   simp [Array.getElem?_setIfInBounds, hz]
   try rfl
  | 1, _ =>
   show World.cell? _ ⟨_, 62, none⟩ = some (.int .u8 ((Tryd.hx (n / 16 / 16 % 16)).toNat : Int))
   rw [Tryd.cell_new, e1]
   simp [Array.getElem?_setIfInBounds, hz]
   try rfl
  | 2, _ =>
   show World.cell? _ ⟨_, 63, none⟩ = some (.int .u8 ((Tryd.hx (n / 16 % 16)).toNat : Int))
   rw [Tryd.cell_new, e2]
   simp [Array.getElem?_setIfInBounds, hz]
   try rfl
  | 3, _ =>
   show World.cell? _ ⟨_, 64, none⟩ = some (.int .u8 ((Tryd.hx (n % 16)).toNat : Int))
   rw [Tryd.cell_new, e3]
   simp [Array.getElem?_setIfInBounds, hz]
   try rfl
 go_wp2
 go_ret2
 exact ⟨by rw [e0, e1, e2, e3]; rfl, (Below.refl _ w).alloc (Nat.le_refl _) _⟩
end Go.Proofs
namespace Go.Proofs
open Go.Shelf Go.RowKit Go.Lib
def Tryd.fmtL (n : Nat) : List UInt8 :=
 if n < 16 then [Tryd.hx n] else if n < 256 then [Tryd.hx (n / 16), Tryd.hx (n % 16)] else if n < 4096 then [Tryd.hx (n / 16 / 16), Tryd.hx (n / 16 % 16), Tryd.hx (n % 16)]
 else [Tryd.hx (n / 16 / 16 / 16), Tryd.hx (n / 16 / 16 % 16), Tryd.hx (n / 16 % 16), Tryd.hx (n % 16)]
theorem Tryd.fmtBits (n : Nat) (w : World) (hg : w.cell? ⟨5, 15, none⟩ = some (.int .u8 4)) (hn : n < 65536) : Calls Tryd.prog 87 #[.slice none 0 0, .int .u64 n, .int .i64 16, .bool false, .bool false] w fun e w' => e = .returned (.tuple #[.slice none 0 0, .string ⟨(Tryd.fmtL n).toArray⟩]) /\ Below w.heap.size w w' := by
 unfold Tryd.fmtL
 by_cases h1 : n < 16
 ·rw [if_pos h1]; exact Tryd.bits1 n w hg h1
 rw [if_neg h1]
 by_cases h2 : n < 256
 ·rw [if_pos h2]; exact Tryd.bits2 n w hg (by omega) h2
 rw [if_neg h2]
 by_cases h3 : n < 4096
 ·rw [if_pos h3]; exact Tryd.bits3 n w hg (by omega) h3
 rw [if_neg h3]
 exact Tryd.bits4 n w hg (by omega) hn
theorem Tryd.fmtInner (n : Nat) (w : World) (hg : w.cell? ⟨5, 15, none⟩ = some (.int .u8 4)) (hn : n < 65536) : Calls Tryd.prog 74 #[.int .u64 n, .int .i64 16] w fun e w' => e = .returned (.string ⟨(Tryd.fmtL n).toArray⟩) /\ Below w.heap.size w w' := by
 go_enter Tryd.func74, Tryd.ntmps74
 go_wp2_with (go_at_call 87; refine (Tryd.fmtBits n _ hg hn).mono ?_; rintro e w' ⟨rfl, hb⟩)
 go_ret
 exact ⟨rfl, hb⟩
theorem Tryd.fmt (n : Nat) (w : World) (hg : w.cell? ⟨5, 15, none⟩ = some (.int .u8 4)) (hn : n < 65536) : Calls Tryd.prog 58 #[.int .u64 n, .int .i64 16] w fun e w' => e = .returned (.string ⟨(Tryd.fmtL n).toArray⟩) /\ Below w.heap.size w w' := by
 go_enter Tryd.func58, Tryd.ntmps58
 go_wp2_with (go_at_call 74; refine (Tryd.fmtInner n _ hg hn).mono ?_; rintro e w' ⟨rfl, hb⟩)
 go_ret
 exact ⟨rfl, hb⟩
theorem Tryd.extra105 : Builder.Extra Tryd.prog Tryd.lays105_ren := {
 sizeBuilder := by kernel_rfl
 liesBuilder := by kernel_rfl
 t5 := Tryd.underlying5
 a5 := Tryd.isAgg5
 z5 := Tryd.sizeOf5
 v5 := Tryd.zeroValue5
 infoByte := by kernel_rfl
 cellsByte := by kernel_rfl
 sizeByte := by kernel_rfl
 neB5 := by decide }
theorem Tryd.rep (c : Nat) (w : World) (hc : c <= 3) : Calls Tryd.prog 59 #[.string ⟨#[48]⟩, .int .i64 c] w fun e w' => e = .returned (.string ⟨(List.replicate c 48).toArray⟩) /\ Below w.heap.size w w' := by
 have h := Any.strings_Repeat Tryd.lays105 Tryd.extra105 ⟨#[48]⟩ c w (by omega) (by show 1 * c <= _; omega)
 have e : Lib.repeatL (⟨#[48]⟩ : ByteArray).data.toList c = List.replicate c 48 := by
  match c, hc with
  | 0, _ => rfl
  | 1, _ => rfl
  | 2, _ => rfl
  | 3, _ => rfl
 rw [e] at h
 exact h
def Tryd.hex4 (n : Nat) : List UInt8 := List.replicate (4 - (Tryd.fmtL n).length) 48 ++ Tryd.fmtL n
theorem Tryd.fmtL_len {n : Nat} : 1 <= (Tryd.fmtL n).length /\ (Tryd.fmtL n).length <= 4 := by
 unfold Tryd.fmtL
 split
 ·simp
 ·split
  ·simp
  ·split <;> simp
theorem Tryd.four (n : Nat) (w : World) (hg : w.cell? ⟨5, 15, none⟩ = some (.int .u8 4)) (hn : n < 65536) : Calls Tryd.prog 38 #[.int .i64 n] w fun e w' => e = .returned (.string ⟨(Tryd.hex4 n).toArray⟩) /\ Below w.heap.size w w' := by
 have hw : IntKind.u64.wrap (n : Int) = n := by rw [IntKind.wrap_u64]; omega
 obtain ⟨l1, l2⟩ := Tryd.fmtL_len (n := n)
 unfold Tryd.hex4
 generalize hL : Tryd.fmtL n = L at l1 l2
 have hf := fun w hg => Tryd.fmt n w hg hn
 rw [hL] at hf
 go_enter Tryd.func38, Tryd.ntmps38
 have hmax : max (4 - (L.length : Int)) 0 = ((4 - L.length : Nat) : Int) := by omega
 have hr := fun w => Tryd.rep (4 - L.length) w (by omega)
 rw [<- hmax] at hr
 clear hmax
 go_wp2_with (first | (go_at_call 58; refine (hf _ hg).mono ?_; rintro e w' ⟨rfl, hb⟩) | (go_at_call 59; refine (hr _).mono ?_; rintro e w' ⟨rfl, hb2⟩))
 go_ret
 refine ⟨?_, hb.trans (hb2.mono hb.size)⟩
 have e : (⟨Array.replicate (4 - L.length) 48⟩ : ByteArray) ++ ⟨L.toArray⟩ = ⟨(List.replicate (4 - L.length) 48 ++ L).toArray⟩ := by
  apply ByteArray.ext
  simp [ByteArray.data_append]
 rw [<- e]
 rfl
end Go.Proofs
namespace Go.Proofs.YtfgbfdlacnihkaaDoor.Po
open Go Go.Proofs Go.RowKit Go.Proofs.YtfgbfdlacnihkaaDoor.Sx

def dB64 : List Value := [0, 1, 56, 2, 57, 49, 28, 3, 61, 58, 42, 50, 38, 29, 17, 4, 62, 47, 59, 36, 45, 43, 51, 22, 53, 39, 33, 30, 24, 18, 12, 5, 63, 55, 48, 27, 60, 41, 37, 16, 46, 35, 44, 21, 52, 32, 23, 11, 54, 26, 40, 15, 34, 20, 31, 10, 25, 14, 19, 9, 13, 8, 7, 6].map fun n : Nat => .int .u8 (n : Int)
def gl (m : Int) : Gl := [[.int .i64 m], [], [], [], [], dB64]
variable {m : Int}
def byt (l : List Int) : List UInt8 := l.map fun x => UInt8.ofNat x.toNat
theorem byt_bytesI (s : ByteArray) : byt (bytesI s) = s.data.toList := by
 unfold byt bytesI
 rw [List.map_map]
 conv => rhs; rw [<- List.map_id s.data.toList]
 refine List.map_congr_left fun b _ => ?_
 show UInt8.ofNat (((b.toNat : Nat) : Int)).toNat = b
 rw [Int.toNat_natCast]
 exact UInt8.ofNat_toNat
def ubyt (l : List UInt8) : List Int := l.map fun b => (b.toNat : Int)
theorem encS_mk (l : List UInt8) : encS ⟨l.toArray⟩ = enc (ubyt l) := by
 unfold encS bytesI ubyt
 rfl
theorem below_keep {w w' : World} (h : Below w.heap.size w w') : Keep [] w w' := Keep.of_blocks h.os h.tape h.output h.size fun k hk => h.block k hk
theorem flat_str {ss : List Sh} {vs : List Value} {w : World} {is : List Int} {bs : List Bool} {ps : List Rg} (h : flatArgs (.val false [.str] :: ss) vs w = some (is, bs, ps)) :
  ∃ (s : ByteArray) (us : List Value) (js : List Int), vs = .string s :: us /\ is = encS s :: js /\ flatArgs ss us w = some (js, bs, ps) /\ InR .i64 s.size := by
 cases vs with
 | nil => simp [flatArgs] at h
 | cons v vs =>
  cases v with
  | string s =>
   by_cases hr : inR .i64 s.size = true
   ·cases hf : flatArgs ss vs w with
    | none => simp [flatArgs, flat1, flatC, hr, hf] at h
    | some p =>
     obtain ⟨i, b, q⟩ := p
     simp [flatArgs, flat1, flatC, hr, hf] at h
     obtain ⟨rfl, rfl, rfl⟩ := h
     exact ⟨s, vs, i, rfl, rfl, hf, inR_spec hr⟩
   ·simp [flatArgs, flat1, flatC, hr] at h
  | _ => simp [flatArgs, flat1, flatC] at h
theorem flat_nil {vs : List Value} {w : World} {is : List Int} {bs : List Bool} {ps : List Rg} (h : flatArgs [] vs w = some (is, bs, ps)) : vs = [] /\ is = [] /\ bs = [] /\ ps = [] := by
 cases vs with
 | nil => simp [flatArgs] at h; exact ⟨rfl, h.1, h.2.1, h.2.2⟩
 | cons v vs => simp [flatArgs] at h
theorem flat_str1 {vs : List Value} {w : World} {is : List Int} {bs : List Bool} {ps : List Rg} (h : flatArgs [.val false [.str]] vs w = some (is, bs, ps)) : ∃ s : ByteArray, vs = [.string s] /\ is = [encS s] /\ bs = [] /\ ps = [] /\ InR .i64 s.size := by
 obtain ⟨s, us, js, rfl, rfl, h, hs⟩ := flat_str h
 obtain ⟨rfl, rfl, rfl, rfl⟩ := flat_nil h
 exact ⟨s, rfl, rfl, rfl, rfl, hs⟩
theorem flat_str2 {vs : List Value} {w : World} {is : List Int} {bs : List Bool} {ps : List Rg} (h : flatArgs [.val false [.str], .val false [.str]] vs w = some (is, bs, ps)) : ∃ s t : ByteArray, vs = [.string s, .string t] /\ is = [encS s, encS t] /\ bs = [] /\ ps = [] /\ InR .i64 s.size /\ InR .i64 t.size := by
 obtain ⟨s, us, js, rfl, rfl, h, hs⟩ := flat_str h
 obtain ⟨t, rfl, rfl, rfl, rfl, ht⟩ := flat_str1 h
 exact ⟨s, t, rfl, rfl, rfl, rfl, hs, ht⟩
def s47 : Sum := { args := [.val false [.str], .val false [.str]], tup := false, res := [(false, [.int .i64])], pre := true }
def F47 : Fun := fun is _ => ([Lib.index (byt (dec (is.getD 0 0))) (byt (dec (is.getD 1 0)))], [decide ((dec (is.getD 0 0)).length < 4294967281)])
theorem c47 : Contract Tryd.prog (gl m) 47 s47 F47 := by
 intro vs w is bs ps hL hfl ha hz h1 h2 hpre
 obtain ⟨s, t, rfl, rfl, rfl, rfl, hs, ht⟩ := flat_str2 hfl
 have hF : F47 [encS s, encS t] [] = ([Lib.index s.data.toList t.data.toList], [decide (s.size < 4294967281)]) := by
  unfold F47
  simp only [List.getD_cons_zero, List.getD_cons_succ, encS_len]
  unfold encS
  rw [dec_enc, dec_enc, byt_bytesI, byt_bytesI]
 have hp := hpre rfl
 rw [hF] at hp ⊢
 have hsz : s.size < 4294967281 := of_decide_eq_true hp
 refine (Any.strings_Index Tryd.lays143 s t m w hsz ((hL 0 _ rfl).2 0 _ rfl).1).mono ?_
 rintro e w' ⟨rfl, rfl⟩
 have hr : inR .i64 (Lib.index s.data.toList t.data.toList) = true := by
  have a1 := Lib.index_ge s.data.toList t.data.toList
  have a2 := Lib.index_le s.data.toList t.data.toList
  have a3 : s.data.toList.length = s.size := by simp
  exact inR_mk ⟨by show (-9223372036854775808 : Int) <= _; omega, by show _ <= (9223372036854775807 : Int); omega⟩
 refine ⟨_, rfl, Keep.refl _ _, ⟨([Lib.index s.data.toList t.data.toList], []), ([], []), ?_, ?_, by simp, ?_⟩, fun r hr => ?_⟩
 ·simp [flatRes, s47, flat1, flatC, hr]
 ·rfl
 ·simp [hsz, s47]
 ·simp [resRgs, s47, rg1, rgC] at hr
def s17 : Sum := { args := [.val false [.str], .val false [.str]], tup := true, res := [(false, [.str]), (false, [.str]), (false, [.bool])], pre := true }
def cutP (is : List Int) : List UInt8 × List UInt8 × Bool := Lib.cut (byt (dec (is.getD 0 0))) (byt (dec (is.getD 1 0)))
def F17 : Fun := fun is _ => ([enc (ubyt (cutP is).1), enc (ubyt (cutP is).2.1)], [decide ((dec (is.getD 0 0)).length < 4294967281), (cutP is).2.2])
theorem cut_len (s t : List UInt8) : (Lib.cut s t).1.length <= s.length /\ (Lib.cut s t).2.1.length <= s.length := by
 unfold Lib.cut
 split
 ·simp only [List.length_take, List.length_drop]; omega
 ·simp
theorem c17 : Contract Tryd.prog (gl m) 17 s17 F17 := by
 intro vs w is bs ps hL hfl ha hz h1 h2 hpre
 obtain ⟨s, t, rfl, rfl, rfl, rfl, hs, ht⟩ := flat_str2 hfl
 have hC : cutP [encS s, encS t] = Lib.cut s.data.toList t.data.toList := by
  unfold cutP
  simp only [List.getD_cons_zero, List.getD_cons_succ]
  unfold encS
  rw [dec_enc, dec_enc, byt_bytesI, byt_bytesI]
 have hF : F17 [encS s, encS t] [] = ([enc (ubyt (Lib.cut s.data.toList t.data.toList).1), enc (ubyt (Lib.cut s.data.toList t.data.toList).2.1)], [decide (s.size < 4294967281), (Lib.cut s.data.toList t.data.toList).2.2]) := by
  unfold F17
  rw [hC]
  simp only [List.getD_cons_zero, encS_len]
 have hp := hpre rfl
 rw [hF] at hp ⊢
 have hsz : s.size < 4294967281 := of_decide_eq_true hp
 refine (Any.strings_Cut Tryd.lays145 s t m w hsz ((hL 0 _ rfl).2 0 _ rfl).1).mono ?_
 rintro e w' ⟨rfl, n, rfl⟩
 obtain ⟨l1, l2⟩ := cut_len s.data.toList t.data.toList
 have a3 : s.data.toList.length = s.size := by simp
 generalize Lib.cut s.data.toList t.data.toList = c at l1 l2
 have hr1 : inR .i64 ((⟨c.1.toArray⟩ : ByteArray).size : Int) = true := inR_mk ⟨by show (-9223372036854775808 : Int) <= _; omega, by
  show ((c.1.toArray.size : Nat) : Int) <= 9223372036854775807
  simp; omega⟩
 have hr2 : inR .i64 ((⟨c.2.1.toArray⟩ : ByteArray).size : Int) = true := inR_mk ⟨by show (-9223372036854775808 : Int) <= _; omega, by
  show ((c.2.1.toArray.size : Nat) : Int) <= 9223372036854775807
  simp; omega⟩
 refine ⟨_, rfl, Keep.of_blocks rfl rfl rfl (Nat.le_refl _) (fun _ _ => rfl), ⟨([enc (ubyt c.1), enc (ubyt c.2.1)], [c.2.2]), ([], []), ?_, ?_, by simp, ?_⟩, fun r hr => ?_⟩
 ·simp [flatRes, s17, flatTup, flat1, flatC, hr1, hr2, encS_mk]
 ·rfl
 ·simp [hsz, s17]
 ·simp [resRgs, s17, rgTup, rg1, rgC] at hr
def s32 : Sum := { args := [.val false [.str]], tup := true, res := [(false, [.int .i64]), (false, [.bool])], pre := false }
def numO (is : List Int) : Option Int := Tryd.num ⟨(byt (dec (is.getD 0 0))).toArray⟩
def F32 : Fun := fun is _ => ([(numO is).getD 0], [(numO is).isSome])
theorem numFrom_lt (s : ByteArray) : ∀ (k pos j : Nat) (n r : Int), 0 <= n -> n < 16 ^ j -> Tryd.numFrom s k pos n = some r -> 0 <= r /\ r < 16 ^ (j + k)
 | 0, pos, j, n, r, h0, h1, h => by
  rw [Tryd.numFrom] at h
  cases h
  exact ⟨h0, h1⟩
 | k + 1, pos, j, n, r, h0, h1, h => by
  rw [Tryd.numFrom] at h
  split at h
  ·split at h
   ·cases h
   ·rename_i hd
    have hl := Tryd.hexR_lt (Utf8.decode s pos).1
    have := numFrom_lt s k _ (j + 1) _ r (by omega) (by rw [Int.pow_succ]; omega) h
    rw [show j + (k + 1) = j + 1 + k by omega]
    exact this
  ·cases h
   have := Tryd.pow16 (show j <= j + (k + 1) by omega)
   exact ⟨h0, by omega⟩
theorem num_lt {s : ByteArray} {r : Int} (h : Tryd.num s = some r) : 0 <= r /\ r < 65536 := by
 unfold Tryd.num at h
 split at h
 ·cases h
 ·rename_i hs
  have := numFrom_lt s s.size 0 0 0 r (by omega) (by omega) h
  have h4 := Tryd.pow16 (show 0 + s.size <= 4 by omega)
  exact ⟨this.1, by omega⟩
theorem c32 : Contract Tryd.prog (gl m) 32 s32 F32 := by
 intro vs w is bs ps hL hfl ha hz h1 h2 hpre
 obtain ⟨s, rfl, rfl, rfl, rfl, hs⟩ := flat_str1 hfl
 have hC : numO [encS s] = Tryd.num s := by
  unfold numO
  simp only [List.getD_cons_zero]
  unfold encS
  rw [dec_enc, byt_bytesI]
 have hF : F32 [encS s] [] = ([(Tryd.num s).getD 0], [(Tryd.num s).isSome]) := by
  unfold F32
  rw [hC]
 rw [hF]
 refine (Tryd.number s w).mono ?_
 rintro e w' ⟨rfl, hb⟩
 have hr : inR .i64 ((Tryd.num s).getD 0) = true := by
  cases hn : Tryd.num s with
  | none => decide
  | some n =>
   have := num_lt hn
   exact inR_mk ⟨by show (-9223372036854775808 : Int) <= n; omega, by show n <= (9223372036854775807 : Int); omega⟩
 refine ⟨_, rfl, below_keep hb, ⟨([(Tryd.num s).getD 0], [(Tryd.num s).isSome]), ([], []), ?_, ?_, by simp, ?_⟩, fun r hr => ?_⟩
 ·cases hn : Tryd.num s with
  | none => simp [flatRes, s32, flatTup, flat1, flatC, Tryd.numV]; decide
  | some n => rw [hn] at hr; simp at hr; simp [flatRes, s32, flatTup, flat1, flatC, Tryd.numV, hr]
 ·rfl
 ·simp [s32]
 ·cases hn : Tryd.num s <;> rw [hn] at hr <;> simp [resRgs, s32, rgTup, rg1, rgC, Tryd.numV] at hr
theorem flat_int {ss : List Sh} {k : IntKind} {vs : List Value} {w : World} {is : List Int} {bs : List Bool} {ps : List Rg} (h : flatArgs (.val false [.int k] :: ss) vs w = some (is, bs, ps)) :
  ∃ (n : Int) (us : List Value) (js : List Int), vs = .int k n :: us /\ is = n :: js /\ flatArgs ss us w = some (js, bs, ps) /\ InR k n := by
 cases vs with
 | nil => simp [flatArgs] at h
 | cons v vs =>
  cases v with
  | int k' n =>
   by_cases hr : (k' == k && inR k n) = true
   ·cases hf : flatArgs ss vs w with
    | none => simp [flatArgs, flat1, flatC, hr, hf] at h
    | some p =>
     obtain ⟨i, b, q⟩ := p
     rw [Bool.and_eq_true, beq_iff_eq] at hr
     obtain ⟨rfl, hr⟩ := hr
     simp [flatArgs, flat1, flatC, hr, hf] at h
     obtain ⟨rfl, rfl, rfl⟩ := h
     exact ⟨n, vs, i, rfl, rfl, hf, inR_spec hr⟩
   ·simp [flatArgs, flat1, flatC, hr] at h
  | _ => simp [flatArgs, flat1, flatC] at h
def s38 : Sum := { args := [.val false [.int .i64]], tup := false, res := [(false, [.str])], pre := true }
def F38 : Fun := fun is _ => ([enc (ubyt (Tryd.hex4 (is.getD 0 0).toNat))], [decide (0 <= is.getD 0 0) && decide (is.getD 0 0 < 65536)])
theorem hex4_len (n : Nat) : (Tryd.hex4 n).length = 4 := by
 obtain ⟨l1, l2⟩ := Tryd.fmtL_len (n := n)
 unfold Tryd.hex4
 rw [List.length_append, List.length_replicate]
 omega
theorem c38 : Contract Tryd.prog (gl m) 38 s38 F38 := by
 intro vs w is bs ps hL hfl ha hz h1 h2 hpre
 obtain ⟨n, us, js, rfl, rfl, hfl, hn⟩ := flat_int hfl
 obtain ⟨rfl, rfl, rfl, rfl⟩ := flat_nil hfl
 have hp := hpre rfl
 have hp : (decide (0 <= n) && decide (n < 65536)) = true := hp
 rw [Bool.and_eq_true, decide_eq_true_eq, decide_eq_true_eq] at hp
 obtain ⟨k, rfl⟩ := Int.eq_ofNat_of_zero_le hp.1
 refine (Tryd.four k w ((hL 5 _ rfl).2 15 (.int .u8 4) rfl).1 (by omega)).mono ?_
 rintro e w' ⟨rfl, hb⟩
 have hr : inR .i64 ((⟨(Tryd.hex4 k).toArray⟩ : ByteArray).size : Int) = true := inR_mk (by
  show InR .i64 (((Tryd.hex4 k).toArray.size : Nat) : Int)
  rw [List.size_toArray, hex4_len]
  exact ⟨by decide, by decide⟩)
 refine ⟨_, rfl, below_keep hb, ⟨([enc (ubyt (Tryd.hex4 k))], []), ([], []), ?_, ?_, by simp [F38], ?_⟩, fun r hr => ?_⟩
 ·simp [flatRes, s38, flat1, flatC, hr, encS_mk]
 ·rfl
 ·simp [s38, F38]
 ·simp [resRgs, s38, rg1, rgC] at hr
end Go.Proofs.YtfgbfdlacnihkaaDoor.Po
namespace Go.Proofs.YtfgbfdlacnihkaaDoor.Sx
open Go Go.Shelf Go.RowKit Go.Lib
theorem wpList_append_run {P : Program} {w : World} {ops : Array Oper} {rest : List Oper} {o : Oper} {a : Act} {Q : Exit -> Act -> World -> Prop} (hgd : o.guard = none) (s x : Operand) (t : TypeId)
  (ho : o.op = .call { callee := .builtin .append, args := #[s, x], argTypes := #[t, t] }) {v' v1 v2 : Value} {w' : World} (h1 : a.eval s = v1) (h2 : a.eval x = v2) {ty : TypeId} (hty : o.type = ty)
  (hr : (Builtin.append_ #[t, t] ty #[v1, v2]).run P w = .ok v' w') (h : wpList P ops Q rest (a.put o.dst v') w') : wpList P ops Q (o :: rest) a w := by
 subst h1 h2 hty
 refine wpList_plain hgd fun next hK => ?_
 obtain ⟨dst, op, ty, pos, after, guard⟩ := o
 simp only at ho
 subst ho
 exact OpG.value (Post := fun v u => v = v' /\ u = w') (execOp_append hr) ⟨rfl, rfl⟩ next Q fun v u hv => by
  obtain ⟨rfl, rfl⟩ := hv
  exact hK _ _ h
section
variable {P : Program} {ρ : Go.Shelf.Ren} {ks : List CK} {bytes : Nat} {i : TypeInfo} {z : Value}
end
end Go.Proofs.YtfgbfdlacnihkaaDoor.Sx
namespace Go.Proofs
open Go.Shelf Go.RowKit Go.Lib
def Tryd.laysGrow_ren : Go.Shelf.Ren := ⟨fun | 4 => 42 | n => n, fun | 22 => 23 | 25 => 52 | 3 => 3 | 4 => 4 | 9 => 9 | 20 => 20 | 0 => 0 | 2 => 3 | n => n, fun | n => n⟩
theorem Tryd.laysGrow : Go.Proofs.Lays8.n4 Tryd.prog Tryd.laysGrow_ren := {
 mixed := by kernel_rfl
 f4 := ⟨Tryd.f42.name, by decide, Tryd.func42.trans (congrArg some (by kernel_rfl))⟩
 t0 := Tryd.underlying0
 a0 := Tryd.isAgg0
 z0 := Tryd.sizeOf0
 v0 := Tryd.zeroValue0
 t3 := Tryd.underlying3
 a3 := Tryd.isAgg3
 z3 := Tryd.sizeOf3
 v3 := Tryd.zeroValue3
 t4 := Tryd.underlying4
 a4 := Tryd.isAgg4
 z4 := Tryd.sizeOf4
 v4 := Tryd.zeroValue4
 t9 := Tryd.underlying9
 a9 := Tryd.isAgg9
 z9 := Tryd.sizeOf9
 v9 := Tryd.zeroValue9
 t20 := Tryd.underlying20
 a20 := Tryd.isAgg20
 z20 := Tryd.sizeOf20
 v20 := Tryd.zeroValue20
 t22 := Tryd.underlying23
 a22 := Tryd.isAgg23
 z22 := Tryd.sizeOf23
 v22 := Tryd.zeroValue23 }
theorem Tryd.grow0 (w : World) : Calls Tryd.prog 42 #[.slice none 0 0, .int .i64 0] w fun e w' => e = .returned (.slice none 0 0) /\ w' = w :=
 Any8.slices_Grow_room Tryd.laysGrow none 0 0 0 w (Nat.le_refl _) (by omega) (by omega) (Nat.le_refl _)
set_option maxHeartbeats 4000000 in
set_option maxRecDepth 1000000 in
theorem Tryd.concat_run (b o c0 n1 n2 c1 c2 : Nat) (p1 p2 : Option Addr) (w wg w1 w2 : World) (g g1 g2 : Value) (hn1 : n1 <= 2305843009213693952) (hn2 : n2 <= 2305843009213693952)
  (h1 : w.cell? ⟨b, o, none⟩ = some (.slice p1 n1 c1)) (h2 : w.cell? ⟨b, o + 1, none⟩ = some (.slice p2 n2 c2))
  (hG : Calls Tryd.prog 42 #[.slice none 0 0, .int .i64 ((n1 : Int) + (n2 : Int))] w fun e w' => e = .returned g /\ w' = wg)
  (h3 : wg.cell? ⟨b, o, none⟩ = some (.slice p1 n1 c1)) (h4 : w1.cell? ⟨b, o + 1, none⟩ = some (.slice p2 n2 c2))
  (hr1 : (Builtin.append_ #[23, 23] 23 #[g, .slice p1 n1 c1]).run Tryd.prog wg = .ok g1 w1) (hr2 : (Builtin.append_ #[23, 23] 23 #[g1, .slice p2 n2 c2]).run Tryd.prog w1 = .ok g2 w2) :
  Calls Tryd.prog 26 #[.slice (some ⟨b, o, none⟩) 2 c0] w fun e w' => e = .returned g2 /\ w' = w2 := by
 have A1 : Aside ((Builtin.append_ #[23, 23] 23 #[g, .slice p1 n1 c1]).run Tryd.prog wg = .ok g1 w1) := hr1
 have A2 : Aside ((Builtin.append_ #[23, 23] 23 #[g1, .slice p2 n2 c2]).run Tryd.prog w1 = .ok g2 w2) := hr2
 clear hr1 hr2
 have k1 : wrap64 (n1 : Int) = n1 := by unfold wrap64; omega
 have k2 : wrap64 ((n1 : Int) + (n2 : Int)) = (n1 : Int) + (n2 : Int) := by unfold wrap64; omega
 have k3 : ¬ (n1 : Int) < 0 := by omega
 have k4 : ¬ (n1 : Int) + (n2 : Int) < 0 := by omega
 go_enter Tryd.func26, Tryd.ntmps26
 go_wp2
 refine wp_loop_rounds 3 ?_
 rw [rounds_succ]
 go_wp2
 rw [rounds_succ]
 go_wp2
 rw [rounds_succ]
 go_wp2_with (go_at_call 42; refine hG.mono ?_; rintro e w' ⟨rfl, rfl⟩)
 refine wp_loop_rounds 3 ?_
 rw [rounds_succ]
 go_wp2_with (at_builtin; refine YtfgbfdlacnihkaaDoor.Sx.wpList_append_run rfl _ _ 23 rfl rfl rfl rfl A1.out ?_)
 rw [rounds_succ]
 go_wp2_with (at_builtin; refine YtfgbfdlacnihkaaDoor.Sx.wpList_append_run rfl _ _ 23 rfl rfl rfl rfl A2.out ?_)
 rw [rounds_succ]
 go_wp2
 go_ret
 exact ⟨rfl, rfl⟩
end Go.Proofs
namespace Go.Proofs.YtfgbfdlacnihkaaDoor.Sx
open Go Go.Shelf
section
variable {P : Program} {Φ : Funs} {gl : Gl} {H : Hnd}
end
end Go.Proofs.YtfgbfdlacnihkaaDoor.Sx
