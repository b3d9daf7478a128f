/-
  SX, part Kc: functions that are known at known arguments; a function of an octet, case by case. No condition.
-/
import Derived.Test.YtalnndmnnffnmaaGreatSxIp
import Derived.Test.YtalnndmnnffnmaaGreatSxT
set_option linter.unusedVariables false
set_option linter.unusedSimpArgs false
namespace Go.Proofs.YtalnndmnnffnmaaGreat.Sx
open Go

def constV : S → Option Value
  | .one false [.val v] => some v
  | .one false [.int k (.c n)] => some (.int k n)
  | .one false [.bool (.c b)] => some (.bool b)
  | _ => none
def constVs : List S → Option (List Value)
  | [] => some []
  | x :: xs => match constV x, constVs xs with
    | some v, some vs => some (v :: vs)
    | _, _ => none
theorem constVs_mt {β : Beta} {ρ : Env} : ∀ {xs : List S} {us vs : List Value}, constVs xs = some us → mtAll β ρ xs vs → vs = us
  | [], us, vs, h, hm => by
    simp only [constVs, Option.some.injEq] at h
    subst h
    cases vs with
    | nil => rfl
    | cons _ _ => exact hm.elim
  | x :: xs, us, vs, h, hm => by
    unfold constVs at h
    split at h
    · rename_i v us' h1 h2
      simp only [Option.some.injEq] at h
      subst h
      cases vs with
      | nil => exact hm.elim
      | cons u vs =>
        obtain ⟨m1, m2⟩ := hm
        rw [constVs_mt h2 m2]
        congr 1
        unfold constV at h1
        split at h1
        · simp only [Option.some.injEq] at h1
          subst h1
          exact (mt_cell rfl m1).1
        · simp only [Option.some.injEq] at h1
          subst h1
          exact (mt_int rfl m1).1
        · simp only [Option.some.injEq] at h1
          subst h1
          exact mt_bool rfl m1
        · cases h1
    · cases h
/-- Known functions: what they answer to which arguments. -/
abbrev Kn := Nat → List Value → Option Value
def KnOk (P : Program) (gl : Gl) (G : Kn) : Prop := ∀ f args v, G f args = some v → (∀ args w, (callFunc f args).run P w = .ok (.enter f args) w) ∧ ∀ w, Laid gl w → Calls P f args.toArray w fun e w' => e = .returned v ∧ w' = w
def hndG (G : Kn) (H : Hnd) : Hnd := fun f Γ hp xs => match (constVs xs).bind (G f) with
  | some v => pure { s := ofV v, w := [] }
  | none => H f Γ hp xs
theorem hndG_ok {P : Program} {Φ : Funs} {gl : Gl} {G : Kn} (hG : KnOk P gl G) {H : Hnd} (hH : HOk P Φ gl H) : HOk P Φ gl (hndG G H) := by
  intro f Γ hp xs ρ c res c' out he hg hΓ N R β w vs hm hh hb hN hGB hf
  unfold hndG at he
  cases hc : (constVs xs).bind (G f) with
  | none =>
    rw [hc] at he
    exact hH f Γ hp xs ρ c res c' out he hg hΓ N R β w vs hm hh hb hN hGB hf
  | some v =>
    rw [hc] at he
    have he := M.pure_inv he
    simp only [Prod.mk.injEq] at he
    obtain ⟨rfl, rfl, rfl⟩ := he
    cases hx : constVs xs with
    | none => rw [hx] at hc; simp at hc
    | some us =>
      rw [hx] at hc
      simp only [Option.bind_some] at hc
      have := constVs_mt hx hm
      subst this
      obtain ⟨h1, h2⟩ := hG f _ v hc
      exact ⟨h1, Calls.mono (h2 w hGB.1) fun e w' ⟨e1, e2⟩ => by
        subst e1 e2
        exact ⟨v, rfl, β, Step.refl hb _ _ _, ofV_mt v, fun p hp => by cases hp⟩⟩

/-! ### A function of an octet -/
def litsI : List A → Option (List Int)
  | [] => some []
  | .c k :: l => (litsI l).map (k :: ·)
  | _ => none
def litsB : List B → Option (List Bool)
  | [] => some []
  | .c k :: l => (litsB l).map (k :: ·)
  | _ => none
theorem litsI_spec {ρ : Env} : ∀ {l : List A} {r : List Int}, litsI l = some r → l.map (A.d ρ) = r
  | [], r, h => by simp only [litsI, Option.some.injEq] at h; subst h; rfl
  | .c k :: l, r, h => by
    unfold litsI at h
    cases hl : litsI l with
    | none => rw [hl] at h; simp at h
    | some t =>
      rw [hl] at h
      simp only [Option.map_some, Option.some.injEq] at h
      subst h
      simp [litsI_spec hl]
  | .v _ :: _, _, h => by simp [litsI] at h
theorem litsB_spec {ρ : Env} : ∀ {l : List B} {r : List Bool}, litsB l = some r → l.map (B.d ρ) = r
  | [], r, h => by simp only [litsB, Option.some.injEq] at h; subst h; rfl
  | .c k :: l, r, h => by
    unfold litsB at h
    cases hl : litsB l with
    | none => rw [hl] at h; simp at h
    | some t =>
      rw [hl] at h
      simp only [Option.map_some, Option.some.injEq] at h
      subst h
      simp [litsB_spec hl]
  | .v _ :: _, _, h => by simp [litsB] at h
def caseX (P : Program) (H : Hnd) (gl : Gl) (k : Ctl) (fn : Func) (cks : List CK) (n : Nat) : Option Fl :=
  match inlM P H gl k fn [] (fun _ => none) [.one false [.int .u8 (.c (.ofNat n))]] { i := 0, b := 0, id := gl.length } with
  | some (res, _, out) => if out.isEmpty then (match res.s with
      | .one true cs => match takeR gl.length 0 cks cs with
        | some (as, bs) => match litsI as, litsB bs with
          | some is, some bs => some (is, bs)
          | _, _ => none
        | none => none
      | _ => none) else none
  | none => none
def sum8 (cks : List CK) : Sum := { args := [.val false [.int .u8]], tup := false, res := [(true, cks)], pre := false }
theorem contract8 {P : Program} {Φ : Funs} {H : Hnd} {gl : Gl} (hH : HOk P Φ gl H) {f : Nat} {fn : Func} (hf : P.funcs[f]? = some fn) (hn : (fn.name == "runtime.NumGoroutine") = false) {k : Ctl} (hK : LoopsOk Φ k) {cks : List CK} {F : Nat → Fl}
    (h : ∀ n, n < 256 → caseX P H gl k fn cks n = some (F n)) : Contract P gl f (sum8 cks) (fun is _ => F (is.getD 0 0).toNat) := by
  intro vs w is bs ps hL hfl hap hfz hag hsl hpre
  have hin : ∃ n : Nat, n < 256 ∧ vs = [.int .u8 n] ∧ is = [(n : Int)] ∧ ps = [] := by
    match vs, hfl with
    | [], hfl => simp [sum8, flatArgs] at hfl
    | v :: u :: vs, hfl => simp [sum8, flatArgs] at hfl
    | [v], hfl =>
      simp only [sum8, flatArgs, flat1, Bool.false_eq_true, if_false] at hfl
      unfold flatC at hfl
      split at hfl
      · rename_i i1 b1 is' bs' ps' e1 e2
        simp only [Option.some.injEq, Prod.mk.injEq] at hfl e2
        obtain ⟨rfl, rfl, rfl⟩ := hfl
        obtain ⟨rfl, rfl, rfl⟩ := e2
        split at e1
        · rename_i k' n is bs hv
          split at e1
          · rename_i hc
            simp only [flatC, Option.some.injEq, Prod.mk.injEq] at hv e1
            obtain ⟨rfl, rfl⟩ := hv
            obtain ⟨rfl, rfl⟩ := e1
            simp only [Bool.and_eq_true, beq_iff_eq] at hc
            obtain ⟨rfl, hr⟩ := hc
            have hr := inR_spec hr
            unfold InR IntKind.min IntKind.max at hr
            simp [IntKind.signed, IntKind.bits] at hr
            obtain ⟨m, rfl⟩ := Int.eq_ofNat_of_zero_le hr.1
            exact ⟨m, by omega, rfl, rfl, rfl⟩
          · cases e1
        · cases e1
      · cases hfl
  obtain ⟨n, hn8, rfl, rfl, rfl⟩ := hin
  have hcx := h n hn8
  unfold caseX at hcx
  split at hcx
  · rename_i res c' out hrun
    split at hcx
    · rename_i hemp
      simp only [List.isEmpty_iff] at hemp
      subst hemp
      split at hcx
      · rename_i cs hcs
        split at hcx
        · rename_i as bs' htr
          split at hcx
          · rename_i is2 bs2 hli hlb
            simp only [Option.some.injEq] at hcx
            obtain ⟨ρ⟩ : Nonempty Env := ⟨{ i := fun _ => 0, b := fun _ => false }⟩
            obtain ⟨β, hβ⟩ : ∃ β : Beta, β = beta0 gl [] [] := ⟨_, rfl⟩
            have hinv : ∀ i r, β i = some r → ∃ us, gl[i]? = some us ∧ r = gRg i us := fun i r hi => by
              rw [hβ] at hi
              rcases beta0_inv hi with h | ⟨_, h⟩ | ⟨_, h⟩
              · exact h
              · simp at h
              · simp at h
            have hbo : BetaOk w.heap.size [] β w := by
              refine ⟨fun i j r q hij hi hj => ?_, fun i r hi => ?_, fun i r hi => ?_, fun i r ks l hi hs => ?_⟩
              · obtain ⟨_, _, rfl⟩ := hinv i r hi
                obtain ⟨_, _, rfl⟩ := hinv j q hj
                exact .inl ⟨rfl, rfl⟩
              · obtain ⟨us, hus, rfl⟩ := hinv i r hi
                exact (hL i us hus).1
              · obtain ⟨_, _, rfl⟩ := hinv i r hi
                exact .inl rfl
              · obtain ⟨_, _, rfl⟩ := hinv i r hi
                cases hs
            have hm : mtAll β ρ [.one false [.int .u8 (.c (.ofNat n))]] [.int .u8 n] := by
              refine ⟨⟨_, rfl, rfl, ?_⟩, trivial⟩
              unfold InR IntKind.min IntKind.max
              simp [IntKind.signed, IntKind.bits]
              omega
            obtain ⟨_, hcalls⟩ := inl_ok hH hf hn hK hrun Good.nil (Γ := []) rfl hm (fun id b hb => by cases hb) hbo (Nat.le_refl _) ⟨hL, fun g us hg => by rw [hβ]; exact beta0_gl hg⟩ (fun i h1 h2 => by
              cases hx : β i with
              | none => rfl
              | some r =>
                obtain ⟨us, hus, _⟩ := hinv i r hx
                have := (List.getElem?_eq_some_iff.1 hus).1
                simp only at h1
                omega)
            refine Calls.mono hcalls fun e w' ⟨v, he, β', hst, hsm, _⟩ => ⟨v, he, ?_, ?_⟩
            · obtain ⟨W, hW, hk⟩ := hst.kp
              have : W = [] := by
                rw [List.eq_nil_iff_forall_not_mem]
                intro r hr
                obtain ⟨id, _, hid, hro, _⟩ := hW r hr
                obtain ⟨_, _, rfl⟩ := hinv id r hid
                cases hro
              rw [this] at hk
              exact hk
            · rw [hcs] at hsm
              obtain ⟨us, rfl, hus⟩ := hsm
              have hflt := takeR_flat (ps := []) (np := 0) rfl (fun k r hk => by simp at hk) htr hus
              refine ⟨(is2, bs2), ([], []), ?_, rfl, ?_, ?_⟩
              · show flat1 [] true cks (.agg us) = _
                unfold flat1
                simp only [if_true]
                rw [hflt, litsI_spec hli, litsB_spec hlb]
              · simp [← hcx]
              · simp [sum8, ← hcx]
          · cases hcx
        · cases hcx
      · cases hcx
    · cases hcx
  · cases hcx
def flEq (a : Option Fl) (b : Fl) : Bool := match a with | some x => x.1 == b.1 && x.2 == b.2 | none => false
theorem flEq_spec {a : Option Fl} {b : Fl} (h : flEq a b = true) : a = some b := by
  unfold flEq at h
  split at h
  · rename_i x
    simp only [Bool.and_eq_true, beq_iff_eq] at h
    obtain ⟨h1, h2⟩ := h
    obtain ⟨x1, x2⟩ := x
    simp only at h1 h2
    rw [h1, h2]
  · cases h
theorem all8 {P : Program} {H : Hnd} {gl : Gl} {k : Ctl} {fn : Func} {cks : List CK} {F : Nat → Fl} (h : allR (fun n => flEq (caseX P H gl k fn cks n) (F n)) 8 0 = true) : ∀ n, n < 256 → caseX P H gl k fn cks n = some (F n) :=
  fun n hn => flEq_spec (allR_spec h n (Nat.zero_le _) (by simpa using hn))
end Go.Proofs.YtalnndmnnffnmaaGreat.Sx
