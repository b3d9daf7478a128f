/-
  SX, part I: calls by contract. No condition.
-/
import Derived.Test.YtalnndmnnffnmaaGreatSxH
set_option linter.unusedVariables false
set_option linter.unusedSimpArgs false
namespace Go.Proofs.YtalnndmnnffnmaaGreat.Sx
open Go

abbrev Fl := List Int × List Bool
/-! ### What was emitted, reckoned -/
def envOf (is : List Int) (bs : List Bool) : Env := { i := fun n => is.getD n 0, b := fun n => bs.getD n false }
def padTo {α : Type} (d : α) : Nat → List α → List α
  | 0, _ => []
  | n + 1, [] => d :: padTo d n []
  | n + 1, x :: l => x :: padTo d n l
def evEm (Φ : Funs) : List Em → List Int → List Bool → Fl
  | [], is, bs => (is, bs)
  | .di _ r :: l, is, bs => evEm Φ l (is ++ [r.d (envOf is bs)]) bs
  | .db _ r :: l, is, bs => evEm Φ l is (bs ++ [r.d (envOf is bs)])
  | .call f ai ab _ ni _ nb :: l, is, bs =>
    let o := Φ f (ai.map (A.d (envOf is bs))) (ab.map (B.d (envOf is bs)))
    evEm Φ l (is ++ padTo 0 ni o.1) (bs ++ padTo false nb o.2)
  | .ob _ _ :: l, is, bs => evEm Φ l is bs
def obAll (ρ : Env) (l : List Em) : Bool := l.all fun | .ob g b => !(Gd.d ρ g) || b.d ρ | _ => true

/-- A function, as the executor tells it: what was emitted, and the answers. -/
structure Smry where
  em : List Em
  ri : List A
  rb : List B
def Smry.run (Φ : Funs) (pre : Bool) (S : Smry) : Fun := fun is bs =>
  let p := evEm Φ S.em is bs
  let ρ := envOf p.1 p.2
  (S.ri.map (A.d ρ), (if pre then [obAll ρ S.em] else []) ++ S.rb.map (B.d ρ))
/-- It calls nothing. -/
def Fun0 : Funs := fun _ _ _ => ([], [])

/-- An argument's shape: a value's cells; an address of such cells. -/
inductive Sh where
  | val (agg : Bool) (l : List CK)
  | ptr (l : List CK)
  | sli (ks : List CK)

/-- A function's shape: its arguments, its results, whether its first answer tells that it may be called. -/
structure Sum where
  args : List Sh
  tup : Bool
  res : List (Bool × List CK)
  pre : Bool
  sl : Option (IntKind × List Int) := none
  inl : Option Smry := none

def flatC (ps : List Rg) : List CK → List Value → Option Fl
  | [], [] => some ([], [])
  | .int k :: l, v :: vs => match v, flatC ps l vs with
    | .int k' n, some (is, bs) => if k' == k && inR k n then some (n :: is, bs) else none
    | _, _ => none
  | .bool :: l, v :: vs => match v, flatC ps l vs with
    | .bool b, some (is, bs) => some (is, b :: bs)
    | _, _ => none
  | .pt k o :: l, v :: vs => match v, ps[k]?, flatC ps l vs with
    | .pointer (some a), some r, some (is, bs) => if a = ⟨r.blk, r.off + o, none⟩ then some (is, bs) else none
    | _, _, _ => none
  | .str :: l, v :: vs => match v, flatC ps l vs with
    | .string s, some (is, bs) => if inR .i64 s.size then some (encS s :: is, bs) else none
    | _, _ => none
  | _, _ => none

def flat1 (ps : List Rg) (agg : Bool) (l : List CK) (v : Value) : Option Fl :=
  if agg then match v with | .agg vs => flatC ps l vs.toList | _ => none
  else match l with | [c] => flatC ps [c] [v] | _ => none

def readCells (w : World) (b : Nat) : Nat → Nat → Option (List Value)
  | _, 0 => some []
  | o, n + 1 => match w.cell? ⟨b, o, none⟩, readCells w b (o + 1) n with
    | some v, some vs => some (v :: vs)
    | _, _ => none

/-- A slice's elements, as numbers. -/
def decV : CK → Value → Option Int
  | .int k, .int k' n => if k' == k && inR k n then some n else none
  | .bool, .bool b => some (if b then 1 else 0)
  | .str, .string s => if inR .i64 s.size then some (encS s) else none
  | _, _ => none
def decVs (ks : List CK) : Nat → List Value → Option (List Int)
  | _, [] => some []
  | j, v :: vs => match ks[j % ks.length]?, decVs ks (j + 1) vs with
    | some ck, some l => (decV ck v).map (· :: l)
    | _, _ => none
def flatSl (w : World) (ks : List CK) : Value → Option (List Int × Int × Option Rg)
  | .slice p len cap => if len == 0 then some ([], 0, none) else match p with
    | some ⟨b, o, none⟩ => if inR .i64 len then match (readCells w b o (len * ks.length)).bind (decVs ks 0) with
        | some l => some (l, len, some { blk := b, off := o, len := len * ks.length, ro := true, sq := some (ks, l) })
        | none => none
      else none
    | _ => none
  | _ => none

def flatArgs : List Sh → List Value → World → Option (List Int × List Bool × List Rg)
  | [], [], _ => some ([], [], [])
  | .val agg l :: ss, v :: vs, w => match flat1 [] agg l v, flatArgs ss vs w with
    | some (i, b), some (is, bs, ps) => some (i ++ is, b ++ bs, ps)
    | _, _ => none
  | .ptr l :: ss, v :: vs, w => match v, flatArgs ss vs w with
    | .pointer (some ⟨b, o, none⟩), some (is, bs, ps) => match (readCells w b o l.length).bind (flatC [] l) with
      | some (i, bb) => some (i ++ is, bb ++ bs, { blk := b, off := o, len := l.length, ro := false } :: ps)
      | none => none
    | _, _ => none
  | .sli ks :: ss, v :: vs, w => match flatSl w ks v, flatArgs ss vs w with
    | some (l, n, _), some (is, bs, ps) => some (enc l :: n :: is, bs, ps)
    | _, _ => none
  | _, _, _ => none
/-- Where slices that are handed in lie. -/
def sliRgs : List Sh → List Value → World → List (Option Rg)
  | .sli ks :: ss, v :: vs, w => (match flatSl w ks v with | some (_, _, r) => r | none => none) :: sliRgs ss vs w
  | _ :: ss, _ :: vs, w => sliRgs ss vs w
  | _, _, _ => []
def nSli : List Sh → Nat
  | [] => 0
  | .sli _ :: ss => nSli ss + 1
  | _ :: ss => nSli ss

def ptrShapes : List Sh → List (List CK)
  | [] => []
  | .sli _ :: ss => ptrShapes ss
  | .ptr l :: ss => l :: ptrShapes ss
  | .val _ _ :: ss => ptrShapes ss

def flatPs (w : World) : List (List CK) → List Rg → Option Fl
  | [], [] => some ([], [])
  | l :: ls, r :: rs => match (readCells w r.blk r.off l.length).bind (flatC [] l), flatPs w ls rs with
    | some (i, b), some (is, bs) => some (i ++ is, b ++ bs)
    | _, _ => none
  | _, _ => none

def flatTup (ps : List Rg) : List (Bool × List CK) → List Value → Option Fl
  | [], [] => some ([], [])
  | p :: l, v :: vs => match flat1 ps p.1 p.2 v, flatTup ps l vs with
    | some (i, b), some (is, bs) => some (i ++ is, b ++ bs)
    | _, _ => none
  | _, _ => none
def flatRes (ps : List Rg) (s : Sum) (v : Value) : Option Fl :=
  if s.tup then match v with | .tuple vs => flatTup ps s.res vs.toList | _ => none
  else match s.res with | [p] => flat1 ps p.1 p.2 v | _ => none

def apartL : List Rg → Prop
  | [] => True
  | r :: rs => (∀ q, q ∈ rs → r.apart q) ∧ apartL rs
def frzL (ps : List Rg) (w : World) : Prop := ∀ r, r ∈ ps → ∀ j, j < r.len → w.frozen? ⟨r.blk, r.off + j, none⟩ = false

/-- What a call comes to. -/
def OutOk (s : Sum) (ps : List Rg) (v : Value) (w' : World) (o : Fl) : Prop :=
  ∃ r p, flatRes ps s v = some r ∧ flatPs w' (ptrShapes s.args) ps = some p ∧ o.1 = r.1 ++ p.1 ∧ (if s.pre then o.2.tail else o.2) = r.2 ++ p.2

/-- The package-level tables: what the first variables hold; where they lie; that they are laid. -/
abbrev Gl := List (List Value)
def gRg (g : Nat) (vs : List Value) : Rg := { blk := g, off := 0, len := vs.length, ro := true }
def Laid (gl : Gl) (w : World) : Prop := ∀ (g : Nat) (vs : List Value), gl[g]? = some vs → g < w.heap.size ∧ ∀ (j : Nat) (v : Value), vs[j]? = some v → w.cell? ⟨g, j, none⟩ = some v ∧ oneCell v = true
def GB (gl : Gl) (β : Beta) (w : World) : Prop := Laid gl w ∧ ∀ (g : Nat) (vs : List Value), gl[g]? = some vs → β g = some (gRg g vs)

/-- A function's contract: what it answers is what 'F' says, of its arguments' numbers and bools; all else stays. -/
def Contract (P : Program) (gl : Gl) (f : Nat) (s : Sum) (F : Fun) : Prop :=
  ∀ (vs : List Value) (w : World) (is : List Int) (bs : List Bool) (ps : List Rg), Laid gl w → flatArgs s.args vs w = some (is, bs, ps) → apartL ps → frzL ps w →
    (∀ q, q ∈ ps → ∀ (g : Nat) (vs : List Value), gl[g]? = some vs → q.apart (gRg g vs)) →
    (∀ q, q ∈ ps → ∀ r, some r ∈ sliRgs s.args vs w → q.apart r) →
    (s.pre = true → (F is bs).2.headD false = true) →
    Calls P f vs.toArray w fun e w' => ∃ v, e = .returned v ∧ Keep ps w w' ∧ OutOk s ps v w' (F is bs)

/-- A function without arguments that answers a new slice of known numbers. -/
def TabContract (P : Program) (gl : Gl) (f : Nat) (p : IntKind × List Int) : Prop :=
  ∀ (w : World), Laid gl w → Calls P f #[] w fun e w' => ∃ b o, e = .returned (.slice (some ⟨b, o, none⟩) p.2.length p.2.length) ∧ Keep [] w w' ∧ w.heap.size ≤ b ∧ b < w'.heap.size ∧
    ∀ (j : Nat) (v : Int), p.2[j]? = some v → w'.cell? ⟨b, o + j, none⟩ = some (.int p.1 v) ∧ InR p.1 v

/-! ### What is known, taken as numbers and bools -/
def takeC : List CK → List C → Option (List A × List B)
  | [], [] => some ([], [])
  | .int k :: l, .int k' a :: cs => match takeC l cs with
    | some (as, bs) => if k' == k then some (a :: as, bs) else none
    | none => none
  | .bool :: l, .bool b :: cs => match takeC l cs with
    | some (as, bs) => some (as, b :: bs)
    | none => none
  | .str :: l, c :: cs => match asStr c, takeC l cs with
    | some q, some (as, bs) => some (q :: as, bs)
    | _, _ => none
  | _, _ => none
theorem inR_mk {k : IntKind} {n : Int} (h : InR k n) : inR k n = true := by
  unfold inR; unfold InR at h; simp [h.1, h.2]
theorem takeC_flat {β : Beta} {ρ : Env} {ps : List Rg} : ∀ {l : List CK} {cs : List C} {as : List A} {bs : List B} {vs : List Value}, takeC l cs = some (as, bs) → mtL β ρ cs vs → flatC ps l vs = some (as.map (A.d ρ), bs.map (B.d ρ))
  | [], [], as, bs, vs, h, hm => by
    simp only [takeC, Option.some.injEq, Prod.mk.injEq] at h
    obtain ⟨rfl, rfl⟩ := h
    cases vs with
    | nil => rfl
    | cons _ _ => exact hm.elim
  | .int k :: l, .int k' a :: cs, as, bs, vs, h, hm => by
    cases vs with
    | nil => exact hm.elim
    | cons v vs =>
      obtain ⟨h1, h2⟩ := hm
      obtain ⟨rfl, h3⟩ := h1
      unfold takeC at h
      split at h
      · rename_i as' bs' ht
        split at h
        · rename_i hk
          simp only [beq_iff_eq] at hk
          subst hk
          simp only [Option.some.injEq, Prod.mk.injEq] at h
          obtain ⟨rfl, rfl⟩ := h
          unfold flatC
          rw [takeC_flat (ps := ps) ht h2]
          simp [inR_mk h3]
        · cases h
      · cases h
  | .bool :: l, .bool b :: cs, as, bs, vs, h, hm => by
    cases vs with
    | nil => exact hm.elim
    | cons v vs =>
      obtain ⟨h1, h2⟩ := hm
      have h1 : v = .bool (b.d ρ) := h1
      subst h1
      unfold takeC at h
      split at h
      · rename_i as' bs' ht
        simp only [Option.some.injEq, Prod.mk.injEq] at h
        obtain ⟨rfl, rfl⟩ := h
        unfold flatC
        rw [takeC_flat (ps := ps) ht h2]
        simp
      · cases h
  | .str :: l, c :: cs, as, bs, vs, h, hm => by
    cases vs with
    | nil => exact hm.elim
    | cons v vs =>
      obtain ⟨h1, h2⟩ := hm
      unfold takeC at h
      split at h
      · rename_i q as' bs' hq ht
        simp only [Option.some.injEq, Prod.mk.injEq] at h
        obtain ⟨rfl, rfl⟩ := h
        obtain ⟨s, rfl, e1, e2⟩ := asStr_mt hq h1
        unfold flatC
        rw [takeC_flat (ps := ps) ht h2]
        simp [inR_mk e2, e1]
      · cases h
  | .str :: _, [], _, _, _, h, _ => by simp [takeC] at h
  | [], _ :: _, _, _, _, h, _ => by simp [takeC] at h
  | .int _ :: _, .str _ :: _, _, _, _, h, _ => by simp [takeC] at h
  | .int _ :: _, .fn _ _ :: _, _, _, _, h, _ => by simp [takeC] at h
  | .int _ :: _, .mp _ :: _, _, _, _, h, _ => by simp [takeC] at h
  | .bool :: _, .str _ :: _, _, _, _, h, _ => by simp [takeC] at h
  | .bool :: _, .fn _ _ :: _, _, _, _, h, _ => by simp [takeC] at h
  | .bool :: _, .mp _ :: _, _, _, _, h, _ => by simp [takeC] at h
  | .int _ :: _, [], _, _, _, h, _ => by simp [takeC] at h
  | .bool :: _, [], _, _, _, h, _ => by simp [takeC] at h
  | .pt _ _ :: _, _, _, _, _, h, _ => by simp [takeC] at h
  | .int _ :: _, .bool _ :: _, _, _, _, h, _ => by simp [takeC] at h
  | .int _ :: _, .ptr _ _ _ :: _, _, _, _, h, _ => by simp [takeC] at h
  | .int _ :: _, .pix _ _ _ _ _ _ :: _, _, _, _, h, _ => by simp [takeC] at h
  | .int _ :: _, .sli _ _ _ _ :: _, _, _, _, h, _ => by simp [takeC] at h
  | .int _ :: _, .slx _ _ _ _ :: _, _, _, _, h, _ => by simp [takeC] at h
  | .int _ :: _, .pxq _ _ _ _ _ :: _, _, _, _, h, _ => by simp [takeC] at h
  | .int _ :: _, .val _ :: _, _, _, _, h, _ => by simp [takeC] at h
  | .int _ :: _, .junk :: _, _, _, _, h, _ => by simp [takeC] at h
  | .bool :: _, .int _ _ :: _, _, _, _, h, _ => by simp [takeC] at h
  | .bool :: _, .ptr _ _ _ :: _, _, _, _, h, _ => by simp [takeC] at h
  | .bool :: _, .pix _ _ _ _ _ _ :: _, _, _, _, h, _ => by simp [takeC] at h
  | .bool :: _, .sli _ _ _ _ :: _, _, _, _, h, _ => by simp [takeC] at h
  | .bool :: _, .slx _ _ _ _ :: _, _, _, _, h, _ => by simp [takeC] at h
  | .bool :: _, .pxq _ _ _ _ _ :: _, _, _, _, h, _ => by simp [takeC] at h
  | .bool :: _, .val _ :: _, _, _, _, h, _ => by simp [takeC] at h
  | .bool :: _, .junk :: _, _, _, _, h, _ => by simp [takeC] at h

/-- Cells of new numbers and bools. -/
def freshC (FI : Nat → A) (FB : Nat → B) (pp : List (Nat × Nat)) : List CK → Nat → Nat → List C
  | [], _, _ => []
  | .int k :: l, i, b => .int k (FI i) :: freshC FI FB pp l (i + 1) b
  | .bool :: l, i, b => .bool (FB b) :: freshC FI FB pp l i (b + 1)
  | .str :: l, i, b => .str (FI i) :: freshC FI FB pp l (i + 1) b
  | .pt k o :: l, i, b => (match pp[k]? with | some (id, off) => .ptr [] id (off + o) | none => .junk) :: freshC FI FB pp l i b
def nI : List CK → Nat
  | [] => 0
  | .int _ :: l => nI l + 1
  | .str :: l => nI l + 1
  | _ :: l => nI l
def nB : List CK → Nat
  | [] => 0
  | .bool :: l => nB l + 1
  | _ :: l => nB l
theorem flatC_len {ps : List Rg} : ∀ {l : List CK} {vs : List Value} {f : Fl}, flatC ps l vs = some f → f.1.length = nI l ∧ f.2.length = nB l ∧ vs.length = l.length
  | [], [], f, h => by simp [flatC] at h; subst h; simp [nI, nB]
  | [], _ :: _, f, h => by simp [flatC] at h
  | .int k :: l, [], f, h => by simp [flatC] at h
  | .bool :: l, [], f, h => by simp [flatC] at h
  | .pt _ _ :: l, [], f, h => by simp [flatC] at h
  | .str :: l, [], f, h => by simp [flatC] at h
  | .str :: l, v :: vs, f, h => by
    unfold flatC at h
    split at h
    · rename_i s is bs h2
      split at h
      · simp only [Option.some.injEq] at h
        subst h
        have := flatC_len h2
        simp only [nI, nB, List.length_cons] at this ⊢
        omega
      · cases h
    · cases h
  | .int k :: l, v :: vs, f, h => by
    unfold flatC at h
    split at h
    · rename_i k' n is bs h2
      split at h
      · simp only [Option.some.injEq] at h
        subst h
        have := flatC_len h2
        simp only [nI, nB, List.length_cons] at this ⊢
        omega
      · cases h
    · cases h
  | .bool :: l, v :: vs, f, h => by
    unfold flatC at h
    split at h
    · rename_i b is bs h2
      simp only [Option.some.injEq] at h
      subst h
      have := flatC_len h2
      simp only [nI, nB, List.length_cons] at this ⊢
      omega
    · cases h
  | .pt k o :: l, v :: vs, f, h => by
    unfold flatC at h
    split at h
    · rename_i a r is bs h1 h2
      split at h
      · simp only [Option.some.injEq] at h
        subst h
        have := flatC_len h2
        simp only [nI, nB, List.length_cons] at this ⊢
        omega
      · cases h
    · cases h
/-- Addresses of the address arguments. -/
def ppOk (β : Beta) : List (Nat × Nat) → List Rg → Prop
  | [], [] => True
  | p :: pp, r :: ps => (∃ q, β p.1 = some q ∧ q.blk = r.blk ∧ q.off + p.2 = r.off) ∧ ppOk β pp ps
  | _, _ => False
theorem ppOk_get {β : Beta} : ∀ {pp : List (Nat × Nat)} {ps : List Rg}, ppOk β pp ps → ∀ {k : Nat} {r : Rg}, ps[k]? = some r → ∃ p q, pp[k]? = some p ∧ β p.1 = some q ∧ q.blk = r.blk ∧ q.off + p.2 = r.off
  | [], [], _, k, r, h => by simp at h
  | p :: pp, q :: ps, ⟨h1, h2⟩, k, r, h => by
    cases k with
    | zero => simp at h; subst h; obtain ⟨q', hq⟩ := h1; exact ⟨p, q', by simp, hq⟩
    | succ k => simp at h; simpa using ppOk_get h2 h
theorem freshC_mt {FI : Nat → A} {FB : Nat → B} {β : Beta} {ρ : Env} {ps : List Rg} {pp : List (Nat × Nat)} (hpp : ppOk β pp ps) : ∀ {l : List CK} {i b : Nat} {vs : List Value} {f : Fl}, flatC ps l vs = some f →
    (∀ j, j < nI l → (FI (i + j)).d ρ = f.1.getD j 0) → (∀ j, j < nB l → (FB (b + j)).d ρ = f.2.getD j false) → mtL β ρ (freshC FI FB pp l i b) vs
  | [], i, b, [], f, h, _, _ => trivial
  | [], i, b, _ :: _, f, h, _, _ => by simp [flatC] at h
  | .int k :: l, i, b, [], f, h, _, _ => by simp [flatC] at h
  | .bool :: l, i, b, [], f, h, _, _ => by simp [flatC] at h
  | .pt _ _ :: l, i, b, [], f, h, _, _ => by simp [flatC] at h
  | .str :: l, i, b, [], f, h, _, _ => by simp [flatC] at h
  | .str :: l, i, b, v :: vs, f, h, h1, h2 => by
    unfold flatC at h
    split at h
    · rename_i s is bs hf
      split at h
      · rename_i hc
        simp only [Option.some.injEq] at h
        subst h
        have e0 := h1 0 (by simp [nI])
        simp only [Nat.add_zero, List.getD_cons_zero] at e0
        refine ⟨⟨s, rfl, e0, inR_spec hc⟩, freshC_mt hpp hf (fun j hj => ?_) (fun j hj => ?_)⟩
        · have := h1 (j + 1) (by simp [nI]; omega)
          rw [show i + 1 + j = i + (j + 1) by omega, this]
          simp
        · exact h2 j (by simpa [nB] using hj)
      · cases h
    · cases h
  | .int k :: l, i, b, v :: vs, f, h, h1, h2 => by
    unfold flatC at h
    split at h
    · rename_i k' n is bs hf
      split at h
      · rename_i hc
        simp only [Bool.and_eq_true, beq_iff_eq] at hc
        obtain ⟨rfl, hr⟩ := hc
        simp only [Option.some.injEq] at h
        subst h
        have e0 := h1 0 (by simp [nI])
        simp only [Nat.add_zero, List.getD_cons_zero] at e0
        refine ⟨⟨?_, ?_⟩, freshC_mt hpp hf (fun j hj => ?_) (fun j hj => ?_)⟩
        · simp [e0]
        · simp only [e0]; exact inR_spec hr
        · have := h1 (j + 1) (by simp [nI]; omega)
          rw [show i + 1 + j = i + (j + 1) by omega, this]
          simp
        · exact h2 j (by simpa [nB] using hj)
      · cases h
    · cases h
  | .bool :: l, i, b, v :: vs, f, h, h1, h2 => by
    unfold flatC at h
    split at h
    · rename_i x is bs hf
      simp only [Option.some.injEq] at h
      subst h
      have e0 := h2 0 (by simp [nB])
      simp only [Nat.add_zero, List.getD_cons_zero] at e0
      refine ⟨?_, freshC_mt hpp hf (fun j hj => h1 j (by simpa [nI] using hj)) (fun j hj => ?_)⟩
      · show Value.bool x = .bool ((FB b).d ρ)
        simp [e0]
      · have := h2 (j + 1) (by simp [nB]; omega)
        rw [show b + 1 + j = b + (j + 1) by omega, this]
        simp
    · cases h
  | .pt k o :: l, i, b, v :: vs, f, h, h1, h2 => by
    unfold flatC at h
    split at h
    · rename_i a r is bs hr hf
      split at h
      · rename_i ha
        simp only [Option.some.injEq] at h
        subst h
        obtain ⟨p, q, hp, hq, hq1, hq2⟩ := ppOk_get hpp hr
        refine ⟨?_, freshC_mt hpp hf (fun j hj => h1 j (by simpa [nI] using hj)) (fun j hj => h2 j (by simpa [nB] using hj))⟩
        rw [hp]
        refine ⟨q, hq, ?_⟩
        subst ha
        simp only [pick]
        rw [hq1, ← hq2, Nat.add_assoc]
      · cases h
    · cases h
theorem flatC_oneCell {ps : List Rg} : ∀ {l : List CK} {vs : List Value} {f : Fl}, flatC ps l vs = some f → ∀ v, v ∈ vs → oneCell v = true
  | [], [], f, h, v, hv => by cases hv
  | [], _ :: _, f, h, _, _ => by simp [flatC] at h
  | .int k :: l, [], f, h, _, _ => by simp [flatC] at h
  | .bool :: l, [], f, h, _, _ => by simp [flatC] at h
  | .pt _ _ :: l, [], f, h, _, _ => by simp [flatC] at h
  | .str :: l, [], f, h, _, _ => by simp [flatC] at h
  | .str :: l, u :: vs, f, h, v, hv => by
    unfold flatC at h
    split at h
    · rename_i s is bs h2
      rcases List.mem_cons.1 hv with rfl | hv
      · rfl
      · split at h
        · exact flatC_oneCell h2 v hv
        · cases h
    · cases h
  | .int k :: l, u :: vs, f, h, v, hv => by
    unfold flatC at h
    split at h
    · rename_i k' n is bs h2
      rcases List.mem_cons.1 hv with rfl | hv
      · rfl
      · exact flatC_oneCell h2 v hv
    · cases h
  | .bool :: l, u :: vs, f, h, v, hv => by
    unfold flatC at h
    split at h
    · rename_i b is bs h2
      rcases List.mem_cons.1 hv with rfl | hv
      · rfl
      · exact flatC_oneCell h2 v hv
    · cases h
  | .pt k o :: l, u :: vs, f, h, v, hv => by
    unfold flatC at h
    split at h
    · rename_i a r is bs h1 h2
      rcases List.mem_cons.1 hv with rfl | hv
      · rfl
      · exact flatC_oneCell h2 v hv
    · cases h
theorem readCells_get {w : World} {b : Nat} : ∀ {n o : Nat} {vs : List Value}, readCells w b o n = some vs → vs.length = n ∧ ∀ j v, vs[j]? = some v → w.cell? ⟨b, o + j, none⟩ = some v
  | 0, o, vs, h => by simp [readCells] at h; subst h; simp
  | n + 1, o, vs, h => by
    unfold readCells at h
    split at h
    · rename_i v us h1 h2
      simp only [Option.some.injEq] at h
      subst h
      obtain ⟨g1, g2⟩ := readCells_get h2
      refine ⟨by simp [g1], fun j u hj => ?_⟩
      cases j with
      | zero => simp at hj; subst hj; exact h1
      | succ j => simp at hj; have := g2 j u hj; rwa [show o + 1 + j = o + (j + 1) by omega] at this
    · cases h
theorem readCells_mk {w : World} {b : Nat} : ∀ {vs : List Value} {o : Nat}, (∀ j v, vs[j]? = some v → w.cell? ⟨b, o + j, none⟩ = some v) → readCells w b o vs.length = some vs
  | [], o, h => rfl
  | v :: vs, o, h => by
    simp only [List.length_cons]
    unfold readCells
    have h0 := h 0 v (by simp)
    simp only [Nat.add_zero] at h0
    rw [h0, readCells_mk fun j u hj => by have := h (j + 1) u (by simpa using hj); rwa [show o + (j + 1) = o + 1 + j by omega] at this]
theorem cellsAt_of_read {β : Beta} {ρ : Env} {w : World} {b o n : Nat} {vs : List Value} (h : readCells w b o n = some vs) {l : List C} (hm : mtL β ρ l vs) : cellsAt β ρ w b o l := by
  rw [cellsAt_iff]
  intro j c hj
  obtain ⟨v, hv, hc⟩ := mtL_get hm j c hj
  exact ⟨v, (readCells_get h).2 j v hv, hc⟩
theorem freshC_length (FI : Nat → A) (FB : Nat → B) (pp : List (Nat × Nat)) : ∀ (l : List CK) (i b : Nat), (freshC FI FB pp l i b).length = l.length
  | [], _, _ => rfl
  | .int _ :: l, i, b => by simp [freshC, freshC_length FI FB pp l]
  | .bool :: l, i, b => by simp [freshC, freshC_length FI FB pp l]
  | .pt _ _ :: l, i, b => by simp [freshC, freshC_length FI FB pp l]
  | .str :: l, i, b => by simp [freshC, freshC_length FI FB pp l]
end Go.Proofs.YtalnndmnnffnmaaGreat.Sx
