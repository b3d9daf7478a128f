/-
  SX, part Va: what values a function's numbers may have: few known ones, or such as lie within a mask. No condition.
-/
import Derived.Test.YtalnndmnnffnmaaGreatSxPr
import Derived.Test.YtalnndmnnffnmaaGreatSxW
import Derived.Test.YtalnndmnnffnmaaGreatSxQ
set_option linter.unusedVariables false
set_option linter.unusedSimpArgs false
namespace Go.Proofs.YtalnndmnnffnmaaGreat.Sx
open Go

/-- What is known of a number: which ones it may be; an octet's mask that it lies within. -/
structure VI where
  vs : Option (List Int)
  mm : Option Int
def VI.ok (l : VI) (x : Int) : Prop := (∀ L, l.vs = some L → x ∈ L) ∧ ∀ m, l.mm = some m → arI .and .u8 x m = x
def VI.top : VI := ⟨none, none⟩
def VI.cst (v : Int) : VI := ⟨some [v], none⟩
def VI.of (L : List Int) : VI := ⟨some L, none⟩
def VI.msk (m : Int) : VI := ⟨none, some m⟩
abbrev VB := Option Bool
def VB.ok (l : VB) (x : Bool) : Prop := ∀ v, l = some v → x = v
theorem VI.top_ok {x : Int} : VI.top.ok x := ⟨fun L h => (by cases h), fun m h => (by cases h)⟩
theorem VI.cst_ok {v : Int} : (VI.cst v).ok v := ⟨fun L h => (by cases h; simp), fun m h => (by cases h)⟩
theorem VI.of_ok {L : List Int} {x : Int} (h : x ∈ L) : (VI.of L).ok x := ⟨fun M e => (by cases e; exact h), fun m h => (by cases h)⟩
theorem VI.msk_ok {m x : Int} (h : arI .and .u8 x m = x) : (VI.msk m).ok x := ⟨fun M e => (by cases e), fun m h' => (by cases h'; exact h)⟩
theorem VB.none_ok {x : Bool} : VB.ok none x := fun v h => by cases h
theorem VB.some_ok {x : Bool} : VB.ok (some x) x := fun v h => by cases h; rfl

/-! ### Few values -/
def dedI : List Int → List Int → List Int
  | [], acc => acc
  | x :: l, acc => if acc.any (fun y => decide (x = y)) then dedI l acc else dedI l (x :: acc)
theorem dedI_mem {x : Int} : ∀ {l acc : List Int}, x ∈ l ∨ x ∈ acc → x ∈ dedI l acc
  | [], acc, h => by rcases h with h | h; cases h; exact h
  | y :: l, acc, h => by
    unfold dedI
    split
    · rename_i hc
      simp only [List.any_eq_true, decide_eq_true_eq] at hc
      obtain ⟨z, hz, rfl⟩ := hc
      refine dedI_mem ?_
      rcases h with h | h
      · rcases List.mem_cons.1 h with rfl | h
        · exact .inr hz
        · exact .inl h
      · exact .inr h
    · refine dedI_mem ?_
      rcases h with h | h
      · rcases List.mem_cons.1 h with rfl | h
        · exact .inr (by simp)
        · exact .inl h
      · exact .inr (by simp [h])
def small (l : List Int) : Option (List Int) := if Nat.ble l.length 300 then some l else none
theorem small_l {l L : List Int} (h : small l = some L) : l = L := by
  unfold small at h
  split at h
  · exact Option.some.inj h
  · cases h
def map1 (f : Int → Int) (x : Option (List Int)) : Option (List Int) :=
  match x with
  | some L => small (dedI (L.map f) [])
  | none => none
theorem map1_ok {f : Int → Int} {x : Option (List Int)} {v : Int} (hx : ∀ L, x = some L → v ∈ L) : ∀ L, map1 f x = some L → f v ∈ L := by
  intro L h
  unfold map1 at h
  split at h
  · rename_i M
    rw [← small_l h]
    exact dedI_mem (.inl (List.mem_map.2 ⟨v, hx M rfl, rfl⟩))
  · cases h
def map2 (f : Int → Int → Int) (x y : Option (List Int)) : Option (List Int) :=
  match x, y with
  | some L, some M => if Nat.ble (L.length * M.length) 100 then small (dedI (L.flatMap fun a => M.map fun b => f a b) []) else none
  | _, _ => none
theorem map2_ok {f : Int → Int → Int} {x y : Option (List Int)} {v w : Int} (hx : ∀ L, x = some L → v ∈ L) (hy : ∀ L, y = some L → w ∈ L) : ∀ L, map2 f x y = some L → f v w ∈ L := by
  intro L h
  unfold map2 at h
  split at h
  · rename_i M N
    split at h
    · rw [← small_l h]
      exact dedI_mem (.inl (List.mem_flatMap.2 ⟨v, hx M rfl, List.mem_map.2 ⟨w, hy N rfl, rfl⟩⟩))
    · cases h
  · cases h
/-- All of them give the same truth. -/
def tru1 (f : Int → Bool) (x : Option (List Int)) : VB :=
  match x with
  | some (a :: L) => match f a with
    | true => if L.all f then some true else none
    | false => if L.any f then none else some false
  | _ => none
theorem tru1_ok {f : Int → Bool} {x : Option (List Int)} {v : Int} (hx : ∀ L, x = some L → v ∈ L) : VB.ok (tru1 f x) (f v) := by
  intro b h
  unfold tru1 at h
  split at h
  · rename_i a L
    have hm := hx _ rfl
    split at h
    · rename_i ha
      split at h
      · rename_i hl
        cases h
        rcases List.mem_cons.1 hm with rfl | hm
        · exact ha
        · exact (List.all_eq_true.1 hl) v hm
      · cases h
    · rename_i ha
      split at h
      · cases h
      · rename_i hl
        cases h
        rcases List.mem_cons.1 hm with rfl | hm
        · exact ha
        · cases e : f v
          · rfl
          · exact absurd (List.any_eq_true.2 ⟨v, hm, e⟩) hl
  · cases h
def tru2 (f : Int → Int → Bool) (x y : Option (List Int)) : VB :=
  match x, y with
  | some (a :: L), some (b :: M) => if Nat.ble ((L.length + 1) * (M.length + 1)) 200 then
      match f a b with
      | true => if (a :: L).all (fun x => (b :: M).all (f x)) then some true else none
      | false => if (a :: L).any (fun x => (b :: M).any (f x)) then none else some false
    else none
  | _, _ => none
theorem tru2_ok {f : Int → Int → Bool} {x y : Option (List Int)} {v w : Int} (hx : ∀ L, x = some L → v ∈ L) (hy : ∀ L, y = some L → w ∈ L) : VB.ok (tru2 f x y) (f v w) := by
  intro b h
  unfold tru2 at h
  split at h
  · rename_i a L c M
    have hm := hx _ rfl
    have hn := hy _ rfl
    split at h
    · split at h
      · split at h
        · rename_i hl
          cases h
          exact List.all_eq_true.1 (List.all_eq_true.1 hl v hm) w hn
        · cases h
      · split at h
        · cases h
        · rename_i hl
          cases h
          cases e : f v w
          · rfl
          · exact absurd (List.any_eq_true.2 ⟨v, hm, List.any_eq_true.2 ⟨w, hn, e⟩⟩) hl
    · cases h
  · cases h

/-! ### Masks -/
theorem and8_nat (x m : Int) : arI .and .u8 x m = ((BitVec.ofInt 8 x &&& BitVec.ofInt 8 m).toNat : Int) := by
  show IntKind.wrap .u8 ↑(BitVec.ofInt 8 x &&& BitVec.ofInt 8 m).toNat = _
  rw [wrap_u8]
  have := (BitVec.ofInt 8 x &&& BitVec.ofInt 8 m).isLt
  omega
theorem ofInt_nat8 (b : BitVec 8) : BitVec.ofInt 8 (b.toNat : Int) = b := by
  apply BitVec.eq_of_toNat_eq
  have := b.isLt
  simp
theorem or8_nat (x m : Int) : arI .or .u8 x m = ((BitVec.ofInt 8 x ||| BitVec.ofInt 8 m).toNat : Int) := by
  show IntKind.wrap .u8 ↑(BitVec.ofInt 8 x ||| BitVec.ofInt 8 m).toNat = _
  rw [wrap_u8]
  have := (BitVec.ofInt 8 x ||| BitVec.ofInt 8 m).isLt
  omega
theorem andNot8_nat (x m : Int) : arI .andNot .u8 x m = ((BitVec.ofInt 8 x &&& ~~~ BitVec.ofInt 8 m).toNat : Int) := by
  show IntKind.wrap .u8 ↑(BitVec.ofInt 8 x &&& ~~~ BitVec.ofInt 8 m).toNat = _
  rw [wrap_u8]
  have := (BitVec.ofInt 8 x &&& ~~~ BitVec.ofInt 8 m).isLt
  omega
theorem mk_iff {x m : Int} : arI .and .u8 x m = x ↔ ∃ b : BitVec 8, x = (b.toNat : Int) ∧ b &&& BitVec.ofInt 8 m = b := by
  rw [and8_nat]
  constructor
  · intro h
    refine ⟨BitVec.ofInt 8 x &&& BitVec.ofInt 8 m, h.symm, ?_⟩
    rw [BitVec.and_assoc, BitVec.and_self]
  · rintro ⟨b, rfl, h⟩
    rw [ofInt_nat8, h]
theorem mk_and_l {x y m : Int} (h : arI .and .u8 x m = x) : arI .and .u8 (arI .and .u8 x y) m = arI .and .u8 x y := by
  obtain ⟨b, rfl, hb⟩ := mk_iff.1 h
  refine mk_iff.2 ⟨b &&& BitVec.ofInt 8 y, by rw [and8_nat, ofInt_nat8], ?_⟩
  rw [BitVec.and_assoc, BitVec.and_comm (BitVec.ofInt 8 y), ← BitVec.and_assoc, hb]
theorem mk_and_r {x y m : Int} (h : arI .and .u8 y m = y) : arI .and .u8 (arI .and .u8 x y) m = arI .and .u8 x y := by
  obtain ⟨b, rfl, hb⟩ := mk_iff.1 h
  refine mk_iff.2 ⟨BitVec.ofInt 8 x &&& b, by rw [and8_nat, ofInt_nat8], ?_⟩
  rw [BitVec.and_assoc, hb]
theorem mk_andNot {x y m : Int} (h : arI .and .u8 x m = x) : arI .and .u8 (arI .andNot .u8 x y) m = arI .andNot .u8 x y := by
  obtain ⟨b, rfl, hb⟩ := mk_iff.1 h
  refine mk_iff.2 ⟨b &&& ~~~ BitVec.ofInt 8 y, by rw [andNot8_nat, ofInt_nat8], ?_⟩
  rw [BitVec.and_assoc, BitVec.and_comm (~~~ BitVec.ofInt 8 y), ← BitVec.and_assoc, hb]
theorem mk_or {x y m : Int} (h : arI .and .u8 x m = x) (h' : arI .and .u8 y m = y) : arI .and .u8 (arI .or .u8 x y) m = arI .or .u8 x y := by
  obtain ⟨b, rfl, hb⟩ := mk_iff.1 h
  obtain ⟨c, rfl, hc⟩ := mk_iff.1 h'
  refine mk_iff.2 ⟨b ||| c, by rw [or8_nat, ofInt_nat8, ofInt_nat8], ?_⟩
  have : (b ||| c) &&& BitVec.ofInt 8 m = (b &&& BitVec.ofInt 8 m) ||| (c &&& BitVec.ofInt 8 m) := by
    rw [BitVec.and_comm, BitVec.and_or_distrib_left, BitVec.and_comm, BitVec.and_comm (BitVec.ofInt 8 m)]
  rw [this, hb, hc]
def VI.within (l : VI) (m : Int) : Bool := (match l.mm with
    | some k => decide (k = m)
    | none => false) || (match l.vs with
    | some L => L.all fun x => decide (arI .and .u8 x m = x)
    | none => false)
theorem VI.within_ok {l : VI} {m x : Int} (h : l.within m = true) (hx : l.ok x) : arI .and .u8 x m = x := by
  unfold VI.within at h
  simp only [Bool.or_eq_true] at h
  rcases h with h | h
  · split at h
    · rename_i k hk
      have := of_decide_eq_true h
      subst this
      exact hx.2 _ hk
    · cases h
  · split at h
    · rename_i L hL
      exact of_decide_eq_true (List.all_eq_true.1 h x (hx.1 L hL))
    · cases h
def isC : VI → Option Int
  | ⟨some [c], _⟩ => some c
  | _ => none
theorem isC_ok {l : VI} {c x : Int} (h : isC l = some c) (hx : l.ok x) : x = c := by
  unfold isC at h
  split at h
  · cases h
    simpa using hx.1 _ rfl
  · cases h
def mkOf (op : BinOp) (k : IntKind) (x y : VI) : Option Int :=
  match op, k with
  | .and, .u8 => match x.mm, y.mm, isC x, isC y with
    | some m, _, _, _ => some m
    | none, some m, _, _ => some m
    | none, none, some c, _ => if decide (arI .and .u8 c c = c) then some c else none
    | none, none, none, some c => if decide (arI .and .u8 c c = c) then some c else none
    | none, none, none, none => none
  | .andNot, .u8 => x.mm
  | .or, .u8 => match x.mm, y.mm with
    | some m, _ => if y.within m then some m else none
    | none, some m => if x.within m then some m else none
    | none, none => none
  | _, _ => none
theorem mkOf_ok {op : BinOp} {k : IntKind} {x y : VI} {v w : Int} (hx : x.ok v) (hy : y.ok w) : ∀ m, mkOf op k x y = some m → arI .and .u8 (arI op k v w) m = arI op k v w := by
  intro m h
  unfold mkOf at h
  split at h
  · split at h
    · rename_i e; cases h; exact mk_and_l (hx.2 _ e)
    · rename_i e; cases h; exact mk_and_r (hy.2 _ e)
    · rename_i e
      split at h
      · rename_i hd; cases h
        have := isC_ok e hx
        subst this
        exact mk_and_l (of_decide_eq_true hd)
      · cases h
    · rename_i e
      split at h
      · rename_i hd; cases h
        have := isC_ok e hy
        subst this
        exact mk_and_r (of_decide_eq_true hd)
      · cases h
    · cases h
  · exact mk_andNot (hx.2 _ h)
  · split at h
    · rename_i e
      split at h
      · rename_i hw; cases h
        exact mk_or (hx.2 _ e) (VI.within_ok hw hy)
      · cases h
    · rename_i e
      split at h
      · rename_i hw; cases h
        exact mk_or (VI.within_ok hw hx) (hy.2 _ e)
      · cases h
    · cases h
  · cases h

def arV (op : BinOp) (k : IntKind) (x y : VI) : VI := ⟨map2 (arI op k) x.vs y.vs, mkOf op k x y⟩
theorem arV_ok {op : BinOp} {k : IntKind} {x y : VI} {v w : Int} (hx : x.ok v) (hy : y.ok w) : (arV op k x y).ok (arI op k v w) := ⟨map2_ok hx.1 hy.1, mkOf_ok hx hy⟩
def op1V (f : Int → Int) (x : VI) : VI := ⟨map1 f x.vs, none⟩
theorem op1V_ok {f : Int → Int} {x : VI} {v : Int} (hx : x.ok v) : (op1V f x).ok (f v) := ⟨map1_ok hx.1, fun m h => by cases h⟩
def op2V (f : Int → Int → Int) (x y : VI) : VI := ⟨map2 f x.vs y.vs, none⟩
theorem op2V_ok {f : Int → Int → Int} {x y : VI} {v w : Int} (hx : x.ok v) (hy : y.ok w) : (op2V f x y).ok (f v w) := ⟨map2_ok hx.1 hy.1, fun m h => by cases h⟩
def uniO (x y : Option (List Int)) : Option (List Int) :=
  match x, y with
  | some L, some M => small (dedI L M)
  | _, _ => none
theorem uniO_ok {x y : Option (List Int)} {v : Int} (h : (∀ L, x = some L → v ∈ L) ∨ ∀ L, y = some L → v ∈ L) : ∀ L, uniO x y = some L → v ∈ L := by
  intro L e
  unfold uniO at e
  split at e
  · rename_i M N
    rw [← small_l e]
    refine dedI_mem ?_
    rcases h with h | h
    · exact .inl (h M rfl)
    · exact .inr (h N rfl)
  · cases e
/-- One of both. -/
def VI.join (x y : VI) : VI := ⟨uniO x.vs y.vs, match x.mm, y.mm with
  | some m, _ => if y.within m then some m else none
  | none, some m => if x.within m then some m else none
  | none, none => none⟩
theorem VI.join_ok {x y : VI} {v : Int} (h : x.ok v ∨ y.ok v) : (x.join y).ok v := by
  refine ⟨uniO_ok (h.imp (·.1) (·.1)), fun m e => ?_⟩
  simp only [VI.join] at e
  split at e
  · rename_i k hk
    split at e
    · rename_i hw; cases e
      rcases h with h | h
      · exact h.2 _ hk
      · exact VI.within_ok hw h
    · cases e
  · rename_i k _ hk
    split at e
    · rename_i hw; cases e
      rcases h with h | h
      · exact VI.within_ok hw h
      · exact h.2 _ hk
    · cases e
  · cases e
def iteV (c : VB) (x y : VI) : VI := match c with
  | some true => x
  | some false => y
  | none => x.join y
theorem iteV_ok {c : VB} {x y : VI} {b : Bool} {v w : Int} (hc : c.ok b) (hx : x.ok v) (hy : y.ok w) : (iteV c x y).ok (if b then v else w) := by
  unfold iteV
  split
  · rw [hc true rfl]; exact hx
  · rw [hc false rfl]; exact hy
  · cases b
    · exact VI.join_ok (.inr hy)
    · exact VI.join_ok (.inl hx)

/-! ### What was emitted -/
structure VaS where
  ni : Nat
  nb : Nat
  ti : Tr VI
  tb : Tr VB
def VaS.i (σ : VaS) (n : Nat) : VI := σ.ti.get VI.top (n + 1)
def VaS.b (σ : VaS) (n : Nat) : VB := σ.tb.get none (n + 1)
def Vl {α β : Type} (ok : β → α → Prop) (d : α) (n : Nat) (f : Nat → β) (l : List α) : Prop := l.length = n ∧ ∀ j, j < n → ok (f j) (l.getD j d)
def VaS.ok (σ : VaS) (is : List Int) (bs : List Bool) : Prop := Vl VI.ok 0 σ.ni σ.i is ∧ Vl VB.ok false σ.nb σ.b bs
def AV (σ : VaS) : A → VI
  | .v n => match Nat.blt n σ.ni with
    | true => σ.i n
    | false => VI.cst 0
  | .c k => VI.cst k
def BV (σ : VaS) : B → VB
  | .v n => match Nat.blt n σ.nb with
    | true => σ.b n
    | false => some false
  | .c k => some k
theorem AV_ok {σ : VaS} {is : List Int} {bs : List Bool} (h : σ.ok is bs) (x : A) : (AV σ x).ok (x.d (envOf is bs)) := by
  cases x with
  | v n =>
    cases hn : Nat.blt n σ.ni with
    | true =>
      simp only [AV, hn]
      rw [Nat.blt_eq] at hn
      exact h.1.2 n hn
    | false =>
      simp only [AV, hn]
      have hn' : ¬ n < σ.ni := by rw [← Nat.blt_eq]; simp [hn]
      show (VI.cst 0).ok (is.getD n 0)
      rw [getD_ge (by rw [h.1.1]; omega)]
      exact VI.cst_ok
  | c k => exact VI.cst_ok
theorem BV_ok {σ : VaS} {is : List Int} {bs : List Bool} (h : σ.ok is bs) (x : B) : VB.ok (BV σ x) (x.d (envOf is bs)) := by
  cases x with
  | v n =>
    cases hn : Nat.blt n σ.nb with
    | true =>
      simp only [BV, hn]
      rw [Nat.blt_eq] at hn
      exact h.2.2 n hn
    | false =>
      simp only [BV, hn]
      have hn' : ¬ n < σ.nb := by rw [← Nat.blt_eq]; simp [hn]
      show VB.ok (some false) (bs.getD n false)
      rw [getD_ge (by rw [h.2.1]; omega)]
      exact VB.some_ok
  | c k => exact VB.some_ok
def RI.va (σ : VaS) : RI → VI
  | .ar op k a b => arV op k (AV σ a) (AV σ b)
  | .cv k a => op1V (IntKind.wrap k) (AV σ a)
  | .ite c a b => iteV (BV σ c) (AV σ a) (AV σ b)
  | .mn a b => op2V (fun x y => if y < x then y else x) (AV σ a) (AV σ b)
  | .mx a b => op2V (fun x y => if y > x then y else x) (AV σ a) (AV σ b)
  | .tab l a => op1V (fun x : Int => l.getD x.toNat 0) (AV σ a)
  | .get q a s k => op2V (fun q a => (dec q).getD (a.toNat * s + k) 0) (AV σ q) (AV σ a)
  | .lenq q s => op1V (fun q => ((dec q).length / s : Nat)) (AV σ q)
def mapB (f : Bool → Bool) (x : VB) : VB := x.map f
theorem mapB_ok {f : Bool → Bool} {x : VB} {b : Bool} (h : x.ok b) : VB.ok (mapB f x) (f b) := fun v e => by
  simp only [mapB, Option.map_eq_some_iff] at e
  obtain ⟨u, h1, h2⟩ := e
  rw [h u h1]; exact h2
def RB.va (σ : VaS) : RB → VB
  | .cm op a b => tru2 (cmB op) (AV σ a).vs (AV σ b).vs
  | .not a => mapB (fun x => !x) (BV σ a)
  | .and a b => andO (BV σ a) (BV σ b)
  | .or a b => orO (BV σ a) (BV σ b)
  | .eqb a b => op2 (fun x y : Bool => x == y) (BV σ a) (BV σ b)
  | .ite c a b => iteO (BV σ c) (BV σ a) (BV σ b)
  | .getb q a s k => tru2 (fun q a => (dec q).getD (a.toNat * s + k) 0 != 0) (AV σ q).vs (AV σ a).vs
theorem RI.va_ok {σ : VaS} {is : List Int} {bs : List Bool} (h : σ.ok is bs) (r : RI) : (r.va σ).ok (r.d (envOf is bs)) := by
  cases r with
  | ar op k a b => exact arV_ok (AV_ok h a) (AV_ok h b)
  | cv k a => exact op1V_ok (AV_ok h a)
  | ite c a b => exact iteV_ok (BV_ok h c) (AV_ok h a) (AV_ok h b)
  | mn a b => exact op2V_ok (f := fun x y => if y < x then y else x) (AV_ok h a) (AV_ok h b)
  | mx a b => exact op2V_ok (f := fun x y => if y > x then y else x) (AV_ok h a) (AV_ok h b)
  | tab l a => exact op1V_ok (f := fun x : Int => l.getD x.toNat 0) (AV_ok h a)
  | get q a s k => exact op2V_ok (f := fun q a => (dec q).getD (a.toNat * s + k) 0) (AV_ok h q) (AV_ok h a)
  | lenq q s => exact op1V_ok (f := fun q => ((dec q).length / s : Nat)) (AV_ok h q)
theorem RB.va_ok {σ : VaS} {is : List Int} {bs : List Bool} (h : σ.ok is bs) (r : RB) : VB.ok (r.va σ) (r.d (envOf is bs)) := by
  cases r with
  | cm op a b => exact tru2_ok (AV_ok h a).1 (AV_ok h b).1
  | not a => exact mapB_ok (f := fun x => !x) (BV_ok h a)
  | and a b => exact andO_ok (BV_ok h a) (BV_ok h b)
  | or a b => exact orO_ok (BV_ok h a) (BV_ok h b)
  | eqb a b => exact op2_ok (f := fun x y : Bool => x == y) (BV_ok h a) (BV_ok h b)
  | ite c a b => exact iteO_ok (BV_ok h c) (BV_ok h a) (BV_ok h b)
  | getb q a s k => exact tru2_ok (f := fun q a => (dec q).getD (a.toNat * s + k) 0 != 0) (AV_ok h q).1 (AV_ok h a).1
def VaS.pushI (σ : VaS) (x : VI) : VaS := { σ with ni := σ.ni + 1, ti := σ.ti.set (σ.ni + 1) x }
def VaS.pushB (σ : VaS) (x : VB) : VaS := { σ with nb := σ.nb + 1, tb := σ.tb.set (σ.nb + 1) x }
theorem Vl.push {α β : Type} {ok : β → α → Prop} {d x : α} {n : Nat} {t : Tr β} {tp : β} (htp : ∀ x, ok tp x) {u : β} {l : List α} (h : Vl ok d n (fun j => t.get tp (j + 1)) l) (hu : ok u x) :
    Vl ok d (n + 1) (fun j => (t.set (n + 1) u).get tp (j + 1)) (l ++ [x]) := by
  obtain ⟨h1, h3⟩ := h
  refine ⟨by simp [h1], fun j hj => ?_⟩
  simp only
  by_cases e : j = n
  · have e1 : (l ++ [x]).getD j d = x := by rw [e, ← h1]; exact getD_snoc_eq
    rw [e1, e]
    rcases Tr.get_set_eq (d := tp) (x := u) (t := t) (i := n + 1) with h | h
    · rw [h]; exact hu
    · rw [h]; exact htp x
  · rw [getD_snoc_lt (by omega), Tr.get_set_ne (by omega) (by omega) (by omega)]
    exact h3 j (by omega)
theorem VaS.pushI_ok {σ : VaS} {is : List Int} {bs : List Bool} {u : VI} {x : Int} (h : σ.ok is bs) (hu : u.ok x) : (σ.pushI u).ok (is ++ [x]) bs := ⟨Vl.push (fun _ => VI.top_ok) h.1 hu, h.2⟩
theorem VaS.pushB_ok {σ : VaS} {is : List Int} {bs : List Bool} {u : VB} {x : Bool} (h : σ.ok is bs) (hu : u.ok x) : (σ.pushB u).ok is (bs ++ [x]) := ⟨h.1, Vl.push (fun _ => VB.none_ok) h.2 hu⟩
def VaS.pushIs (σ : VaS) : Nat → List VI → VaS
  | 0, _ => σ
  | n + 1, [] => (σ.pushI VI.top).pushIs n []
  | n + 1, x :: l => (σ.pushI x).pushIs n l
def VaS.pushBs (σ : VaS) : Nat → List VB → VaS
  | 0, _ => σ
  | n + 1, [] => (σ.pushB none).pushBs n []
  | n + 1, x :: l => (σ.pushB x).pushBs n l
def Vw {α β : Type} (ok : β → α → Prop) (tp : β) (d : α) (ls : List β) (l : List α) : Prop := ∀ j, ok (ls.getD j tp) (l.getD j d)
abbrev VwI := Vw VI.ok VI.top 0
abbrev VwB := Vw VB.ok none false
theorem VwI.nil {l : List Int} : VwI [] l := fun j => by simpa using VI.top_ok
theorem VwB.nil {l : List Bool} : VwB [] l := fun j => by simpa using VB.none_ok
theorem Vw.cons {α β : Type} {ok : β → α → Prop} {tp : β} {d x : α} {u : β} {ls : List β} {l : List α} (hu : ok u x) (h : Vw ok tp d ls l) : Vw ok tp d (u :: ls) (x :: l) := by
  intro j
  cases j with
  | zero => simpa using hu
  | succ j => simpa using h j
theorem Vw.tail {α β : Type} {ok : β → α → Prop} {tp : β} {d : α} {ls : List β} {l : List α} (h : Vw ok tp d ls l) : Vw ok tp d ls.tail l.tail := fun j => by
  have := h (j + 1)
  cases ls <;> cases l <;> simpa using this
theorem VaS.pushIs_ok : ∀ {n : Nat} {σ : VaS} {is : List Int} {bs : List Bool} {ls : List VI} {l : List Int}, σ.ok is bs → VwI ls l → (σ.pushIs n ls).ok (is ++ padTo 0 n l) bs
  | 0, σ, is, bs, ls, l, h, hp => by simpa [padTo, VaS.pushIs] using h
  | n + 1, σ, is, bs, ls, l, h, hp => by
    rw [padTo_succ, show is ++ l.getD 0 0 :: padTo 0 n l.tail = (is ++ [l.getD 0 0]) ++ padTo 0 n l.tail by simp]
    cases ls with
    | nil => exact VaS.pushIs_ok (VaS.pushI_ok h (hp 0)) hp.tail
    | cons u ls => exact VaS.pushIs_ok (VaS.pushI_ok h (hp 0)) hp.tail
theorem VaS.pushBs_ok : ∀ {n : Nat} {σ : VaS} {is : List Int} {bs : List Bool} {ls : List VB} {l : List Bool}, σ.ok is bs → VwB ls l → (σ.pushBs n ls).ok is (bs ++ padTo false n l)
  | 0, σ, is, bs, ls, l, h, hp => by simpa [padTo, VaS.pushBs] using h
  | n + 1, σ, is, bs, ls, l, h, hp => by
    rw [padTo_succ, show bs ++ l.getD 0 false :: padTo false n l.tail = (bs ++ [l.getD 0 false]) ++ padTo false n l.tail by simp]
    cases ls with
    | nil => exact VaS.pushBs_ok (VaS.pushB_ok h (hp 0)) hp.tail
    | cons u ls => exact VaS.pushBs_ok (VaS.pushB_ok h (hp 0)) hp.tail

/-- What is known of a function's answers, from what is known of its arguments. -/
abbrev VF := List VI → List VB → List VI × List VB
def VOk (F : Fun) (p : VF) : Prop := ∀ li lb is bs, is.length = li.length → bs.length = lb.length → VwI li is → VwB lb bs → VwI (p li lb).1 (F is bs).1 ∧ VwB (p li lb).2 (F is bs).2
def VF.nil : VF := fun _ _ => ([], [])
theorem VOk.nil {F : Fun} : VOk F VF.nil := fun _ _ _ _ _ _ _ _ => ⟨VwI.nil, VwB.nil⟩
def vaEm (T : Nat → VF) : List Em → VaS → VaS
  | [], σ => σ
  | .di _ r :: l, σ => vaEm T l (σ.pushI (r.va σ))
  | .db _ r :: l, σ => vaEm T l (σ.pushB (r.va σ))
  | .call f ai ab _ ni _ nb :: l, σ =>
    match T f (ai.map (AV σ)) (ab.map (BV σ)) with
    | (oi, ob) => vaEm T l ((σ.pushIs ni oi).pushBs nb ob)
  | .ob _ _ :: l, σ => vaEm T l σ
theorem VwI.map {β : Type} {f : β → VI} {g : β → Int} : ∀ {l : List β}, (∀ x, (f x).ok (g x)) → VwI (l.map f) (l.map g)
  | [], _ => VwI.nil
  | x :: l, hx => Vw.cons (hx x) (VwI.map hx)
theorem VwB.map {β : Type} {f : β → VB} {g : β → Bool} : ∀ {l : List β}, (∀ x, VB.ok (f x) (g x)) → VwB (l.map f) (l.map g)
  | [], _ => VwB.nil
  | x :: l, hx => Vw.cons (hx x) (VwB.map hx)
theorem vaEm_ok {Φ : Funs} {T : Nat → VF} (hT : ∀ f, VOk (Φ f) (T f)) : ∀ {l : List Em} {σ : VaS} {is : List Int} {bs : List Bool}, σ.ok is bs → (vaEm T l σ).ok (evEm Φ l is bs).1 (evEm Φ l is bs).2
  | [], σ, is, bs, h => h
  | .di _ r :: l, σ, is, bs, h => vaEm_ok hT (l := l) (VaS.pushI_ok h (r.va_ok h))
  | .db _ r :: l, σ, is, bs, h => vaEm_ok hT (l := l) (VaS.pushB_ok h (r.va_ok h))
  | .call f ai ab _ ni _ nb :: l, σ, is, bs, h => by
    have h1 := hT f (ai.map (AV σ)) (ab.map (BV σ)) (ai.map (A.d (envOf is bs))) (ab.map (B.d (envOf is bs))) (by simp) (by simp) (VwI.map (AV_ok h)) (VwB.map (BV_ok h))
    simp only [vaEm, evEm]
    exact vaEm_ok hT (VaS.pushBs_ok (VaS.pushIs_ok h h1.1) h1.2)
  | .ob _ _ :: l, σ, is, bs, h => vaEm_ok hT (l := l) h
def VaS.of (li : List VI) (lb : List VB) : VaS := (VaS.pushIs ⟨0, 0, .e, .e⟩ li.length li).pushBs lb.length lb
theorem padTo_self {α : Type} (d : α) : ∀ (l : List α), padTo d l.length l = l
  | [] => rfl
  | x :: l => by simp [padTo, padTo_self d l]
theorem VaS.of_ok {li : List VI} {lb : List VB} {is : List Int} {bs : List Bool} (hi : VwI li is) (hb : VwB lb bs) (h1 : is.length = li.length) (h3 : bs.length = lb.length) : (VaS.of li lb).ok is bs := by
  have h0 : (⟨0, 0, .e, .e⟩ : VaS).ok [] [] := ⟨⟨rfl, fun j hj => absurd hj (Nat.not_lt_zero j)⟩, rfl, fun j hj => absurd hj (Nat.not_lt_zero j)⟩
  have := VaS.pushBs_ok (n := lb.length) (VaS.pushIs_ok (n := li.length) h0 hi) hb
  rw [← h1, padTo_self, h1, ← h3, padTo_self, h3] at this
  exact this
/-- What is owed is paid, as far as is known. -/
def obV (σ : VaS) (l : List Em) : Bool := l.all fun
  | .ob g b => g.any (fun p => match BV σ p.1 with
      | some v => v != p.2
      | none => false) || (match BV σ b with
      | some true => true
      | _ => false)
  | _ => true
theorem obV_ok {σ : VaS} {is : List Int} {bs : List Bool} (h : σ.ok is bs) {l : List Em} (ho : obV σ l = true) : obAll (envOf is bs) l = true := by
  unfold obAll
  unfold obV at ho
  rw [List.all_eq_true] at ho ⊢
  intro e he
  have := ho e he
  cases e with
  | ob g b =>
    simp only [Bool.or_eq_true] at this ⊢
    rcases this with h1 | h1
    · left
      rw [List.any_eq_true] at h1
      obtain ⟨p, hp, h2⟩ := h1
      split at h2
      · rename_i v hv
        have h3 := BV_ok h p.1 v hv
        simp only [bne_iff_ne, ne_eq] at h2
        simp only [Bool.not_eq_true']
        cases hg : Gd.d (envOf is bs) g
        · rfl
        · unfold Gd.d at hg
          rw [List.all_eq_true] at hg
          have := hg p hp
          simp only [beq_iff_eq] at this
          exact absurd (h3.symm.trans this) h2
      · cases h2
    · right
      split at h1
      · rename_i hv
        exact BV_ok h b true hv
      · cases h1
  | _ => rfl
/-- A function's summary, seen so. -/
def Smry.va (T : Nat → VF) (pre : Bool) (S : Smry) : VF := fun li lb =>
  match vaEm T S.em (VaS.of li lb) with
  | σ => (S.ri.map (AV σ), (if pre then [if obV σ S.em then some true else none] else []) ++ S.rb.map (BV σ))
theorem Smry.va_ok {Φ : Funs} {T : Nat → VF} (hT : ∀ f, VOk (Φ f) (T f)) {pre : Bool} {S : Smry} : VOk (S.run Φ pre) (S.va T pre) := by
  intro li lb is bs h1 h2 hi hb
  have h := vaEm_ok hT (l := S.em) (VaS.of_ok hi hb h1 h2)
  unfold Smry.va Smry.run
  simp only
  refine ⟨VwI.map (AV_ok h), ?_⟩
  cases pre
  · simpa using VwB.map (BV_ok h)
  · simp only [if_true, List.cons_append, List.nil_append]
    refine Vw.cons ?_ (VwB.map (BV_ok h))
    split
    · rename_i ho
      rw [obV_ok h ho]; exact VB.some_ok
    · exact VB.none_ok

/-! ### Less is known -/
/-- What is known by the second one is known by the first one. -/
def VI.le (x y : VI) : Bool := (match y.vs with
    | none => true
    | some M => match x.vs with
      | some L => L.all fun a => M.any fun b => decide (a = b)
      | none => false) && (match y.mm with
    | none => true
    | some m => x.within m)
theorem VI.le_ok {x y : VI} {v : Int} (h : x.le y = true) (hx : x.ok v) : y.ok v := by
  unfold VI.le at h
  simp only [Bool.and_eq_true] at h
  refine ⟨fun M hM => ?_, fun m hm => ?_⟩
  · have h1 := h.1
    rw [hM] at h1
    simp only at h1
    split at h1
    · rename_i L hL
      have := List.all_eq_true.1 h1 v (hx.1 L hL)
      rw [List.any_eq_true] at this
      obtain ⟨b, hb, e⟩ := this
      rw [of_decide_eq_true e]; exact hb
    · cases h1
  · have h2 := h.2
    rw [hm] at h2
    exact VI.within_ok h2 hx
def VB.le (x y : VB) : Bool := match y with
  | none => true
  | some v => match x with
    | some u => u == v
    | none => false
theorem VB.le_ok {x y : VB} {v : Bool} (h : VB.le x y = true) (hx : VB.ok x v) : VB.ok y v := by
  intro u e
  subst e
  unfold VB.le at h
  simp only at h
  split at h
  · rename_i w
    simp only [beq_iff_eq] at h
    subst h
    exact hx _ rfl
  · cases h
def leI : List VI → List VI → Bool
  | [], [] => true
  | x :: l, y :: m => x.le y && leI l m
  | _, _ => false
def leB : List VB → List VB → Bool
  | [], [] => true
  | x :: l, y :: m => VB.le x y && leB l m
  | _, _ => false
theorem leI_ok : ∀ {l m : List VI} {is : List Int}, leI l m = true → VwI l is → VwI m is ∧ l.length = m.length
  | [], [], is, _, h => ⟨h, rfl⟩
  | x :: l, y :: m, is, h, hw => by
    unfold leI at h
    simp only [Bool.and_eq_true] at h
    have ih := leI_ok (is := is.tail) h.2 hw.tail
    refine ⟨fun j => ?_, by simp [ih.2]⟩
    cases j with
    | zero => exact VI.le_ok h.1 (hw 0)
    | succ j =>
      have := ih.1 j
      cases is <;> simpa using this
  | [], _ :: _, _, h, _ => by cases h
  | _ :: _, [], _, h, _ => by cases h
theorem leB_ok : ∀ {l m : List VB} {is : List Bool}, leB l m = true → VwB l is → VwB m is ∧ l.length = m.length
  | [], [], is, _, h => ⟨h, rfl⟩
  | x :: l, y :: m, is, h, hw => by
    unfold leB at h
    simp only [Bool.and_eq_true] at h
    have ih := leB_ok (is := is.tail) h.2 hw.tail
    refine ⟨fun j => ?_, by simp [ih.2]⟩
    cases j with
    | zero => exact VB.le_ok h.1 (hw 0)
    | succ j =>
      have := ih.1 j
      cases is <;> simpa using this
  | [], _ :: _, _, h, _ => by cases h
  | _ :: _, [], _, h, _ => by cases h
/-- Looked at once: of such arguments come such answers. -/
def VF.memo (p : VF) (si : List VI) (sb : List VB) (o : List VI × List VB) : VF := fun li lb => if leI li si && leB lb sb then o else p li lb
theorem VOk.memo {F : Fun} {p : VF} {si : List VI} {sb : List VB} {o : List VI × List VB} (h : VOk F p) (ho : leI (p si sb).1 o.1 = true ∧ leB (p si sb).2 o.2 = true) : VOk F (p.memo si sb o) := by
  intro li lb is bs h1 h2 hi hb
  unfold VF.memo
  split
  · rename_i hc
    simp only [Bool.and_eq_true] at hc
    have ei := leI_ok hc.1 hi
    have eb := leB_ok hc.2 hb
    have := h si sb is bs (by rw [h1, ei.2]) (by rw [h2, eb.2]) ei.1 eb.1
    exact ⟨(leI_ok ho.1 this.1).1, (leB_ok ho.2 this.2).1⟩
  · exact h li lb is bs h1 h2 hi hb
/-- One number's values, one by one. -/
def joinIs : List VI → List VI → List VI
  | x :: l, y :: m => x.join y :: joinIs l m
  | _, _ => []
def joinBs : List VB → List VB → List VB
  | x :: l, y :: m => joinO x y :: joinBs l m
  | _, _ => []
theorem joinIs_l : ∀ {l m : List VI} {is : List Int}, VwI l is ∨ VwI m is → VwI (joinIs l m) is
  | [], m, is, h => by unfold joinIs; exact VwI.nil
  | _ :: _, [], is, h => by unfold joinIs; exact VwI.nil
  | x :: l, y :: m, is, h => by
    have ih := joinIs_l (l := l) (m := m) (is := is.tail) (h.imp Vw.tail Vw.tail)
    intro j
    cases j with
    | zero => exact VI.join_ok (h.imp (fun h => h 0) (fun h => h 0))
    | succ j =>
      have := ih j
      cases is <;> simpa [joinIs] using this
theorem joinO_ok {x y : VB} {v : Bool} (h : VB.ok x v ∨ VB.ok y v) : VB.ok (joinO x y) v := by
  intro u e
  obtain ⟨h1, h2⟩ := joinO_l e
  rcases h with h | h
  · exact h u h1
  · exact h u h2
theorem joinBs_l : ∀ {l m : List VB} {is : List Bool}, VwB l is ∨ VwB m is → VwB (joinBs l m) is
  | [], m, is, h => by unfold joinBs; exact VwB.nil
  | _ :: _, [], is, h => by unfold joinBs; exact VwB.nil
  | x :: l, y :: m, is, h => by
    have ih := joinBs_l (l := l) (m := m) (is := is.tail) (h.imp Vw.tail Vw.tail)
    intro j
    cases j with
    | zero => exact joinO_ok (h.imp (fun h => h 0) (fun h => h 0))
    | succ j =>
      have := ih j
      cases is <;> simpa [joinBs] using this
def setV {α : Type} (x : α) : Nat → List α → List α
  | _, [] => []
  | 0, _ :: l => x :: l
  | n + 1, y :: l => y :: setV x n l
theorem setV_length {α : Type} {x : α} : ∀ {n : Nat} {l : List α}, (setV x n l).length = l.length
  | _, [] => by cases ‹Nat› <;> rfl
  | 0, _ :: l => rfl
  | n + 1, y :: l => by simp [setV, setV_length (n := n) (l := l)]
theorem setV_ok {x : VI} {v : Int} : ∀ {n : Nat} {l : List VI} {is : List Int}, VwI l is → (is.getD n 0 = v) → x.ok v → VwI (setV x n l) is
  | n, [], is, h, _, _ => by cases n <;> exact h
  | 0, y :: l, is, h, e, hx => by
    intro j
    cases j with
    | zero => simp only [setV, List.getD_cons_zero]; rw [e]; exact hx
    | succ j => have := h (j + 1); simpa [setV] using this
  | n + 1, y :: l, is, h, e, hx => by
    have ih := setV_ok (n := n) (l := l) (is := is.tail) (Vw.tail h) (by cases is <;> simpa using e) hx
    intro j
    cases j with
    | zero => exact h 0
    | succ j =>
      have := ih j
      cases is <;> simpa [setV] using this
def splitL (p : VF) (n : Nat) (li : List VI) (lb : List VB) : List Int → List VI × List VB
  | [] => ([], [])
  | [v] => p (setV (VI.cst v) n li) lb
  | v :: L => match p (setV (VI.cst v) n li) lb, splitL p n li lb L with
    | o, r => (joinIs o.1 r.1, joinBs o.2 r.2)
theorem splitL_ok {F : Fun} {p : VF} (h : VOk F p) {n : Nat} {li : List VI} {lb : List VB} {is : List Int} {bs : List Bool} (h1 : is.length = li.length) (h2 : bs.length = lb.length) (hi : VwI li is) (hb : VwB lb bs) :
    ∀ {L : List Int}, is.getD n 0 ∈ L → VwI (splitL p n li lb L).1 (F is bs).1 ∧ VwB (splitL p n li lb L).2 (F is bs).2
  | [], hm => by cases hm
  | [v], hm => by
    simp only [List.mem_singleton] at hm
    exact h _ _ is bs (by rw [setV_length]; exact h1) h2 (setV_ok hi hm VI.cst_ok) hb
  | v :: w :: L, hm => by
    unfold splitL
    simp only
    by_cases e : is.getD n 0 = v
    · have := h (setV (VI.cst v) n li) lb is bs (by rw [setV_length]; exact h1) h2 (setV_ok hi e VI.cst_ok) hb
      exact ⟨joinIs_l (.inl this.1), joinBs_l (.inl this.2)⟩
    · have := splitL_ok h h1 h2 hi hb (L := w :: L) (by rcases List.mem_cons.1 hm with h | h; exact absurd h e; exact h)
      exact ⟨joinIs_l (.inr this.1), joinBs_l (.inr this.2)⟩
def VF.split (p : VF) (n : Nat) : VF := fun li lb => match (li.getD n VI.top).vs with
  | some L => splitL p n li lb L
  | none => p li lb
theorem VOk.split {F : Fun} {p : VF} (h : VOk F p) (n : Nat) : VOk F (p.split n) := by
  intro li lb is bs h1 h2 hi hb
  unfold VF.split
  split
  · rename_i L hL
    exact splitL_ok h h1 h2 hi hb ((hi n).1 L hL)
  · exact h li lb is bs h1 h2 hi hb
/-- A table of such functions. -/
def tabV : List (Nat × VF) → Nat → VF
  | [], _ => VF.nil
  | (f, p) :: l, n => if Nat.beq n f then p else tabV l n
theorem tabV_nil : ∀ f, VOk (tabF [] f) (tabV [] f) := fun _ => VOk.nil
theorem tabV_cons {l : List (Nat × Sum × Fun)} {m : List (Nat × VF)} {f : Nat} {s : Sum} {F : Fun} {p : VF} (h : VOk F p) (ht : ∀ f, VOk (tabF l f) (tabV m f)) : ∀ g, VOk (tabF ((f, s, F) :: l) g) (tabV ((f, p) :: m) g) := by
  intro g
  unfold tabF tabV
  by_cases e : g = f
  · rw [if_pos (by simpa using e), if_pos (by simpa using e)]; exact h
  · rw [if_neg (by simpa using e), if_neg (by simpa using e)]; exact ht g

/-! ### Loops, turn by turn -/
theorem getD_drop {α : Type} {d : α} : ∀ {n j : Nat} {l : List α}, (l.drop n).getD j d = l.getD (n + j) d
  | 0, j, l => by simp
  | n + 1, j, [] => by simp
  | n + 1, j, x :: l => by rw [Nat.succ_add]; simp
theorem getD_take {α : Type} {d : α} : ∀ {n j : Nat} {l : List α}, (l.take n).getD j d = if j < n then l.getD j d else d
  | 0, j, l => by simp
  | n + 1, j, [] => by simp
  | n + 1, 0, x :: l => by simp
  | n + 1, j + 1, x :: l => by simpa using getD_take (n := n) (j := j) (l := l)
theorem Vw.drop {α β : Type} {ok : β → α → Prop} {tp : β} {d : α} {ls : List β} {l : List α} (n : Nat) (h : Vw ok tp d ls l) : Vw ok tp d (ls.drop n) (l.drop n) := fun j => by
  rw [getD_drop, getD_drop]; exact h (n + j)
theorem Vw.take {α β : Type} {ok : β → α → Prop} {tp : β} {d : α} {ls : List β} {l : List α} (htp : ∀ x, ok tp x) (n : Nat) (h : Vw ok tp d ls l) : Vw ok tp d (ls.take n) (l.take n) := fun j => by
  rw [getD_take, getD_take]
  split
  · exact h j
  · exact htp _
def Smry.vaLoop (T : Nat → VF) (S : Smry) (nI nB : Nat) : Nat → VF
  | 0 => VF.nil
  | n + 1 => fun li lb => match S.va T true li lb with
    | (oi, some true :: some true :: ob) => S.vaLoop T nI nB n (oi.take nI) (ob.take nB)
    | (oi, some true :: some false :: ob) => (oi.drop nI, some true :: ob.drop nB)
    | _ => ([], [])
theorem Smry.vaLoop_run {Φ : Funs} {T : Nat → VF} (hT : ∀ f, VOk (Φ f) (T f)) {S : Smry} {nI nB : Nat} : ∀ {n : Nat} {li : List VI} {lb : List VB} {is : List Int} {bs : List Bool}, is.length = li.length → bs.length = lb.length → VwI li is → VwB lb bs →
    S.vaLoop T nI nB n li lb = ([], []) ∨ ∃ m o, LRun (S.run Φ true) nI nB m is bs o ∧ VwI (S.vaLoop T nI nB n li lb).1 o.1 ∧ VwB (S.vaLoop T nI nB n li lb).2 (true :: o.2)
  | 0, li, lb, is, bs, h1, h2, hi, hb => .inl rfl
  | n + 1, li, lb, is, bs, h1, h2, hi, hb => by
    have hv := Smry.va_ok hT (pre := true) (S := S) li lb is bs h1 h2 hi hb
    have e1 : (S.va T true li lb).1.length = (S.run Φ true is bs).1.length := by simp [Smry.va, Smry.run]
    have e2 : (S.va T true li lb).2.length = (S.run Φ true is bs).2.length := by simp [Smry.va, Smry.run]
    unfold Smry.vaLoop
    generalize S.va T true li lb = q at hv e1 e2 ⊢
    obtain ⟨oi, ob⟩ := q
    simp only at hv e1 e2 ⊢
    obtain ⟨hv1, hv2⟩ := hv
    cases hr : (S.run Φ true is bs).2 with
    | nil =>
      rw [hr] at e2
      have : ob = [] := List.eq_nil_of_length_eq_zero e2
      subst this
      exact .inl rfl
    | cons b0 rb0 =>
      cases rb0 with
      | nil =>
        rw [hr] at e2
        match ob, e2 with
        | [x], _ =>
          left
          split <;> simp_all
      | cons b1 rb =>
        rw [hr] at e2 hv2
        split
        · rename_i x oi' ob' he
          simp only [Prod.mk.injEq] at he
          obtain ⟨rfl, rfl⟩ := he
          have a0 := hv2 0 true rfl
          have a1 := hv2 1 true rfl
          simp only [List.getD_cons_zero, List.getD_cons_succ] at a0 a1
          subst a0; subst a1
          have hv3 : VwB ob' rb := (Vw.tail (Vw.tail hv2))
          simp only [List.length_cons, Nat.add_right_cancel_iff] at e2
          rcases Smry.vaLoop_run hT (S := S) (nI := nI) (nB := nB) (n := n) (li := oi.take nI) (lb := ob'.take nB) (is := (S.run Φ true is bs).1.take nI) (bs := rb.take nB)
            (by simp [e1]) (by simp [e2]) (Vw.take (fun _ => VI.top_ok) nI hv1) (Vw.take (fun _ => VB.none_ok) nB hv3) with h | ⟨m, o, hm, h3, h4⟩
          · exact .inl h
          · exact .inr ⟨m + 1, o, .turn hr hm, h3, h4⟩
        · rename_i x oi' ob' he
          simp only [Prod.mk.injEq] at he
          obtain ⟨rfl, rfl⟩ := he
          have a0 := hv2 0 true rfl
          have a1 := hv2 1 false rfl
          simp only [List.getD_cons_zero, List.getD_cons_succ] at a0 a1
          subst a0; subst a1
          have hv3 : VwB ob' rb := (Vw.tail (Vw.tail hv2))
          exact .inr ⟨1, _, .stop hr, Vw.drop nI hv1, Vw.cons VB.some_ok (Vw.drop nB hv3)⟩
        · exact .inl rfl
theorem Smry.vaLoop_ok {Φ : Funs} {T : Nat → VF} (hT : ∀ f, VOk (Φ f) (T f)) {S : Smry} {nI nB n : Nat} : VOk (loopF (S.run Φ true) nI nB) (S.vaLoop T nI nB n) := by
  intro li lb is bs h1 h2 hi hb
  rcases Smry.vaLoop_run hT (S := S) (nI := nI) (nB := nB) (n := n) h1 h2 hi hb with h | ⟨m, o, hm, h3, h4⟩
  · rw [h]; exact ⟨VwI.nil, VwB.nil⟩
  · rw [loopF_of hm]; exact ⟨h3, h4⟩
/-- A function with loops: of each loop so many turns are looked at. -/
def lpV : List LAnn → Nat → (Nat → VF) → Nat → VF
  | [], _, T => T
  | L :: l, k, T => fun n => if n == L.id then L.S.vaLoop (lpV l k T) L.nI L.nB k else lpV l k T n
theorem lpV_ok {Φ : Funs} {T : Nat → VF} {k : Nat} (hT : ∀ f, VOk (Φ f) (T f)) : ∀ {l : List LAnn} (f : Nat), VOk (lpF l Φ f) (lpV l k T f)
  | [], f => hT f
  | L :: l, f => by
    unfold lpF lpV
    split
    · exact Smry.vaLoop_ok (lpV_ok hT)
    · exact lpV_ok hT f
/-- A function that is known at each number. -/
def VF.at0 (F : Nat → Fl) : VF := fun li _ => match li with
  | [⟨some [.ofNat v], _⟩] => ((F v).1.map VI.cst, (F v).2.map some)
  | _ => ([], [])
theorem VF.at0_ok {F : Nat → Fl} : VOk (fun is _ => F (is.getD 0 0).toNat) (VF.at0 F) := by
  intro li lb is bs h1 h2 hi hb
  unfold VF.at0
  split
  · rename_i v _
    have := (hi 0).1 _ rfl
    simp only [List.mem_singleton] at this
    simp only
    rw [this, show (Int.ofNat v).toNat = v from rfl]
    have e1 : ∀ (l : List Int), VwI (l.map VI.cst) l := fun l => by
      have := VwI.map (f := VI.cst) (g := id) (l := l) (fun x => VI.cst_ok)
      simpa using this
    have e2 : ∀ (l : List Bool), VwB (l.map some) l := fun l => by
      have := VwB.map (f := some) (g := id) (l := l) (fun x => VB.some_ok)
      simpa using this
    exact ⟨e1 _, e2 _⟩
  · exact ⟨VwI.nil, VwB.nil⟩
end Go.Proofs.YtalnndmnnffnmaaGreat.Sx
