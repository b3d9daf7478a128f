/-
  Flat's laws, and what they stand on (merged by wip/gen2/mini.py): part Mn9. No condition.
-/
import Derived.Test.YtghlmhlamoagoaaGreatMn4
import Derived.Test.YtghlmhlamoagoaaGreatMn5
import Derived.Test.YtghlmhlamoagoaaGreatMn7
import Derived.Test.YtghlmhlamoagoaaGreatMn8
set_option linter.unusedVariables false
set_option linter.unusedSimpArgs false
namespace Go.Proofs.YtghlmhlamoagoaaGreat.Sx
open Go

structure VI where
 vs : Option (List Int)
 mm : Option Int
def VI.ok (l : VI) (x : Int) : Prop := (∀ L, l.vs = some L -> x ∈ L) /\ ∀ m, l.mm = some m -> arI .and .u8 x m = x
def VI.top : VI := ⟨none, none⟩
def VI.cst (v : Int) : VI := ⟨some [v], none⟩
def VI.of (L : List Int) : VI := ⟨some L, none⟩
def VI.msk (m : Int) : VI := ⟨none, some m⟩
abbrev VB := Option Bool
def VB.ok (l : VB) (x : Bool) : Prop := ∀ v, l = some v -> x = v
theorem VI.top_ok {x : Int} : VI.top.ok x := ⟨fun L h => (by cases h), fun m h => (by cases h)⟩
theorem VI.cst_ok {v : Int} : (VI.cst v).ok v := ⟨fun L h => (by cases h; simp), fun m h => (by cases h)⟩
theorem VI.of_ok {L : List Int} {x : Int} (h : x ∈ L) : (VI.of L).ok x := ⟨fun M e => (by cases e; exact h), fun m h => (by cases h)⟩
theorem VI.msk_ok {m x : Int} (h : arI .and .u8 x m = x) : (VI.msk m).ok x := ⟨fun M e => (by cases e), fun m h' => (by cases h'; exact h)⟩
theorem VB.none_ok {x : Bool} : VB.ok none x := fun v h => by cases h
theorem VB.some_ok {x : Bool} : VB.ok (some x) x := fun v h => by cases h; rfl

def dedI : List Int -> List Int -> List Int
 | [], acc => acc
 | x :: l, acc => if acc.any (fun y => decide (x = y)) then dedI l acc else dedI l (x :: acc)
theorem dedI_mem {x : Int} : ∀ {l acc : List Int}, x ∈ l \/ x ∈ acc -> x ∈ dedI l acc
 | [], acc, h => by rcases h with h | h; cases h; exact h
 | y :: l, acc, h => by
  unfold dedI
  split
  ·rename_i hc
   simp only [List.any_eq_true, decide_eq_true_eq] at hc
   obtain ⟨z, hz, rfl⟩ := hc
   refine dedI_mem ?_
   rcases h with h | h
   ·rcases List.mem_cons.1 h with rfl | h
    ·exact .inr hz
    ·exact .inl h
   ·exact .inr h
  ·refine dedI_mem ?_
   rcases h with h | h
   ·rcases List.mem_cons.1 h with rfl | h
    ·exact .inr (by simp)
    ·exact .inl h
   ·exact .inr (by simp [h])
def small (l : List Int) : Option (List Int) := if Nat.ble l.length 300 then some l else none
theorem small_l {l L : List Int} (h : small l = some L) : l = L := by
 unfold small at h
 split at h
 ·exact Option.some.inj h
 ·cases h
def map1 (f : Int -> Int) (x : Option (List Int)) : Option (List Int) :=
 match x with
 | some L => small (dedI (L.map f) [])
 | none => none
theorem map1_ok {f : Int -> Int} {x : Option (List Int)} {v : Int} (hx : ∀ L, x = some L -> v ∈ L) : ∀ L, map1 f x = some L -> f v ∈ L := by
 intro L h
 unfold map1 at h
 split at h
 ·rename_i M
  rw [<- small_l h]
  exact dedI_mem (.inl (List.mem_map.2 ⟨v, hx M rfl, rfl⟩))
 ·cases h
def map2 (f : Int -> Int -> Int) (x y : Option (List Int)) : Option (List Int) :=
 match x, y with
 | some L, some M => if Nat.ble (L.length * M.length) 100 then small (dedI (L.flatMap fun a => M.map fun b => f a b) []) else none
 | _, _ => none
theorem map2_ok {f : Int -> Int -> Int} {x y : Option (List Int)} {v w : Int} (hx : ∀ L, x = some L -> v ∈ L) (hy : ∀ L, y = some L -> w ∈ L) : ∀ L, map2 f x y = some L -> f v w ∈ L := by
 intro L h
 unfold map2 at h
 split at h
 ·rename_i M N
  split at h
  ·rw [<- small_l h]
   exact dedI_mem (.inl (List.mem_flatMap.2 ⟨v, hx M rfl, List.mem_map.2 ⟨w, hy N rfl, rfl⟩⟩))
  ·cases h
 ·cases h
def tru1 (f : Int -> Bool) (x : Option (List Int)) : VB :=
 match x with
 | some (a :: L) => match f a with
  | true => if L.all f then some true else none
  | false => if L.any f then none else some false
 | _ => none
def tru2 (f : Int -> Int -> Bool) (x y : Option (List Int)) : VB :=
 match x, y with
 | some (a :: L), some (b :: M) => if Nat.ble ((L.length + 1) * (M.length + 1)) 200 then
   match f a b with
   | true => if (a :: L).all (fun x => (b :: M).all (f x)) then some true else none
   | false => if (a :: L).any (fun x => (b :: M).any (f x)) then none else some false
  else none
 | _, _ => none
theorem tru2_ok {f : Int -> Int -> Bool} {x y : Option (List Int)} {v w : Int} (hx : ∀ L, x = some L -> v ∈ L) (hy : ∀ L, y = some L -> w ∈ L) : VB.ok (tru2 f x y) (f v w) := by
 intro b h
 unfold tru2 at h
 split at h
 ·rename_i a L c M
  have hm := hx _ rfl
  have hn := hy _ rfl
  split at h
  ·split at h
   ·split at h
    ·rename_i hl
     cases h
     exact List.all_eq_true.1 (List.all_eq_true.1 hl v hm) w hn
    ·cases h
   ·split at h
    ·cases h
    ·rename_i hl
     cases h
     cases e : f v w
     ·rfl
     ·exact absurd (List.any_eq_true.2 ⟨v, hm, List.any_eq_true.2 ⟨w, hn, e⟩⟩) hl
  ·cases h
 ·cases h

theorem and8_nat (x m : Int) : arI .and .u8 x m = ((BitVec.ofInt 8 x &&& BitVec.ofInt 8 m).toNat : Int) := by
 show IntKind.wrap .u8 ↑(BitVec.ofInt 8 x &&& BitVec.ofInt 8 m).toNat = _
 rw [wrap_u8]
 have := (BitVec.ofInt 8 x &&& BitVec.ofInt 8 m).isLt
 omega
theorem ofInt_nat8 (b : BitVec 8) : BitVec.ofInt 8 (b.toNat : Int) = b := by
 apply BitVec.eq_of_toNat_eq
 have := b.isLt
 simp
theorem or8_nat (x m : Int) : arI .or .u8 x m = ((BitVec.ofInt 8 x ||| BitVec.ofInt 8 m).toNat : Int) := by
 show IntKind.wrap .u8 ↑(BitVec.ofInt 8 x ||| BitVec.ofInt 8 m).toNat = _
 rw [wrap_u8]
 have := (BitVec.ofInt 8 x ||| BitVec.ofInt 8 m).isLt
 omega
theorem andNot8_nat (x m : Int) : arI .andNot .u8 x m = ((BitVec.ofInt 8 x &&& ~~~ BitVec.ofInt 8 m).toNat : Int) := by
 show IntKind.wrap .u8 ↑(BitVec.ofInt 8 x &&& ~~~ BitVec.ofInt 8 m).toNat = _
 rw [wrap_u8]
 have := (BitVec.ofInt 8 x &&& ~~~ BitVec.ofInt 8 m).isLt
 omega
theorem mk_iff {x m : Int} : arI .and .u8 x m = x ↔ ∃ b : BitVec 8, x = (b.toNat : Int) /\ b &&& BitVec.ofInt 8 m = b := by
 rw [and8_nat]
 constructor
 ·intro h
  refine ⟨BitVec.ofInt 8 x &&& BitVec.ofInt 8 m, h.symm, ?_⟩
  rw [BitVec.and_assoc, BitVec.and_self]
 ·rintro ⟨b, rfl, h⟩
  rw [ofInt_nat8, h]
theorem mk_and_l {x y m : Int} (h : arI .and .u8 x m = x) : arI .and .u8 (arI .and .u8 x y) m = arI .and .u8 x y := by
 obtain ⟨b, rfl, hb⟩ := mk_iff.1 h
 refine mk_iff.2 ⟨b &&& BitVec.ofInt 8 y, by rw [and8_nat, ofInt_nat8], ?_⟩
 rw [BitVec.and_assoc, BitVec.and_comm (BitVec.ofInt 8 y), <- BitVec.and_assoc, hb]
theorem mk_and_r {x y m : Int} (h : arI .and .u8 y m = y) : arI .and .u8 (arI .and .u8 x y) m = arI .and .u8 x y := by
 obtain ⟨b, rfl, hb⟩ := mk_iff.1 h
 refine mk_iff.2 ⟨BitVec.ofInt 8 x &&& b, by rw [and8_nat, ofInt_nat8], ?_⟩
 rw [BitVec.and_assoc, hb]
theorem mk_andNot {x y m : Int} (h : arI .and .u8 x m = x) : arI .and .u8 (arI .andNot .u8 x y) m = arI .andNot .u8 x y := by
 obtain ⟨b, rfl, hb⟩ := mk_iff.1 h
 refine mk_iff.2 ⟨b &&& ~~~ BitVec.ofInt 8 y, by rw [andNot8_nat, ofInt_nat8], ?_⟩
 rw [BitVec.and_assoc, BitVec.and_comm (~~~ BitVec.ofInt 8 y), <- BitVec.and_assoc, hb]
theorem mk_or {x y m : Int} (h : arI .and .u8 x m = x) (h' : arI .and .u8 y m = y) : arI .and .u8 (arI .or .u8 x y) m = arI .or .u8 x y := by
 obtain ⟨b, rfl, hb⟩ := mk_iff.1 h
 obtain ⟨c, rfl, hc⟩ := mk_iff.1 h'
 refine mk_iff.2 ⟨b ||| c, by rw [or8_nat, ofInt_nat8, ofInt_nat8], ?_⟩
 have : (b ||| c) &&& BitVec.ofInt 8 m = (b &&& BitVec.ofInt 8 m) ||| (c &&& BitVec.ofInt 8 m) := by
  rw [BitVec.and_comm, BitVec.and_or_distrib_left, BitVec.and_comm, BitVec.and_comm (BitVec.ofInt 8 m)]
 rw [this, hb, hc]
def VI.within (l : VI) (m : Int) : Bool := (match l.mm with
  | some k => decide (k = m)
  | none => false) || (match l.vs with
  | some L => L.all fun x => decide (arI .and .u8 x m = x)
  | none => false)
theorem VI.within_ok {l : VI} {m x : Int} (h : l.within m = true) (hx : l.ok x) : arI .and .u8 x m = x := by
 unfold VI.within at h
 simp only [Bool.or_eq_true] at h
 rcases h with h | h
 ·split at h
  ·rename_i k hk
   have := of_decide_eq_true h
   subst this
   exact hx.2 _ hk
  ·cases h
 ·split at h
  ·rename_i L hL
   exact of_decide_eq_true (List.all_eq_true.1 h x (hx.1 L hL))
  ·cases h
def isC : VI -> Option Int
 | ⟨some [c], _⟩ => some c
 | _ => none
theorem isC_ok {l : VI} {c x : Int} (h : isC l = some c) (hx : l.ok x) : x = c := by
 unfold isC at h
 split at h
 ·cases h
  simpa using hx.1 _ rfl
 ·cases h
def mkOf (op : BinOp) (k : IntKind) (x y : VI) : Option Int :=
 match op, k with
 | .and, .u8 => match x.mm, y.mm, isC x, isC y with
  | some m, _, _, _ => some m
  | none, some m, _, _ => some m
  | none, none, some c, _ => if decide (arI .and .u8 c c = c) then some c else none
  | none, none, none, some c => if decide (arI .and .u8 c c = c) then some c else none
  | none, none, none, none => none
 | .andNot, .u8 => x.mm
 | .or, .u8 => match x.mm, y.mm with
  | some m, _ => if y.within m then some m else none
  | none, some m => if x.within m then some m else none
  | none, none => none
 | _, _ => none
theorem mkOf_ok {op : BinOp} {k : IntKind} {x y : VI} {v w : Int} (hx : x.ok v) (hy : y.ok w) : ∀ m, mkOf op k x y = some m -> arI .and .u8 (arI op k v w) m = arI op k v w := by
 intro m h
 unfold mkOf at h
 split at h
 ·split at h
  ·rename_i e; cases h; exact mk_and_l (hx.2 _ e)
  ·rename_i e; cases h; exact mk_and_r (hy.2 _ e)
  ·rename_i e
   split at h
   ·rename_i hd; cases h
    have := isC_ok e hx
    subst this
    exact mk_and_l (of_decide_eq_true hd)
   ·cases h
  ·rename_i e
   split at h
   ·rename_i hd; cases h
    have := isC_ok e hy
    subst this
    exact mk_and_r (of_decide_eq_true hd)
   ·cases h
  ·cases h
 ·exact mk_andNot (hx.2 _ h)
 ·split at h
  ·rename_i e
   split at h
   ·rename_i hw; cases h
    exact mk_or (hx.2 _ e) (VI.within_ok hw hy)
   ·cases h
  ·rename_i e
   split at h
   ·rename_i hw; cases h
    exact mk_or (VI.within_ok hw hx) (hy.2 _ e)
   ·cases h
  ·cases h
 ·cases h

def arV (op : BinOp) (k : IntKind) (x y : VI) : VI := ⟨map2 (arI op k) x.vs y.vs, mkOf op k x y⟩
theorem arV_ok {op : BinOp} {k : IntKind} {x y : VI} {v w : Int} (hx : x.ok v) (hy : y.ok w) : (arV op k x y).ok (arI op k v w) := ⟨map2_ok hx.1 hy.1, mkOf_ok hx hy⟩
def op1V (f : Int -> Int) (x : VI) : VI := ⟨map1 f x.vs, none⟩
theorem op1V_ok {f : Int -> Int} {x : VI} {v : Int} (hx : x.ok v) : (op1V f x).ok (f v) := ⟨map1_ok hx.1, fun m h => by cases h⟩
def op2V (f : Int -> Int -> Int) (x y : VI) : VI := ⟨map2 f x.vs y.vs, none⟩
theorem op2V_ok {f : Int -> Int -> Int} {x y : VI} {v w : Int} (hx : x.ok v) (hy : y.ok w) : (op2V f x y).ok (f v w) := ⟨map2_ok hx.1 hy.1, fun m h => by cases h⟩
def uniO (x y : Option (List Int)) : Option (List Int) :=
 match x, y with
 | some L, some M => small (dedI L M)
 | _, _ => none
theorem uniO_ok {x y : Option (List Int)} {v : Int} (h : (∀ L, x = some L -> v ∈ L) \/ ∀ L, y = some L -> v ∈ L) : ∀ L, uniO x y = some L -> v ∈ L := by
 intro L e
 unfold uniO at e
 split at e
 ·rename_i M N
  rw [<- small_l e]
  refine dedI_mem ?_
  rcases h with h | h
  ·exact .inl (h M rfl)
  ·exact .inr (h N rfl)
 ·cases e
def VI.join (x y : VI) : VI := ⟨uniO x.vs y.vs, match x.mm, y.mm with
 | some m, _ => if y.within m then some m else none
 | none, some m => if x.within m then some m else none
 | none, none => none⟩
theorem VI.join_ok {x y : VI} {v : Int} (h : x.ok v \/ y.ok v) : (x.join y).ok v := by
 refine ⟨uniO_ok (h.imp (·.1) (·.1)), fun m e => ?_⟩
 simp only [VI.join] at e
 split at e
 ·rename_i k hk
  split at e
  ·rename_i hw; cases e
   rcases h with h | h
   ·exact h.2 _ hk
   ·exact VI.within_ok hw h
  ·cases e
 ·rename_i k _ hk
  split at e
  ·rename_i hw; cases e
   rcases h with h | h
   ·exact VI.within_ok hw h
   ·exact h.2 _ hk
  ·cases e
 ·cases e
def iteV (c : VB) (x y : VI) : VI := match c with
 | some true => x
 | some false => y
 | none => x.join y
theorem iteV_ok {c : VB} {x y : VI} {b : Bool} {v w : Int} (hc : c.ok b) (hx : x.ok v) (hy : y.ok w) : (iteV c x y).ok (if b then v else w) := by
 unfold iteV
 split
 ·rw [hc true rfl]; exact hx
 ·rw [hc false rfl]; exact hy
 ·cases b
  ·exact VI.join_ok (.inr hy)
  ·exact VI.join_ok (.inl hx)

structure VaS where
 ni : Nat
 nb : Nat
 ti : Tr VI
 tb : Tr VB
def VaS.i (σ : VaS) (n : Nat) : VI := σ.ti.get VI.top (n + 1)
def VaS.b (σ : VaS) (n : Nat) : VB := σ.tb.get none (n + 1)
def Vl {α β : Type} (ok : β -> α -> Prop) (d : α) (n : Nat) (f : Nat -> β) (l : List α) : Prop := l.length = n /\ ∀ j, j < n -> ok (f j) (l.getD j d)
def VaS.ok (σ : VaS) (is : List Int) (bs : List Bool) : Prop := Vl VI.ok 0 σ.ni σ.i is /\ Vl VB.ok false σ.nb σ.b bs
def AV (σ : VaS) : A -> VI
 | .v n => match Nat.blt n σ.ni with
  | true => σ.i n
  | false => VI.cst 0
 | .c k => VI.cst k
def BV (σ : VaS) : B -> VB
 | .v n => match Nat.blt n σ.nb with
  | true => σ.b n
  | false => some false
 | .c k => some k
theorem AV_ok {σ : VaS} {is : List Int} {bs : List Bool} (h : σ.ok is bs) (x : A) : (AV σ x).ok (x.d (envOf is bs)) := by
 cases x with
 | v n =>
  cases hn : Nat.blt n σ.ni with
  | true =>
   simp only [AV, hn]
   rw [Nat.blt_eq] at hn
   exact h.1.2 n hn
  | false =>
   simp only [AV, hn]
   have hn' : ¬ n < σ.ni := by rw [<- Nat.blt_eq]; simp [hn]
   show (VI.cst 0).ok (is.getD n 0)
   rw [getD_ge (by rw [h.1.1]; omega)]
   exact VI.cst_ok
 | c k => exact VI.cst_ok
theorem BV_ok {σ : VaS} {is : List Int} {bs : List Bool} (h : σ.ok is bs) (x : B) : VB.ok (BV σ x) (x.d (envOf is bs)) := by
 cases x with
 | v n =>
  cases hn : Nat.blt n σ.nb with
  | true =>
   simp only [BV, hn]
   rw [Nat.blt_eq] at hn
   exact h.2.2 n hn
  | false =>
   simp only [BV, hn]
   have hn' : ¬ n < σ.nb := by rw [<- Nat.blt_eq]; simp [hn]
   show VB.ok (some false) (bs.getD n false)
   rw [getD_ge (by rw [h.2.1]; omega)]
   exact VB.some_ok
 | c k => exact VB.some_ok
def cstV (v : VI) (f : Int -> VI) : VI := match v.vs with
 | some [c] => f c
 | _ => VI.top
theorem cstV_ok {v : VI} {x : Int} {f : Int -> VI} {y : Int} (h : v.ok x) (hf : (f x).ok y) : (cstV v f).ok y := by
 unfold cstV
 split
 ·rename_i c hc
  have := h.1 _ hc
  simp only [List.mem_singleton] at this
  rw [<- this]; exact hf
 ·exact VI.top_ok
def lstC (g : A -> VI) : List A -> Option (List Int)
 | [] => some []
 | a :: l => match (g a).vs, lstC g l with
  | some [c], some r => some (c :: r)
  | _, _ => none
def lstV (g : A -> VI) (l : List A) : VI := match lstC g l with
 | some r => VI.cst (enc r)
 | none => VI.top
theorem lstC_ok {g : A -> VI} {ρ : Env} (h : ∀ a, (g a).ok (a.d ρ)) : ∀ {l : List A} {r : List Int}, lstC g l = some r -> l.map (A.d ρ) = r
 | [], r, e => by simp only [lstC, zO] at e; subst e; rfl
 | a :: l, r, e => by
  unfold lstC at e
  split at e
  ·rename_i c r' h1 h2
   simp only [zO] at e
   subst e
   have := (h a).1 _ h1
   simp only [List.mem_singleton] at this
   rw [List.map_cons, this, lstC_ok h h2]
  ·cases e
theorem lstV_ok {g : A -> VI} {ρ : Env} (h : ∀ a, (g a).ok (a.d ρ)) (l : List A) : (lstV g l).ok (enc (l.map (A.d ρ))) := by
 unfold lstV
 split
 ·rename_i r hr
  rw [lstC_ok h hr]; exact VI.cst_ok
 ·exact VI.top_ok
def RI.va (σ : VaS) : RI -> VI
 | .ar op k a b => arV op k (AV σ a) (AV σ b)
 | .cv k a => op1V (IntKind.wrap k) (AV σ a)
 | .ite c a b => iteV (BV σ c) (AV σ a) (AV σ b)
 | .mn a b => op2V (fun x y => if y < x then y else x) (AV σ a) (AV σ b)
 | .mx a b => op2V (fun x y => if y > x then y else x) (AV σ a) (AV σ b)
 | .tab l a => op1V (fun x : Int => l.getD x.toNat 0) (AV σ a)
 | .get q a s k => op2V (fun q a => (dec q).getD (a.toNat * s + k) 0) (AV σ q) (AV σ a)
 | .lenq q s => op1V (fun q => ((dec q).length / s : Nat)) (AV σ q)
 | .b2i b => iteV (BV σ b) (AV σ (.c 1)) (AV σ (.c 0))
 | .rep n s => op1V (fun n => enc (List.replicate (n.toNat * s) 0)) (AV σ n)
 | .cat p q => op2V (fun p q => enc (dec p ++ dec q)) (AV σ p) (AV σ q)
 | .setq q a s k x => cstV (AV σ x) fun x => op2V (fun q a => enc ((dec q).set (a.toNat * s + k) x)) (AV σ q) (AV σ a)
 | .lst l => lstV (AV σ) l
 | _ => VI.top
def mapB (f : Bool -> Bool) (x : VB) : VB := x.map f
theorem mapB_ok {f : Bool -> Bool} {x : VB} {b : Bool} (h : x.ok b) : VB.ok (mapB f x) (f b) := fun v e => by
 simp only [mapB, Option.map_eq_some_iff] at e
 obtain ⟨u, h1, h2⟩ := e
 rw [h u h1]; exact h2
def RB.va (σ : VaS) : RB -> VB
 | .cm op a b => tru2 (cmB op) (AV σ a).vs (AV σ b).vs
 | .not a => mapB (fun x => !x) (BV σ a)
 | .and a b => andO (BV σ a) (BV σ b)
 | .or a b => orO (BV σ a) (BV σ b)
 | .eqb a b => op2 (fun x y : Bool => x == y) (BV σ a) (BV σ b)
 | .ite c a b => iteO (BV σ c) (BV σ a) (BV σ b)
 | .getb q a s k => tru2 (fun q a => (dec q).getD (a.toNat * s + k) 0 != 0) (AV σ q).vs (AV σ a).vs
theorem RI.va_ok {σ : VaS} {is : List Int} {bs : List Bool} (h : σ.ok is bs) (r : RI) : (r.va σ).ok (r.d (envOf is bs)) := by
 cases r with
 | ar op k a b => exact arV_ok (AV_ok h a) (AV_ok h b)
 | cv k a => exact op1V_ok (AV_ok h a)
 | ite c a b => exact iteV_ok (BV_ok h c) (AV_ok h a) (AV_ok h b)
 | mn a b => exact op2V_ok (f := fun x y => if y < x then y else x) (AV_ok h a) (AV_ok h b)
 | mx a b => exact op2V_ok (f := fun x y => if y > x then y else x) (AV_ok h a) (AV_ok h b)
 | tab l a => exact op1V_ok (f := fun x : Int => l.getD x.toNat 0) (AV_ok h a)
 | get q a s k => exact op2V_ok (f := fun q a => (dec q).getD (a.toNat * s + k) 0) (AV_ok h q) (AV_ok h a)
 | lenq q s => exact op1V_ok (f := fun q => ((dec q).length / s : Nat)) (AV_ok h q)
 | b2i b => exact iteV_ok (BV_ok h b) (AV_ok h (.c 1)) (AV_ok h (.c 0))
 | rep n s => exact op1V_ok (f := fun n => enc (List.replicate (n.toNat * s) 0)) (AV_ok h n)
 | cat p q => exact op2V_ok (f := fun p q => enc (dec p ++ dec q)) (AV_ok h p) (AV_ok h q)
 | setq q a s k x => exact cstV_ok (AV_ok h x) (op2V_ok (f := fun q a => enc ((dec q).set (a.toNat * s + k) (x.d (envOf is bs)))) (AV_ok h q) (AV_ok h a))
 | lst l => exact lstV_ok (AV_ok h) l
 | _ => exact VI.top_ok
theorem RB.va_ok {σ : VaS} {is : List Int} {bs : List Bool} (h : σ.ok is bs) (r : RB) : VB.ok (r.va σ) (r.d (envOf is bs)) := by
 cases r with
 | cm op a b => exact tru2_ok (AV_ok h a).1 (AV_ok h b).1
 | not a => exact mapB_ok (f := fun x => !x) (BV_ok h a)
 | and a b => exact andO_ok (BV_ok h a) (BV_ok h b)
 | or a b => exact orO_ok (BV_ok h a) (BV_ok h b)
 | eqb a b => exact op2_ok (f := fun x y : Bool => x == y) (BV_ok h a) (BV_ok h b)
 | ite c a b => exact iteO_ok (BV_ok h c) (BV_ok h a) (BV_ok h b)
 | getb q a s k => exact tru2_ok (f := fun q a => (dec q).getD (a.toNat * s + k) 0 != 0) (AV_ok h q).1 (AV_ok h a).1
def VaS.pushI (σ : VaS) (x : VI) : VaS := { σ with ni := σ.ni + 1, ti := σ.ti.set (σ.ni + 1) x }
def VaS.pushB (σ : VaS) (x : VB) : VaS := { σ with nb := σ.nb + 1, tb := σ.tb.set (σ.nb + 1) x }
theorem Vl.push {α β : Type} {ok : β -> α -> Prop} {d x : α} {n : Nat} {t : Tr β} {tp : β} (htp : ∀ x, ok tp x) {u : β} {l : List α} (h : Vl ok d n (fun j => t.get tp (j + 1)) l) (hu : ok u x) :
  Vl ok d (n + 1) (fun j => (t.set (n + 1) u).get tp (j + 1)) (l ++ [x]) := by
 obtain ⟨h1, h3⟩ := h
 refine ⟨by simp [h1], fun j hj => ?_⟩
 simp only
 by_cases e : j = n
 ·have e1 : (l ++ [x]).getD j d = x := by rw [e, <- h1]; exact getD_snoc_eq
  rw [e1, e]
  rcases Tr.get_set_eq (d := tp) (x := u) (t := t) (i := n + 1) with h | h
  ·rw [h]; exact hu
  ·rw [h]; exact htp x
 ·rw [getD_snoc_lt (by omega), Tr.get_set_ne (by omega) (by omega) (by omega)]
  exact h3 j (by omega)
theorem VaS.pushI_ok {σ : VaS} {is : List Int} {bs : List Bool} {u : VI} {x : Int} (h : σ.ok is bs) (hu : u.ok x) : (σ.pushI u).ok (is ++ [x]) bs := ⟨Vl.push (fun _ => VI.top_ok) h.1 hu, h.2⟩
theorem VaS.pushB_ok {σ : VaS} {is : List Int} {bs : List Bool} {u : VB} {x : Bool} (h : σ.ok is bs) (hu : u.ok x) : (σ.pushB u).ok is (bs ++ [x]) := ⟨h.1, Vl.push (fun _ => VB.none_ok) h.2 hu⟩
def VaS.pushIs (σ : VaS) : Nat -> List VI -> VaS
 | 0, _ => σ
 | n + 1, [] => (σ.pushI VI.top).pushIs n []
 | n + 1, x :: l => (σ.pushI x).pushIs n l
def VaS.pushBs (σ : VaS) : Nat -> List VB -> VaS
 | 0, _ => σ
 | n + 1, [] => (σ.pushB none).pushBs n []
 | n + 1, x :: l => (σ.pushB x).pushBs n l
def Vw {α β : Type} (ok : β -> α -> Prop) (tp : β) (d : α) (ls : List β) (l : List α) : Prop := ∀ j, ok (ls.getD j tp) (l.getD j d)
abbrev VwI := Vw VI.ok VI.top 0
abbrev VwB := Vw VB.ok none false
theorem VwI.nil {l : List Int} : VwI [] l := fun j => by simpa using VI.top_ok
theorem VwB.nil {l : List Bool} : VwB [] l := fun j => by simpa using VB.none_ok
theorem Vw.cons {α β : Type} {ok : β -> α -> Prop} {tp : β} {d x : α} {u : β} {ls : List β} {l : List α} (hu : ok u x) (h : Vw ok tp d ls l) : Vw ok tp d (u :: ls) (x :: l) := by
 intro j
 cases j with
 | zero => simpa using hu
 | succ j => simpa using h j
theorem Vw.tail {α β : Type} {ok : β -> α -> Prop} {tp : β} {d : α} {ls : List β} {l : List α} (h : Vw ok tp d ls l) : Vw ok tp d ls.tail l.tail := fun j => by
 have := h (j + 1)
 cases ls <;> cases l <;> simpa using this
theorem VaS.pushIs_ok : ∀ {n : Nat} {σ : VaS} {is : List Int} {bs : List Bool} {ls : List VI} {l : List Int}, σ.ok is bs -> VwI ls l -> (σ.pushIs n ls).ok (is ++ padTo 0 n l) bs
 | 0, σ, is, bs, ls, l, h, hp => by simpa [padTo, VaS.pushIs] using h
 | n + 1, σ, is, bs, ls, l, h, hp => by
  rw [padTo_succ, show is ++ l.getD 0 0 :: padTo 0 n l.tail = (is ++ [l.getD 0 0]) ++ padTo 0 n l.tail by simp]
  cases ls with
  | nil => exact VaS.pushIs_ok (VaS.pushI_ok h (hp 0)) hp.tail
  | cons u ls => exact VaS.pushIs_ok (VaS.pushI_ok h (hp 0)) hp.tail
theorem VaS.pushBs_ok : ∀ {n : Nat} {σ : VaS} {is : List Int} {bs : List Bool} {ls : List VB} {l : List Bool}, σ.ok is bs -> VwB ls l -> (σ.pushBs n ls).ok is (bs ++ padTo false n l)
 | 0, σ, is, bs, ls, l, h, hp => by simpa [padTo, VaS.pushBs] using h
 | n + 1, σ, is, bs, ls, l, h, hp => by
  rw [padTo_succ, show bs ++ l.getD 0 false :: padTo false n l.tail = (bs ++ [l.getD 0 false]) ++ padTo false n l.tail by simp]
  cases ls with
  | nil => exact VaS.pushBs_ok (VaS.pushB_ok h (hp 0)) hp.tail
  | cons u ls => exact VaS.pushBs_ok (VaS.pushB_ok h (hp 0)) hp.tail

abbrev VF := List VI -> List VB -> List VI × List VB
def VOk (F : Fun) (p : VF) : Prop := ∀ li lb is bs, is.length = li.length -> bs.length = lb.length -> VwI li is -> VwB lb bs -> VwI (p li lb).1 (F is bs).1 /\ VwB (p li lb).2 (F is bs).2
def VF.nil : VF := fun _ _ => ([], [])
theorem VOk.nil {F : Fun} : VOk F VF.nil := fun _ _ _ _ _ _ _ _ => ⟨VwI.nil, VwB.nil⟩
def vaEm (T : Nat -> VF) : List Em -> VaS -> VaS
 | [], σ => σ
 | .di _ r :: l, σ => vaEm T l (σ.pushI (r.va σ))
 | .db _ r :: l, σ => vaEm T l (σ.pushB (r.va σ))
 | .call f ai ab _ ni _ nb :: l, σ =>
  match T f (ai.map (AV σ)) (ab.map (BV σ)) with
  | (oi, ob) => vaEm T l ((σ.pushIs ni oi).pushBs nb ob)
 | .ob _ _ :: l, σ => vaEm T l σ
theorem VwI.map {β : Type} {f : β -> VI} {g : β -> Int} : ∀ {l : List β}, (∀ x, (f x).ok (g x)) -> VwI (l.map f) (l.map g)
 | [], _ => VwI.nil
 | x :: l, hx => Vw.cons (hx x) (VwI.map hx)
theorem VwB.map {β : Type} {f : β -> VB} {g : β -> Bool} : ∀ {l : List β}, (∀ x, VB.ok (f x) (g x)) -> VwB (l.map f) (l.map g)
 | [], _ => VwB.nil
 | x :: l, hx => Vw.cons (hx x) (VwB.map hx)
theorem vaEm_ok {Φ : Funs} {T : Nat -> VF} (hT : ∀ f, VOk (Φ f) (T f)) : ∀ {l : List Em} {σ : VaS} {is : List Int} {bs : List Bool}, σ.ok is bs -> (vaEm T l σ).ok (evEm Φ l is bs).1 (evEm Φ l is bs).2
 | [], σ, is, bs, h => h
 | .di _ r :: l, σ, is, bs, h => vaEm_ok hT (l := l) (VaS.pushI_ok h (r.va_ok h))
 | .db _ r :: l, σ, is, bs, h => vaEm_ok hT (l := l) (VaS.pushB_ok h (r.va_ok h))
 | .call f ai ab _ ni _ nb :: l, σ, is, bs, h => by
  have h1 := hT f (ai.map (AV σ)) (ab.map (BV σ)) (ai.map (A.d (envOf is bs))) (ab.map (B.d (envOf is bs))) (by simp) (by simp) (VwI.map (AV_ok h)) (VwB.map (BV_ok h))
  simp only [vaEm, evEm]
  exact vaEm_ok hT (VaS.pushBs_ok (VaS.pushIs_ok h h1.1) h1.2)
 | .ob _ _ :: l, σ, is, bs, h => vaEm_ok hT (l := l) h
def VaS.of (li : List VI) (lb : List VB) : VaS := (VaS.pushIs ⟨0, 0, .e, .e⟩ li.length li).pushBs lb.length lb
theorem padTo_self {α : Type} (d : α) : ∀ (l : List α), padTo d l.length l = l
 | [] => rfl
 | x :: l => by simp [padTo, padTo_self d l]
theorem VaS.of_ok {li : List VI} {lb : List VB} {is : List Int} {bs : List Bool} (hi : VwI li is) (hb : VwB lb bs) (h1 : is.length = li.length) (h3 : bs.length = lb.length) : (VaS.of li lb).ok is bs := by
 have h0 : (⟨0, 0, .e, .e⟩ : VaS).ok [] [] := ⟨⟨rfl, fun j hj => absurd hj (Nat.not_lt_zero j)⟩, rfl, fun j hj => absurd hj (Nat.not_lt_zero j)⟩
 have := VaS.pushBs_ok (n := lb.length) (VaS.pushIs_ok (n := li.length) h0 hi) hb
 rw [<- h1, padTo_self, h1, <- h3, padTo_self, h3] at this
 exact this
def obV (σ : VaS) (l : List Em) : Bool := l.all fun
 | .ob g b => g.any (fun p => match BV σ p.1 with
   | some v => v != p.2
   | none => false) || (match BV σ b with
   | some true => true
   | _ => false)
 | _ => true
theorem obV_ok {σ : VaS} {is : List Int} {bs : List Bool} (h : σ.ok is bs) {l : List Em} (ho : obV σ l = true) : obAll (envOf is bs) l = true := by
 unfold obAll
 unfold obV at ho
 rw [List.all_eq_true] at ho ⊢
 intro e he
 have := ho e he
 cases e with
 | ob g b =>
  simp only [Bool.or_eq_true] at this ⊢
  rcases this with h1 | h1
  ·left
   rw [List.any_eq_true] at h1
   obtain ⟨p, hp, h2⟩ := h1
   split at h2
   ·rename_i v hv
    have h3 := BV_ok h p.1 v hv
    simp only [bne_iff_ne, ne_eq] at h2
    simp only [Bool.not_eq_true']
    cases hg : Gd.d (envOf is bs) g
    ·rfl
    ·unfold Gd.d at hg
     rw [List.all_eq_true] at hg
     have := hg p hp
     simp only [beq_iff_eq] at this
     exact absurd (h3.symm.trans this) h2
   ·cases h2
  ·right
   split at h1
   ·rename_i hv
    exact BV_ok h b true hv
   ·cases h1
 | _ => rfl
def Smry.va (T : Nat -> VF) (pre : Bool) (S : Smry) : VF := fun li lb =>
 match vaEm T S.em (VaS.of li lb) with
 | σ => (S.ri.map (AV σ), (if pre then [if obV σ S.em then some true else none] else []) ++ S.rb.map (BV σ))
theorem Smry.va_ok {Φ : Funs} {T : Nat -> VF} (hT : ∀ f, VOk (Φ f) (T f)) {pre : Bool} {S : Smry} : VOk (S.run Φ pre) (S.va T pre) := by
 intro li lb is bs h1 h2 hi hb
 have h := vaEm_ok hT (l := S.em) (VaS.of_ok hi hb h1 h2)
 unfold Smry.va Smry.run
 simp only
 refine ⟨VwI.map (AV_ok h), ?_⟩
 cases pre
 ·simpa using VwB.map (BV_ok h)
 ·simp only [if_true, List.cons_append, List.nil_append]
  refine Vw.cons ?_ (VwB.map (BV_ok h))
  split
  ·rename_i ho
   rw [obV_ok h ho]; exact VB.some_ok
  ·exact VB.none_ok

def VI.le (x y : VI) : Bool := (match y.vs with
  | none => true
  | some M => match x.vs with
   | some L => L.all fun a => M.any fun b => decide (a = b)
   | none => false) && (match y.mm with
  | none => true
  | some m => x.within m)
theorem VI.le_ok {x y : VI} {v : Int} (h : x.le y = true) (hx : x.ok v) : y.ok v := by
 unfold VI.le at h
 simp only [Bool.and_eq_true] at h
 refine ⟨fun M hM => ?_, fun m hm => ?_⟩
 ·have h1 := h.1
  rw [hM] at h1
  simp only at h1
  split at h1
  ·rename_i L hL
   have := List.all_eq_true.1 h1 v (hx.1 L hL)
   rw [List.any_eq_true] at this
   obtain ⟨b, hb, e⟩ := this
   rw [of_decide_eq_true e]; exact hb
  ·cases h1
 ·have h2 := h.2
  rw [hm] at h2
  exact VI.within_ok h2 hx
def VB.le (x y : VB) : Bool := match y with
 | none => true
 | some v => match x with
  | some u => u == v
  | none => false
theorem VB.le_ok {x y : VB} {v : Bool} (h : VB.le x y = true) (hx : VB.ok x v) : VB.ok y v := by
 intro u e
 subst e
 unfold VB.le at h
 simp only at h
 split at h
 ·rename_i w
  simp only [beq_iff_eq] at h
  subst h
  exact hx _ rfl
 ·cases h
def leI : List VI -> List VI -> Bool
 | [], [] => true
 | x :: l, y :: m => x.le y && leI l m
 | _, _ => false
theorem leI_ok : ∀ {l m : List VI} {is : List Int}, leI l m = true -> VwI l is -> VwI m is /\ l.length = m.length
 | [], [], is, _, h => ⟨h, rfl⟩
 | x :: l, y :: m, is, h, hw => by
  unfold leI at h
  simp only [Bool.and_eq_true] at h
  have ih := leI_ok (is := is.tail) h.2 hw.tail
  refine ⟨fun j => ?_, by simp [ih.2]⟩
  cases j with
  | zero => exact VI.le_ok h.1 (hw 0)
  | succ j =>
   have := ih.1 j
   cases is <;> simpa using this
 | [], _ :: _, _, h, _ => by cases h
 | _ :: _, [], _, h, _ => by cases h
def joinIs : List VI -> List VI -> List VI
 | x :: l, y :: m => x.join y :: joinIs l m
 | _, _ => []
def joinBs : List VB -> List VB -> List VB
 | x :: l, y :: m => joinO x y :: joinBs l m
 | _, _ => []
theorem joinIs_l : ∀ {l m : List VI} {is : List Int}, VwI l is \/ VwI m is -> VwI (joinIs l m) is
 | [], m, is, h => by unfold joinIs; exact VwI.nil
 | _ :: _, [], is, h => by unfold joinIs; exact VwI.nil
 | x :: l, y :: m, is, h => by
  have ih := joinIs_l (l := l) (m := m) (is := is.tail) (h.imp Vw.tail Vw.tail)
  intro j
  cases j with
  | zero => exact VI.join_ok (h.imp (fun h => h 0) (fun h => h 0))
  | succ j =>
   have := ih j
   cases is <;> simpa [joinIs] using this
theorem joinO_ok {x y : VB} {v : Bool} (h : VB.ok x v \/ VB.ok y v) : VB.ok (joinO x y) v := by
 intro u e
 obtain ⟨h1, h2⟩ := joinO_l e
 rcases h with h | h
 ·exact h u h1
 ·exact h u h2
theorem joinBs_l : ∀ {l m : List VB} {is : List Bool}, VwB l is \/ VwB m is -> VwB (joinBs l m) is
 | [], m, is, h => by unfold joinBs; exact VwB.nil
 | _ :: _, [], is, h => by unfold joinBs; exact VwB.nil
 | x :: l, y :: m, is, h => by
  have ih := joinBs_l (l := l) (m := m) (is := is.tail) (h.imp Vw.tail Vw.tail)
  intro j
  cases j with
  | zero => exact joinO_ok (h.imp (fun h => h 0) (fun h => h 0))
  | succ j =>
   have := ih j
   cases is <;> simpa [joinBs] using this
def setV {α : Type} (x : α) : Nat -> List α -> List α
 | _, [] => []
 | 0, _ :: l => x :: l
 | n + 1, y :: l => y :: setV x n l
theorem setV_length {α : Type} {x : α} : ∀ {n : Nat} {l : List α}, (setV x n l).length = l.length
 | _, [] => by cases ‹Nat› <;> rfl
 | 0, _ :: l => rfl
 | n + 1, y :: l => by simp [setV, setV_length (n := n) (l := l)]
theorem setV_ok {x : VI} {v : Int} : ∀ {n : Nat} {l : List VI} {is : List Int}, VwI l is -> (is.getD n 0 = v) -> x.ok v -> VwI (setV x n l) is
 | n, [], is, h, _, _ => by cases n <;> exact h
 | 0, y :: l, is, h, e, hx => by
  intro j
  cases j with
  | zero => simp only [setV, List.getD_cons_zero]; rw [e]; exact hx
  | succ j => have := h (j + 1); simpa [setV] using this
 | n + 1, y :: l, is, h, e, hx => by
  have ih := setV_ok (n := n) (l := l) (is := is.tail) (Vw.tail h) (by cases is <;> simpa using e) hx
  intro j
  cases j with
  | zero => exact h 0
  | succ j =>
   have := ih j
   cases is <;> simpa [setV] using this
def splitL (p : VF) (n : Nat) (li : List VI) (lb : List VB) : List Int -> List VI × List VB
 | [] => ([], [])
 | [v] => p (setV (VI.cst v) n li) lb
 | v :: L => match p (setV (VI.cst v) n li) lb, splitL p n li lb L with
  | o, r => (joinIs o.1 r.1, joinBs o.2 r.2)
theorem splitL_ok {F : Fun} {p : VF} (h : VOk F p) {n : Nat} {li : List VI} {lb : List VB} {is : List Int} {bs : List Bool} (h1 : is.length = li.length) (h2 : bs.length = lb.length) (hi : VwI li is) (hb : VwB lb bs) :
  ∀ {L : List Int}, is.getD n 0 ∈ L -> VwI (splitL p n li lb L).1 (F is bs).1 /\ VwB (splitL p n li lb L).2 (F is bs).2
 | [], hm => by cases hm
 | [v], hm => by
  simp only [List.mem_singleton] at hm
  exact h _ _ is bs (by rw [setV_length]; exact h1) h2 (setV_ok hi hm VI.cst_ok) hb
 | v :: w :: L, hm => by
  unfold splitL
  simp only
  by_cases e : is.getD n 0 = v
  ·have := h (setV (VI.cst v) n li) lb is bs (by rw [setV_length]; exact h1) h2 (setV_ok hi e VI.cst_ok) hb
   exact ⟨joinIs_l (.inl this.1), joinBs_l (.inl this.2)⟩
  ·have := splitL_ok h h1 h2 hi hb (L := w :: L) (by rcases List.mem_cons.1 hm with h | h; exact absurd h e; exact h)
   exact ⟨joinIs_l (.inr this.1), joinBs_l (.inr this.2)⟩
def VF.split (p : VF) (n : Nat) : VF := fun li lb => match (li.getD n VI.top).vs with
 | some L => splitL p n li lb L
 | none => p li lb
theorem VOk.split {F : Fun} {p : VF} (h : VOk F p) (n : Nat) : VOk F (p.split n) := by
 intro li lb is bs h1 h2 hi hb
 unfold VF.split
 split
 ·rename_i L hL
  exact splitL_ok h h1 h2 hi hb ((hi n).1 L hL)
 ·exact h li lb is bs h1 h2 hi hb
def tabV : List (Nat × VF) -> Nat -> VF
 | [], _ => VF.nil
 | (f, p) :: l, n => if Nat.beq n f then p else tabV l n
theorem tabV_nil : ∀ f, VOk (tabF [] f) (tabV [] f) := fun _ => VOk.nil
theorem tabV_cons {l : List (Nat × Sum × Fun)} {m : List (Nat × VF)} {f : Nat} {s : Sum} {F : Fun} {p : VF} (h : VOk F p) (ht : ∀ f, VOk (tabF l f) (tabV m f)) : ∀ g, VOk (tabF ((f, s, F) :: l) g) (tabV ((f, p) :: m) g) := by
 intro g
 unfold tabF tabV
 by_cases e : g = f
 ·rw [if_pos (by simpa using e), if_pos (by simpa using e)]; exact h
 ·rw [if_neg (by simpa using e), if_neg (by simpa using e)]; exact ht g

theorem getD_drop {α : Type} {d : α} : ∀ {n j : Nat} {l : List α}, (l.drop n).getD j d = l.getD (n + j) d
 | 0, j, l => by simp
 | n + 1, j, [] => by simp
 | n + 1, j, x :: l => by rw [Nat.succ_add]; simp
theorem getD_take {α : Type} {d : α} : ∀ {n j : Nat} {l : List α}, (l.take n).getD j d = if j < n then l.getD j d else d
 | 0, j, l => by simp
 | n + 1, j, [] => by simp
 | n + 1, 0, x :: l => by simp
 | n + 1, j + 1, x :: l => by simpa using getD_take (n := n) (j := j) (l := l)
theorem Vw.drop {α β : Type} {ok : β -> α -> Prop} {tp : β} {d : α} {ls : List β} {l : List α} (n : Nat) (h : Vw ok tp d ls l) : Vw ok tp d (ls.drop n) (l.drop n) := fun j => by
 rw [getD_drop, getD_drop]; exact h (n + j)
theorem Vw.take {α β : Type} {ok : β -> α -> Prop} {tp : β} {d : α} {ls : List β} {l : List α} (htp : ∀ x, ok tp x) (n : Nat) (h : Vw ok tp d ls l) : Vw ok tp d (ls.take n) (l.take n) := fun j => by
 rw [getD_take, getD_take]
 split
 ·exact h j
 ·exact htp _
def Smry.vaLoop (T : Nat -> VF) (S : Smry) (nI nB : Nat) : Nat -> VF
 | 0 => VF.nil
 | n + 1 => fun li lb => match S.va T true li lb with
  | (oi, some true :: some true :: ob) => S.vaLoop T nI nB n (oi.take nI) (ob.take nB)
  | (oi, some true :: some false :: ob) => (oi.drop nI, some true :: ob.drop nB)
  | _ => ([], [])
theorem Smry.vaLoop_run {Φ : Funs} {T : Nat -> VF} (hT : ∀ f, VOk (Φ f) (T f)) {S : Smry} {nI nB : Nat} : ∀ {n : Nat} {li : List VI} {lb : List VB} {is : List Int} {bs : List Bool}, is.length = li.length -> bs.length = lb.length -> VwI li is -> VwB lb bs ->
  S.vaLoop T nI nB n li lb = ([], []) \/ ∃ m o, LRun (S.run Φ true) nI nB m is bs o /\ VwI (S.vaLoop T nI nB n li lb).1 o.1 /\ VwB (S.vaLoop T nI nB n li lb).2 (true :: o.2)
 | 0, li, lb, is, bs, h1, h2, hi, hb => .inl rfl
 | n + 1, li, lb, is, bs, h1, h2, hi, hb => by
  have hv := Smry.va_ok hT (pre := true) (S := S) li lb is bs h1 h2 hi hb
  have e1 : (S.va T true li lb).1.length = (S.run Φ true is bs).1.length := by simp [Smry.va, Smry.run]
  have e2 : (S.va T true li lb).2.length = (S.run Φ true is bs).2.length := by simp [Smry.va, Smry.run]
  unfold Smry.vaLoop
  generalize S.va T true li lb = q at hv e1 e2 ⊢
  obtain ⟨oi, ob⟩ := q
  simp only at hv e1 e2 ⊢
  obtain ⟨hv1, hv2⟩ := hv
  cases hr : (S.run Φ true is bs).2 with
  | nil =>
   rw [hr] at e2
   have : ob = [] := List.eq_nil_of_length_eq_zero e2
   subst this
   exact .inl rfl
  | cons b0 rb0 =>
   cases rb0 with
   | nil =>
    rw [hr] at e2
    match ob, e2 with
    | [x], _ =>
     left
     split <;> simp_all
   | cons b1 rb =>
    rw [hr] at e2 hv2
    split
    ·rename_i x oi' ob' he
     simp only [zP] at he
     obtain ⟨rfl, rfl⟩ := he
     have a0 := hv2 0 true rfl
     have a1 := hv2 1 true rfl
     simp only [List.getD_cons_zero, List.getD_cons_succ] at a0 a1
     subst a0; subst a1
     have hv3 : VwB ob' rb := (Vw.tail (Vw.tail hv2))
     simp only [List.length_cons, Nat.add_right_cancel_iff] at e2
     rcases Smry.vaLoop_run hT (S := S) (nI := nI) (nB := nB) (n := n) (li := oi.take nI) (lb := ob'.take nB) (is := (S.run Φ true is bs).1.take nI) (bs := rb.take nB)
      (by simp [e1]) (by simp [e2]) (Vw.take (fun _ => VI.top_ok) nI hv1) (Vw.take (fun _ => VB.none_ok) nB hv3) with h | ⟨m, o, hm, h3, h4⟩
     ·exact .inl h
     ·exact .inr ⟨m + 1, o, .turn hr hm, h3, h4⟩
    ·rename_i x oi' ob' he
     simp only [zP] at he
     obtain ⟨rfl, rfl⟩ := he
     have a0 := hv2 0 true rfl
     have a1 := hv2 1 false rfl
     simp only [List.getD_cons_zero, List.getD_cons_succ] at a0 a1
     subst a0; subst a1
     have hv3 : VwB ob' rb := (Vw.tail (Vw.tail hv2))
     exact .inr ⟨1, _, .stop hr, Vw.drop nI hv1, Vw.cons VB.some_ok (Vw.drop nB hv3)⟩
    ·exact .inl rfl
theorem Smry.vaLoop_ok {Φ : Funs} {T : Nat -> VF} (hT : ∀ f, VOk (Φ f) (T f)) {S : Smry} {nI nB n : Nat} : VOk (loopF (S.run Φ true) nI nB) (S.vaLoop T nI nB n) := by
 intro li lb is bs h1 h2 hi hb
 rcases Smry.vaLoop_run hT (S := S) (nI := nI) (nB := nB) (n := n) h1 h2 hi hb with h | ⟨m, o, hm, h3, h4⟩
 ·rw [h]; exact ⟨VwI.nil, VwB.nil⟩
 ·rw [loopF_of hm]; exact ⟨h3, h4⟩
def lpV : List LAnn -> Nat -> (Nat -> VF) -> Nat -> VF
 | [], _, T => T
 | L :: l, k, T => fun n => if n == L.id then L.S.vaLoop (lpV l k T) L.nI L.nB k else lpV l k T n
theorem lpV_ok {Φ : Funs} {T : Nat -> VF} {k : Nat} (hT : ∀ f, VOk (Φ f) (T f)) : ∀ {l : List LAnn} (f : Nat), VOk (lpF l Φ f) (lpV l k T f)
 | [], f => hT f
 | L :: l, f => by
  unfold lpF lpV
  split
  ·exact Smry.vaLoop_ok (lpV_ok hT)
  ·exact lpV_ok hT f
def VF.at0 (F : Nat -> Fl) : VF := fun li _ => match li with
 | [⟨some [.ofNat v], _⟩] => ((F v).1.map VI.cst, (F v).2.map some)
 | _ => ([], [])
theorem VF.at0_ok {F : Nat -> Fl} : VOk (fun is _ => F (is.getD 0 0).toNat) (VF.at0 F) := by
 intro li lb is bs h1 h2 hi hb
 unfold VF.at0
 split
 ·rename_i v _
  have := (hi 0).1 _ rfl
  simp only [List.mem_singleton] at this
  simp only
  rw [this, show (Int.ofNat v).toNat = v from rfl]
  have e1 : ∀ (l : List Int), VwI (l.map VI.cst) l := fun l => by
   have := VwI.map (f := VI.cst) (g := id) (l := l) (fun x => VI.cst_ok)
   simpa using this
  have e2 : ∀ (l : List Bool), VwB (l.map some) l := fun l => by
   have := VwB.map (f := some) (g := id) (l := l) (fun x => VB.some_ok)
   simpa using this
  exact ⟨e1 _, e2 _⟩
 ·exact ⟨VwI.nil, VwB.nil⟩
end Go.Proofs.YtghlmhlamoagoaaGreat.Sx
namespace Go.Proofs.YtghlmhlamoagoaaGreat.Fl
open Go Go.Proofs Go.Proofs.YtghlmhlamoagoaaGreat.Sx

def most (n : Nat) : Int := if mdT.getD n 0 = 11 then cyT.getD n 0 + 2 else if crT.getD n false then cyT.getD n 0 + 1 else if mdT.getD n 0 = 20 then 2 else cyT.getD n 0
def tmay (op t : Int) : Bool := decide (0 <= t) && (decide (t <= 0) || decide (t < most op.toNat))
def may (p s op t intr pend : Int) : Bool := tmay op t && (decide (0 <= intr) && decide (intr <= 3)) && (decide (0 <= pend) && decide (pend <= 2)) && decide (arI .and .u8 p 207 = p) && decide (arI .and .u8 s 207 = s)
theorem f35 {Φ : Funs} (h : Φ 35 = F35) (i : Int) : Φ 35 [i] [] = dec i.toNat := by rw [h]; rfl
theorem cy_le (n : Nat) : 0 <= cyT.getD n 0 /\ cyT.getD n 0 <= 8 := by
 by_cases h : n < 256
 ·exact of_decide_eq_true (allR_spec (f := fun n => decide (0 <= cyT.getD n (0 : Int) /\ cyT.getD n (0 : Int) <= 8)) (k := 8) (lo := 0) (by kernel_rfl) n (Nat.zero_le _) (by omega))
 ·rw [getD_ge (by rw [show cyT.length = 256 by kernel_rfl]; omega)]; omega
theorem w21 (i0 i1 i2 i3 i4 i5 i6 i7 i8 i9 i10 i11 i12 : Int) (b0 b1 b2 b3 b4 b5 b6 b7 b8 b9 b10 b11 : Bool) : F21 [i0,i1,i2,i3,i4,i5,i6,i7,i8,i9,i10,i11,i12] [b0,b1,b2,b3,b4,b5,b6,b7,b8,b9,b10,b11] = ([if may i4 i5 i7 i8 i11 i12 then 0 else 1], []) := by
 unfold F21
 obtain ⟨ρ, e1, e2, e3, e4⟩ := Smry.run_spec (Φ := tabF T5) (S := S21) (is := [i0,i1,i2,i3,i4,i5,i6,i7,i8,i9,i10,i11,i12]) (bs := [b0,b1,b2,b3,b4,b5,b6,b7,b8,b9,b10,b11]) rfl
 rw [e1]
 simp only [S21, eqns, Em.eqn, headsI, headsB, RI.d, RB.d, A.d, B.d, cm_eql, cm_neq, cm_lss, cm_leq, cm_gtr, cm_geq, List.map_cons, List.map_nil, and_true, Nat.zero_add, Nat.reduceAdd, ltn, upto, true_and, Nat.add_zero, List.getD_cons_zero, List.getD_cons_succ] at e2 e3 e4 ⊢
 simp only [e2, e3] at e4 ⊢
 rw [f35 (Φ := tabF T5) rfl] at e4
 simp only [dec, eqns, Em.eqn, headsI, headsB, RI.d, RB.d, A.d, B.d, cm_eql, cm_neq, cm_lss, cm_leq, cm_gtr, cm_geq, List.map_cons, List.map_nil, and_true, Nat.zero_add, Nat.reduceAdd, ltn, upto, true_and, Nat.add_zero, List.getD_cons_zero, List.getD_cons_succ] at e4
 unfold may tmay most
 generalize nmT.getD i7.toNat 0 = nm at e4 ⊢
 generalize mdT.getD i7.toNat 0 = md at e4 ⊢
 generalize usT.getD i7.toNat 0 = us at e4 ⊢
 generalize hcy : cyT.getD i7.toNat 0 = cy at e4 ⊢
 generalize crT.getD i7.toNat false = cr at e4 ⊢
 generalize gdT.getD i7.toNat false = gd at e4 ⊢
 generalize arI .and .u8 i4 207 = p' at e4 ⊢
 generalize arI .and .u8 i5 207 = s' at e4 ⊢
 have hc := cy_le i7.toNat
 rw [hcy] at hc
 obtain ⟨⟨⟨a1, a2, a3, a4⟩, a5, a6⟩, a7, a8, a9, a10, a11, a12, a13, a14, a15, a16, a17, a18, a19, a20, a21, a22, a23, a24, a25, a26, a27, a28, a29, a30, a31, a32, a33, a34, a35⟩ := e4
 rw [a2] at a7 a10
 rw [a4, show arI .add .i64 cy 2 = cy + 2 from wrap_i64_in (by omega) (by omega)] at a8
 rw [a4, show arI .add .i64 cy 1 = cy + 1 from wrap_i64_in (by omega) (by omega)] at a9
 have key : ρ.i 21 = if md = 11 then cy + 2 else if cr = true then cy + 1 else if md = 20 then 2 else cy := by
  simp only [a13, a12, a11, a10, a9, a8, a7, a5, a4, beq_iff_eq]
 rw [<- key]
 generalize ρ.i 21 = mo at a16 ⊢
 simp only [a35, a34, a33, a32, a31, a30, a29, a28, a27, a26, a25, a24, a23, a22, a21, a20, a19, a18, a17, a16, a15, a14]
 congr 2
 have : (!(decide (i8 < 0) || decide (0 < i8) && decide (mo <= i8) || decide (i11 < 0) || decide (3 < i11) || decide (i12 < 0) || decide (2 < i12) || !(p' == i4 && s' == i5))) =
  ((decide (0 <= i8) && (decide (i8 <= 0) || decide (i8 < mo))) && (decide (0 <= i11) && decide (i11 <= 3)) && (decide (0 <= i12) && decide (i12 <= 2)) && decide (p' = i4) && decide (s' = i5)) := by
  rw [Bool.eq_iff_iff]
  simp only [Bool.not_eq_true', Bool.or_eq_false_iff, Bool.and_eq_false_iff, Bool.and_eq_true, Bool.or_eq_true, decide_eq_true_eq, decide_eq_false_iff_not, Bool.not_eq_false', beq_iff_eq]
  omega
 simp only [this]
end Go.Proofs.YtghlmhlamoagoaaGreat.Fl
namespace Go.Proofs.YtghlmhlamoagoaaGreat.Fl
open Go Go.Proofs Go.Proofs.YtghlmhlamoagoaaGreat.Sx

noncomputable def TV0 : List (Nat × VF) := []
theorem vt0 : ∀ f, VOk (tabF T0 f) (tabV TV0 f) := tabV_nil
noncomputable def V49 : VF := S49.va (tabV TV0) false
theorem v49 : VOk F49 V49 := Smry.va_ok vt0
noncomputable def TV1 : List (Nat × VF) := (49, V49) :: TV0
theorem vt1 : ∀ f, VOk (tabF T1 f) (tabV TV1 f) := tabV_cons v49 vt0
noncomputable def V29 : VF := S29.va (tabV TV1) false
theorem v29 : VOk F29 V29 := Smry.va_ok vt1
noncomputable def TV2 : List (Nat × VF) := (29, V29) :: TV1
theorem vt2 : ∀ f, VOk (tabF T2 f) (tabV TV2 f) := tabV_cons v29 vt1
noncomputable def V16 : VF := S16.va (tabV TV2) false
theorem v16 : VOk F16 V16 := Smry.va_ok vt2
noncomputable def TV3 : List (Nat × VF) := (16, V16) :: TV2
theorem vt3 : ∀ f, VOk (tabF T3 f) (tabV TV3 f) := tabV_cons v16 vt2
noncomputable def V35 : VF := (VF.at0 dec).split 0
theorem v35 : VOk F35 V35 := VF.at0_ok.split 0
noncomputable def TV4 : List (Nat × VF) := (35, V35) :: TV3
theorem vt4 : ∀ f, VOk (tabF T4 f) (tabV TV4 f) := tabV_cons v35 vt3
noncomputable def V36 : VF := S36.va (tabV TV4) false
theorem v36 : VOk F36 V36 := Smry.va_ok vt4
noncomputable def TV5 : List (Nat × VF) := (36, V36) :: TV4
theorem vt5 : ∀ f, VOk (tabF T5 f) (tabV TV5 f) := tabV_cons v36 vt4
theorem eta {α : Type} (d : α) {n : Nat} {l : List α} (h : l.length = n) : l = (List.range n).map fun j => l.getD j d := by
 apply List.ext_getElem
 ·simp [h]
 ·intro j h1 h2
  simp [h1]
def sig15 : List VI := [VI.top, VI.top, VI.top, VI.top, VI.msk 207, VI.msk 207, VI.top, VI.top, VI.top, VI.top, VI.top, VI.of [0, 1, 2, 3], VI.of [0, 1, 2]]
def okC (li : List VI) : Bool := leI li sig15 && (match (li.getD 7 VI.top).vs, (li.getD 8 VI.top).vs with
 | some O, some T => O.all fun o => T.all fun t => tmay o t
 | _, _ => false)
theorem okC_ok {li : List VI} {is : List Int} (h : okC li = true) (hi : VwI li is) : li.length = 13 /\ may (is.getD 4 0) (is.getD 5 0) (is.getD 7 0) (is.getD 8 0) (is.getD 11 0) (is.getD 12 0) = true := by
 unfold okC at h
 simp only [Bool.and_eq_true] at h
 obtain ⟨hs, hp⟩ := h
 obtain ⟨hw, hlen⟩ := leI_ok hs hi
 refine ⟨hlen.trans rfl, ?_⟩
 have m4 : arI .and .u8 (is.getD 4 0) 207 = is.getD 4 0 := (hw 4).2 207 rfl
 have m5 : arI .and .u8 (is.getD 5 0) 207 = is.getD 5 0 := (hw 5).2 207 rfl
 have a11 : is.getD 11 0 ∈ [(0 : Int), 1, 2, 3] := (hw 11).1 _ rfl
 have a12 : is.getD 12 0 ∈ [(0 : Int), 1, 2] := (hw 12).1 _ rfl
 unfold may
 simp only [Bool.and_eq_true, decide_eq_true_eq]
 simp only [List.mem_cons, List.not_mem_nil, or_false] at a11 a12
 refine ⟨⟨⟨⟨?_, by omega⟩, by omega⟩, m4⟩, m5⟩
 split at hp
 ·rename_i O T hO hT
  exact List.all_eq_true.1 (List.all_eq_true.1 hp _ ((hi 7).1 O hO)) _ ((hi 8).1 T hT)
 ·cases hp
noncomputable def V21 : VF := fun li lb => if okC li && Nat.beq lb.length 12 then ([VI.cst 0], []) else S21.va (tabV TV5) false li lb
theorem v21 : VOk F21 V21 := by
 intro li lb is bs h1 h2 hi hb
 unfold V21
 split
 ·rename_i h
  simp only [Bool.and_eq_true, Nat.beq_eq] at h
  obtain ⟨hl, hm⟩ := okC_ok h.1 hi
  rw [eta 0 (h1.trans hl), eta false (h2.trans h.2)]
  show VwI [VI.cst 0] (F21 [is.getD 0 0, is.getD 1 0, is.getD 2 0, is.getD 3 0, is.getD 4 0, is.getD 5 0, is.getD 6 0, is.getD 7 0, is.getD 8 0, is.getD 9 0, is.getD 10 0, is.getD 11 0, is.getD 12 0]
   [bs.getD 0 false, bs.getD 1 false, bs.getD 2 false, bs.getD 3 false, bs.getD 4 false, bs.getD 5 false, bs.getD 6 false, bs.getD 7 false, bs.getD 8 false, bs.getD 9 false, bs.getD 10 false, bs.getD 11 false]).1 /\ _
  rw [w21, if_pos hm]
  exact ⟨Vw.cons VI.cst_ok VwI.nil, VwB.nil⟩
 ·exact Smry.va_ok vt5 li lb is bs h1 h2 hi hb
noncomputable def TV6 : List (Nat × VF) := (21, V21) :: TV5
theorem vt6 : ∀ f, VOk (tabF T6 f) (tabV TV6 f) := tabV_cons v21 vt5
noncomputable def V69 : VF := S69.va (tabV TV6) false
theorem v69 : VOk F69 V69 := Smry.va_ok vt6
noncomputable def TV7 : List (Nat × VF) := (69, V69) :: TV6
theorem vt7 : ∀ f, VOk (tabF T7 f) (tabV TV7 f) := tabV_cons v69 vt6
noncomputable def V40 : VF := S40.va (tabV TV7) false
theorem v40 : VOk F40 V40 := Smry.va_ok vt7
noncomputable def TV8 : List (Nat × VF) := (40, V40) :: TV7
theorem vt8 : ∀ f, VOk (tabF T8 f) (tabV TV8 f) := tabV_cons v40 vt7
noncomputable def V70 : VF := S70.va (tabV TV8) false
theorem v70 : VOk F70 V70 := Smry.va_ok vt8
noncomputable def TV9 : List (Nat × VF) := (70, V70) :: TV8
theorem vt9 : ∀ f, VOk (tabF T9 f) (tabV TV9 f) := tabV_cons v70 vt8
noncomputable def V42 : VF := S42.va (tabV TV9) false
theorem v42 : VOk F42 V42 := Smry.va_ok vt9
noncomputable def TV10 : List (Nat × VF) := (42, V42) :: TV9
theorem vt10 : ∀ f, VOk (tabF T10 f) (tabV TV10 f) := tabV_cons v42 vt9
noncomputable def V43 : VF := S43.va (tabV TV10) true
theorem v43 : VOk F43 V43 := Smry.va_ok vt10
noncomputable def TV11 : List (Nat × VF) := (43, V43) :: TV10
theorem vt11 : ∀ f, VOk (tabF T11 f) (tabV TV11 f) := tabV_cons v43 vt10
noncomputable def V71 : VF := S71.va (tabV TV11) true
theorem v71 : VOk F71 V71 := Smry.va_ok vt11
noncomputable def TV12 : List (Nat × VF) := (71, V71) :: TV11
theorem vt12 : ∀ f, VOk (tabF T12 f) (tabV TV12 f) := tabV_cons v71 vt11
noncomputable def V100 : VF := S100.va (tabV TV12) false
theorem v100 : VOk F100 V100 := Smry.va_ok vt12
noncomputable def TV13 : List (Nat × VF) := (100, V100) :: TV12
theorem vt13 : ∀ f, VOk (tabF T13 f) (tabV TV13 f) := tabV_cons v100 vt12
noncomputable def V72 : VF := (S72.va (tabV TV13) true).split 13
theorem v72 : VOk F72 V72 := VOk.split (Smry.va_ok vt13) 13
noncomputable def TV14 : List (Nat × VF) := (72, V72) :: TV13
theorem vt14 : ∀ f, VOk (tabF T14 f) (tabV TV14 f) := tabV_cons v72 vt13
noncomputable def V134 : VF := S134.va (tabV TV14) false
theorem v134 : VOk F134 V134 := Smry.va_ok vt14
noncomputable def TV15 : List (Nat × VF) := (134, V134) :: TV14
theorem vt15 : ∀ f, VOk (tabF T15 f) (tabV TV15 f) := tabV_cons v134 vt14
noncomputable def V171 : VF := S171.va (tabV TV15) false
theorem v171 : VOk F171 V171 := Smry.va_ok vt15
noncomputable def TV16 : List (Nat × VF) := (171, V171) :: TV15
theorem vt16 : ∀ f, VOk (tabF T16 f) (tabV TV16 f) := tabV_cons v171 vt15
noncomputable def V136 : VF := S136.va (tabV TV16) false
theorem v136 : VOk F136 V136 := Smry.va_ok vt16
noncomputable def TV17 : List (Nat × VF) := (136, V136) :: TV16
theorem vt17 : ∀ f, VOk (tabF T17 f) (tabV TV17 f) := tabV_cons v136 vt16
noncomputable def V133 : VF := S133.va (tabV TV17) false
theorem v133 : VOk F133 V133 := Smry.va_ok vt17
noncomputable def TV18 : List (Nat × VF) := (133, V133) :: TV17
theorem vt18 : ∀ f, VOk (tabF T18 f) (tabV TV18 f) := tabV_cons v133 vt17
noncomputable def V101 : VF := S101.va (tabV TV18) false
theorem v101 : VOk F101 V101 := Smry.va_ok vt18
noncomputable def TV19 : List (Nat × VF) := (101, V101) :: TV18
theorem vt19 : ∀ f, VOk (tabF T19 f) (tabV TV19 f) := tabV_cons v101 vt18
noncomputable def V102 : VF := S102.va (tabV TV19) false
theorem v102 : VOk F102 V102 := Smry.va_ok vt19
noncomputable def TV20 : List (Nat × VF) := (102, V102) :: TV19
theorem vt20 : ∀ f, VOk (tabF T20 f) (tabV TV20 f) := tabV_cons v102 vt19
noncomputable def V135 : VF := S135.va (tabV TV20) false
theorem v135 : VOk F135 V135 := Smry.va_ok vt20
noncomputable def TV21 : List (Nat × VF) := (135, V135) :: TV20
theorem vt21 : ∀ f, VOk (tabF T21 f) (tabV TV21 f) := tabV_cons v135 vt20
noncomputable def V103 : VF := S103.va (tabV TV21) false
theorem v103 : VOk F103 V103 := Smry.va_ok vt21
noncomputable def TV22 : List (Nat × VF) := (103, V103) :: TV21
theorem vt22 : ∀ f, VOk (tabF T22 f) (tabV TV22 f) := tabV_cons v103 vt21
noncomputable def V104 : VF := S104.va (tabV TV22) false
theorem v104 : VOk F104 V104 := Smry.va_ok vt22
noncomputable def TV23 : List (Nat × VF) := (104, V104) :: TV22
theorem vt23 : ∀ f, VOk (tabF T23 f) (tabV TV23 f) := tabV_cons v104 vt22
noncomputable def V138 : VF := S138.va (tabV TV23) false
theorem v138 : VOk F138 V138 := Smry.va_ok vt23
noncomputable def TV24 : List (Nat × VF) := (138, V138) :: TV23
theorem vt24 : ∀ f, VOk (tabF T24 f) (tabV TV24 f) := tabV_cons v138 vt23
noncomputable def V107 : VF := S107.va (tabV TV24) false
theorem v107 : VOk F107 V107 := Smry.va_ok vt24
noncomputable def TV25 : List (Nat × VF) := (107, V107) :: TV24
theorem vt25 : ∀ f, VOk (tabF T25 f) (tabV TV25 f) := tabV_cons v107 vt24
noncomputable def V108 : VF := S108.va (tabV TV25) false
theorem v108 : VOk F108 V108 := Smry.va_ok vt25
noncomputable def TV26 : List (Nat × VF) := (108, V108) :: TV25
theorem vt26 : ∀ f, VOk (tabF T26 f) (tabV TV26 f) := tabV_cons v108 vt25
noncomputable def V139 : VF := S139.va (tabV TV26) false
theorem v139 : VOk F139 V139 := Smry.va_ok vt26
noncomputable def TV27 : List (Nat × VF) := (139, V139) :: TV26
theorem vt27 : ∀ f, VOk (tabF T27 f) (tabV TV27 f) := tabV_cons v139 vt26
noncomputable def V109 : VF := S109.va (tabV TV27) false
theorem v109 : VOk F109 V109 := Smry.va_ok vt27
noncomputable def TV28 : List (Nat × VF) := (109, V109) :: TV27
theorem vt28 : ∀ f, VOk (tabF T28 f) (tabV TV28 f) := tabV_cons v109 vt27
noncomputable def V140 : VF := S140.va (tabV TV28) false
theorem v140 : VOk F140 V140 := Smry.va_ok vt28
noncomputable def TV29 : List (Nat × VF) := (140, V140) :: TV28
theorem vt29 : ∀ f, VOk (tabF T29 f) (tabV TV29 f) := tabV_cons v140 vt28
noncomputable def V110 : VF := S110.va (tabV TV29) false
theorem v110 : VOk F110 V110 := Smry.va_ok vt29
noncomputable def TV30 : List (Nat × VF) := (110, V110) :: TV29
theorem vt30 : ∀ f, VOk (tabF T30 f) (tabV TV30 f) := tabV_cons v110 vt29
noncomputable def V173 : VF := S173.va (tabV TV30) false
theorem v173 : VOk F173 V173 := Smry.va_ok vt30
noncomputable def TV31 : List (Nat × VF) := (173, V173) :: TV30
theorem vt31 : ∀ f, VOk (tabF T31 f) (tabV TV31 f) := tabV_cons v173 vt30
noncomputable def V141 : VF := S141.va (tabV TV31) false
theorem v141 : VOk F141 V141 := Smry.va_ok vt31
noncomputable def TV32 : List (Nat × VF) := (141, V141) :: TV31
theorem vt32 : ∀ f, VOk (tabF T32 f) (tabV TV32 f) := tabV_cons v141 vt31
noncomputable def V111 : VF := S111.va (tabV TV32) false
theorem v111 : VOk F111 V111 := Smry.va_ok vt32
noncomputable def TV33 : List (Nat × VF) := (111, V111) :: TV32
theorem vt33 : ∀ f, VOk (tabF T33 f) (tabV TV33 f) := tabV_cons v111 vt32
noncomputable def V142 : VF := S142.va (tabV TV33) false
theorem v142 : VOk F142 V142 := Smry.va_ok vt33
noncomputable def TV34 : List (Nat × VF) := (142, V142) :: TV33
theorem vt34 : ∀ f, VOk (tabF T34 f) (tabV TV34 f) := tabV_cons v142 vt33
noncomputable def V112 : VF := S112.va (tabV TV34) false
theorem v112 : VOk F112 V112 := Smry.va_ok vt34
noncomputable def TV35 : List (Nat × VF) := (112, V112) :: TV34
theorem vt35 : ∀ f, VOk (tabF T35 f) (tabV TV35 f) := tabV_cons v112 vt34
noncomputable def V73 : VF := (S73.va (tabV TV35) true).split 13
theorem v73 : VOk F73 V73 := VOk.split (Smry.va_ok vt35) 13
noncomputable def TV36 : List (Nat × VF) := (73, V73) :: TV35
theorem vt36 : ∀ f, VOk (tabF T36 f) (tabV TV36 f) := tabV_cons v73 vt35
noncomputable def V44 : VF := S44.va (tabV TV36) true
theorem v44 : VOk F44 V44 := Smry.va_ok vt36
noncomputable def TV37 : List (Nat × VF) := (44, V44) :: TV36
theorem vt37 : ∀ f, VOk (tabF T37 f) (tabV TV37 f) := tabV_cons v44 vt36
noncomputable def V25 : VF := S25.va (tabV TV37) true
theorem v25 : VOk F25 V25 := Smry.va_ok vt37
noncomputable def TV38 : List (Nat × VF) := (25, V25) :: TV37
theorem vt38 : ∀ f, VOk (tabF T38 f) (tabV TV38 f) := tabV_cons v25 vt37
noncomputable def V74 : VF := S74.va (tabV TV38) false
theorem v74 : VOk F74 V74 := Smry.va_ok vt38
noncomputable def TV39 : List (Nat × VF) := (74, V74) :: TV38
theorem vt39 : ∀ f, VOk (tabF T39 f) (tabV TV39 f) := tabV_cons v74 vt38
noncomputable def V143 : VF := S143.va (tabV TV39) false
theorem v143 : VOk F143 V143 := Smry.va_ok vt39
noncomputable def TV40 : List (Nat × VF) := (143, V143) :: TV39
theorem vt40 : ∀ f, VOk (tabF T40 f) (tabV TV40 f) := tabV_cons v143 vt39
noncomputable def V114 : VF := S114.va (tabV TV40) false
theorem v114 : VOk F114 V114 := Smry.va_ok vt40
noncomputable def TV41 : List (Nat × VF) := (114, V114) :: TV40
theorem vt41 : ∀ f, VOk (tabF T41 f) (tabV TV41 f) := tabV_cons v114 vt40
noncomputable def V144 : VF := S144.va (tabV TV41) false
theorem v144 : VOk F144 V144 := Smry.va_ok vt41
noncomputable def TV42 : List (Nat × VF) := (144, V144) :: TV41
theorem vt42 : ∀ f, VOk (tabF T42 f) (tabV TV42 f) := tabV_cons v144 vt41
noncomputable def V145 : VF := S145.va (tabV TV42) false
theorem v145 : VOk F145 V145 := Smry.va_ok vt42
noncomputable def TV43 : List (Nat × VF) := (145, V145) :: TV42
theorem vt43 : ∀ f, VOk (tabF T43 f) (tabV TV43 f) := tabV_cons v145 vt42
noncomputable def V175 : VF := S175.va (tabV TV43) false
theorem v175 : VOk F175 V175 := Smry.va_ok vt43
noncomputable def TV44 : List (Nat × VF) := (175, V175) :: TV43
theorem vt44 : ∀ f, VOk (tabF T44 f) (tabV TV44 f) := tabV_cons v175 vt43
noncomputable def V146 : VF := S146.va (tabV TV44) false
theorem v146 : VOk F146 V146 := Smry.va_ok vt44
noncomputable def TV45 : List (Nat × VF) := (146, V146) :: TV44
theorem vt45 : ∀ f, VOk (tabF T45 f) (tabV TV45 f) := tabV_cons v146 vt44
noncomputable def V147 : VF := S147.va (tabV TV45) false
theorem v147 : VOk F147 V147 := Smry.va_ok vt45
noncomputable def TV46 : List (Nat × VF) := (147, V147) :: TV45
theorem vt46 : ∀ f, VOk (tabF T46 f) (tabV TV46 f) := tabV_cons v147 vt45
noncomputable def V148 : VF := S148.va (tabV TV46) false
theorem v148 : VOk F148 V148 := Smry.va_ok vt46
noncomputable def TV47 : List (Nat × VF) := (148, V148) :: TV46
theorem vt47 : ∀ f, VOk (tabF T47 f) (tabV TV47 f) := tabV_cons v148 vt46
noncomputable def V149 : VF := S149.va (tabV TV47) false
theorem v149 : VOk F149 V149 := Smry.va_ok vt47
noncomputable def TV48 : List (Nat × VF) := (149, V149) :: TV47
theorem vt48 : ∀ f, VOk (tabF T48 f) (tabV TV48 f) := tabV_cons v149 vt47
noncomputable def V150 : VF := S150.va (tabV TV48) false
theorem v150 : VOk F150 V150 := Smry.va_ok vt48
noncomputable def TV49 : List (Nat × VF) := (150, V150) :: TV48
theorem vt49 : ∀ f, VOk (tabF T49 f) (tabV TV49 f) := tabV_cons v150 vt48
noncomputable def V151 : VF := S151.va (tabV TV49) false
theorem v151 : VOk F151 V151 := Smry.va_ok vt49
noncomputable def TV50 : List (Nat × VF) := (151, V151) :: TV49
theorem vt50 : ∀ f, VOk (tabF T50 f) (tabV TV50 f) := tabV_cons v151 vt49
noncomputable def V152 : VF := S152.va (tabV TV50) false
theorem v152 : VOk F152 V152 := Smry.va_ok vt50
noncomputable def TV51 : List (Nat × VF) := (152, V152) :: TV50
theorem vt51 : ∀ f, VOk (tabF T51 f) (tabV TV51 f) := tabV_cons v152 vt50
noncomputable def V153 : VF := S153.va (tabV TV51) false
theorem v153 : VOk F153 V153 := Smry.va_ok vt51
noncomputable def TV52 : List (Nat × VF) := (153, V153) :: TV51
theorem vt52 : ∀ f, VOk (tabF T52 f) (tabV TV52 f) := tabV_cons v153 vt51
noncomputable def V176 : VF := S176.va (tabV TV52) false
theorem v176 : VOk F176 V176 := Smry.va_ok vt52
noncomputable def TV53 : List (Nat × VF) := (176, V176) :: TV52
theorem vt53 : ∀ f, VOk (tabF T53 f) (tabV TV53 f) := tabV_cons v176 vt52
noncomputable def V154 : VF := S154.va (tabV TV53) false
theorem v154 : VOk F154 V154 := Smry.va_ok vt53
noncomputable def TV54 : List (Nat × VF) := (154, V154) :: TV53
theorem vt54 : ∀ f, VOk (tabF T54 f) (tabV TV54 f) := tabV_cons v154 vt53
noncomputable def V155 : VF := S155.va (tabV TV54) false
theorem v155 : VOk F155 V155 := Smry.va_ok vt54
noncomputable def TV55 : List (Nat × VF) := (155, V155) :: TV54
theorem vt55 : ∀ f, VOk (tabF T55 f) (tabV TV55 f) := tabV_cons v155 vt54
noncomputable def V156 : VF := S156.va (tabV TV55) false
theorem v156 : VOk F156 V156 := Smry.va_ok vt55
noncomputable def TV56 : List (Nat × VF) := (156, V156) :: TV55
theorem vt56 : ∀ f, VOk (tabF T56 f) (tabV TV56 f) := tabV_cons v156 vt55
noncomputable def V157 : VF := S157.va (tabV TV56) false
theorem v157 : VOk F157 V157 := Smry.va_ok vt56
noncomputable def TV57 : List (Nat × VF) := (157, V157) :: TV56
theorem vt57 : ∀ f, VOk (tabF T57 f) (tabV TV57 f) := tabV_cons v157 vt56
noncomputable def V115 : VF := (S115.va (tabV TV57) true).split 13
theorem v115 : VOk F115 V115 := VOk.split (Smry.va_ok vt57) 13
noncomputable def TV58 : List (Nat × VF) := (115, V115) :: TV57
theorem vt58 : ∀ f, VOk (tabF T58 f) (tabV TV58 f) := tabV_cons v115 vt57
noncomputable def V158 : VF := S158.va (tabV TV58) true
theorem v158 : VOk F158 V158 := Smry.va_ok vt58
noncomputable def TV59 : List (Nat × VF) := (158, V158) :: TV58
theorem vt59 : ∀ f, VOk (tabF T59 f) (tabV TV59 f) := tabV_cons v158 vt58
noncomputable def V116 : VF := S116.va (tabV TV59) true
theorem v116 : VOk F116 V116 := Smry.va_ok vt59
noncomputable def TV60 : List (Nat × VF) := (116, V116) :: TV59
theorem vt60 : ∀ f, VOk (tabF T60 f) (tabV TV60 f) := tabV_cons v116 vt59
noncomputable def V160 : VF := S160.va (tabV TV60) false
theorem v160 : VOk F160 V160 := Smry.va_ok vt60
noncomputable def TV61 : List (Nat × VF) := (160, V160) :: TV60
theorem vt61 : ∀ f, VOk (tabF T61 f) (tabV TV61 f) := tabV_cons v160 vt60
noncomputable def V117 : VF := S117.va (tabV TV61) false
theorem v117 : VOk F117 V117 := Smry.va_ok vt61
noncomputable def TV62 : List (Nat × VF) := (117, V117) :: TV61
theorem vt62 : ∀ f, VOk (tabF T62 f) (tabV TV62 f) := tabV_cons v117 vt61
noncomputable def V118 : VF := S118.va (tabV TV62) false
theorem v118 : VOk F118 V118 := Smry.va_ok vt62
noncomputable def TV63 : List (Nat × VF) := (118, V118) :: TV62
theorem vt63 : ∀ f, VOk (tabF T63 f) (tabV TV63 f) := tabV_cons v118 vt62
noncomputable def V181 : VF := S181.va (tabV TV63) false
theorem v181 : VOk F181 V181 := Smry.va_ok vt63
noncomputable def TV64 : List (Nat × VF) := (181, V181) :: TV63
theorem vt64 : ∀ f, VOk (tabF T64 f) (tabV TV64 f) := tabV_cons v181 vt63
noncomputable def V177 : VF := S177.va (tabV TV64) false
theorem v177 : VOk F177 V177 := Smry.va_ok vt64
noncomputable def TV65 : List (Nat × VF) := (177, V177) :: TV64
theorem vt65 : ∀ f, VOk (tabF T65 f) (tabV TV65 f) := tabV_cons v177 vt64
noncomputable def V178 : VF := S178.va (tabV TV65) false
theorem v178 : VOk F178 V178 := Smry.va_ok vt65
noncomputable def TV66 : List (Nat × VF) := (178, V178) :: TV65
theorem vt66 : ∀ f, VOk (tabF T66 f) (tabV TV66 f) := tabV_cons v178 vt65
noncomputable def V179 : VF := S179.va (tabV TV66) false
theorem v179 : VOk F179 V179 := Smry.va_ok vt66
noncomputable def TV67 : List (Nat × VF) := (179, V179) :: TV66
theorem vt67 : ∀ f, VOk (tabF T67 f) (tabV TV67 f) := tabV_cons v179 vt66
noncomputable def V161 : VF := S161.va (tabV TV67) false
theorem v161 : VOk F161 V161 := Smry.va_ok vt67
noncomputable def TV68 : List (Nat × VF) := (161, V161) :: TV67
theorem vt68 : ∀ f, VOk (tabF T68 f) (tabV TV68 f) := tabV_cons v161 vt67
noncomputable def V119 : VF := S119.va (tabV TV68) true
theorem v119 : VOk F119 V119 := Smry.va_ok vt68
noncomputable def TV69 : List (Nat × VF) := (119, V119) :: TV68
theorem vt69 : ∀ f, VOk (tabF T69 f) (tabV TV69 f) := tabV_cons v119 vt68
noncomputable def V162 : VF := S162.va (tabV TV69) false
theorem v162 : VOk F162 V162 := Smry.va_ok vt69
noncomputable def TV70 : List (Nat × VF) := (162, V162) :: TV69
theorem vt70 : ∀ f, VOk (tabF T70 f) (tabV TV70 f) := tabV_cons v162 vt69
noncomputable def V163 : VF := S163.va (tabV TV70) false
theorem v163 : VOk F163 V163 := Smry.va_ok vt70
noncomputable def TV71 : List (Nat × VF) := (163, V163) :: TV70
theorem vt71 : ∀ f, VOk (tabF T71 f) (tabV TV71 f) := tabV_cons v163 vt70
noncomputable def V164 : VF := S164.va (tabV TV71) false
theorem v164 : VOk F164 V164 := Smry.va_ok vt71
noncomputable def TV72 : List (Nat × VF) := (164, V164) :: TV71
theorem vt72 : ∀ f, VOk (tabF T72 f) (tabV TV72 f) := tabV_cons v164 vt71
noncomputable def V165 : VF := S165.va (tabV TV72) false
theorem v165 : VOk F165 V165 := Smry.va_ok vt72
noncomputable def TV73 : List (Nat × VF) := (165, V165) :: TV72
theorem vt73 : ∀ f, VOk (tabF T73 f) (tabV TV73 f) := tabV_cons v165 vt72
noncomputable def V166 : VF := S166.va (tabV TV73) false
theorem v166 : VOk F166 V166 := Smry.va_ok vt73
noncomputable def TV74 : List (Nat × VF) := (166, V166) :: TV73
theorem vt74 : ∀ f, VOk (tabF T74 f) (tabV TV74 f) := tabV_cons v166 vt73
noncomputable def V120 : VF := S120.va (tabV TV74) false
theorem v120 : VOk F120 V120 := Smry.va_ok vt74
noncomputable def TV75 : List (Nat × VF) := (120, V120) :: TV74
theorem vt75 : ∀ f, VOk (tabF T75 f) (tabV TV75 f) := tabV_cons v120 vt74
noncomputable def V75 : VF := S75.va (tabV TV75) true
theorem v75 : VOk F75 V75 := Smry.va_ok vt75
noncomputable def TV76 : List (Nat × VF) := (75, V75) :: TV75
theorem vt76 : ∀ f, VOk (tabF T76 f) (tabV TV76 f) := tabV_cons v75 vt75
noncomputable def V76 : VF := S76.va (tabV TV76) false
theorem v76 : VOk F76 V76 := Smry.va_ok vt76
noncomputable def TV77 : List (Nat × VF) := (76, V76) :: TV76
theorem vt77 : ∀ f, VOk (tabF T77 f) (tabV TV77 f) := tabV_cons v76 vt76
noncomputable def V47 : VF := S47.va (tabV TV77) true
theorem v47 : VOk F47 V47 := Smry.va_ok vt77
noncomputable def TV78 : List (Nat × VF) := (47, V47) :: TV77
theorem vt78 : ∀ f, VOk (tabF T78 f) (tabV TV78 f) := tabV_cons v47 vt77
end Go.Proofs.YtghlmhlamoagoaaGreat.Fl
namespace Go.Proofs.YtghlmhlamoagoaaGreat.Fl
open Go Go.Proofs Go.Proofs.YtghlmhlamoagoaaGreat.Sx
def stI (O T : List Int) : List VI := [VI.top, VI.top, VI.top, VI.top, VI.msk 207, VI.msk 207, VI.top, VI.of O, VI.of T, VI.top, VI.top, VI.of [0, 1, 2, 3], VI.of [0, 1, 2]]
def outOk (o : List VI) : Bool := okC (o.take 13) && (match (o.getD 13 VI.top).vs with
 | some [.ofNat 0] => true
 | _ => false)
noncomputable def chkT (O : List Int) (v : VI) (t : Int) : Bool := match V47 (stI O [t] ++ [v]) (List.replicate 16 none) with
 | (oi, some true :: _) => outOk oi
 | _ => false
noncomputable def chkW (O : List Int) (t : Int) : Bool := match V25 (stI O [t]) (List.replicate 12 none) with
 | (_, some true :: _) => true
 | _ => false
def all256 : List Int := (List.range 256).map Int.ofNat
theorem w_0 : chkW all256 0 = true := by kernel_rfl
theorem t_0 : chkT all256 (VI.of all256) 0 = true := by kernel_rfl
def ctlB (n : Nat) : List VB := List.replicate 10 none ++ [some true] ++ List.replicate n none
noncomputable def chkC : Bool := match (V47 (List.replicate 14 VI.top) (ctlB 5)).2 with
 | _ :: b => (match b.getD 10 none with
  | some true => true
  | _ => false)
 | _ => false
theorem ctl_t : chkC = true := by kernel_rfl
end Go.Proofs.YtghlmhlamoagoaaGreat.Fl
