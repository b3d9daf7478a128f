/-
  Flat's laws, and what they stand on (merged by wip/gen2/mini.py): part Lp12. No condition.
-/
import Derived.Test.YtghlmhlamoagoaaGreatLp11
set_option linter.unusedVariables false
set_option linter.unusedSimpArgs false
namespace Go.Proofs.YtghlmhlamoagoaaGreat.Fl
open Go Go.Proofs Go.Proofs.YtghlmhlamoagoaaGreat.Sx

abbrev MCell := Nat × Option A × Option B
structure MS where
 i : List (Option A)
 b : List (Option B)
 m : List MCell
def mLook : List MCell -> Nat -> Option (Option A × Option B)
 | [], _ => none
 | p :: l, t => if Nat.beq p.1 t then some p.2 else mLook l t
def MRel (n : Int) (ρ : Env) (c : Pc) (σ : MS) (s : Ps) : Prop := Okp n s /\ σ.i.length = 13 /\ σ.b.length = 12 /\ WR ρ c σ.i s.ci /\ WRB ρ c σ.b s.cb /\
 ∀ t p, mLook σ.m t = some p -> t * 2 + 1 < s.l.length /\ WOA ρ c p.1 (s.l.getD (t * 2) 0) /\ WOB ρ c p.2 (s.l.getD (t * 2 + 1) 0 != 0)
theorem MRel.up {n : Int} {ρ ρ' : Env} {c c' : Pc} {σ : MS} {s : Ps} (h : MRel n ρ c σ s) (u : Up ρ c ρ' c') : MRel n ρ' c' σ s :=
 ⟨h.1, h.2.1, h.2.2.1, h.2.2.2.1.up u, h.2.2.2.2.1.up u, fun t p e => have q := h.2.2.2.2.2 t p e; ⟨q.1, q.2.1.up u, q.2.2.up u⟩⟩
def cyTake (n : Int) (σ : MS) (m : List MCell) (x : Option A) (y : Option B) (p : PeF) : Pm MS := fun k c =>
 p (σ.i ++ [x]) (σ.b ++ [y, some (.c false), some (.c false), some (.c false)]) (fun q c => k ⟨(q.1 ++ List.replicate 13 none).take 13, ((q.2 ++ List.replicate 13 none).drop 1).take 12, m⟩ c) c
noncomputable def cyM (n : Int) (σ : MS) : Pm MS := fun k c =>
 N25 σ.i σ.b (fun r c => match r.1.getD 0 none, r.2.getD 1 none with
  | some (.c a), some (.c true) => cyTake n σ (((a % n).toNat, r.1.getD 1 none, r.2.getD 2 none) :: σ.m) (r.1.getD 1 none) (r.2.getD 2 none) N47 k c
  | some (.c a), some (.c false) => match mLook σ.m (a % n).toNat with
   | some (x, y) => cyTake n σ σ.m x y N47 k c
   | none => .bad (.c false) c
  | _, _ => .bad (.c false) c) c
variable {chk : List (Option A) -> List (Option B) -> Pc -> Bool}
theorem WR.len13 {ρ : Env} {c : Pc} {l : List (Option A)} {os : List Int} (h : WR ρ c l os) : WR ρ c ((l ++ List.replicate 13 none).take 13) (os.take 13) := by
 refine WR.take 13 fun j => ?_
 have e : (l ++ List.replicate 13 (none : Option A)).getD j none = l.getD j none := by
  simp only [List.getD_eq_getElem?_getD, List.getElem?_append, List.getElem?_replicate]
  split
  ·rfl
  ·rename_i hh
   rw [List.getElem?_eq_none (by omega)]
   split <;> rfl
 rw [e]; exact h j
theorem WRB.len12 {ρ : Env} {c : Pc} {l : List (Option B)} {os : List Bool} (h : WRB ρ c l os) : WRB ρ c (((l ++ List.replicate 13 none).drop 1).take 12) ((os.drop 1).take 12) := by
 refine WRB.take 12 (WRB.drop 1 fun j => ?_)
 have e : (l ++ List.replicate 13 (none : Option B)).getD j none = l.getD j none := by
  simp only [List.getD_eq_getElem?_getD, List.getElem?_append, List.getElem?_replicate]
  split
  ·rfl
  ·rename_i hh
   rw [List.getElem?_eq_none (by omega)]
   split <;> rfl
 rw [e]; exact h j
theorem WR.app {ρ : Env} {c : Pc} {x : Option A} {v : Int} (hx : WOA ρ c x v) : ∀ {l : List (Option A)} {os : List Int}, l.length = os.length -> WR ρ c l os -> WR ρ c (l ++ [x]) (os ++ [v])
 | [], [], _, _ => WR.cons hx WR.nil
 | a :: l, o :: os, hl, h => WR.cons (h 0) (WR.app hx (by simpa using hl) h.tail)
theorem WRB.app {ρ : Env} {c : Pc} {l' : List (Option B)} {os' : List Bool} (hx : WRB ρ c l' os') : ∀ {l : List (Option B)} {os : List Bool}, l.length = os.length -> WRB ρ c l os -> WRB ρ c (l ++ l') (os ++ os')
 | [], [], _, _ => hx
 | a :: l, o :: os, hl, h => WRB.cons (h 0) (WRB.app hx (by simpa using hl) h.tail)
theorem cyTake_ok {n : Int} (hn : pw n = true) {σ : MS} {s : Ps} {ρ : Env} {c : Pc} (hs : StOk ρ c) (h : MRel n ρ c σ s) {m : List MCell} {x : Option A} {y : Option B} (hx : WOA ρ c x (vO n s)) (hy : WOB ρ c y (sO n s))
  (hm : ∀ t p, mLook m t = some p -> t * 2 + 1 < (lO n s).length /\ WOA ρ c p.1 ((lO n s).getD (t * 2) 0) /\ WOB ρ c p.2 ((lO n s).getD (t * 2 + 1) 0 != 0)) :
  Does chk (cyTake n σ m x y N47) ρ c (fun ρ' c' σ' => MRel n ρ' c' σ' (nx n s)) := by
 obtain ⟨ho, l1, l2, w1, w2, _⟩ := h
 obtain ⟨_, _, _, _, hok⟩ := cyc_ok hn ho
 intro k hk
 obtain ⟨ρ', c', r, u, ⟨h1, h2⟩, h3⟩ := nk47 chk (s.ci ++ [vO n s]) (s.cb ++ [sO n s, false, false, false]) (σ.i ++ [x]) (σ.b ++ [y, some (.c false), some (.c false), some (.c false)]) ρ c hs (by simp [l1, ho.1]) (by simp [l2, ho.2.1])
  (WR.app hx (by rw [l1, ho.1]) w1) (WRB.app (WRB.cons hy (WRB.cons (WOB.some WB.c) (WRB.cons (WOB.some WB.c) (WRB.cons (WOB.some WB.c) WRB.nil)))) (by rw [l2, ho.2.1]) w2) _ hk
 rw [kO_eq] at h1 h2
 refine ⟨ρ', c', _, u, ⟨hok, by simp, by simp, ?_, ?_, fun t p e => ?_⟩, h3⟩
 ·rw [nx_ci]; exact WR.len13 h1
 ·rw [nx_cb]; exact WRB.len12 h2
 ·rw [nx_l]
  obtain ⟨q1, q2, q3⟩ := hm t p e
  exact ⟨q1, q2.up u, q3.up u⟩
theorem lO_len (n : Int) (s : Ps) : (lO n s).length = s.l.length := by
 rw [lO_eq]
 split
 ·simp
 ·rfl
theorem cyM_ok {n : Int} (hn : pw n = true) {σ : MS} {s : Ps} {ρ : Env} {c : Pc} (hs : StOk ρ c) (h : MRel n ρ c σ s) : Does chk (cyM n σ) ρ c (fun ρ' c' σ' => MRel n ρ' c' σ' (nx n s)) := by
 have hpp := pw_pos hn
 intro k hk
 obtain ⟨ho, l1, l2, w1, w2, hm⟩ := h
 obtain ⟨ρ1, c1, r, u, ⟨h1, h2⟩, h3⟩ := nk25 chk s.ci s.cb σ.i σ.b ρ c hs (by rw [l1, ho.1]) (by rw [l2, ho.2.1]) w1 w2 _ hk
 rw [aO_eq] at h1 h2
 have h : MRel n ρ1 c1 σ s := MRel.up ⟨ho, l1, l2, w1, w2, hm⟩ u
 have fin {m' : Pm MS} (hd : Does chk m' ρ1 c1 (fun ρ' c' σ' => MRel n ρ' c' σ' (nx n s))) (hk' : (m' k c1).ok chk = true) : ∃ ρ' c' x, Up ρ c ρ' c' /\ MRel n ρ' c' x (nx n s) /\ (k x c').ok chk = true := by
  obtain ⟨ρ', c', x, u', p, h'⟩ := hd k hk'
  exact ⟨ρ', c', x, u.trans u', p, h'⟩
 split at h3
 ·rename_i a e0 e1
  have ha : (aO s).1.getD 0 0 = a := (h1 0 _ e0).inv
  have hw : (aO s).2.getD 1 false = true := (h2 1 _ e1).inv
  have ht : tO n s = (a % n).toNat := by rw [tO, ha]
  have hl : lO n s = (s.l.set ((a % n).toNat * 2) ((aO s).1.getD 1 0)).set ((a % n).toNat * 2 + 1) (bI ((aO s).2.getD 2 false)) := by rw [lO_eq, if_pos hw, ht]
  have hlt : (a % n).toNat * 2 + 1 < s.l.length := t_lt (by omega) ho.2.2.2.2.1
  have g1 : (lO n s).getD ((a % n).toNat * 2) 0 = (aO s).1.getD 1 0 := by
   rw [hl, List.getD_eq_getElem?_getD, List.getElem?_set_ne (by omega), List.getElem?_set_self (by omega)]; rfl
  have g2 : ((lO n s).getD ((a % n).toNat * 2 + 1) 0 != 0) = (aO s).2.getD 2 false := by
   rw [hl, List.getD_eq_getElem?_getD, List.getElem?_set_self (by rw [List.length_set]; omega)]
   cases (aO s).2.getD 2 false <;> rfl
  refine fin (cyTake_ok hn u.st h (x := r.1.getD 1 none) (y := r.2.getD 2 none) ?_ ?_ fun t p e => ?_) h3
  ·rw [<- vO_eq, ht, g1]; exact h1 1
  ·rw [<- sO_eq, ht, g2]; exact h2 2
  ·unfold mLook at e
   split at e
   ·rename_i hb
    rw [Nat.beq_eq] at hb
    simp only [zOi] at e
    subst e
    subst hb
    rw [lO_len]
    exact ⟨hlt, by rw [g1]; exact h1 1, by rw [g2]; exact h2 2⟩
   ·rename_i hb
    have hne : (a % n).toNat ≠ t := fun q => hb (by rw [Nat.beq_eq]; exact q)
    obtain ⟨q1, q2, q3⟩ := h.2.2.2.2.2 t p e
    have f1 : (lO n s).getD (t * 2) 0 = s.l.getD (t * 2) 0 := by
     rw [hl, List.getD_eq_getElem?_getD, List.getElem?_set_ne (by omega), List.getElem?_set_ne (by omega), List.getD_eq_getElem?_getD]
    have f2 : (lO n s).getD (t * 2 + 1) 0 = s.l.getD (t * 2 + 1) 0 := by
     rw [hl, List.getD_eq_getElem?_getD, List.getElem?_set_ne (by omega), List.getElem?_set_ne (by omega), List.getD_eq_getElem?_getD]
    rw [lO_len, f1, f2]
    exact ⟨q1, q2, q3⟩
 ·rename_i a e0 e1
  have ha : (aO s).1.getD 0 0 = a := (h1 0 _ e0).inv
  have hw : (aO s).2.getD 1 false = false := (h2 1 _ e1).inv
  have ht : tO n s = (a % n).toNat := by rw [tO, ha]
  have hl : lO n s = s.l := by rw [lO_eq, hw]; rfl
  split at h3
  ·rename_i x y e
   obtain ⟨q1, q2, q3⟩ := h.2.2.2.2.2 _ _ e
   refine fin (cyTake_ok hn u.st h (x := x) (y := y) ?_ ?_ fun t p e => ?_) h3
   ·rw [<- vO_eq, ht, hl]; exact q2
   ·rw [<- sO_eq, ht, hl]; exact q3
   ·rw [hl]; exact h.2.2.2.2.2 t p e
  ·cases h3
 ·cases h3
def Steps (n : Int) (k : Nat) (s s' : Ps) : Prop := ∃ o : List Int, o.length = 5 * k /\ ∀ j, rn (cy n) (k + j) s = ((rn (cy n) j s').1, o ++ (rn (cy n) j s').2)
theorem Steps.zero {n : Int} {s : Ps} : Steps n 0 s s := ⟨[], rfl, fun j => by rw [Nat.zero_add]; rfl⟩
theorem Steps.one {n : Int} {s : Ps} (h : jm (nx n s) = false) : Steps n 1 s (nx n s) := ⟨bO n s, bO_len n s, fun j => by
 rw [Nat.add_comm, rn_s, cy1, cy2, if_neg (by rw [h]; exact Bool.false_ne_true)]⟩
theorem Steps.trans {n : Int} {k k' : Nat} {s s' s'' : Ps} (h : Steps n k s s') (h' : Steps n k' s' s'') : Steps n (k + k') s s'' := by
 obtain ⟨o, h1, h2⟩ := h
 obtain ⟨o', h3, h4⟩ := h'
 refine ⟨o ++ o', by rw [List.length_append, h1, h3, Nat.mul_add], fun j => ?_⟩
 rw [Nat.add_assoc, h2, h4, List.append_assoc]
theorem Steps.jam {n : Int} {k : Nat} {s s' : Ps} (h : Steps n k s s') (hj : jm (nx n s') = true) (j : Nat) : ∃ o : List Int, o.length = 5 * (k + 1) /\ rn (cy n) (k + (j + 1)) s = (nx n s', o) := by
 obtain ⟨o, h1, h2⟩ := h
 refine ⟨o ++ bO n s', by rw [List.length_append, h1, bO_len, Nat.mul_add], ?_⟩
 rw [h2, rn_s, cy1, cy2, if_pos hj]
noncomputable def ruM (n : Int) : Nat -> MS -> Pm MS
 | 0, σ => fun k => k σ
 | j + 1, σ => fun k c => cyM n σ (fun σ' c => match σ'.b.getD 11 none with
  | some (.c false) => ruM n j σ' k c
  | _ => .bad (.c false) c) c
theorem ruM_ok {n : Int} (hn : pw n = true) : ∀ {j : Nat} {σ : MS} {s : Ps} {ρ : Env} {c : Pc}, StOk ρ c -> MRel n ρ c σ s -> Does chk (ruM n j σ) ρ c (fun ρ' c' σ' => ∃ s', Steps n j s s' /\ MRel n ρ' c' σ' s')
 | 0, σ, s, ρ, c, hs, h => Does.pure hs ⟨s, Steps.zero, h⟩
 | j + 1, σ, s, ρ, c, hs, h => by
  intro k hk
  obtain ⟨ρ1, c1, σ1, u, hr, h3⟩ := cyM_ok hn hs h _ hk
  split at h3
  ·rename_i e
   have hj : jm (nx n s) = false := (hr.2.2.2.2.1 11 _ e).inv
   obtain ⟨ρ2, c2, σ2, u2, ⟨s', hst, hr2⟩, h4⟩ := ruM_ok hn (j := j) u.st hr k h3
   refine ⟨ρ2, c2, σ2, u.trans u2, ⟨s', ?_, hr2⟩, h4⟩
   have := (Steps.one hj).trans hst
   rwa [Nat.add_comm] at this
  ·cases h3
end Go.Proofs.YtghlmhlamoagoaaGreat.Fl
namespace Go.Proofs.YtghlmhlamoagoaaGreat.Fl
open Go Go.Proofs Go.Proofs.YtghlmhlamoagoaaGreat.Sx

def mI (m : List MCell) (t : Nat) : Option A := match mLook m t with
 | some p => p.1
 | none => none
def mB (m : List MCell) (t : Nat) : Option B := match mLook m t with
 | some p => p.2
 | none => none
def finM (ads : List Nat) (σ : MS) : Pc -> Rep := fun c => .leaf (σ.i ++ ads.map (mI σ.m)) (σ.b ++ ads.map (mB σ.m)) c
def sI (ads : List Nat) (s : Ps) : List Int := s.ci ++ ads.map fun t => s.l.getD (t * 2) 0
def sB (ads : List Nat) (s : Ps) : List Bool := s.cb ++ ads.map fun t => s.l.getD (t * 2 + 1) 0 != 0
def exI (out : List Em) : List (Option A) -> List Ex -> Bool
 | [], [] => true
 | some a :: l, e :: r => (exOf out 40 (.inl a)).beq e && exI out l r
 | _, _ => false
def exB (out : List Em) : List (Option B) -> List Ex -> Bool
 | [], [] => true
 | some a :: l, e :: r => (exOf out 40 (.inr a)).beq e && exB out l r
 | _, _ => false
structure Cs where
 f : List (Nat × Bool × Ex)
 i : List Ex
 b : List Ex
def Cs.chk (K : Cs) (ri : List (Option A)) (rb : List (Option B)) (c : Pc) : Bool :=
 K.f.all (fun p => c.kn.any (fun q => Nat.beq q.1 p.1 && (q.2 == p.2.1)) && (exOf c.out 40 (.inr (.v p.1))).beq p.2.2) && exI c.out ri K.i && exB c.out rb K.b
theorem exI_ok {ρ : Env} {c : Pc} (hs : StOk ρ c) : ∀ {l : List (Option A)} {os : List Int} {r : List Ex}, exI c.out l r = true -> l.length = os.length -> WR ρ c l os -> os = r.map fun e => (e.d ρ).1
 | [], [], [], _, _, _ => rfl
 | some a :: l, o :: os, e :: r, h, hl, hw => by
  simp only [exI, Bool.and_eq_true] at h
  have h0 := hw 0 a rfl ρ Agree.refl
  have hx := exOf_ok (hs ρ Agree.refl).1 40 (.inl a)
  rw [Ex.beq_sound h.1] at hx
  have hx : (e.d ρ).1 = a.d ρ := hx
  have ht : os = _ := exI_ok hs h.2 (by simpa using hl) hw.tail
  rw [List.map_cons, <- ht, hx, h0]
  rfl
 | none :: _, _, _, h, _, _ => by simp [exI] at h
 | some _ :: _, _, [], h, _, _ => by simp [exI] at h
 | [], _, _ :: _, h, _, _ => by simp [exI] at h
theorem exB_ok {ρ : Env} {c : Pc} (hs : StOk ρ c) : ∀ {l : List (Option B)} {os : List Bool} {r : List Ex}, exB c.out l r = true -> l.length = os.length -> WRB ρ c l os -> os = r.map fun e => (e.d ρ).2
 | [], [], [], _, _, _ => rfl
 | some a :: l, o :: os, e :: r, h, hl, hw => by
  simp only [exB, Bool.and_eq_true] at h
  have h0 := hw 0 a rfl ρ Agree.refl
  have hx := exOf_ok (hs ρ Agree.refl).1 40 (.inr a)
  rw [Ex.beq_sound h.1] at hx
  have hx : (e.d ρ).2 = a.d ρ := hx
  have ht : os = _ := exB_ok hs h.2 (by simpa using hl) hw.tail
  rw [List.map_cons, <- ht, hx, h0]
  rfl
 | none :: _, _, _, h, _, _ => by simp [exB] at h
 | some _ :: _, _, [], h, _, _ => by simp [exB] at h
 | [], _, _ :: _, h, _, _ => by simp [exB] at h
structure Told (ads : List Nat) (ρ : Env) (K : Cs) (s : Ps) : Prop where
 f : ∀ p, p ∈ K.f -> (p.2.2.d ρ).2 = p.2.1
 i : sI ads s = K.i.map fun e => (e.d ρ).1
 b : sB ads s = K.b.map fun e => (e.d ρ).2
theorem told_of {n : Int} {ads : List Nat} {ρ : Env} {c : Pc} {σ : MS} {s : Ps} {K : Cs} (hs : StOk ρ c) (h : MRel n ρ c σ s) (hk : K.chk (σ.i ++ ads.map (mI σ.m)) (σ.b ++ ads.map (mB σ.m)) c = true) : Told ads ρ K s := by
 obtain ⟨ho, l1, l2, w1, w2, hm⟩ := h
 unfold Cs.chk at hk
 simp only [Bool.and_eq_true] at hk
 obtain ⟨⟨h1, h2⟩, h3⟩ := hk
 have wI : ∀ l : List Nat, WR ρ c (l.map (mI σ.m)) (l.map fun t => s.l.getD (t * 2) 0) := fun l => by
  induction l with
  | nil => exact WR.nil
  | cons t l ih =>
   refine WR.cons ?_ ih
   unfold mI
   split
   ·rename_i p e; exact (hm t p e).2.1
   ·exact WOA.none
 have wB : ∀ l : List Nat, WRB ρ c (l.map (mB σ.m)) (l.map fun t => s.l.getD (t * 2 + 1) 0 != 0) := fun l => by
  induction l with
  | nil => exact WRB.nil
  | cons t l ih =>
   refine WRB.cons ?_ ih
   unfold mB
   split
   ·rename_i p e; exact (hm t p e).2.2
   ·exact WOB.none
 have app : ∀ {l l' : List (Option A)} {os os' : List Int}, l.length = os.length -> WR ρ c l os -> WR ρ c l' os' -> WR ρ c (l ++ l') (os ++ os') := by
  intro l
  induction l with
  | nil => intro l' os os' hl _ h'; rw [List.length_eq_zero_iff.1 hl.symm]; exact h'
  | cons x l ih =>
   intro l' os os' hl h h'
   cases os with
   | nil => simp at hl
   | cons o os => exact WR.cons (h 0) (ih (by simpa using hl) h.tail h')
 refine ⟨fun p hp => ?_, exI_ok hs h2 (by simp [sI, l1, ho.1]) (app (by rw [l1, ho.1]) w1 (wI ads)), exB_ok hs h3 (by simp [sB, l2, ho.2.1]) (WRB.app (wB ads) (by rw [l2, ho.2.1]) w2)⟩
 have := List.all_eq_true.1 h1 p hp
 simp only [Bool.and_eq_true, List.any_eq_true, Nat.beq_eq, beq_iff_eq] at this
 obtain ⟨⟨q, hq, e1, e2⟩, he⟩ := this
 have hx := exOf_ok (hs ρ Agree.refl).1 40 (.inr (.v p.1))
 rw [Ex.beq_sound he] at hx
 have hx : (p.2.2.d ρ).2 = ρ.b p.1 := hx
 rw [hx, <- e1, (hs ρ Agree.refl).2.1 q hq, e2]
def pc0 (nI nB : Nat) (mk : List (Nat × Int)) (dt : DT) (hy : List Em := []) (kb : List (RB × Bool) := []) : Pc := { i := nI, b := nB, dt := dt, kn := [], out := [], hy := hy, ms := mk, oc := [], kb := kb }
def ms0 (ai : List A) (ab : List B) (am : List (Nat × A × B)) : MS := ⟨ai.map some, ab.map some, am.map fun p => (p.1, some p.2.1, some p.2.2)⟩
structure Begun (n : Int) (ρ : Env) (nI nB : Nat) (mk : List (Nat × Int)) (ai : List A) (ab : List B) (am : List (Nat × A × B)) (s : Ps) (hy : List Em := []) (kb : List (RB × Bool) := []) : Prop where
 o : Okp n s
 i : ∀ ρ', Agree nI nB ρ ρ' -> ai.map (A.d ρ') = s.ci
 b : ∀ ρ', Agree nI nB ρ ρ' -> ab.map (B.d ρ') = s.cb
 m : ∀ ρ', Agree nI nB ρ ρ' -> ∀ p, p ∈ am -> p.1 * 2 + 1 < s.l.length /\ p.2.1.d ρ' = s.l.getD (p.1 * 2) 0 /\ p.2.2.d ρ' = (s.l.getD (p.1 * 2 + 1) 0 != 0)
 k : ∀ ρ', Agree nI nB ρ ρ' -> MkOk ρ' mk
 h : ∀ ρ', Agree nI nB ρ ρ' -> Sx.Good Fun0 ρ' hy /\ TbOk ρ' kb
theorem mLook_mem : ∀ {l : List MCell} {t : Nat} {p : Option A × Option B}, mLook l t = some p -> (t, p) ∈ l
 | [], _, _, h => by cases h
 | q :: l, t, p, h => by
  unfold mLook at h
  split at h
  ·rename_i e
   rw [Nat.beq_eq] at e
   simp only [zOi] at h
   rw [<- e, <- h]
   exact List.mem_cons_self
  ·exact List.mem_cons_of_mem _ (mLook_mem h)
theorem wr_of {ρ : Env} {c : Pc} {ai : List A} {is : List Int} (h : ∀ ρ', Agree c.i c.b ρ ρ' -> ai.map (A.d ρ') = is) : WR ρ c (ai.map some) is := fun j a ha ρ' hag => by
 rw [<- h ρ' hag]
 simp only [List.getD_eq_getElem?_getD, List.getElem?_map] at ha ⊢
 cases hq : ai[j]? with
 | none => rw [hq] at ha; simp at ha
 | some x => rw [hq] at ha; simp only [Option.map_some, Option.getD_some, zOi] at ha ⊢; rw [ha]
theorem wrb_of {ρ : Env} {c : Pc} {ai : List B} {is : List Bool} (h : ∀ ρ', Agree c.i c.b ρ ρ' -> ai.map (B.d ρ') = is) : WRB ρ c (ai.map some) is := fun j a ha ρ' hag => by
 rw [<- h ρ' hag]
 simp only [List.getD_eq_getElem?_getD, List.getElem?_map] at ha ⊢
 cases hq : ai[j]? with
 | none => rw [hq] at ha; simp at ha
 | some x => rw [hq] at ha; simp only [Option.map_some, Option.getD_some, zOi] at ha ⊢; rw [ha]
theorem Begun.rel {n : Int} {ρ : Env} {nI nB : Nat} {mk : List (Nat × Int)} {ai : List A} {ab : List B} {am : List (Nat × A × B)} {s : Ps} {dt : DT} {hy : List Em} {kb : List (RB × Bool)} (h : Begun n ρ nI nB mk ai ab am s hy kb) : StOk ρ (pc0 nI nB mk dt hy kb) /\ MRel n ρ (pc0 nI nB mk dt hy kb) (ms0 ai ab am) s := by
 refine ⟨fun ρ' ha => ⟨Good.nil, (fun p hp => by cases hp), (h.h ρ' ha).1, h.k ρ' ha, (fun p hp => by cases hp), (h.h ρ' ha).2⟩, h.o, ?_, ?_, wr_of h.i, wrb_of h.b, fun t p e => ?_⟩
 ·have := congrArg List.length (h.i ρ Agree.refl)
  simp only [List.length_map] at this
  simp only [ms0, List.length_map]
  rw [this]; exact h.o.1
 ·have := congrArg List.length (h.b ρ Agree.refl)
  simp only [List.length_map] at this
  simp only [ms0, List.length_map]
  rw [this]; exact h.o.2.1
 ·have hm := mLook_mem e
  simp only [ms0, List.mem_map] at hm
  obtain ⟨q, hq, e⟩ := hm
  simp only [zPi] at e
  obtain ⟨rfl, rfl⟩ := e
  exact ⟨(h.m ρ Agree.refl q hq).1, WOA.some fun ρ' ha => (h.m ρ' ha q hq).2.1, WOB.some fun ρ' ha => (h.m ρ' ha q hq).2.2⟩
noncomputable def runM (n : Int) (k : Nat) (ai : List A) (ab : List B) (am : List (Nat × A × B)) (ads : List Nat) (nI nB : Nat) (mk : List (Nat × Int)) (dt : DT) (Ks : List Cs) (hy : List Em := []) (kb : List (RB × Bool) := []) : Bool :=
 (ruM n k (ms0 ai ab am) (finM ads) (pc0 nI nB mk dt hy kb)).ok fun ri rb c => Ks.any fun K => K.chk ri rb c
theorem runM_ok {n : Int} (hn : pw n = true) {k : Nat} {ai : List A} {ab : List B} {am : List (Nat × A × B)} {ads : List Nat} {nI nB : Nat} {mk : List (Nat × Int)} {dt : DT} {Ks : List Cs} {hy : List Em} {kb : List (RB × Bool)} (hk : runM n k ai ab am ads nI nB mk dt Ks hy kb = true)
  {ρ : Env} {s : Ps} (h : Begun n ρ nI nB mk ai ab am s hy kb) : ∃ K s' ρ', K ∈ Ks /\ Steps n k s s' /\ Okp n s' /\ Agree nI nB ρ ρ' /\ Told ads ρ' K s' := by
 obtain ⟨hs, hr⟩ := h.rel (dt := dt)
 obtain ⟨ρ', c', σ', u, ⟨s', hst, hr'⟩, hc⟩ := ruM_ok hn hs hr _ hk
 simp only [finM, Rep.ok, List.any_eq_true] at hc
 obtain ⟨K, hK, hc⟩ := hc
 exact ⟨K, s', ρ', hK, hst, hr'.1, u.ag, told_of u.st hr' hc⟩
noncomputable def runJ (n : Int) (ai : List A) (ab : List B) (am : List (Nat × A × B)) (ads : List Nat) (nI nB : Nat) (mk : List (Nat × Int)) (dt : DT) (Ks : List Cs) (hy : List Em := []) (kb : List (RB × Bool) := []) : Bool :=
 (cyM n (ms0 ai ab am) (finM ads) (pc0 nI nB mk dt hy kb)).ok fun ri rb c => Ks.any fun K => K.chk ri rb c
theorem runJ_ok {n : Int} (hn : pw n = true) {ai : List A} {ab : List B} {am : List (Nat × A × B)} {ads : List Nat} {nI nB : Nat} {mk : List (Nat × Int)} {dt : DT} {Ks : List Cs} {hy : List Em} {kb : List (RB × Bool)} (hk : runJ n ai ab am ads nI nB mk dt Ks hy kb = true)
  {ρ : Env} {s : Ps} (h : Begun n ρ nI nB mk ai ab am s hy kb) : ∃ K ρ', K ∈ Ks /\ Okp n (nx n s) /\ Agree nI nB ρ ρ' /\ Told ads ρ' K (nx n s) := by
 obtain ⟨hs, hr⟩ := h.rel (dt := dt)
 obtain ⟨ρ', c', σ', u, hr', hc⟩ := cyM_ok hn hs hr _ hk
 simp only [finM, Rep.ok, List.any_eq_true] at hc
 obtain ⟨K, hK, hc⟩ := hc
 exact ⟨K, ρ', hK, hr'.1, u.ag, told_of u.st hr' hc⟩
end Go.Proofs.YtghlmhlamoagoaaGreat.Fl
namespace Go.Proofs.YtghlmhlamoagoaaGreat.Fl
open Go Go.Proofs Go.Proofs.YtghlmhlamoagoaaGreat.Sx

def ilv : List Int -> List Int
 | [] => []
 | x :: l => x :: 0 :: ilv l
theorem ilv_len : ∀ l : List Int, (ilv l).length = l.length * 2
 | [] => rfl
 | x :: l => by simp only [ilv, List.length_cons, ilv_len l]; omega
theorem ilv_0 : ∀ (l : List Int) (t : Nat), (ilv l).getD (t * 2) 0 = l.getD t 0
 | [], t => by simp [ilv]
 | x :: l, 0 => rfl
 | x :: l, t + 1 => by
  rw [show (t + 1) * 2 = t * 2 + 1 + 1 by omega]
  simp only [ilv, List.getD_cons_succ, ilv_0 l t]
theorem ilv_1 : ∀ (l : List Int) (t : Nat), (ilv l).getD (t * 2 + 1) 0 = 0
 | [], t => by simp [ilv]
 | x :: l, 0 => rfl
 | x :: l, t + 1 => by
  rw [show (t + 1) * 2 + 1 = t * 2 + 1 + 1 + 1 by omega]
  simp only [ilv, List.getD_cons_succ, ilv_1 l t]
def memA : List A := [.c 162, .v 2, .c 202, .c 208, .c 253, .c 2] ++ List.replicate 250 (.c 0)
def memI (n : Int) : List Int := [162, n, 202, 208, 253, 2] ++ List.replicate 250 0
def memE : List Ex := [.ik 162, .iv 2, .ik 202, .ik 208, .ik 253, .ik 2] ++ List.replicate 250 (.ik 0)
theorem memI_len (n : Int) : (memI n).length = 256 := by
 unfold memI
 rw [List.length_append, List.length_replicate]
 rfl
def l0 (n : Int) : List Int := ilv (memI n)
def ads : List Nat := List.range 256
def cells : List (Nat × A × B) := (List.range 256).map fun t => (t, memA.getD t (.c 0), .c false)
def stA (pc op t a : Int) : List A := [.c 0, .v 0, .c 0, .c 0, .v 1, .c 0, .c pc, .c op, .c t, .c 0, .c a, .c 0, .c 0]
def stB : List B := List.replicate 12 (.c false)
def stE (x p : Ex) (pc op t a : Int) : List Ex := [.ik 0, x, .ik 0, .ik 0, p, .ik 0, .ik pc, .ik op, .ik t, .ik 0, .ik a, .ik 0, .ik 0] ++ memE
def bE (j : Bool) : List Ex := (List.replicate 11 (.bk false) ++ [.bk j]) ++ List.replicate 256 (.bk false)
structure At (n x p pc op t a : Int) (s : Ps) : Prop where
 o : Okp 256 s
 i : s.ci = [0, x, 0, 0, p, 0, pc, op, t, 0, a, 0, 0]
 b : s.cb = List.replicate 12 false
 l : s.l = l0 n
 x0 : 0 <= x
 x1 : x <= 255
theorem ads_getD {l m : List Int} (h : ads.map (fun t => l.getD (t * 2) 0) = m) {t : Nat} (ht : t < 256) : l.getD (t * 2) 0 = m.getD t 0 := by
 rw [<- h, List.getD_eq_getElem?_getD (l := List.map _ _)]
 simp [ads, ht]
theorem l_of {n : Int} {l : List Int} (hl : l.length = 512) (h1 : ads.map (fun t => l.getD (t * 2) 0) = memI n) (h2 : ads.map (fun t => l.getD (t * 2 + 1) 0 != 0) = List.replicate 256 false) : l = l0 n := by
 have hlen : (l0 n).length = 512 := by rw [l0, ilv_len, memI_len]
 apply List.ext_getElem (by rw [hl, hlen])
 intro j j1 j2
 have e1 : l[j] = l.getD j 0 := by rw [List.getD_eq_getElem?_getD, List.getElem?_eq_getElem j1]; rfl
 have e2 : (l0 n)[j] = (l0 n).getD j 0 := by rw [List.getD_eq_getElem?_getD, List.getElem?_eq_getElem j2]; rfl
 rw [e1, e2]
 have ht : j / 2 < 256 := by omega
 rcases Nat.mod_two_eq_zero_or_one j with h | h
 ·rw [show j = j / 2 * 2 by omega, ads_getD h1 ht, l0, ilv_0]
 ·rw [show j = j / 2 * 2 + 1 by omega, l0, ilv_1]
  have := congrArg (fun q => q.getD (j / 2) true) h2
  simp only [List.getD_eq_getElem?_getD, List.getElem?_map, List.getElem?_replicate, ads, List.getElem?_range ht, Option.map_some, Option.getD_some, if_pos ht] at this
  rw [List.getD_eq_getElem?_getD]
  simpa using this
def rho (x p n : Int) (b : Bool) : Env := envOf [x, p, n] [b]
theorem memA_d {ρ' : Env} {n : Int} (h : ρ'.i 2 = n) (t : Nat) : (memA.getD t (.c 0)).d ρ' = (memI n).getD t 0 := by
 have : memA.map (A.d ρ') = memI n := by
  unfold memA memI
  rw [List.map_append, List.map_replicate]
  simp only [List.map_cons, List.map_nil, A.d, h]
 rw [<- this, List.getD_eq_getElem?_getD, List.getD_eq_getElem?_getD, List.getElem?_map]
 cases memA[t]? <;> rfl
theorem cells_ok {ρ' : Env} {n : Int} {l : List Int} (h : ρ'.i 2 = n) (hl : l = l0 n) : ∀ p, p ∈ cells -> p.1 * 2 + 1 < l.length /\ p.2.1.d ρ' = l.getD (p.1 * 2) 0 /\ p.2.2.d ρ' = (l.getD (p.1 * 2 + 1) 0 != 0) := by
 intro p hp
 obtain ⟨t, ht, rfl⟩ := List.mem_map.1 hp
 have ht : t < 256 := by simpa using ht
 subst hl
 refine ⟨?_, ?_, ?_⟩
 ·show t * 2 + 1 < _
  rw [l0, ilv_len, memI_len]; omega
 ·rw [l0, ilv_0]; exact memA_d h t
 ·rw [l0, ilv_1]; rfl
def mk0 : List (Nat × Int) := [(0, 255), (1, 207)]
theorem oct_and {x : Int} (h0 : 0 <= x) (h1 : x <= 255) : arI .and .u8 x 255 = x := by
 have h := of_decide_eq_true (allR_spec (f := fun n => decide (arI .and .u8 (n : Int) 255 = n)) (k := 8) (lo := 0) (by kernel_rfl) x.toNat (Nat.zero_le _) (by omega))
 rwa [show ((x.toNat : Nat) : Int) = x by omega] at h
theorem At.begun {n x p pc op t a : Int} {s : Ps} (h : At n x p pc op t a s) : Begun 256 (rho x p n false) 3 0 mk0 (stA pc op t a) stB cells s := by
 have ag {ρ' : Env} (ha : Agree 3 0 (rho x p n false) ρ') : ρ'.i 0 = x /\ ρ'.i 1 = p /\ ρ'.i 2 = n := ⟨ha.1 0 (by omega), ha.1 1 (by omega), ha.1 2 (by omega)⟩
 refine ⟨h.o, fun ρ' ha => ?_, fun ρ' ha => ?_, fun ρ' ha => cells_ok (ag ha).2.2 h.l, fun ρ' ha q hq => ?_, fun _ _ => ⟨Sx.Good.nil, fun q hq => by cases hq⟩⟩
 ·rw [h.i]; simp only [stA, List.map_cons, List.map_nil, A.d, (ag ha).1, (ag ha).2.1]
 ·rw [h.b]; simp only [stB, List.map_replicate, B.d]
 ·simp only [mk0, List.mem_cons, List.not_mem_nil, or_false] at hq
  rcases hq with rfl | rfl
  ·simp only [(ag ha).1]; exact oct_and h.x0 h.x1
  ·simp only [(ag ha).2.1]
   have := h.o.2.2.2.1
   rw [h.i] at this
   simp only [mayL, may, List.getD_cons_zero, List.getD_cons_succ, Bool.and_eq_true, decide_eq_true_eq] at this
   exact this.1.2
theorem at_of {n pc op t a : Int} {j : Bool} {ρ' : Env} {f : List (Nat × Bool × Ex)} {xE pE : Ex} {s : Ps} (ho : Okp 256 s) (hn : ρ'.i 2 = n) (h : Told ads ρ' ⟨f, stE xE pE pc op t a, bE j⟩ s) :
  s.ci = [0, (xE.d ρ').1, 0, 0, (pE.d ρ').1, 0, pc, op, t, 0, a, 0, 0] /\ s.cb = List.replicate 11 false ++ [j] /\ s.l = l0 n := by
 have hi : s.ci ++ _ = _ := h.i
 have hb : s.cb ++ _ = _ := h.b
 simp only [stE, List.map_append] at hi
 simp only [bE] at hb
 rw [List.map_append] at hb
 obtain ⟨hi1, hi2⟩ := List.append_inj hi (by rw [ho.1]; rfl)
 obtain ⟨hb1, hb2⟩ := List.append_inj hb (by rw [ho.2.1]; rfl)
 refine ⟨hi1, by rw [hb1]; cases j <;> rfl, l_of (by rw [ho.2.2.2.2.1]; rfl) (hi2.trans ?_) (hb2.trans ?_)⟩
 ·simp only [memE, memI, List.map_append, List.map_cons, List.map_nil, List.map_replicate, Ex.d, hn]
 ·rw [List.map_replicate]; rfl
def nF (x : Ex) : Ex := .cm .neq (.ite (.not (.cm .gtr x (.ik 127))) (.ik 0) (.ik 1)) (.ik 0)
def zF (x : Ex) : Ex := .cm .neq (.ite (.not (.cm .eql x (.ik 0))) (.ik 0) (.ik 1)) (.ik 0)
def zP (x q : Ex) : Ex := .ite (zF x) (.ar .or .u8 (.ar .andNot .u8 (.ar .and .u8 q (.ik 207)) (.ik 2)) (.ik 2)) (.ar .andNot .u8 (.ar .and .u8 q (.ik 207)) (.ik 2))
def xE : Ex := .ar .sub .u8 (.iv 0) (.ik 1)
def pE : Ex := zP xE (.ite (nF xE) (.ar .or .u8 (.ar .andNot .u8 (.iv 1) (.ik 128)) (.ik 128)) (.ar .andNot .u8 (.iv 1) (.ik 128)))
def p0E : Ex := zP (.iv 2) (.ite (nF (.iv 2)) (.ik 128) (.ik 0))
def cE : Ex := .cm .gtr (.ar .and .u8 (.iv 1) (.ik 2)) (.ik 0)
theorem g0 : runM 256 2 [.c 0, .v 0, .c 0, .c 0, .c 0, .c 0, .c 0, .c 0, .c 0, .c 0, .c 0, .c 0, .c 0] (.c false :: .v 0 :: List.replicate 10 (.c false)) cells ads 3 1 [(2, 255)] .leaf [⟨[], stE (.iv 2) p0E 2 162 0 0, bE false⟩] = true := by kernel_rfl
theorem gA0 : runM 256 2 (stA 2 162 0 0) stB cells ads 3 0 mk0 .leaf [⟨[], stE xE pE 3 202 0 0, bE false⟩] = true := by kernel_rfl
theorem gA1 : runM 256 2 (stA 2 208 0 253) stB cells ads 3 0 mk0 .leaf [⟨[], stE xE pE 3 202 0 0, bE false⟩] = true := by kernel_rfl
theorem gB : runM 256 2 (stA 3 202 0 0) stB cells ads 3 0 mk0 (.node 1 .leaf .leaf) [⟨[(1, true, cE)], stE (.iv 0) (.iv 1) 5 208 0 253, bE false⟩, ⟨[(1, false, cE)], stE (.iv 0) (.iv 1) 5 208 2 253, bE false⟩] = true := by kernel_rfl
theorem gC : runM 256 1 (stA 5 208 2 253) stB cells ads 3 0 mk0 .leaf [⟨[], stE (.iv 0) (.iv 1) 2 208 0 253, bE false⟩] = true := by kernel_rfl
theorem gE : runM 256 1 (stA 5 208 0 253) stB cells ads 3 0 mk0 .leaf [⟨[], stE (.iv 0) (.iv 1) 6 2 1 0, bE false⟩] = true := by kernel_rfl
theorem gJ : runJ 256 (stA 6 2 1 0) stB cells ads 3 0 mk0 .leaf [⟨[], stE (.iv 0) (.iv 1) 6 2 1 0, bE true⟩] = true := by kernel_rfl
end Go.Proofs.YtghlmhlamoagoaaGreat.Fl
namespace Go.Proofs.YtghlmhlamoagoaaGreat.Fl
open Go Go.Proofs Go.Proofs.YtghlmhlamoagoaaGreat.Sx

theorem bit2 (q : Int) : arI .and .u8 (arI .andNot .u8 (arI .and .u8 q 207) 2) 2 = 0 /\ arI .and .u8 (arI .or .u8 (arI .andNot .u8 (arI .and .u8 q 207) 2) 2) 2 = 2 := by
 have h : ∀ y : Int, 0 <= y -> y <= 255 -> arI .and .u8 (arI .andNot .u8 y 2) 2 = 0 /\ arI .and .u8 (arI .or .u8 (arI .andNot .u8 y 2) 2) 2 = 2 := fun y h0 h1 => by
  have h := of_decide_eq_true (allR_spec (f := fun n => decide (arI .and .u8 (arI .andNot .u8 (n : Int) 2) 2 = 0 /\ arI .and .u8 (arI .or .u8 (arI .andNot .u8 (n : Int) 2) 2) 2 = 2)) (k := 8) (lo := 0) (by kernel_rfl) y.toNat (Nat.zero_le _) (by omega))
  rwa [show ((y.toNat : Nat) : Int) = y by omega] at h
 refine h _ ?_ ?_
 ·show 0 <= IntKind.wrap .u8 _
  rw [wrap_u8]; omega
 ·show IntKind.wrap .u8 _ <= 255
  rw [wrap_u8]; omega
theorem zF_d (x : Ex) (ρ : Env) : ((zF x).d ρ).2 = decide ((x.d ρ).1 = 0) := by
 by_cases h : (x.d ρ).1 = 0 <;> simp [zF, Ex.d, cm_eql, cm_neq, h]
theorem zP_d (x q : Ex) (ρ : Env) : arI .and .u8 ((zP x q).d ρ).1 2 = if (x.d ρ).1 = 0 then 2 else 0 := by
 have hz := zF_d x ρ
 obtain ⟨b1, b2⟩ := bit2 (q.d ρ).1
 by_cases h : (x.d ρ).1 = 0
 ·rw [if_pos h]
  simp only [zP, Ex.d, hz, h, decide_true, if_true]
  exact b2
 ·rw [if_neg h]
  simp only [zP, Ex.d, hz, h, decide_false, Bool.false_eq_true, if_false]
  exact b1
theorem env_2 {x p n : Int} {b : Bool} {k : Nat} {ρ' : Env} (ha : Agree 3 k (rho x p n b) ρ') : ρ'.i 0 = x /\ ρ'.i 1 = p /\ ρ'.i 2 = n := ⟨ha.1 0 (by omega), ha.1 1 (by omega), ha.1 2 (by omega)⟩
theorem go1 {n x p pc op t a pc' op' t' a' : Int} {k : Nat} {s : Ps} (h : At n x p pc op t a s) (hg : runM 256 k (stA pc op t a) stB cells ads 3 0 mk0 .leaf [⟨[], stE (.iv 0) (.iv 1) pc' op' t' a', bE false⟩] = true) : ∃ s', Steps 256 k s s' /\ At n x p pc' op' t' a' s' := by
 obtain ⟨K, s', ρ', hK, hst, ho, hag, ht⟩ := runM_ok rfl hg h.begun
 simp only [List.mem_singleton] at hK
 subst hK
 obtain ⟨e0, e1, e2⟩ := env_2 hag
 obtain ⟨h1, h2, h3⟩ := at_of ho e2 ht
 simp only [Ex.d, e0, e1] at h1
 exact ⟨s', hst, ho, h1, h2, h3, h.x0, h.x1⟩
theorem goA {n x p op a : Int} {s : Ps} (h : At n x p 2 op 0 a s) (hg : runM 256 2 (stA 2 op 0 a) stB cells ads 3 0 mk0 .leaf [⟨[], stE xE pE 3 202 0 0, bE false⟩] = true) : ∃ s' p', Steps 256 2 s s' /\ At n ((x - 1) % 256) p' 3 202 0 0 s' /\ arI .and .u8 p' 2 = if (x - 1) % 256 = 0 then 2 else 0 := by
 obtain ⟨K, s', ρ', hK, hst, ho, hag, ht⟩ := runM_ok rfl hg h.begun
 simp only [List.mem_singleton] at hK
 subst hK
 obtain ⟨e0, e1, e2⟩ := env_2 hag
 obtain ⟨h1, h2, h3⟩ := at_of ho e2 ht
 have hx : (xE.d ρ').1 = (x - 1) % 256 := by simp only [xE, Ex.d, e0, sub8]
 have hp : arI .and .u8 (pE.d ρ').1 2 = _ := zP_d _ _ _
 rw [hx] at h1 hp
 exact ⟨s', _, hst, ⟨ho, h1, h2, h3, by omega, by omega⟩, hp⟩
theorem goB0 {n x p : Int} {s : Ps} (h : At n x p 3 202 0 0 s) (hp : arI .and .u8 p 2 = 2) : ∃ s', Steps 256 2 s s' /\ At n x p 5 208 0 253 s' := by
 obtain ⟨K, s', ρ', hK, hst, ho, hag, ht⟩ := runM_ok rfl gB h.begun
 obtain ⟨e0, e1, e2⟩ := env_2 hag
 simp only [List.mem_cons, List.not_mem_nil, or_false] at hK
 rcases hK with rfl | rfl
 ·obtain ⟨h1, h2, h3⟩ := at_of ho e2 ht
  simp only [Ex.d, e0, e1] at h1
  exact ⟨s', hst, ho, h1, h2, h3, h.x0, h.x1⟩
 ·have := ht.f _ List.mem_cons_self
  simp only [cE, Ex.d, e1, hp] at this
  exact absurd this (by decide)
theorem goB1 {n x p : Int} {s : Ps} (h : At n x p 3 202 0 0 s) (hp : arI .and .u8 p 2 = 0) : ∃ s', Steps 256 3 s s' /\ At n x p 2 208 0 253 s' := by
 obtain ⟨K, s', ρ', hK, hst, ho, hag, ht⟩ := runM_ok rfl gB h.begun
 obtain ⟨e0, e1, e2⟩ := env_2 hag
 simp only [List.mem_cons, List.not_mem_nil, or_false] at hK
 rcases hK with rfl | rfl
 ·have := ht.f _ List.mem_cons_self
  simp only [cE, Ex.d, e1, hp] at this
  exact absurd this (by decide)
 ·obtain ⟨h1, h2, h3⟩ := at_of ho e2 ht
  simp only [Ex.d, e0, e1] at h1
  obtain ⟨s2, hst2, h4⟩ := go1 (pc := 5) (op := 208) (t := 2) (a := 253) ⟨ho, h1, h2, h3, h.x0, h.x1⟩ gC
  exact ⟨s2, hst.trans hst2, h4⟩
theorem turns {n : Int} : ∀ (m : Nat) {x p op a : Int} {s : Ps}, 1 <= m -> m <= 256 -> x = (m : Int) % 256 -> (op = 162 /\ a = 0 \/ op = 208 /\ a = 253) -> At n x p 2 op 0 a s -> ∃ s' p', Steps 256 (5 * m - 1) s s' /\ At n 0 p' 5 208 0 253 s'
 | 0, _, _, _, _, _, h, _, _, _, _ => by omega
 | m + 1, x, p, op, a, s, h1, h2, hx, hoa, h => by
  obtain ⟨s1, p1, hst1, hat1, hp1⟩ : ∃ s' p', Steps 256 2 s s' /\ At n ((x - 1) % 256) p' 3 202 0 0 s' /\ arI .and .u8 p' 2 = if (x - 1) % 256 = 0 then 2 else 0 := by
   rcases hoa with ⟨rfl, rfl⟩ | ⟨rfl, rfl⟩
   ·exact goA h gA0
   ·exact goA h gA1
  have hx' : (x - 1) % 256 = (m : Int) % 256 := by subst hx; omega
  rw [hx'] at hat1 hp1
  by_cases hm : m = 0
  ·subst hm
   rw [if_pos (show ((0 : Nat) : Int) % 256 = 0 from rfl)] at hp1
   obtain ⟨s2, hst2, h4⟩ := goB0 hat1 hp1
   exact ⟨s2, p1, hst1.trans hst2, h4⟩
  ·rw [if_neg (by omega)] at hp1
   obtain ⟨s2, hst2, h4⟩ := goB1 hat1 hp1
   obtain ⟨s3, p3, hst3, h5⟩ := turns m (by omega) (by omega) rfl (Or.inr ⟨rfl, rfl⟩) h4
   refine ⟨s3, p3, ?_, h5⟩
   have := (hst1.trans hst2).trans hst3
   rwa [show 2 + 3 + (5 * m - 1) = 5 * (m + 1) - 1 by omega] at this
def s0 (x n : Int) (b : Bool) : Ps := ⟨[0, x, 0, 0, 0, 0, 0, 0, 0, 0, 0, 0, 0], false :: b :: List.replicate 10 false, l0 n⟩
theorem l0_rng {n : Int} (h0 : 0 <= n) (h1 : n <= 255) (k : Nat) : 0 <= (l0 n).getD k 0 /\ (l0 n).getD k 0 <= 255 := by
 have hm : ∀ t, 0 <= (memI n).getD t 0 /\ (memI n).getD t 0 <= 255 := fun t => by
  unfold memI
  match t with
  | 0 => exact show (0 : Int) <= 162 /\ (162 : Int) <= 255 by decide
  | 1 => exact ⟨h0, h1⟩
  | 2 => exact show (0 : Int) <= 202 /\ (202 : Int) <= 255 by decide
  | 3 => exact show (0 : Int) <= 208 /\ (208 : Int) <= 255 by decide
  | 4 => exact show (0 : Int) <= 253 /\ (253 : Int) <= 255 by decide
  | 5 => exact show (0 : Int) <= 2 /\ (2 : Int) <= 255 by decide
  | t + 6 =>
   show 0 <= (List.replicate 250 (0 : Int)).getD t 0 /\ (List.replicate 250 (0 : Int)).getD t 0 <= 255
   rw [List.getD_eq_getElem?_getD, List.getElem?_replicate]
   split <;> decide
 rcases Nat.mod_two_eq_zero_or_one k with h | h
 ·rw [show k = k / 2 * 2 by omega, l0, ilv_0]; exact hm _
 ·rw [show k = k / 2 * 2 + 1 by omega, l0, ilv_1]; decide
theorem s0_ok {x n : Int} {b : Bool} (hx0 : 0 <= x) (hx1 : x <= 255) (h0 : 0 <= n) (h1 : n <= 255) : Okp 256 (s0 x n b) := by
 refine ⟨rfl, rfl, ?_, by show may 0 0 0 0 0 0 = true; kernel_rfl, by show (l0 n).length = _; rw [l0, ilv_len, memI_len]; rfl, fun k _ => l0_rng h0 h1 k⟩
 show Cpu 0 x 0 0 0 0 0 0 0 0 0 0 0
 exact ⟨⟨by omega, by omega⟩, ⟨by omega, by omega⟩, ⟨by omega, by omega⟩, ⟨by omega, by omega⟩, ⟨by omega, by omega⟩, ⟨by omega, by omega⟩, ⟨by omega, by omega⟩, ⟨by omega, by omega⟩, ⟨by omega, by omega⟩, ⟨by omega, by omega⟩⟩
theorem loops {x n : Int} {b : Bool} (hx0 : 0 <= x) (hx1 : x <= 255) (h0 : 0 <= n) (h1 : n <= 255) {m : Nat} (hm : (m : Int) = if n = 0 then 256 else n) :
  ∃ (s : Ps) (o : List Int) (p : Int), rn (cy 256) 2000 (s0 x n b) = (s, o) /\ o.length = 5 * (5 * m + 3) /\ s.ci = [0, 0, 0, 0, p, 0, 6, 2, 1, 0, 0, 0, 0] /\ s.cb = List.replicate 11 false ++ [true] /\ s.l = l0 n := by
 have hm1 : 1 <= m := by split at hm <;> omega
 have hm2 : m <= 256 := by split at hm <;> omega
 have hmn : n = (m : Int) % 256 := by split at hm <;> omega
 have hb : Begun 256 (rho x 0 n b) 3 1 [(2, 255)] [.c 0, .v 0, .c 0, .c 0, .c 0, .c 0, .c 0, .c 0, .c 0, .c 0, .c 0, .c 0, .c 0] (.c false :: .v 0 :: List.replicate 10 (.c false)) cells (s0 x n b) := by
  have ag {ρ' : Env} (ha : Agree 3 1 (rho x 0 n b) ρ') : ρ'.b 0 = b := ha.2 0 (by omega)
  refine ⟨s0_ok hx0 hx1 h0 h1, fun ρ' ha => ?_, fun ρ' ha => ?_, fun ρ' ha => cells_ok (env_2 ha).2.2 rfl, fun ρ' ha q hq => ?_, fun _ _ => ⟨Sx.Good.nil, fun q hq => by cases hq⟩⟩
  ·simp only [s0, List.map_cons, List.map_nil, A.d, (env_2 ha).1]
  ·simp only [s0, List.map_cons, List.map_replicate, B.d, ag ha]
  ·simp only [List.mem_cons, List.not_mem_nil, or_false] at hq
   subst hq
   simp only [(env_2 ha).2.2]; exact oct_and h0 h1
 obtain ⟨K, s1, ρ', hK, hst, ho, hag, ht⟩ := runM_ok rfl g0 hb
 simp only [List.mem_singleton] at hK
 subst hK
 obtain ⟨e0, e1, e2⟩ := env_2 hag
 obtain ⟨q1, q2, q3⟩ := at_of ho e2 ht
 simp only [Ex.d, e2] at q1
 obtain ⟨s2, p2, hst2, h2⟩ := turns (n := n) (op := 162) (a := 0) (s := s1) m hm1 hm2 hmn (Or.inl ⟨rfl, rfl⟩) ⟨ho, q1, q2, q3, h0, h1⟩
 obtain ⟨s3, hst3, h3⟩ := go1 h2 gE
 obtain ⟨K, ρ3, hK, ho4, hag4, ht4⟩ := runJ_ok rfl gJ h3.begun
 simp only [List.mem_singleton] at hK
 subst hK
 obtain ⟨f0, f1, f2⟩ := env_2 hag4
 obtain ⟨r1, r2, r3⟩ := at_of ho4 f2 ht4
 simp only [Ex.d, f0, f1] at r1
 have hst5 := (hst.trans hst2).trans hst3
 rw [show 2 + (5 * m - 1) + 1 = 5 * m + 2 by omega] at hst5
 obtain ⟨o, ho5, hr⟩ := hst5.jam (by rw [jm, r2]; rfl) (2000 - (5 * m + 3))
 rw [show 5 * m + 2 + (2000 - (5 * m + 3) + 1) = 2000 by omega] at hr
 exact ⟨_, o, p2, hr, ho5, r1, r2, r3⟩
theorem row0 : (458222462695599379270700542938797415851547826754730440471063195236977024085646466549524548253194054006869752147503995521190349772113174027207120416665033239752413414193106075315921521470829826776648282425263604806949163702192188847596940226310197739520 : Int) = enc (162 :: List.replicate 511 0) := by kernel_rfl
theorem row1 (n : Int) : ((((((162 :: List.replicate 511 0 : List Int).set 2 n).set 4 202).set 6 208).set 8 253).set 10 2) = l0 n := by kernel_rfl
noncomputable def Φ5 : Funs := tabF T85
theorem l5_10 : Φ5 10 = F10 := by kernel_rfl
theorem l5_11 : Φ5 11 = F11 := by kernel_rfl
theorem l5_12 : Φ5 12 = F12 := by kernel_rfl
set_option maxHeartbeats 4000000 in
theorem loop5 (n x : Int) (b : Bool) (hx0 : 0 <= x) (hx1 : x <= 255) (h0 : 0 <= n) (h1 : n <= 255) : F5 [n, x] [b] = ([], [true, true]) := by
 obtain ⟨m, hm⟩ : ∃ m : Nat, (m : Int) = if n = 0 then 256 else n := ⟨(if n = 0 then 256 else n).toNat, by split <;> omega⟩
 obtain ⟨s, o, p, hr, hol, hci, hcb, hl⟩ := loops (b := b) hx0 hx1 h0 h1 hm
 obtain ⟨M, m1, m2, m3, hrun⟩ := run_ok (n := 256) rfl (s0_ok (b := b) hx0 hx1 h0 h1) (N := 2000) (by omega)
 rw [hr] at m1 hrun
 simp only [s0, hci, hcb, hl] at m1 hrun
 have hM : (M : Int) = 5 * m + 3 := by omega
 show S5.run Φ5 true _ _ = _
 obtain ⟨ρ, e1, e2, e3, e4⟩ := Smry.run_specT (Φ := Φ5) (S := S5) (is := [n, x]) (bs := [b]) (show wsEm S5.em 2 1 = true by kernel_rfl)
 rw [e1, obAll_eq]
 clear e1
 simp only [S5, obs, Gd.d_cons, Gd.d_nil, eqns, Em.eqn, headsI, headsB, RI.d, RB.d, A.d, B.d, cm_eql, cm_neq, cm_lss, cm_leq, cm_gtr, cm_geq, List.map_cons, List.map_nil, and_true, Nat.zero_add, Nat.reduceAdd, ltn, upto, true_and, Nat.add_zero, List.getD_cons_zero, List.getD_cons_succ] at e2 e3 e4 ⊢
 simp only [e2, e3] at e4 ⊢
 clear e2 e3
 rw [l5_10, l5_11, awake11, l5_12] at e4
 obtain ⟨hi2, hi3, hi4, hi5, hi6, hi7, hb1, hi8, ⟨⟨hi9, hi10, hi11, hi12, hi13, hi14, hi15, hi16, hi17, hi18, hi19, hi20, hi21, hi22, hi23, hi24, hi25, hi26⟩, hb2, hb3, hb4, hb5, hb6, hb7, hb8, hb9, hb10, hb11, hb12, hb13, hb14⟩, hb15, hi27, hi28, hb16, hb17, hb18, hb19, hb20, hb21, hb22, hb23, hb24, ⟨hb25, hb26⟩, hb27, ⟨hb28, hb29⟩, hb30⟩ := e4
 have t6 : ρ.i 6 = enc (l0 n) := by
  rw [hi6, hi5, hi4, hi3, hi2, row0]
  simp only [dec_enc]
  exact congrArg enc (row1 n)
 rw [t6] at hi9 hi10 hi11 hi12 hi13 hi14 hi15 hi16 hi17 hi18 hi19 hi20 hi21 hi22 hi23 hi24 hi25 hi26 hb2 hb3 hb4 hb5 hb6 hb7 hb8 hb9 hb10 hb11 hb12 hb13 hb14
 have hF : F10 [0, x, 0, 0, 0, 0, 0, 0, 0, 0, 0, 0, 0, enc (l0 n), 256, 2000] [false, b, false, false, false, false, false, false, false, false, false, false] = _ := hrun
 rw [hF] at hi9 hi10 hi11 hi12 hi13 hi14 hi15 hi16 hi17 hi18 hi19 hi20 hi21 hi22 hi23 hi24 hi25 hi26 hb2 hb3 hb4 hb5 hb6 hb7 hb8 hb9 hb10 hb11 hb12 hb13 hb14
 simp only [List.replicate, List.cons_append, List.nil_append, List.getD_cons_zero, List.getD_cons_succ] at hi9 hi10 hi11 hi12 hi13 hi14 hi15 hi16 hi17 hi18 hi19 hi20 hi21 hi22 hi23 hi24 hi25 hi26 hb2 hb3 hb4 hb5 hb6 hb7 hb8 hb9 hb10 hb11 hb12 hb13 hb14
 have t8 : ρ.i 8 = (m : Int) := by
  rw [hi8, hm]
  by_cases h : n = 0
  ·have t1 : ρ.b 1 = true := by rw [hb1, h]; rfl
   simp only [t1, h, if_true]
  ·have t1 : ρ.b 1 = false := by rw [hb1]; simpa using h
   rw [if_neg h, hi7, wrap_i64_in (by omega) (by omega)]
   simp only [t1, Bool.false_eq_true, if_false]
 have t15 : ρ.b 15 = true := by rw [hb15, hi26]; rfl
 have t16 : ρ.b 16 = true := by
  rw [hb16, hi25, hi28, hi27, t8, hM, mul64, wrap_i64_in (by split at hm <;> omega) (by split at hm <;> omega), add64, wrap_i64_in (by split at hm <;> omega) (by split at hm <;> omega)]
  simp
 have t20 : ρ.b 20 = true := by rw [hb20, hb18, hb17, t15, t16, hb14, hb19, hb13]; rfl
 have t23 : ρ.b 23 = true := by rw [hb23, hb21, hb22, hi10, hb4]; rfl
 have t24 : ρ.b 24 = true := by rw [hb24, t20, t23]; rfl
 rw [hi22, hi23, t6, w12 (by omega) (by omega)] at hb25 hb26
 simp only [List.getD_cons_zero, List.getD_cons_succ] at hb25 hb26
 have t27 : ρ.b 27 = true := by rw [hb27, t24, hb26]; rfl
 simp only [List.getD_cons_zero, List.getD_cons_succ] at hb28 hb29
 have t30 : ρ.b 30 = true := by rw [hb30, t27, hb29]; rfl
 simp [hb2, t24, hb25, t27, hb28, t30]
end Go.Proofs.YtghlmhlamoagoaaGreat.Fl
