/-
  Flat's laws, and what they stand on (merged by wip/gen2/mini.py): part Pm12. No condition.
-/
import Derived.Test.YtghlmhlamoagoaaGreatPm11
set_option linter.unusedVariables false
set_option linter.unusedSimpArgs false
namespace Go.Proofs.YtghlmhlamoagoaaGreat.Fl
open Go Go.Proofs Go.Proofs.YtghlmhlamoagoaaGreat.Sx

def mI (m : List MCell) (t : Nat) : Option A := match mLook m t with
 | some p => p.1
 | none => none
def mB (m : List MCell) (t : Nat) : Option B := match mLook m t with
 | some p => p.2
 | none => none
def finM (ads : List Nat) (σ : MS) : Pc -> Rep := fun c => .leaf (σ.i ++ ads.map (mI σ.m)) (σ.b ++ ads.map (mB σ.m)) c
def sI (ads : List Nat) (s : Ps) : List Int := s.ci ++ ads.map fun t => s.l.getD (t * 2) 0
def sB (ads : List Nat) (s : Ps) : List Bool := s.cb ++ ads.map fun t => s.l.getD (t * 2 + 1) 0 != 0
def exI (out : List Em) : List (Option A) -> List Ex -> Bool
 | [], [] => true
 | some a :: l, e :: r => (exOf out 40 (.inl a)).beq e && exI out l r
 | _, _ => false
def exB (out : List Em) : List (Option B) -> List Ex -> Bool
 | [], [] => true
 | some a :: l, e :: r => (exOf out 40 (.inr a)).beq e && exB out l r
 | _, _ => false
structure Cs where
 f : List (Nat × Bool × Ex)
 i : List Ex
 b : List Ex
def Cs.chk (K : Cs) (ri : List (Option A)) (rb : List (Option B)) (c : Pc) : Bool :=
 K.f.all (fun p => c.kn.any (fun q => Nat.beq q.1 p.1 && (q.2 == p.2.1)) && (exOf c.out 40 (.inr (.v p.1))).beq p.2.2) && exI c.out ri K.i && exB c.out rb K.b
theorem exI_ok {ρ : Env} {c : Pc} (hs : StOk ρ c) : ∀ {l : List (Option A)} {os : List Int} {r : List Ex}, exI c.out l r = true -> l.length = os.length -> WR ρ c l os -> os = r.map fun e => (e.d ρ).1
 | [], [], [], _, _, _ => rfl
 | some a :: l, o :: os, e :: r, h, hl, hw => by
  simp only [exI, zAi] at h
  have h0 := hw 0 a rfl ρ Agree.refl
  have hx := exOf_ok (hs ρ Agree.refl).1 40 (.inl a)
  rw [Ex.beq_sound h.1] at hx
  have hx : (e.d ρ).1 = a.d ρ := hx
  have ht : os = _ := exI_ok hs h.2 (by simpa using hl) hw.tail
  rw [List.map_cons, <- ht, hx, h0]
  rfl
 | none :: _, _, _, h, _, _ => by simp [exI] at h
 | some _ :: _, _, [], h, _, _ => by simp [exI] at h
 | [], _, _ :: _, h, _, _ => by simp [exI] at h
theorem exB_ok {ρ : Env} {c : Pc} (hs : StOk ρ c) : ∀ {l : List (Option B)} {os : List Bool} {r : List Ex}, exB c.out l r = true -> l.length = os.length -> WRB ρ c l os -> os = r.map fun e => (e.d ρ).2
 | [], [], [], _, _, _ => rfl
 | some a :: l, o :: os, e :: r, h, hl, hw => by
  simp only [exB, zAi] at h
  have h0 := hw 0 a rfl ρ Agree.refl
  have hx := exOf_ok (hs ρ Agree.refl).1 40 (.inr a)
  rw [Ex.beq_sound h.1] at hx
  have hx : (e.d ρ).2 = a.d ρ := hx
  have ht : os = _ := exB_ok hs h.2 (by simpa using hl) hw.tail
  rw [List.map_cons, <- ht, hx, h0]
  rfl
 | none :: _, _, _, h, _, _ => by simp [exB] at h
 | some _ :: _, _, [], h, _, _ => by simp [exB] at h
 | [], _, _ :: _, h, _, _ => by simp [exB] at h
structure Told (ads : List Nat) (ρ : Env) (K : Cs) (s : Ps) : Prop where
 f : ∀ p, p ∈ K.f -> (p.2.2.d ρ).2 = p.2.1
 i : sI ads s = K.i.map fun e => (e.d ρ).1
 b : sB ads s = K.b.map fun e => (e.d ρ).2
theorem told_of {n : Int} {ads : List Nat} {ρ : Env} {c : Pc} {σ : MS} {s : Ps} {K : Cs} (hs : StOk ρ c) (h : MRel n ρ c σ s) (hk : K.chk (σ.i ++ ads.map (mI σ.m)) (σ.b ++ ads.map (mB σ.m)) c = true) : Told ads ρ K s := by
 obtain ⟨ho, l1, l2, w1, w2, hm⟩ := h
 unfold Cs.chk at hk
 simp only [zAi] at hk
 obtain ⟨⟨h1, h2⟩, h3⟩ := hk
 have wI : ∀ l : List Nat, WR ρ c (l.map (mI σ.m)) (l.map fun t => s.l.getD (t * 2) 0) := fun l => by
  induction l with
  | nil => exact WR.nil
  | cons t l ih =>
   refine WR.cons ?_ ih
   unfold mI
   split
   ·rename_i p e; exact (hm t p e).2.1
   ·exact WOA.none
 have wB : ∀ l : List Nat, WRB ρ c (l.map (mB σ.m)) (l.map fun t => s.l.getD (t * 2 + 1) 0 != 0) := fun l => by
  induction l with
  | nil => exact WRB.nil
  | cons t l ih =>
   refine WRB.cons ?_ ih
   unfold mB
   split
   ·rename_i p e; exact (hm t p e).2.2
   ·exact WOB.none
 have app : ∀ {l l' : List (Option A)} {os os' : List Int}, l.length = os.length -> WR ρ c l os -> WR ρ c l' os' -> WR ρ c (l ++ l') (os ++ os') := by
  intro l
  induction l with
  | nil => intro l' os os' hl _ h'; rw [List.length_eq_zero_iff.1 hl.symm]; exact h'
  | cons x l ih =>
   intro l' os os' hl h h'
   cases os with
   | nil => simp at hl
   | cons o os => exact WR.cons (h 0) (ih (by simpa using hl) h.tail h')
 refine ⟨fun p hp => ?_, exI_ok hs h2 (by simp [sI, l1, ho.1]) (app (by rw [l1, ho.1]) w1 (wI ads)), exB_ok hs h3 (by simp [sB, l2, ho.2.1]) (WRB.app (wB ads) (by rw [l2, ho.2.1]) w2)⟩
 have := List.all_eq_true.1 h1 p hp
 simp only [zAi, List.any_eq_true, Nat.beq_eq, beq_iff_eq] at this
 obtain ⟨⟨q, hq, e1, e2⟩, he⟩ := this
 have hx := exOf_ok (hs ρ Agree.refl).1 40 (.inr (.v p.1))
 rw [Ex.beq_sound he] at hx
 have hx : (p.2.2.d ρ).2 = ρ.b p.1 := hx
 rw [hx, <- e1, (hs ρ Agree.refl).2.1 q hq, e2]
def pc0 (nI nB : Nat) (mk : List (Nat × Int)) (dt : DT) (hy : List Em := []) (kb : List (RB × Bool) := []) : Pc := { i := nI, b := nB, dt := dt, kn := [], out := [], hy := hy, ms := mk, oc := [], kb := kb }
def ms0 (ai : List A) (ab : List B) (am : List (Nat × A × B)) : MS := ⟨ai.map some, ab.map some, am.map fun p => (p.1, some p.2.1, some p.2.2)⟩
structure Begun (n : Int) (ρ : Env) (nI nB : Nat) (mk : List (Nat × Int)) (ai : List A) (ab : List B) (am : List (Nat × A × B)) (s : Ps) (hy : List Em := []) (kb : List (RB × Bool) := []) : Prop where
 o : Okp n s
 i : ∀ ρ', Agree nI nB ρ ρ' -> ai.map (A.d ρ') = s.ci
 b : ∀ ρ', Agree nI nB ρ ρ' -> ab.map (B.d ρ') = s.cb
 m : ∀ ρ', Agree nI nB ρ ρ' -> ∀ p, p ∈ am -> p.1 * 2 + 1 < s.l.length /\ p.2.1.d ρ' = s.l.getD (p.1 * 2) 0 /\ p.2.2.d ρ' = (s.l.getD (p.1 * 2 + 1) 0 != 0)
 k : ∀ ρ', Agree nI nB ρ ρ' -> MkOk ρ' mk
 h : ∀ ρ', Agree nI nB ρ ρ' -> Sx.Good Fun0 ρ' hy /\ TbOk ρ' kb
theorem mLook_mem : ∀ {l : List MCell} {t : Nat} {p : Option A × Option B}, mLook l t = some p -> (t, p) ∈ l
 | [], _, _, h => by cases h
 | q :: l, t, p, h => by
  unfold mLook at h
  split at h
  ·rename_i e
   rw [Nat.beq_eq] at e
   simp only [zOi] at h
   rw [<- e, <- h]
   exact List.mem_cons_self
  ·exact List.mem_cons_of_mem _ (mLook_mem h)
theorem wr_of {ρ : Env} {c : Pc} {ai : List A} {is : List Int} (h : ∀ ρ', Agree c.i c.b ρ ρ' -> ai.map (A.d ρ') = is) : WR ρ c (ai.map some) is := fun j a ha ρ' hag => by
 rw [<- h ρ' hag]
 simp only [zGi, List.getElem?_map] at ha ⊢
 cases hq : ai[j]? with
 | none => rw [hq] at ha; simp at ha
 | some x => rw [hq] at ha; simp only [Option.map_some, Option.getD_some, zOi] at ha ⊢; rw [ha]
theorem wrb_of {ρ : Env} {c : Pc} {ai : List B} {is : List Bool} (h : ∀ ρ', Agree c.i c.b ρ ρ' -> ai.map (B.d ρ') = is) : WRB ρ c (ai.map some) is := fun j a ha ρ' hag => by
 rw [<- h ρ' hag]
 simp only [zGi, List.getElem?_map] at ha ⊢
 cases hq : ai[j]? with
 | none => rw [hq] at ha; simp at ha
 | some x => rw [hq] at ha; simp only [Option.map_some, Option.getD_some, zOi] at ha ⊢; rw [ha]
theorem Begun.rel {n : Int} {ρ : Env} {nI nB : Nat} {mk : List (Nat × Int)} {ai : List A} {ab : List B} {am : List (Nat × A × B)} {s : Ps} {dt : DT} {hy : List Em} {kb : List (RB × Bool)} (h : Begun n ρ nI nB mk ai ab am s hy kb) : StOk ρ (pc0 nI nB mk dt hy kb) /\ MRel n ρ (pc0 nI nB mk dt hy kb) (ms0 ai ab am) s := by
 refine ⟨fun ρ' ha => ⟨Good.nil, (fun p hp => by cases hp), (h.h ρ' ha).1, h.k ρ' ha, (fun p hp => by cases hp), (h.h ρ' ha).2⟩, h.o, ?_, ?_, wr_of h.i, wrb_of h.b, fun t p e => ?_⟩
 ·have := congrArg List.length (h.i ρ Agree.refl)
  simp only [List.length_map] at this
  simp only [ms0, List.length_map]
  rw [this]; exact h.o.1
 ·have := congrArg List.length (h.b ρ Agree.refl)
  simp only [List.length_map] at this
  simp only [ms0, List.length_map]
  rw [this]; exact h.o.2.1
 ·have hm := mLook_mem e
  simp only [ms0, List.mem_map] at hm
  obtain ⟨q, hq, e⟩ := hm
  simp only [zPi] at e
  obtain ⟨rfl, rfl⟩ := e
  exact ⟨(h.m ρ Agree.refl q hq).1, WOA.some fun ρ' ha => (h.m ρ' ha q hq).2.1, WOB.some fun ρ' ha => (h.m ρ' ha q hq).2.2⟩
noncomputable def runM (n : Int) (k : Nat) (ai : List A) (ab : List B) (am : List (Nat × A × B)) (ads : List Nat) (nI nB : Nat) (mk : List (Nat × Int)) (dt : DT) (Ks : List Cs) (hy : List Em := []) (kb : List (RB × Bool) := []) : Bool :=
 (ruM n k (ms0 ai ab am) (finM ads) (pc0 nI nB mk dt hy kb)).ok fun ri rb c => Ks.any fun K => K.chk ri rb c
theorem runM_ok {n : Int} (hn : pw n = true) {k : Nat} {ai : List A} {ab : List B} {am : List (Nat × A × B)} {ads : List Nat} {nI nB : Nat} {mk : List (Nat × Int)} {dt : DT} {Ks : List Cs} {hy : List Em} {kb : List (RB × Bool)} (hk : runM n k ai ab am ads nI nB mk dt Ks hy kb = true)
  {ρ : Env} {s : Ps} (h : Begun n ρ nI nB mk ai ab am s hy kb) : ∃ K s' ρ', K ∈ Ks /\ Steps n k s s' /\ Okp n s' /\ Agree nI nB ρ ρ' /\ Told ads ρ' K s' := by
 obtain ⟨hs, hr⟩ := h.rel (dt := dt)
 obtain ⟨ρ', c', σ', u, ⟨s', hst, hr'⟩, hc⟩ := ruM_ok hn hs hr _ hk
 simp only [finM, Rep.ok, List.any_eq_true] at hc
 obtain ⟨K, hK, hc⟩ := hc
 exact ⟨K, s', ρ', hK, hst, hr'.1, u.ag, told_of u.st hr' hc⟩
noncomputable def runJ (n : Int) (ai : List A) (ab : List B) (am : List (Nat × A × B)) (ads : List Nat) (nI nB : Nat) (mk : List (Nat × Int)) (dt : DT) (Ks : List Cs) (hy : List Em := []) (kb : List (RB × Bool) := []) : Bool :=
 (cyM n (ms0 ai ab am) (finM ads) (pc0 nI nB mk dt hy kb)).ok fun ri rb c => Ks.any fun K => K.chk ri rb c
theorem runJ_ok {n : Int} (hn : pw n = true) {ai : List A} {ab : List B} {am : List (Nat × A × B)} {ads : List Nat} {nI nB : Nat} {mk : List (Nat × Int)} {dt : DT} {Ks : List Cs} {hy : List Em} {kb : List (RB × Bool)} (hk : runJ n ai ab am ads nI nB mk dt Ks hy kb = true)
  {ρ : Env} {s : Ps} (h : Begun n ρ nI nB mk ai ab am s hy kb) : ∃ K ρ', K ∈ Ks /\ Okp n (nx n s) /\ Agree nI nB ρ ρ' /\ Told ads ρ' K (nx n s) := by
 obtain ⟨hs, hr⟩ := h.rel (dt := dt)
 obtain ⟨ρ', c', σ', u, hr', hc⟩ := cyM_ok hn hs hr _ hk
 simp only [finM, Rep.ok, List.any_eq_true] at hc
 obtain ⟨K, hK, hc⟩ := hc
 exact ⟨K, ρ', hK, hr'.1, u.ag, told_of u.st hr' hc⟩

def adP : List Nat := [0, 1, 2, 3, 4, 5, 6, 7, 8, 9, 10, 11, 12, 13, 14, 128, 129, 130, 131, 255]
def meA (c : A) : List A := [c, .c 165, .c 128, .c 101, .c 129, .c 133, .c 130, .c 169, .c 0, .c 105, .c 0, .c 133, .c 131, .c 2, .c 0, .v 0, .v 1, .v 6, .v 7, .c 0]
def meI (c a b m2 m3 : Int) : List Int := [c, 165, 128, 101, 129, 133, 130, 169, 0, 105, 0, 133, 131, 2, 0, a, b, m2, m3, 0]
def meE (c m2 m3 : Ex) : List Ex := [c, .ik 165, .ik 128, .ik 101, .ik 129, .ik 133, .ik 130, .ik 169, .ik 0, .ik 105, .ik 0, .ik 133, .ik 131, .ik 2, .ik 0, .iv 0, .iv 1, m2, m3, .ik 0]
def laA : List B := List.replicate 15 (.c false) ++ [.v 0, .v 1, .v 3, .v 4, .c false]
def laB (aS bS l2 l3 : Bool) : List Bool := List.replicate 15 false ++ [aS, bS, l2, l3, false]
def laE (l2 l3 : Ex) : List Ex := List.replicate 15 (.bk false) ++ [.bv 0, .bv 1, l2, l3, .bk false]
def cellP (c : A) : List (Nat × A × B) := (List.range 20).map fun k => (adP.getD k 0, (meA c).getD k (.c 0), laA.getD k (.c false))
def aiP (A0 : A) (pc op t a : Int) : List A := [A0, .c 0, .c 0, .c 0, .v 2, .v 3, .c pc, .c op, .c t, .c a, .c 0, .c 0, .c 0]
def abP (S0 : B) : List B := S0 :: List.replicate 11 (.c false)
def iP (A0 P Q : Ex) (pc op t a : Int) (c m2 m3 : Ex) : List Ex := [A0, .ik 0, .ik 0, .ik 0, P, Q, .ik pc, .ik op, .ik t, .ik a, .ik 0, .ik 0, .ik 0] ++ meE c m2 m3
def bP (S0 ct j l2 l3 : Ex) : List Ex := (S0 :: List.replicate 9 (.bk false) ++ [ct, j]) ++ laE l2 l3
def mkP : List (Nat × Int) := [(0, 255), (1, 255), (2, 207), (3, 207), (5, 255)]
def hyP : List Em := [.di 4 (.ar .and .u8 (.v 3) (.c 4))]
def kbP : List (RB × Bool) := [(.cm .gtr (.v 4) (.c 0), false)]
noncomputable def rP (k : Nat) (A0 : A) (S0 : B) (c : A) (pc op t a : Int) (i b : List Ex) : Bool := runM 256 k (aiP A0 pc op t a) (abP S0) (cellP c) adP 9 5 mkP .leaf [⟨[], i, b⟩] hyP kbP
def sbE (m : Int) (f x : Ex) : Ex := .ite f (.ar .or .u8 (.ar .andNot .u8 (.ar .and .u8 x (.ik 207)) (.ik m)) (.ik m)) (.ar .andNot .u8 (.ar .and .u8 x (.ik 207)) (.ik m))
def s1E (m : Int) (f x : Ex) : Ex := .ite f (.ar .or .u8 (.ar .andNot .u8 x (.ik m)) (.ik m)) (.ar .andNot .u8 x (.ik m))
def fgE (c : Ex) : Ex := .cm .neq (.ite (.not c) (.ik 0) (.ik 1)) (.ik 0)
def tyE (s : Ex) : Ex := .iteb (.not s) (.bk false) (.bk true)
def lbE (c s : Ex) : Ex := .iteb (.not c) (tyE s) (tyE s)
def ctE (q : Ex) : Ex := .cm .gtr (.ar .and .u8 q (.ik 4)) (.ik 0)
def ldP : Ex := sbE 2 (fgE (.cm .eql (.iv 0) (.ik 0))) (s1E 128 (fgE (.cm .gtr (.iv 0) (.ik 127))) (.iv 2))
def ldQ : Ex := sbE 2 (lbE (.cm .eql (.iv 0) (.ik 0)) (.bv 0)) (s1E 128 (lbE (.cm .gtr (.iv 0) (.ik 127)) (.bv 0)) (.iv 3))
def cyE : Ex := .cv .u64 (.ite (.cm .gtr (.ar .and .u8 (.iv 2) (.ik 1)) (.ik 0)) (.ik 1) (.ik 0))
def qcE : Ex := .cm .gtr (.ar .and .u8 (.iv 3) (.ik 1)) (.ik 0)
def adS : Ex := .ar .add .u64 (.ar .add .u64 (.cv .u64 (.iv 5)) (.cv .u64 (.iv 1))) cyE
def adV : Ex := .ar .and .u8 (.ar .and .u8 (.ar .xor .u8 (.ik 255) (.ar .xor .u8 (.iv 5) (.iv 1))) (.ar .xor .u8 (.iv 5) (.cv .u8 adS))) (.ik 128)
def adL : Ex := .iteb (.and (.not (.bv 2)) (.and (.not (.bv 1)) (.not qcE))) (.bk false) (.bk true)
def arP (sm v r : Ex) : Ex := sbE 2 (fgE (.cm .eql r (.ik 0))) (sbE 128 (fgE (.cm .gtr r (.ik 127))) (sbE 64 (fgE (.cm .gtr v (.ik 0))) (s1E 1 (fgE (.cm .gtr sm (.ik 255))) (.iv 2))))
def arQ (sm v r l : Ex) : Ex := sbE 2 (lbE (.cm .eql r (.ik 0)) l) (sbE 128 (lbE (.cm .gtr r (.ik 127)) l) (sbE 64 (lbE (.cm .gtr v (.ik 0)) l) (s1E 1 (lbE (.cm .gtr sm (.ik 255)) l) (.iv 3))))
def imS : Ex := .ar .add .u64 (.ik 0) cyE
def imV : Ex := .ar .and .u8 (.ar .and .u8 (.ik 255) (.ar .xor .u8 (.ik 0) (.cv .u8 imS))) (.ik 128)
def stC : Ex := .not (.not (.cm .eql (.get (.ik 190536410541747572716161940294993060653670952879209361976010886845277269426889886634209609689810565578943435724963250271593760288975980855296) (.ik 1) 1 0) (.ik 72)))
def stV : Ex := .ite stC (.ar .and .u8 (.iv 5) (.ik 1)) (.iv 5)
def stL : Ex := .iteb stC (tyE (.bv 2)) (.bv 2)
def anE (x : Ex) (m : Int) : Ex := .ar .andNot .u8 x (.ik m)
def lmP : Ex := .ar .or .u8 (.ar .andNot .u8 (.ar .and .u8 (anE (.iv 2) 128) (.ik 207)) (.ik 2)) (.ik 2)
def lmQ : Ex := .ar .andNot .u8 (.ar .and .u8 (anE (.iv 3) 128) (.ik 207)) (.ik 2)
theorem p1a : rP 2 (.c 0) (.c false) (.c 24) 0 0 0 0 (iP (.ik 0) (anE (.iv 2) 1) (anE (.iv 3) 1) 1 24 0 0 (.ik 24) (.iv 6) (.iv 7)) (bP (.bk false) (ctE (anE (.iv 3) 1)) (.bk false) (.bv 3) (.bv 4)) = true := by kernel_rfl
theorem p1b : rP 2 (.c 0) (.c false) (.c 56) 0 0 0 0 (iP (.ik 0) (.ar .or .u8 (anE (.iv 2) 1) (.ik 1)) (anE (.iv 3) 1) 1 56 0 0 (.ik 56) (.iv 6) (.iv 7)) (bP (.bk false) (ctE (anE (.iv 3) 1)) (.bk false) (.bv 3) (.bv 4)) = true := by kernel_rfl
theorem p2a : rP 3 (.c 0) (.c false) (.v 8) 1 24 0 0 (iP (.iv 0) ldP ldQ 3 165 0 128 (.iv 8) (.iv 6) (.iv 7)) (bP (.bv 0) (ctE ldQ) (.bk false) (.bv 3) (.bv 4)) = true := by kernel_rfl
theorem p2b : rP 3 (.c 0) (.c false) (.v 8) 1 56 0 0 (iP (.iv 0) ldP ldQ 3 165 0 128 (.iv 8) (.iv 6) (.iv 7)) (bP (.bv 0) (ctE ldQ) (.bk false) (.bv 3) (.bv 4)) = true := by kernel_rfl
theorem p3 : rP 3 (.v 5) (.v 2) (.v 8) 3 165 0 128 (iP (.cv .u8 adS) (arP adS adV (.cv .u8 adS)) (arQ adS adV (.cv .u8 adS) adL) 5 101 0 129 (.iv 8) (.iv 6) (.iv 7)) (bP adL (ctE (arQ adS adV (.cv .u8 adS) adL)) (.bk false) (.bv 3) (.bv 4)) = true := by kernel_rfl
theorem p4 : rP 3 (.v 5) (.v 2) (.v 8) 5 101 0 129 (iP (.iv 5) (.iv 2) (.iv 3) 7 133 0 130 (.iv 8) stV (.iv 7)) (bP (.bv 2) (.bk false) (.bk false) stL (.bv 4)) = true := by kernel_rfl
theorem p5 : rP 2 (.v 5) (.v 2) (.v 8) 7 133 0 130 (iP (.ik 0) lmP lmQ 9 169 0 0 (.iv 8) (.iv 6) (.iv 7)) (bP (.bk false) (ctE lmQ) (.bk false) (.bv 3) (.bv 4)) = true := by kernel_rfl
theorem p6 : rP 2 (.c 0) (.c false) (.v 8) 9 169 0 0 (iP (.cv .u8 imS) (arP imS imV (.cv .u8 imS)) (arQ imS imV (.cv .u8 imS) (tyE qcE)) 11 105 0 0 (.iv 8) (.iv 6) (.iv 7)) (bP (tyE qcE) (ctE (arQ imS imV (.cv .u8 imS) (tyE qcE))) (.bk false) (.bv 3) (.bv 4)) = true := by kernel_rfl
theorem p7 : rP 3 (.v 5) (.v 2) (.v 8) 11 105 0 0 (iP (.iv 5) (.iv 2) (.iv 3) 13 133 0 131 (.iv 8) (.iv 6) stV) (bP (.bv 2) (.bk false) (.bk false) (.bv 3) stL) = true := by kernel_rfl
theorem p8 : rP 1 (.v 5) (.v 2) (.v 8) 13 133 0 131 (iP (.iv 5) (.iv 2) (.iv 3) 14 2 1 0 (.iv 8) (.iv 6) (.iv 7)) (bP (.bv 2) (.bk false) (.bk false) (.bv 3) (.bv 4)) = true := by kernel_rfl
theorem p9 : runJ 256 (aiP (.v 5) 14 2 1 0) (abP (.v 2)) (cellP (.v 8)) adP 9 5 mkP .leaf [⟨[], iP (.iv 5) (.iv 2) (.iv 3) 14 2 1 0 (.iv 8) (.iv 6) (.iv 7), bP (.bv 2) (.bk false) (.bk true) (.bv 3) (.bv 4)⟩] hyP kbP = true := by kernel_rfl
section

theorem oct_of {f : Nat -> Bool} (h : allR f 8 0 = true) {y : Int} (h0 : 0 <= y) (h1 : y <= 255) : f y.toNat = true := allR_spec h y.toNat (Nat.zero_le _) (by omega)
theorem and_rng (x m : Int) : 0 <= arI .and .u8 x m /\ arI .and .u8 x m <= 255 := by
 show 0 <= IntKind.wrap .u8 _ /\ IntKind.wrap .u8 _ <= 255
 rw [wrap_u8]; omega
def kpB (m k : Int) (n : Nat) : Bool := decide (arI .and .u8 (arI .andNot .u8 (arI .and .u8 (n : Int) 207) m) k = arI .and .u8 (n : Int) k /\ arI .and .u8 (arI .or .u8 (arI .andNot .u8 (arI .and .u8 (n : Int) 207) m) m) k = arI .and .u8 (n : Int) k)
def k1B (m k : Int) (n : Nat) : Bool := decide (arI .and .u8 (arI .andNot .u8 (n : Int) m) k = arI .and .u8 (n : Int) k /\ arI .and .u8 (arI .or .u8 (arI .andNot .u8 (n : Int) m) m) k = arI .and .u8 (n : Int) k)
theorem sb_keep {m k : Int} (hb : allR (kpB m k) 8 0 = true) (f x : Ex) (ρ : Env) : arI .and .u8 ((sbE m f x).d ρ).1 k = arI .and .u8 (x.d ρ).1 k := by
 have h := of_decide_eq_true (oct_of hb (y := (x.d ρ).1 % 256) (by omega) (by omega))
 rw [show (((x.d ρ).1 % 256).toNat : Int) = (x.d ρ).1 % 256 by omega, <- and8, <- and8] at h
 simp only [sbE, Ex.d]
 split
 ·exact h.2
 ·exact h.1
theorem s1_keep {m k : Int} (hb : allR (k1B m k) 8 0 = true) (f x : Ex) (ρ : Env) (h0 : 0 <= (x.d ρ).1) (h1 : (x.d ρ).1 <= 255) : arI .and .u8 ((s1E m f x).d ρ).1 k = arI .and .u8 (x.d ρ).1 k := by
 have h := of_decide_eq_true (oct_of hb h0 h1)
 rw [show (((x.d ρ).1).toNat : Int) = (x.d ρ).1 by omega] at h
 simp only [s1E, Ex.d]
 split
 ·exact h.2
 ·exact h.1
def b1B (n : Nat) : Bool := decide (arI .and .u8 (arI .andNot .u8 (n : Int) 1) 1 = 0 /\ arI .and .u8 (arI .or .u8 (arI .andNot .u8 (n : Int) 1) 1) 1 = 1)
theorem b1_all : allR b1B 8 0 = true := by kernel_rfl
theorem s1_bit (f x : Ex) (ρ : Env) (h0 : 0 <= (x.d ρ).1) (h1 : (x.d ρ).1 <= 255) : arI .and .u8 ((s1E 1 f x).d ρ).1 1 = if (f.d ρ).2 then 1 else 0 := by
 have h := of_decide_eq_true (oct_of b1_all h0 h1)
 rw [show (((x.d ρ).1).toNat : Int) = (x.d ρ).1 by omega] at h
 simp only [s1E, Ex.d]
 split
 ·exact h.2
 ·exact h.1
theorem a21 : allR (kpB 2 1) 8 0 = true := by kernel_rfl
theorem a24 : allR (kpB 2 4) 8 0 = true := by kernel_rfl
theorem a61 : allR (kpB 64 1) 8 0 = true := by kernel_rfl
theorem a64 : allR (kpB 64 4) 8 0 = true := by kernel_rfl
theorem a81 : allR (kpB 128 1) 8 0 = true := by kernel_rfl
theorem a84 : allR (kpB 128 4) 8 0 = true := by kernel_rfl
theorem ee81 : allR (k1B 128 1) 8 0 = true := by kernel_rfl
theorem ee84 : allR (k1B 128 4) 8 0 = true := by kernel_rfl
theorem ee14 : allR (k1B 1 4) 8 0 = true := by kernel_rfl
theorem fgE_d (c : Ex) (ρ : Env) : ((fgE c).d ρ).2 = (c.d ρ).2 := by
 cases h : (c.d ρ).2 <;> simp [fgE, Ex.d, cm_neq, h]
theorem tyE_d (s : Ex) (ρ : Env) : ((tyE s).d ρ).2 = (s.d ρ).2 := by
 cases h : (s.d ρ).2 <;> simp [tyE, Ex.d, h]
theorem lbE_d (c s : Ex) (ρ : Env) : ((lbE c s).d ρ).2 = (s.d ρ).2 := by
 have := tyE_d s ρ
 cases h : (c.d ρ).2 <;> simp [lbE, Ex.d, h, this]
theorem wrap_u64_in {n : Int} (h0 : 0 <= n) (h1 : n <= 100000) : IntKind.wrap .u64 n = n := by
 simp [IntKind.wrap, IntKind.signed, IntKind.bits]; omega
structure Pt (c a b Ac p q pc op t i9 m2 m3 : Int) (aS bS AS l2 l3 : Bool) (s : Ps) : Prop where
 fo : Okp 256 s
 fi : s.ci = [Ac, 0, 0, 0, p, q, pc, op, t, i9, 0, 0, 0]
 fb : s.cb = AS :: List.replicate 11 false
 fm : adP.map (fun t => s.l.getD (t * 2) 0) = meI c a b m2 m3
 fn : adP.map (fun t => s.l.getD (t * 2 + 1) 0 != 0) = laB aS bS l2 l3
 ra : 0 <= a /\ a <= 255
 rb : 0 <= b /\ b <= 255
 rA : 0 <= Ac /\ Ac <= 255
 q4 : arI .and .u8 q 4 = 0
def rhoP (c a b Ac p q m2 m3 : Int) (aS bS AS l2 l3 : Bool) : Env := envOf [a, b, p, q, 0, Ac, m2, m3, c] [aS, bS, AS, l2, l3]
structure E9 (c a b Ac p q m2 m3 : Int) (aS bS AS l2 l3 : Bool) (ρ : Env) : Prop where
 i0 : ρ.i 0 = a
 i1 : ρ.i 1 = b
 i2 : ρ.i 2 = p
 i3 : ρ.i 3 = q
 i4 : ρ.i 4 = 0
 i5 : ρ.i 5 = Ac
 i6 : ρ.i 6 = m2
 i7 : ρ.i 7 = m3
 i8 : ρ.i 8 = c
 b0 : ρ.b 0 = aS
 b1 : ρ.b 1 = bS
 b2 : ρ.b 2 = AS
 b3 : ρ.b 3 = l2
 b4 : ρ.b 4 = l3
theorem en9 {c a b Ac p q m2 m3 : Int} {aS bS AS l2 l3 : Bool} {ρ' : Env} (h : Agree 9 5 (rhoP c a b Ac p q m2 m3 aS bS AS l2 l3) ρ') : E9 c a b Ac p q m2 m3 aS bS AS l2 l3 ρ' :=
 ⟨h.1 0 (by omega), h.1 1 (by omega), h.1 2 (by omega), h.1 3 (by omega), h.1 4 (by omega), h.1 5 (by omega), h.1 6 (by omega), h.1 7 (by omega), h.1 8 (by omega), h.2 0 (by omega), h.2 1 (by omega), h.2 2 (by omega), h.2 3 (by omega), h.2 4 (by omega)⟩
section
variable {c a b Ac p q pc op t i9 m2 m3 : Int} {aS bS AS l2 l3 : Bool} {s : Ps}
theorem may_msk {p q o t i n : Int} (h : may p q o t i n = true) : arI .and .u8 p 207 = p /\ arI .and .u8 q 207 = q := by
 simp only [may, zAi, decide_eq_true_eq] at h
 exact ⟨h.1.2, h.2⟩
theorem Pt.p207 (h : Pt c a b Ac p q pc op t i9 m2 m3 aS bS AS l2 l3 s) : arI .and .u8 p 207 = p /\ arI .and .u8 q 207 = q := by
 have := h.fo.2.2.2.1
 rw [h.fi] at this
 exact may_msk this
theorem Pt.pr (h : Pt c a b Ac p q pc op t i9 m2 m3 aS bS AS l2 l3 s) : (0 <= p /\ p <= 255) /\ 0 <= q /\ q <= 255 := by
 have h1 := and_rng p 207; have h2 := and_rng q 207
 rw [h.p207.1] at h1; rw [h.p207.2] at h2
 exact ⟨h1, h2⟩
theorem Pt.begun (h : Pt c a b Ac p q pc op t i9 m2 m3 aS bS AS l2 l3 s) {A0 cA : Sx.A} {S0 : B} (hA : ∀ ρ' : Env, ρ'.i 5 = Ac -> A0.d ρ' = Ac) (hS : ∀ ρ' : Env, ρ'.b 2 = AS -> S0.d ρ' = AS) (hc : ∀ ρ' : Env, ρ'.i 8 = c -> cA.d ρ' = c) :
  Begun 256 (rhoP c a b Ac p q m2 m3 aS bS AS l2 l3) 9 5 mkP (aiP A0 pc op t i9) (abP S0) (cellP cA) s hyP kbP := by
 have oct {x : Int} (h0 : 0 <= x) (h1 : x <= 255) : arI .and .u8 x 255 = x := by
  have h := of_decide_eq_true (oct_of (f := fun n => decide (arI .and .u8 (n : Int) 255 = n)) (by kernel_rfl) h0 h1)
  rwa [show ((x.toNat : Nat) : Int) = x by omega] at h
 refine ⟨h.fo, fun ρ' ha => ?_, fun ρ' ha => ?_, fun ρ' ha w hw => ?_, fun ρ' ha w hw => ?_, fun ρ' ha => ⟨?_, fun w hw => ?_⟩⟩
 ·have e := en9 ha
  rw [h.fi, aiP]; simp only [List.map_cons, List.map_nil]; rw [hA ρ' e.i5]; simp only [Sx.A.d, e.i2, e.i3]
 ·have e := en9 ha
  rw [h.fb, abP, List.map_cons, List.map_replicate, hS ρ' e.b2]; rfl
 ·have e := en9 ha
  obtain ⟨k, hk, rfl⟩ := List.mem_map.1 hw
  have hk : k < 20 := by simpa using hk
  have hlen : s.l.length = 512 := h.fo.2.2.2.2.1
  have had : adP.getD k 0 <= 255 := by
   have := of_decide_eq_true (allR_spec (f := fun k => decide (adP.getD k 0 <= 255)) (k := 5) (lo := 0) (by kernel_rfl) k (Nat.zero_le _) (by omega))
   exact this
  obtain ⟨d, g⟩ : ∃ d, adP[k]? = some d := ⟨_, List.getElem?_eq_getElem (show k < adP.length from hk)⟩
  have gd : adP.getD k 0 = d := by rw [zGi, g]; rfl
  have gA : (meA cA)[k]? = some ((meA cA).getD k (.c 0)) := by
   have hk' : k < (meA cA).length := hk
   rw [zGi, List.getElem?_eq_getElem hk']; rfl
  have gB : laA[k]? = some (laA.getD k (.c false)) := by
   have hk' : k < laA.length := hk
   rw [zGi, List.getElem?_eq_getElem hk']; rfl
  have e1 : (meA cA).map (A.d ρ') = meI c a b m2 m3 := by
   simp only [meA, meI, List.map_cons, List.map_nil]
   rw [hc ρ' e.i8]
   simp only [Sx.A.d, e.i0, e.i1, e.i6, e.i7]
  have e2 : laA.map (B.d ρ') = laB aS bS l2 l3 := by
   simp only [laA, laB, List.map_append, List.map_replicate, List.map_cons, List.map_nil, B.d, e.b0, e.b1, e.b3, e.b4]
  rw [gd] at had ⊢
  refine ⟨by show d * 2 + 1 < _; omega, ?_, ?_⟩
  ·have q1 := congrArg (fun l : List Int => l[k]?) (h.fm.trans e1.symm)
   simp only [List.getElem?_map, g, gA, Option.map_some, zOi] at q1
   exact q1.symm
  ·have q1 := congrArg (fun l : List Bool => l[k]?) (h.fn.trans e2.symm)
   simp only [List.getElem?_map, g, gB, Option.map_some, zOi] at q1
   exact q1.symm
 ·have e := en9 ha
  simp only [mkP, List.mem_cons, List.not_mem_nil, or_false] at hw
  rcases hw with rfl | rfl | rfl | rfl | rfl
  ·simp only [e.i0]; exact oct h.ra.1 h.ra.2
  ·simp only [e.i1]; exact oct h.rb.1 h.rb.2
  ·simp only [e.i2]; exact h.p207.1
  ·simp only [e.i3]; exact h.p207.2
  ·simp only [e.i5]; exact oct h.rA.1 h.rA.2
 ·have e := en9 ha
  refine Sx.Good.cons.2 ⟨?_, Sx.Good.nil⟩
  show ρ'.i 4 = arI .and .u8 (ρ'.i 3) 4
  rw [e.i4, e.i3, h.q4]
 ·have e := en9 ha
  simp only [kbP, List.mem_singleton] at hw
  subst hw
  simp only [RB.d, A.d, cm_gtr, e.i4]
  decide
end
structure Got (ρ : Env) (AE P Q : Ex) (pc op t i9 : Int) (cE m2E m3E SE ct jE l2E l3E : Ex) (s : Ps) : Prop where
 o : Okp 256 s
 i : s.ci = [(AE.d ρ).1, 0, 0, 0, (P.d ρ).1, (Q.d ρ).1, pc, op, t, i9, 0, 0, 0]
 b : s.cb = (SE.d ρ).2 :: List.replicate 9 false ++ [(ct.d ρ).2, (jE.d ρ).2]
 m : adP.map (fun t => s.l.getD (t * 2) 0) = meI (cE.d ρ).1 (ρ.i 0) (ρ.i 1) (m2E.d ρ).1 (m3E.d ρ).1
 n : adP.map (fun t => s.l.getD (t * 2 + 1) 0 != 0) = laB (ρ.b 0) (ρ.b 1) (l2E.d ρ).2 (l3E.d ρ).2
theorem got_of {ρ' : Env} {f : List (Nat × Bool × Ex)} {AE P Q cE m2E m3E SE ct jE l2E l3E : Ex} {pc op t i9 : Int} {s : Ps} (ho : Okp 256 s) (h : Told adP ρ' ⟨f, iP AE P Q pc op t i9 cE m2E m3E, bP SE ct jE l2E l3E⟩ s) : Got ρ' AE P Q pc op t i9 cE m2E m3E SE ct jE l2E l3E s := by
 have hi : s.ci ++ _ = _ := h.i
 have hb : s.cb ++ _ = _ := h.b
 simp only [iP, List.map_append] at hi
 simp only [bP] at hb
 rw [List.map_append] at hb
 obtain ⟨hi1, hi2⟩ := List.append_inj hi (by rw [ho.1]; rfl)
 obtain ⟨hb1, hb2⟩ := List.append_inj hb (by rw [ho.2.1]; rfl)
 refine ⟨ho, hi1, ?_, hi2, ?_⟩
 ·rw [hb1]
  simp only [List.map_append, List.map_cons, List.map_nil, List.map_replicate, Ex.d]
 ·refine hb2.trans ?_
  simp only [laE, laB, List.map_append, List.map_cons, List.map_nil, List.map_replicate, Ex.d]
section
variable {c a b Ac p q pc op t i9 m2 m3 : Int} {aS bS AS l2 l3 : Bool} {s : Ps}
theorem goP (h : Pt c a b Ac p q pc op t i9 m2 m3 aS bS AS l2 l3 s) {A0 cA : Sx.A} {S0 : B} (hA : ∀ ρ' : Env, ρ'.i 5 = Ac -> A0.d ρ' = Ac) (hS : ∀ ρ' : Env, ρ'.b 2 = AS -> S0.d ρ' = AS) (hc : ∀ ρ' : Env, ρ'.i 8 = c -> cA.d ρ' = c)
  {k : Nat} {AE P Q cE m2E m3E SE ct l2E l3E : Ex} {pc' op' t' i9' : Int} (hg : rP k A0 S0 cA pc op t i9 (iP AE P Q pc' op' t' i9' cE m2E m3E) (bP SE ct (.bk false) l2E l3E) = true) :
  ∃ s' ρ', Steps 256 k s s' /\ E9 c a b Ac p q m2 m3 aS bS AS l2 l3 ρ' /\ Got ρ' AE P Q pc' op' t' i9' cE m2E m3E SE ct (.bk false) l2E l3E s' := by
 obtain ⟨K, s', ρ', hK, hst, ho, hag, ht⟩ := runM_ok rfl hg (h.begun hA hS hc)
 simp only [List.mem_singleton] at hK
 subst hK
 exact ⟨s', ρ', hst, en9 hag, got_of ho ht⟩
end
theorem Got.pt {ρ : Env} {AE P Q : Ex} {pc op t i9 : Int} {cE m2E m3E SE ct l2E l3E : Ex} {s : Ps} {c0 c a b Ac p q m2 m3 m2' m3' : Int} {aS bS AS l2 l3 AS' l2' l3' : Bool} {A' p' q' : Int} (g : Got ρ AE P Q pc op t i9 cE m2E m3E SE ct (.bk false) l2E l3E s) (e : E9 c0 a b Ac p q m2 m3 aS bS AS l2 l3 ρ)
  (h1 : (AE.d ρ).1 = A') (h2 : (P.d ρ).1 = p') (h3 : (Q.d ρ).1 = q') (h4 : (cE.d ρ).1 = c) (h5 : (m2E.d ρ).1 = m2') (h6 : (m3E.d ρ).1 = m3') (h7 : (SE.d ρ).2 = AS') (h8 : (ct.d ρ).2 = false) (h9 : (l2E.d ρ).2 = l2') (h10 : (l3E.d ρ).2 = l3') (ra : 0 <= a /\ a <= 255) (rb : 0 <= b /\ b <= 255) (rA : 0 <= A' /\ A' <= 255) (q4 : arI .and .u8 q' 4 = 0) :
  Pt c a b A' p' q' pc op t i9 m2' m3' aS bS AS' l2' l3' s :=
 ⟨g.o, by rw [g.i, h1, h2, h3], by rw [g.b, h7, h8]; rfl, by rw [g.m, h4, h5, h6, e.i0, e.i1], by rw [g.n, h9, h10, e.b0, e.b1], ra, rb, rA, q4⟩
theorem ctE_d {q : Ex} {ρ : Env} (h : arI .and .u8 (q.d ρ).1 4 = 0) : ((ctE q).d ρ).2 = false := by
 simp only [ctE, Ex.d, cm_gtr, h]
 decide
theorem stC_d (ρ : Env) : (stC.d ρ).2 = false := by kernel_rfl
theorem stV_d (ρ : Env) : (stV.d ρ).1 = ρ.i 5 := by
 have := stC_d ρ
 simp only [stV, Ex.d, this, zFi, if_false]
theorem stL_d (ρ : Env) : (stL.d ρ).2 = ρ.b 2 := by
 have := stC_d ρ
 simp only [stL, Ex.d, this, zFi, if_false]
section
variable {c a b Ac p q m2 m3 : Int} {aS bS AS l2 l3 : Bool} {ρ : Env} (e : E9 c a b Ac p q m2 m3 aS bS AS l2 l3 ρ) (hp : 0 <= p /\ p <= 255) (hq : 0 <= q /\ q <= 255) (q4 : arI .and .u8 q 4 = 0)
include e
theorem arQ_4 (hq : 0 <= q /\ q <= 255) (q4 : arI .and .u8 q 4 = 0) (sm v r l : Ex) : arI .and .u8 ((arQ sm v r l).d ρ).1 4 = 0 := by
 unfold arQ
 have hx : ((Ex.iv 3).d ρ).1 = q := e.i3
 rw [sb_keep a24, sb_keep a84, sb_keep a64, s1_keep ee14 _ _ _ (by rw [hx]; omega) (by rw [hx]; omega), hx, q4]
theorem arQ_1 (hq : 0 <= q /\ q <= 255) (sm v r l : Ex) : arI .and .u8 ((arQ sm v r l).d ρ).1 1 = if (l.d ρ).2 then 1 else 0 := by
 unfold arQ
 have hx : ((Ex.iv 3).d ρ).1 = q := e.i3
 rw [sb_keep a21, sb_keep a81, sb_keep a61, s1_bit _ _ _ (by rw [hx]; omega) (by rw [hx]; omega), lbE_d]
theorem arP_1 (hp : 0 <= p /\ p <= 255) (sm v r : Ex) : arI .and .u8 ((arP sm v r).d ρ).1 1 = if (sm.d ρ).1 > 255 then 1 else 0 := by
 unfold arP
 have hx : ((Ex.iv 2).d ρ).1 = p := e.i2
 rw [sb_keep a21, sb_keep a81, sb_keep a61, s1_bit _ _ _ (by rw [hx]; omega) (by rw [hx]; omega), fgE_d]
 simp only [Ex.d, cm_gtr, decide_eq_true_eq]
theorem ldP_1 (hp : 0 <= p /\ p <= 255) : arI .and .u8 (ldP.d ρ).1 1 = arI .and .u8 p 1 := by
 unfold ldP
 have hx : ((Ex.iv 2).d ρ).1 = p := e.i2
 rw [sb_keep a21, s1_keep ee81 _ _ _ (by rw [hx]; omega) (by rw [hx]; omega), hx]
theorem ldQ_k {k : Int} (hk : k = 1 \/ k = 4) (hq : 0 <= q /\ q <= 255) : arI .and .u8 (ldQ.d ρ).1 k = arI .and .u8 q k := by
 unfold ldQ
 have hx : ((Ex.iv 3).d ρ).1 = q := e.i3
 rcases hk with rfl | rfl
 ·rw [sb_keep a21, s1_keep ee81 _ _ _ (by rw [hx]; omega) (by rw [hx]; omega), hx]
 ·rw [sb_keep a24, s1_keep ee84 _ _ _ (by rw [hx]; omega) (by rw [hx]; omega), hx]
theorem cy_d {r : Int} (hr : arI .and .u8 p 1 = r) (h : r = 0 \/ r = 1) : (cyE.d ρ).1 = r := by
 simp only [cyE, Ex.d, cm_gtr, e.i2, hr]
 rcases h with rfl | rfl
 ·kernel_rfl
 ·kernel_rfl
theorem qc_d {r : Bool} (hr : arI .and .u8 q 1 = if r then 1 else 0) : (qcE.d ρ).2 = r := by
 simp only [qcE, Ex.d, cm_gtr, e.i3, hr]
 cases r <;> rfl
theorem adS_d {r : Int} (hr : arI .and .u8 p 1 = r) (h : r = 0 \/ r = 1) (hA : 0 <= Ac /\ Ac <= 255) (hb : 0 <= b /\ b <= 255) : (adS.d ρ).1 = Ac + b + r := by
 have hc := cy_d e hr h
 show IntKind.wrap .u64 (IntKind.wrap .u64 (IntKind.wrap .u64 (ρ.i 5) + IntKind.wrap .u64 (ρ.i 1)) + (cyE.d ρ).1) = _
 rw [hc, e.i5, e.i1, wrap_u64_in (n := Ac) (by omega) (by omega), wrap_u64_in (n := b) (by omega) (by omega), wrap_u64_in (n := Ac + b) (by omega) (by omega), wrap_u64_in (by omega) (by omega)]
theorem imS_d {r : Int} (hr : arI .and .u8 p 1 = r) (h : r = 0 \/ r = 1) : (imS.d ρ).1 = r := by
 have hc := cy_d e hr h
 show IntKind.wrap .u64 (0 + (cyE.d ρ).1) = _
 rw [hc, wrap_u64_in (by omega) (by omega)]; omega
theorem adL_d (hr : arI .and .u8 q 1 = 0) : (adL.d ρ).2 = (AS || bS) := by
 have hc := qc_d e (r := false) hr
 simp only [adL, Ex.d, hc, e.b1, e.b2]
 cases AS <;> cases bS <;> rfl
end
def lmB (n : Nat) : Bool := decide (arI .and .u8 (arI .or .u8 (arI .andNot .u8 (arI .and .u8 (arI .andNot .u8 (n : Int) 128) 207) 2) 2) 1 = arI .and .u8 (n : Int) 1 /\ arI .and .u8 (arI .andNot .u8 (arI .and .u8 (arI .andNot .u8 (n : Int) 128) 207) 2) 1 = arI .and .u8 (n : Int) 1 /\ arI .and .u8 (arI .andNot .u8 (arI .and .u8 (arI .andNot .u8 (n : Int) 128) 207) 2) 4 = arI .and .u8 (n : Int) 4)
theorem lm_ok {x : Int} (h0 : 0 <= x) (h1 : x <= 255) : arI .and .u8 (arI .or .u8 (arI .andNot .u8 (arI .and .u8 (arI .andNot .u8 x 128) 207) 2) 2) 1 = arI .and .u8 x 1 /\ arI .and .u8 (arI .andNot .u8 (arI .and .u8 (arI .andNot .u8 x 128) 207) 2) 1 = arI .and .u8 x 1 /\ arI .and .u8 (arI .andNot .u8 (arI .and .u8 (arI .andNot .u8 x 128) 207) 2) 4 = arI .and .u8 x 4 := by
 have h := of_decide_eq_true (oct_of (f := lmB) (by kernel_rfl) h0 h1)
 rwa [show ((x.toNat : Nat) : Int) = x by omega] at h
def sumI (a b : Int) (cr : Bool) : Int := a + b + if cr then 1 else 0
set_option maxHeartbeats 4000000 in
theorem course {a b : Int} {aS bS cr : Bool} {s : Ps} (h : Pt (if cr then 56 else 24) a b 0 0 0 0 0 0 0 0 0 aS bS false false false s) :
  ∃ (s' : Ps) (o : List Int), rn (cy 256) 200 s = (s', o) /\ o.length = 100 /\ Okp 256 s' /\ s'.cb.getD 10 false = false /\ s'.cb.getD 11 false = true /\ s'.l.getD 260 0 = sumI a b cr % 256 /\ (s'.l.getD 261 0 != 0) = (aS || bS) /\ s'.l.getD 262 0 = sumI a b cr / 256 /\ (s'.l.getD 263 0 != 0) = (aS || bS) := by
 have hA0 : ∀ ρ' : Env, ρ'.i 5 = 0 -> (A.c 0).d ρ' = 0 := fun _ _ => rfl
 have hS0 : ∀ ρ' : Env, ρ'.b 2 = false -> (B.c false).d ρ' = false := fun _ _ => rfl
 have hAv : ∀ {Ac : Int} (ρ' : Env), ρ'.i 5 = Ac -> (Sx.A.v 5).d ρ' = Ac := fun _ h => h
 have hSv : ∀ {S : Bool} (ρ' : Env), ρ'.b 2 = S -> (B.v 2).d ρ' = S := fun _ h => h
 have hcv : ∀ {c : Int} (ρ' : Env), ρ'.i 8 = c -> (Sx.A.v 8).d ρ' = c := fun _ h => h
 have z0 : (0 : Int) <= 0 /\ (0 : Int) <= 255 := by decide
 obtain ⟨s1, q1, st1, h1, c1, w1⟩ : ∃ s1 p1, Steps 256 2 s s1 /\ Pt (if cr then 56 else 24) a b 0 p1 0 1 (if cr then 56 else 24) 0 0 0 0 aS bS false false false s1 /\ arI .and .u8 p1 1 = (if cr then 1 else 0) /\ True := by
  cases cr
  ·obtain ⟨s1, ρ, st, e, g⟩ := goP h hA0 hS0 (cA := .c 24) (fun _ _ => rfl) p1a
   refine ⟨s1, _, st, g.pt e rfl rfl ?_ rfl e.i6 e.i7 rfl (ctE_d ?_) e.b3 e.b4 h.ra h.rb z0 rfl, ?_, trivial⟩
   ·simp only [anE, Ex.d, e.i3]; kernel_rfl
   ·simp only [anE, Ex.d, e.i3]; kernel_rfl
   ·simp only [anE, Ex.d, e.i2]; kernel_rfl
  ·obtain ⟨s1, ρ, st, e, g⟩ := goP h hA0 hS0 (cA := .c 56) (fun _ _ => rfl) p1b
   refine ⟨s1, _, st, g.pt e rfl rfl ?_ rfl e.i6 e.i7 rfl (ctE_d ?_) e.b3 e.b4 h.ra h.rb z0 rfl, ?_, trivial⟩
   ·simp only [anE, Ex.d, e.i3]; kernel_rfl
   ·simp only [anE, Ex.d, e.i3]; kernel_rfl
   ·simp only [anE, Ex.d, e.i2]; kernel_rfl
 have hr : (if cr then (1 : Int) else 0) = 0 \/ (if cr then (1 : Int) else 0) = 1 := by cases cr <;> simp
 obtain ⟨s2, p2, q2, st2, h2, c2, l2⟩ : ∃ s2 p2 q2, Steps 256 3 s1 s2 /\ Pt (if cr then 56 else 24) a b a p2 q2 3 165 0 128 0 0 aS bS aS false false s2 /\ arI .and .u8 p2 1 = (if cr then 1 else 0) /\ arI .and .u8 q2 1 = 0 := by
  have key : ∀ op : Int, Pt (if cr then 56 else 24) a b 0 q1 0 1 op 0 0 0 0 aS bS false false false s1 -> rP 3 (.c 0) (.c false) (.v 8) 1 op 0 0 (iP (.iv 0) ldP ldQ 3 165 0 128 (.iv 8) (.iv 6) (.iv 7)) (bP (.bv 0) (ctE ldQ) (.bk false) (.bv 3) (.bv 4)) = true -> ∃ s2 p2 q2, Steps 256 3 s1 s2 /\ Pt (if cr then 56 else 24) a b a p2 q2 3 165 0 128 0 0 aS bS aS false false s2 /\ arI .and .u8 p2 1 = (if cr then 1 else 0) /\ arI .and .u8 q2 1 = 0 := fun op hh hg => by
   obtain ⟨s2, ρ, st, e, g⟩ := goP hh hA0 hS0 hcv hg
   have k4 : arI .and .u8 (ldQ.d ρ).1 4 = 0 := by rw [ldQ_k e (Or.inr rfl) z0]; kernel_rfl
   exact ⟨s2, _, _, st, g.pt e e.i0 rfl rfl e.i8 e.i6 e.i7 e.b0 (ctE_d k4) e.b3 e.b4 hh.ra hh.rb hh.ra k4, by rw [ldP_1 e hh.pr.1, c1], by rw [ldQ_k e (Or.inl rfl) z0]; kernel_rfl⟩
  cases cr
  ·exact key 24 h1 p2a
  ·exact key 56 h1 p2b
 obtain ⟨s3, ρ3, st3, e3, g3⟩ := goP h2 hAv hSv hcv p3
 have hs3 := adS_d e3 c2 hr h2.ra h2.rb
 have hs : a + b + (if cr then 1 else 0) = sumI a b cr := rfl
 rw [hs] at hs3
 have hsr : 0 <= sumI a b cr /\ sumI a b cr <= 511 := by
  have := h2.ra; have := h2.rb
  unfold sumI; split <;> omega
 have hA3 : ((Ex.cv .u8 adS).d ρ3).1 = sumI a b cr % 256 := by
  show IntKind.wrap .u8 (adS.d ρ3).1 = _
  rw [hs3, wrap_u8]
 have k3 := arQ_4 e3 h2.pr.2 h2.q4 adS adV (.cv .u8 adS) adL
 have hl3 := adL_d e3 l2
 have t3 := g3.pt e3 hA3 rfl rfl e3.i8 e3.i6 e3.i7 hl3 (ctE_d k3) e3.b3 e3.b4 h2.ra h2.rb (by omega) k3
 have c3 := arP_1 e3 h2.pr.1 adS adV (.cv .u8 adS)
 rw [hs3] at c3
 have d3 := arQ_1 e3 h2.pr.2 adS adV (.cv .u8 adS) adL
 rw [hl3] at d3
 generalize ((arP adS adV (.cv .u8 adS)).d ρ3).1 = p3v at t3 c3
 generalize ((arQ adS adV (.cv .u8 adS) adL).d ρ3).1 = q3v at t3 d3
 obtain ⟨s4, ρ4, st4, e4, g4⟩ := goP t3 hAv hSv hcv p4
 have t4 := g4.pt e4 e4.i5 e4.i2 e4.i3 e4.i8 ((stV_d ρ4).trans e4.i5) e4.i7 e4.b2 rfl ((stL_d ρ4).trans e4.b2) e4.b4 t3.ra t3.rb t3.rA t3.q4
 obtain ⟨s5, ρ5, st5, e5, g5⟩ := goP t4 hAv hSv hcv p5
 obtain ⟨lp1, _, _⟩ := lm_ok t4.pr.1.1 t4.pr.1.2
 obtain ⟨_, lq1, lq4⟩ := lm_ok t4.pr.2.1 t4.pr.2.2
 have hP5 : (lmP.d ρ5).1 = arI .or .u8 (arI .andNot .u8 (arI .and .u8 (arI .andNot .u8 p3v 128) 207) 2) 2 := by simp only [lmP, anE, Ex.d, e5.i2]
 have hQ5 : (lmQ.d ρ5).1 = arI .andNot .u8 (arI .and .u8 (arI .andNot .u8 q3v 128) 207) 2 := by simp only [lmQ, anE, Ex.d, e5.i3]
 have k5 : arI .and .u8 (lmQ.d ρ5).1 4 = 0 := by rw [hQ5, lq4, t4.q4]
 have t5 := g5.pt e5 rfl rfl rfl e5.i8 e5.i6 e5.i7 rfl (ctE_d k5) e5.b3 e5.b4 t4.ra t4.rb z0 k5
 have c5 : arI .and .u8 (lmP.d ρ5).1 1 = if sumI a b cr > 255 then 1 else 0 := by rw [hP5, lp1, c3]
 have d5 : arI .and .u8 (lmQ.d ρ5).1 1 = if (aS || bS) then 1 else 0 := by rw [hQ5, lq1, d3]
 generalize (lmP.d ρ5).1 = p5v at t5 c5
 generalize (lmQ.d ρ5).1 = q5v at t5 d5
 obtain ⟨s6, ρ6, st6, e6, g6⟩ := goP t5 hA0 hS0 hcv p6
 have hs6 := imS_d e6 c5 (by split <;> simp)
 have hA6 : ((Ex.cv .u8 imS).d ρ6).1 = sumI a b cr / 256 := by
  show IntKind.wrap .u8 (imS.d ρ6).1 = _
  rw [hs6, wrap_u8]; split <;> omega
 have hl6 : ((tyE qcE).d ρ6).2 = (aS || bS) := by rw [tyE_d]; exact qc_d e6 d5
 have k6 := arQ_4 e6 t5.pr.2 t5.q4 imS imV (.cv .u8 imS) (tyE qcE)
 have t6 := g6.pt e6 hA6 rfl rfl e6.i8 e6.i6 e6.i7 hl6 (ctE_d k6) e6.b3 e6.b4 t5.ra t5.rb (by omega) k6
 generalize ((arP imS imV (.cv .u8 imS)).d ρ6).1 = p6v at t6
 generalize ((arQ imS imV (.cv .u8 imS) (tyE qcE)).d ρ6).1 = q6v at t6
 obtain ⟨s7, ρ7, st7, e7, g7⟩ := goP t6 hAv hSv hcv p7
 have t7 := g7.pt e7 e7.i5 e7.i2 e7.i3 e7.i8 e7.i6 ((stV_d ρ7).trans e7.i5) e7.b2 rfl e7.b3 ((stL_d ρ7).trans e7.b2) t6.ra t6.rb t6.rA t6.q4
 obtain ⟨s8, ρ8, st8, e8, g8⟩ := goP t7 hAv hSv hcv p8
 have t8 := g8.pt e8 e8.i5 e8.i2 e8.i3 e8.i8 e8.i6 e8.i7 e8.b2 rfl e8.b3 e8.b4 t7.ra t7.rb t7.rA t7.q4
 obtain ⟨K, ρ9, hK, ho, hag, ht⟩ := runJ_ok rfl p9 (t8.begun hAv hSv hcv)
 simp only [List.mem_singleton] at hK
 subst hK
 have e9' := en9 hag
 have g9 := got_of ho ht
 have hst := ((((((st1.trans st2).trans st3).trans st4).trans st5).trans st6).trans st7).trans st8
 obtain ⟨o, ho5, hr9⟩ := hst.jam (by rw [jm, g9.b]; rfl) 180
 have qm := g9.m
 have qn := g9.n
 simp only [adP, meI, laB, List.replicate, List.cons_append, List.nil_append, List.map_cons, List.map_nil, List.cons.injEq] at qm qn
 obtain ⟨_, _, _, _, _, _, _, _, _, _, _, _, _, _, _, _, _, m17, m18, _⟩ := qm
 obtain ⟨_, _, _, _, _, _, _, _, _, _, _, _, _, _, _, _, _, n17, n18, _⟩ := qn
 refine ⟨_, o, hr9, ho5, ho, by rw [g9.b]; rfl, by rw [g9.b]; rfl, ?_, ?_, ?_, ?_⟩
 ·exact m17.trans e9'.i6
 ·exact n17.trans e9'.b3
 ·exact m18.trans e9'.i7
 ·exact n18.trans e9'.b4
end

def row0 : List Int := [24, 0, 165, 0, 128, 0, 101, 0, 129, 0, 133, 0, 130, 0, 169, 0, 0, 0, 105, 0, 0, 0, 133, 0, 131, 0, 2, 0] ++ List.replicate 484 0
theorem row0_enc : (8097408937912582118007711497576297841931840236035169603249216348808563102080823815193787797400015106454709226304162318045052797163712719294074303386292844349152901268020763209813162434784471358287032794286982917758897323079127725228990235554347183434358287794478001824539478332334578469058046523667340345649092861847717386451837684253124407287498815731635055988508473104648512551565141240012028637215054958864248112679526069221205943774458245259098334506550858963900854800634104731005252129221762779288501099666333099812049469440853490884177705045319491751404353284313475529982353650496659619489760345863345784839216452222168300749012842562485621177189781418998263263461151228485237379877873816870558005894777182923082000708191585837521287524923085505477977437395081579913428586159650448626408276025442996619964472861308175211833481225705358409939917878383092750718107354104012869044227307424915259627146535603687664339903894348270076055560216559308073810088406548480 : Int) = enc row0 := by kernel_rfl
def row1 (a b : Int) (aS bS cr : Bool) : List Int := if cr then ((((row0.set 256 a).set 257 (if aS then 1 else 0)).set 258 b).set 259 (if bS then 1 else 0)).set 0 56 else (((row0.set 256 a).set 257 (if aS then 1 else 0)).set 258 b).set 259 (if bS then 1 else 0)
def okR (l : List Int) : Prop := l.length = 512 /\ ∀ k, k < l.length -> 0 <= l.getD k 0 /\ l.getD k 0 <= 255
theorem okR_set {l : List Int} (h : okR l) (t : Nat) {v : Int} (h0 : 0 <= v) (h1 : v <= 255) : okR (l.set t v) := by
 refine ⟨by rw [List.length_set]; exact h.1, fun k hk => ?_⟩
 rw [List.length_set] at hk
 by_cases e : t = k
 ·subst e
  rw [zGi, List.getElem?_set_self hk]; exact ⟨h0, h1⟩
 ·rw [zGi, List.getElem?_set_ne e, <- zGi]; exact h.2 k hk
theorem okR_0 : okR row0 := by
 have h : row0.all (fun v => decide (0 <= v) && decide (v <= 255)) = true := by kernel_rfl
 refine ⟨by kernel_rfl, fun k hk => ?_⟩
 have e : row0.getD k 0 = row0[k] := by rw [zGi, List.getElem?_eq_getElem hk]; rfl
 have := List.all_eq_true.1 h row0[k] (List.getElem_mem hk)
 rw [e]
 simpa using this
theorem okR_1 {a b : Int} (aS bS cr : Bool) (ha0 : 0 <= a) (ha1 : a <= 255) (hb0 : 0 <= b) (hb1 : b <= 255) : okR (row1 a b aS bS cr) := by
 have h := okR_set (okR_set (okR_set (okR_set okR_0 256 ha0 ha1) 257 (v := if aS then 1 else 0) (by split <;> decide) (by split <;> decide)) 258 hb0 hb1) 259 (v := if bS then 1 else 0) (by split <;> decide) (by split <;> decide)
 unfold row1
 split
 ·exact okR_set h 0 (by decide) (by decide)
 ·exact h
theorem row1_m (a b : Int) (aS bS cr : Bool) : adP.map (fun t => (row1 a b aS bS cr).getD (t * 2) 0) = meI (if cr then 56 else 24) a b 0 0 := by
 cases cr <;> kernel_rfl
theorem row1_n (a b : Int) (aS bS cr : Bool) : adP.map (fun t => (row1 a b aS bS cr).getD (t * 2 + 1) 0 != 0) = laB aS bS false false := by
 cases cr <;> cases aS <;> cases bS <;> kernel_rfl
def s0P (a b : Int) (aS bS cr : Bool) : Ps := ⟨[0, 0, 0, 0, 0, 0, 0, 0, 0, 0, 0, 0, 0], List.replicate 12 false, row1 a b aS bS cr⟩
theorem s0P_ok {a b : Int} (aS bS cr : Bool) (ha0 : 0 <= a) (ha1 : a <= 255) (hb0 : 0 <= b) (hb1 : b <= 255) : Okp 256 (s0P a b aS bS cr) := by
 have h := okR_1 aS bS cr ha0 ha1 hb0 hb1
 refine ⟨rfl, rfl, ?_, by show may 0 0 0 0 0 0 = true; kernel_rfl, h.1, h.2⟩
 show Cpu 0 0 0 0 0 0 0 0 0 0 0 0 0
 exact ⟨⟨by omega, by omega⟩, ⟨by omega, by omega⟩, ⟨by omega, by omega⟩, ⟨by omega, by omega⟩, ⟨by omega, by omega⟩, ⟨by omega, by omega⟩, ⟨by omega, by omega⟩, ⟨by omega, by omega⟩, ⟨by omega, by omega⟩, ⟨by omega, by omega⟩⟩
noncomputable def Φ4 : Funs := tabF T85
theorem l4_10 : Φ4 10 = F10 := by kernel_rfl
theorem l4_11 : Φ4 11 = F11 := by kernel_rfl
theorem sum_w {a b : Int} (cr : Bool) (ha0 : 0 <= a) (ha1 : a <= 255) (hb0 : 0 <= b) (hb1 : b <= 255) : IntKind.u8.wrap (arI .rem .i64 (sumI a b cr) 256) = sumI a b cr % 256 /\ IntKind.u8.wrap (arI .quo .i64 (sumI a b cr) 256) = sumI a b cr / 256 := by
 have hs : 0 <= sumI a b cr /\ sumI a b cr <= 511 := by unfold sumI; split <;> omega
 constructor
 ·rw [rem_nn hs.1, wrap_u8]; omega
 ·show IntKind.u8.wrap (IntKind.i64.wrap ((sumI a b cr).tdiv 256)) = _
  rw [Int.tdiv_eq_ediv_of_nonneg hs.1, wrap_i64_in (by omega) (by omega), wrap_u8]; omega
set_option maxHeartbeats 4000000 in
theorem prog4 (a b : Int) (aS bS cr : Bool) (ha0 : 0 <= a) (ha1 : a <= 255) (hb0 : 0 <= b) (hb1 : b <= 255) : F4 [a, b] [aS, bS, cr] = ([], [true, true]) := by
 have hs0 := s0P_ok aS bS cr ha0 ha1 hb0 hb1
 have hpt : Pt (if cr then 56 else 24) a b 0 0 0 0 0 0 0 0 0 aS bS false false false (s0P a b aS bS cr) := ⟨hs0, rfl, rfl, row1_m a b aS bS cr, row1_n a b aS bS cr, ⟨ha0, ha1⟩, ⟨hb0, hb1⟩, by decide, by kernel_rfl⟩
 obtain ⟨s, o, hr, hol, hok, hy10, hy11, v2, w2, v3, w3⟩ := course hpt
 obtain ⟨M, m1, m2, m3, hrun⟩ := run_ok (n := 256) rfl hs0 (N := 200) (by omega)
 rw [hr] at m1 hrun
 have hM : M = 20 := by simp only at m1; omega
 subst hM
 obtain ⟨ci, cb, l⟩ := s
 obtain ⟨k1, k2, _, _, k5, _⟩ := hok
 simp only at k1 k2 k5 hy10 hy11 v2 w2 v3 w3 hrun
 match ci, k1, cb, k2 with
 | [x0, x1, x2, x3, x4, x5, x6, x7, x8, x9, x10, x11, x12], _, [y0, y1, y2, y3, y4, y5, y6, y7, y8, y9, y10, y11], _ =>
  simp only [zZi, zSi] at hy10 hy11
  show S4.run Φ4 true _ _ = _
  obtain ⟨ρ, e1, e2, e3, e4⟩ := Smry.run_specT (Φ := Φ4) (S := S4) (is := [a, b]) (bs := [aS, bS, cr]) (show wsEm S4.em 2 3 = true by kernel_rfl)
  rw [e1, obAll_eq]
  clear e1
  simp only [S4, obs, Gd.d_cons, Gd.d_nil, eqns, Em.eqn, headsI, headsB, RI.d, RB.d, A.d, B.d, cm_eql, cm_neq, cm_lss, cm_leq, cm_gtr, cm_geq, List.map_cons, List.map_nil, and_true, Nat.zero_add, Nat.reduceAdd, ltn, upto, true_and, Nat.add_zero, zZi, zSi] at e2 e3 e4 ⊢
  simp only [e2, e3] at e4 ⊢
  clear e2 e3
  rw [l4_10, l4_11, awake11] at e4
  obtain ⟨hi2, hi3, hi4, hi5, hi6, hi7, hi8, hi9, ⟨⟨hi10, hi11, hi12, hi13, hi14, hi15, hi16, hi17, hi18, hi19, hi20, hi21, hi22, hi23, hi24, hi25, hi26, hi27⟩, hb3, hb4, hb5, hb6, hb7, hb8, hb9, hb10, hb11, hb12, hb13, hb14, hb15⟩, hi28, hi29, hi30, hi31, hi32, hb16, hb17, hb18, hb19, hb20, hb21, hb22, hb23, hb24, hi33, hb25, hi34, hi35, hb26, hb27, hb28, hb29, hb30, hi36, hb31, hi37, hi38, hb32, hb33, hb34, hb35, ⟨hb36, hb37⟩, hb38, hb39, hb40⟩ := e4
  have t9 : ρ.i 9 = enc (row1 a b aS bS cr) := by
   simp only [hi9, hi8, hi7, hi6, hi5, hi4, hi3, hi2, row0_enc, dec_enc, row1]
   cases cr <;> rfl
  rw [t9] at hi10 hi11 hi12 hi13 hi14 hi15 hi16 hi17 hi18 hi19 hi20 hi21 hi22 hi23 hi24 hi25 hi26 hi27 hb3 hb4 hb5 hb6 hb7 hb8 hb9 hb10 hb11 hb12 hb13 hb14 hb15
  have hF : F10 [0, 0, 0, 0, 0, 0, 0, 0, 0, 0, 0, 0, 0, enc (row1 a b aS bS cr), 256, 200] [false, false, false, false, false, false, false, false, false, false, false, false] = _ := hrun
  rw [hF] at hi10 hi11 hi12 hi13 hi14 hi15 hi16 hi17 hi18 hi19 hi20 hi21 hi22 hi23 hi24 hi25 hi26 hi27 hb3 hb4 hb5 hb6 hb7 hb8 hb9 hb10 hb11 hb12 hb13 hb14 hb15
  simp only [List.cons_append, List.nil_append, zZi, zSi] at hi10 hi11 hi12 hi13 hi14 hi15 hi16 hi17 hi18 hi19 hi20 hi21 hi22 hi23 hi24 hi25 hi26 hi27 hb3 hb4 hb5 hb6 hb7 hb8 hb9 hb10 hb11 hb12 hb13 hb14 hb15
  have t32 : ρ.i 32 = sumI a b cr := by
   simp only [hi32, hi31, hi30, hi29, hi28, add64, sumI]
   rw [wrap_i64_in (n := a) (by omega) (by omega), wrap_i64_in (n := b) (by omega) (by omega), wrap_i64_in (n := a + b) (by omega) (by omega), wrap_i64_in (n := a + b + 1) (by omega) (by omega)]
   cases cr <;> simp
  obtain ⟨u1, u2⟩ := sum_w (a := a) (b := b) cr ha0 ha1 hb0 hb1
  have t19 : ρ.b 19 = false := by rw [hb19, hb17, hb18, hi27, hi24]; rfl
  have t23 : ρ.b 23 = true := by rw [hb23, hb21, hb20, hi26, hb22, hb15, hb14, hy10, hy11]; rfl
  have t24 : ρ.b 24 = true := by rw [hb24, hi24]; rfl
  have t30 : ρ.b 30 = true := by rw [hb30, hi24]; rfl
  have t33 : ρ.i 33 = sumI a b cr % 256 := by rw [hi33, hi23, dec_enc]; exact v2
  have t25 : ρ.b 25 = (aS || bS) := by rw [hb25, hi23, dec_enc]; exact w2
  have t36 : ρ.i 36 = sumI a b cr / 256 := by rw [hi36, hi23, dec_enc]; exact v3
  have t31 : ρ.b 31 = (aS || bS) := by rw [hb31, hi23, dec_enc]; exact w3
  have t26 : ρ.b 26 = true := by rw [hb26, t33, hi35, hi34, t32, u1]; simp
  have t27 : ρ.b 27 = true := by rw [hb27, t25, hb16]; simp
  have t29 : ρ.b 29 = true := by rw [hb29, t23, hb28, t26, t27]; rfl
  have t32b : ρ.b 32 = true := by rw [hb32, t36, hi38, hi37, t32, u2]; simp
  have t33b : ρ.b 33 = true := by rw [hb33, t31, hb16]; simp
  have t35 : ρ.b 35 = true := by rw [hb35, t29, hb34, t32b, t33b]; rfl
  simp only [zZi, zSi] at hb36 hb37
  have t38 : ρ.b 38 = true := by rw [hb38, t35, hb37]; rfl
  have t40 : ρ.b 40 = true := by rw [hb40, hb39, t19, t38]; rfl
  simp [hb3, t19, t23, t24, t29, t30, t35, hb36, t40]
end Go.Proofs.YtghlmhlamoagoaaGreat.Fl
