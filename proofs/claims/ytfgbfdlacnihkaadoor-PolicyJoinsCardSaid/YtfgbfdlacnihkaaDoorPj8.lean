/-
  Merged texts (PoM, SxSo, SxRf, SxRg, SxRh, SxRi, SxRj, SxRk, SxIn, SxIo, SxIp). No condition.
-/
import Derived.Shelf.SlSortCmp.NoneTotal
import Derived.Test.YtfgbfdlacnihkaaDoorPj3
import Derived.Test.YtfgbfdlacnihkaaDoorPj7
set_option linter.unusedVariables false
set_option linter.unusedSimpArgs false
namespace Go.Proofs.YtfgbfdlacnihkaaDoor.Sx
open Go Go.Shelf
def RowAt (w : World) (b : Nat) (ks : List CK) (cap : Nat) (l : List Int) (n : Nat) : Prop :=
 l.length = n * ks.length /\ n <= cap /\ seqAt w b 0 ks l /\ ∀ j, j < cap * ks.length -> (∃ v, w.cell? ⟨b, 0 + j, none⟩ = some v /\ oneCell v = true) /\ w.frozen? ⟨b, 0 + j, none⟩ = false
theorem SrcOk.keep {w w' : World} {ks : List CK} {l : List Int} {m : Nat} {v : Value} (h : SrcOk w ks l m v) (hk : Keep [] w w') : SrcOk w' ks l m v := by
 obtain ⟨p, cap, hv, hl, h⟩ := h
 refine ⟨p, cap, hv, hl, h.imp id ?_⟩
 rintro ⟨b, o, hp, hs⟩
 refine ⟨b, o, hp, fun j n hj => ?_⟩
 obtain ⟨ck, u, h1, h2, h3⟩ := hs j n hj
 exact ⟨ck, u, h1, by rw [hk.cell _ (World.block_lt_of_cell? w _ h2) (by simp)]; exact h2, h3⟩
section
variable {P : Program} {t ty : TypeId} {ks : List CK} {bytes : Nat} {e : TypeId} {i : TypeInfo} {z : Value}
theorem app_run (T : RowTy P t ks bytes e i z) {w : World} {b cap n m : Nat} {l lx : List Int} {v : Value} (hr : RowAt w b ks cap l n) (hs : SrcOk w ks lx m v) (hroom : n + m <= cap) :
  ∃ w', (Builtin.append_ #[t, t] ty #[.slice (some ⟨b, 0, none⟩) n cap, v]).run P w = .ok (.slice (some ⟨b, 0, none⟩) (n + m) cap) w' /\ Keep [rowRg b (cap * ks.length) 0] w w' /\ RowAt w' b ks cap (l ++ lx) (n + m) := by
 obtain ⟨p', capx, rfl, hlx, hpx⟩ := hs
 obtain ⟨hll, hn, hsq, hcells⟩ := hr
 by_cases hm0 : m = 0
 ·subst hm0
  have hlx0 : lx = [] := List.eq_nil_of_length_eq_zero (by simpa using hlx)
  subst hlx0
  refine ⟨w, append_zero T _ p' n cap capx hn, Keep.refl _ _, ?_⟩
  rw [List.append_nil]
  exact ⟨hll, hn, hsq, hcells⟩
 ·obtain ⟨bx, ox, rfl, hsx⟩ := hpx.resolve_left hm0
  have hkl := T.klen
  obtain ⟨news, hn1, hn2, hn3, hn4⟩ := seqAt_vals hsx
  have hmulr : (n + m) * ks.length <= cap * ks.length := Nat.mul_le_mul_right _ hroom
  rw [Nat.add_mul] at hmulr
  have hm1 : 1 * ks.length <= m * ks.length := Nat.mul_le_mul_right _ (by omega)
  obtain ⟨w', g1, g2, g3, g4⟩ := run_storeCells (P := P) (b := b) (o := n * ks.length) news 0 w hn4 (fun j hj => by
   obtain ⟨⟨u, hu, _⟩, hfz⟩ := hcells (n * ks.length + j) (by omega)
   rw [show n * ks.length + 0 + j = 0 + (n * ks.length + j) by omega]
   exact ⟨⟨u, hu⟩, hfz⟩)
  have hpl : b < w.heap.size := by
   obtain ⟨⟨u, hu, _⟩, _⟩ := hcells 0 (by omega)
   exact World.block_lt_of_cell? w ⟨b, _, none⟩ hu
  have hkeep : Keep [rowRg b (cap * ks.length) 0] w w' := by
   refine (Keep.refl [rowRg b (cap * ks.length) 0] w).trans g3 fun q' hq' => ?_
   simp only [List.mem_singleton] at hq'
   subst hq'
   refine .inr ⟨rowRg b (cap * ks.length) 0, by simp, rfl, ?_, ?_⟩ <;> simp only [rowRg] <;> omega
  refine ⟨w', append_room T (by rw [hn1, hlx]) (fun j u hj => by rw [add_addr]; exact hn2 j u hj) hroom (by rw [add_addr, Nat.zero_add]; exact g1), hkeep, by rw [List.length_append, hll, hlx, Nat.add_mul], hroom, fun j x' hj => ?_, fun j hj => ⟨?_, (hkeep.frz _ hpl).trans (hcells j hj).2⟩⟩
  ·by_cases h1 : j < l.length
   ·rw [List.getElem?_append_left h1] at hj
    obtain ⟨ck, v, e1, e2, e3⟩ := hsq j x' hj
    refine ⟨ck, v, e1, ?_, e3⟩
    rw [g4 _ (by unfold inRg; simp only; omega)]
    exact e2
   ·rw [List.getElem?_append_right (by omega)] at hj
    obtain ⟨ck, v, e1, e2, e3⟩ := hn3 _ x' hj
    refine ⟨ck, v, ?_, ?_, e3⟩
    ·rw [<- e1, hll]
     congr 1
     obtain ⟨d, rfl⟩ : ∃ d, j = n * ks.length + d := ⟨j - n * ks.length, by omega⟩
     rw [show n * ks.length + d - n * ks.length = d by omega, Nat.mul_comm, Nat.mul_add_mod]
    ·have := g2 _ _ e2
     rwa [show n * ks.length + 0 + (j - l.length) = 0 + j by omega] at this
  ·by_cases h1 : n * ks.length <= j /\ j < n * ks.length + news.length
   ·obtain ⟨u, hu⟩ : ∃ u, news[j - n * ks.length]? = some u := ⟨_, List.getElem?_eq_getElem (by omega)⟩
    refine ⟨u, ?_, hn4 u (List.mem_of_getElem? hu)⟩
    have := g2 _ _ hu
    rwa [show n * ks.length + 0 + (j - n * ks.length) = 0 + j by omega] at this
   ·obtain ⟨u, hu, ho⟩ := (hcells j hj).1
    refine ⟨u, ?_, ho⟩
    rw [g4 _ (by unfold inRg; simp only; omega)]
    exact hu
theorem rowAt_zero (T : RowTy P t ks bytes e i z) (w : World) (a n cap : Nat) (h : a + n <= cap) (ha : a = 0) :
  RowAt (w.alloc (.cells (([] : List Value).toArray ++ Builtin.zeroCells z.cells (a + n - 0) ++ Builtin.zeroCells z.cells (cap - (a + n))) e)) w.heap.size ks cap [] 0 := by
 have hz : ∀ (k : Nat), (Builtin.zeroCells z.cells k).size = k * z.cells.size := fun k => by simp [Builtin.zeroCells]
 refine ⟨by simp, Nat.zero_le _, fun j x hj => by simp at hj, fun j hj => ?_⟩
 have hs : (([] : List Value).toArray ++ Builtin.zeroCells z.cells (a + n - 0) ++ Builtin.zeroCells z.cells (cap - (a + n))).size = cap * ks.length := by
  rw [Array.size_append, Array.size_append, hz, hz, T.zs, List.size_toArray, List.length_nil, Nat.zero_add, <- Nat.add_mul]
  congr 1
  omega
 have ho : ∀ (j : Nat) (v : Value), (([] : List Value).toArray ++ Builtin.zeroCells z.cells (a + n - 0) ++ Builtin.zeroCells z.cells (cap - (a + n)))[j]? = some v -> oneCell v = true := by
  intro j v hv
  have hm : ∀ (k : Nat), v ∈ Builtin.zeroCells z.cells k -> oneCell v = true := fun k hk => by
   obtain ⟨j', hj'⟩ := Array.mem_iff_getElem?.1 hk
   have hkl := T.klen
   obtain ⟨ck, _, h3⟩ := T.zv _ _ (zc_get (by rw [T.zs]; exact hkl) hj')
   exact ckv_one h3
  have := Array.mem_of_getElem? hv
  simp only [Array.mem_append, List.mem_toArray, List.not_mem_nil, false_or] at this
  rcases this with h | h <;> exact hm _ h
 generalize ([] : List Value).toArray ++ Builtin.zeroCells z.cells (a + n - 0) ++ Builtin.zeroCells z.cells (cap - (a + n)) = arr at hs ho
 have hj' : j < arr.size := by rw [hs]; exact hj
 refine ⟨⟨arr[j], by simp [hj'], ho j _ (by simp [hj'])⟩, by simp⟩
end
theorem step_rowK {N : Nat} {R : List Rg} {Q : Rg -> Prop} {β : Beta} {w w2 : World} {lo hi id : Nat} (hlo : lo <= id) (hhi : id < hi) (hn : β id = none) (hb : BetaOk N R Q β w) (hN : N <= w.heap.size) (len m : Nat)
  (hk : Keep [] w w2) (hs : w.heap.size < w2.heap.size) : Step N R Q β w [id] [] lo hi (β.set id (rowRg w.heap.size len m)) w2 := by
 refine ⟨Beta.set_ext _ hn, ?_, ⟨[], by simp, hk⟩, fun i hi' _ => Beta.set_other _ _ (by omega), by simp⟩
 exact hb.bind (W := []) (by simp) hk (fun j q _ hj => .inr (hb.new_apart (by simp [rowRg]) hj)) (.inr (by simp [rowRg]; exact hs)) (.inr (.inl (by simp [rowRg]; omega))) (by simp [rowRg]) (by simp [rowRg]) (by simp [rowRg])
def concatM (P : Program) (t : TypeId) (Γ : Gd) (hp : Hp) (xs : List S) : M Res := match xs with
 | [.one false [.sli id off 2 _]] => do
  let p <- lift (rowTy P t)
  let cs <- lift (ldC Γ hp id off 2)
  let r <- sameId (do
   let r1 <- srcOf Γ hp p.1 (.one false [cs.getD 0 .junk])
   let b1 <- mkCm .leq r1.2 (.c (appK p.2))
   oblige b1
   let r2 <- srcOf Γ hp p.1 (.one false [cs.getD 1 .junk])
   let b2 <- mkCm .leq r2.2 (.c (appK p.2))
   oblige b2
   let q <- mkCat r1.1 r2.1
   let n <- mkAr .add .i64 r1.2 r2.2
   pure (q, n))
  Sx.withId fun id2 => pure { s := .one false [.slm id2 p.1], w := rowW id2 p.1 r.1 r.2 }
 | _ => M.fail
def concatH (P : Program) (f : Nat) (t : TypeId) (H : Hnd) : Hnd := fun g Γ hp xs => if g == f then concatM P t Γ hp xs else H g Γ hp xs
set_option maxHeartbeats 2000000 in
theorem concatH_ok {Φ : Funs} {gl : Gl} {H : Hnd} (hH : HOk Tryd.prog Φ gl H) : HOk Tryd.prog Φ gl (concatH Tryd.prog 26 23 H) := by
 intro f Γ hp xs ρ c res c' out he hg hΓ N R Q β w vs hm hh hb hN hG hf
 unfold concatH at he
 split at he
 case isFalse => exact hH f Γ hp xs ρ c res c' out he hg hΓ N R Q β w vs hm hh hb hN hG hf
 rename_i hfe
 have hfe : f = 26 := by simpa using hfe
 subst hfe
 refine ⟨fun args w => by kernel_rfl, ?_⟩
 unfold concatM at he
 split at he
 case h_2 => simp [M.fail] at he
 rename_i sid off ccap
 obtain ⟨p, c1, o1, c2, o2, y, g1, g2, e1⟩ := M.bind_inv he
 simp only [Prod.mk.injEq] at e1
 obtain ⟨rfl, rfl, rfl⟩ := e1
 obtain ⟨p', hp', e1⟩ := lift_inv g1
 simp only [Prod.mk.injEq] at e1
 obtain ⟨rfl, rfl, rfl⟩ := e1
 obtain ⟨ks, bytes⟩ := p
 obtain ⟨cs, c1, o1, c2, o2, y, g1, g2, e1⟩ := M.bind_inv g2
 simp only [Prod.mk.injEq] at e1
 obtain ⟨rfl, rfl, rfl⟩ := e1
 obtain ⟨cs', hcs, e1⟩ := lift_inv g1
 simp only [Prod.mk.injEq] at e1
 obtain ⟨rfl, rfl, rfl⟩ := e1
 obtain ⟨hcl, sr, hsr, hca⟩ := ldC_spec hΓ hh hcs
 obtain ⟨x1, x2, rfl⟩ : ∃ x1 x2, cs = [x1, x2] := by
  match cs, hcl with
  | [x1, x2], _ => exact ⟨x1, x2, rfl⟩
 simp only [List.getD_cons_zero, List.getD_cons_succ] at g2
 rw [cellsAt_iff] at hca
 obtain ⟨u1, hu1, hx1⟩ := hca 0 x1 rfl
 obtain ⟨u2, hu2, hx2⟩ := hca 1 x2 rfl
 obtain ⟨e, i, z, T⟩ := rowTy_spec hp'
 have hee : e = 52 := by
  have h1 := T.ut
  rw [Tryd.underlying23] at h1
  simp only [Option.some.injEq, TypeDesc.slice.injEq] at h1
  exact h1.symm
 subst hee
 obtain ⟨rr, c3, o3, c4, o4, y, g3, g4, e1⟩ := M.bind_inv g2
 simp only [Prod.mk.injEq] at e1
 obtain ⟨rfl, rfl, rfl⟩ := e1
 obtain ⟨g3, hid⟩ := sameId_inv g3
 simp only [List.nil_append] at hg
 obtain ⟨hg3, hg4⟩ := Good.append.1 hg
 have hsrc := (show Snd Φ ρ (do
   let r1 <- srcOf Γ hp ks (.one false [x1])
   let b1 <- mkCm .leq r1.2 (.c (appK bytes))
   oblige b1
   let r2 <- srcOf Γ hp ks (.one false [x2])
   let b2 <- mkCm .leq r2.2 (.c (appK bytes))
   oblige b2
   let q <- mkCat r1.1 r2.1
   let n <- mkAr .add .i64 r1.2 r2.2
   pure (q, n) : M (A × A)) (fun r => ∃ r1 r2 : A × A, r1.2.d ρ <= (appK bytes : Nat) /\ r2.2.d ρ <= (appK bytes : Nat) /\
    (∀ β w v, (S.one false [x1]).mt β ρ v -> heapMt β ρ hp w -> SqOk β w -> ∃ l m, r1.1.d ρ = enc l /\ r1.2.d ρ = ((m : Nat) : Int) /\ InR .i64 (m : Int) /\ SrcOk w ks l m v) /\
    (∀ β w v, (S.one false [x2]).mt β ρ v -> heapMt β ρ hp w -> SqOk β w -> ∃ l m, r2.1.d ρ = enc l /\ r2.2.d ρ = ((m : Nat) : Int) /\ InR .i64 (m : Int) /\ SrcOk w ks l m v) /\
    r.1.d ρ = enc (dec (r1.1.d ρ) ++ dec (r2.1.d ρ)) /\ r.2.d ρ = arI .add .i64 (r1.2.d ρ) (r2.2.d ρ)) from
  Snd.bind (srcOf_snd hΓ T.klen _) fun r1 hr1 => Snd.bind (mkCm_snd _ _ _) fun b1 e1 => Snd.bind (oblige_snd b1) fun _ e2 =>
  Snd.bind (srcOf_snd hΓ T.klen _) fun r2 hr2 => Snd.bind (mkCm_snd _ _ _) fun b2 e3 => Snd.bind (oblige_snd b2) fun _ e4 => Snd.bind (mkCat_snd _ _) fun q hq => Snd.bind (mkAr_snd _ _ _ _) fun n hn =>
  Snd.pure ⟨r1, r2, by rw [e1] at e2; exact of_decide_eq_true e2, by rw [e3] at e4; exact of_decide_eq_true e4, hr1, hr2, hq, hn⟩) _ _ _ _ g3 hg3
 obtain ⟨r1, r2, hb1, hb2, hs1, hs2, hq, hn⟩ := hsrc
 match vs, hm with
 | [v], hm =>
 obtain ⟨cc, hcc, hmv⟩ : ∃ c, [C.sli sid off 2 ccap] = [c] /\ c.mt β ρ v := hm.1
 cases hcc
 obtain ⟨sr', hsr', rfl⟩ := hmv
 rw [hsr] at hsr'
 cases hsr'
 obtain ⟨l1, m1, hq1, hn1, hin1, S1⟩ := hs1 β w u1 ⟨_, rfl, hx1⟩ hh hb.sq
 obtain ⟨l2, m2, hq2, hn2, hin2, S2⟩ := hs2 β w u2 ⟨_, rfl, hx2⟩ hh hb.sq
 obtain ⟨hK, hK2⟩ := appK_le (n := m1) (m := m2) (bytes := bytes) (by omega) (by omega) T.b0
 have hqd : rr.1.d ρ = enc (l1 ++ l2) := by rw [hq, hq1, hq2, dec_enc, dec_enc]
 have hnd : rr.2.d ρ = ((m1 + m2 : Nat) : Int) := by
  rw [hn, hn1, hn2]
  show IntKind.wrap .i64 _ = _
  rw [IntKind.wrap_i64]
  omega
 have hinn : InR .i64 ((m1 + m2 : Nat) : Int) := ⟨by show (-9223372036854775808 : Int) <= _; omega, by show _ <= (9223372036854775807 : Int); omega⟩
 unfold Sx.withId at g4
 obtain ⟨x1', c5, o5, c6, o6, y1, f1, f2, e1⟩ := M.bind_inv g4
 simp only [newId, Option.some.injEq, Prod.mk.injEq] at f1
 obtain ⟨rfl, rfl, rfl⟩ := f1
 obtain ⟨r3, c7, o7, c8, o8, y2, f3, f4, e2⟩ := M.bind_inv f2
 have f3 := M.pure_inv f3
 simp only [Prod.mk.injEq] at f3
 obtain ⟨rfl, rfl, rfl⟩ := f3
 obtain ⟨hi, c9, o9, c10, o10, y3, f5, f6, e3⟩ := M.bind_inv f4
 simp only [getId, Option.some.injEq, Prod.mk.injEq] at f5
 obtain ⟨rfl, rfl, rfl⟩ := f5
 split at f6
 case isFalse => cases f6
 have e4 := M.pure_inv f6
 simp only [Prod.mk.injEq] at e4 e3 e2 e1
 obtain ⟨rfl, rfl, rfl⟩ := e4
 obtain ⟨rfl, rfl, rfl⟩ := e3
 obtain ⟨rfl, rfl, rfl⟩ := e2
 obtain ⟨rfl, rfl, rfl⟩ := e1
 have hlo : c1.id <= c3.id := by omega
 have hhi : c3.id < c3.id + 1 := by omega
 have hfr := hf c3.id hlo hhi
 obtain ⟨p1, k1, rfl, hl1, hp1⟩ := id S1
 obtain ⟨p2, k2, rfl, hl2, hp2⟩ := id S2
 rw [Nat.add_zero] at hu1
 by_cases h0 : m1 + m2 = 0
 ·obtain rfl : m1 = 0 := by omega
  obtain rfl : m2 = 0 := by omega
  obtain rfl : l1 = [] := List.eq_nil_of_length_eq_zero (by simpa using hl1)
  obtain rfl : l2 = [] := List.eq_nil_of_length_eq_zero (by simpa using hl2)
  refine Calls.mono (Tryd.concat_run _ _ ccap 0 0 k1 k2 p1 p2 w w w w _ _ _ (by omega) (by omega) hu1 hu2 (Tryd.grow0 w) hu1 hu2 (append_zero T none p1 0 0 k1 (Nat.le_refl _)) (append_zero T none p2 0 0 k2 (Nat.le_refl _))) fun e u h => ?_
  obtain ⟨rfl, rfl⟩ := h
  exact ⟨_, rfl, _, step_rowNil hlo hhi hfr hb hN, slm_nil _ none, rowW_mt (row_nil T.ne _ (by simpa using hqd) (by simpa using hnd))⟩
 ·have hG0 := Any8.slices_Grow_grow (P := Tryd.prog) Tryd.laysGrow i z T.info T.zero (by rw [T.size]; exact T.klen) none 0 0 (m1 + m2) [] w (Nat.le_refl _) (by omega) (by rw [T.by_]; simpa using hK) (by omega) (by simp) (fun _ => rfl) (by simp)
  have hcap : 0 + (m1 + m2) <= grownCap w (0 + (m1 + m2)) 0 52 := by simp [grownCap, Question.cut]
  have hR0 := rowAt_zero T w.drew 0 (m1 + m2) (grownCap w (0 + (m1 + m2)) 0 52) hcap rfl
  have hkg : Keep [] w (w.drew.alloc (.cells (([] : List Value).toArray ++ Builtin.zeroCells z.cells (0 + (m1 + m2) - 0) ++ Builtin.zeroCells z.cells (grownCap w (0 + (m1 + m2)) 0 52 - (0 + (m1 + m2)))) 52)) :=
   (Keep.drew [] w).trans (Keep.alloc [] _ _) (by simp)
  have hsg : w.heap.size < (w.drew.alloc (.cells (([] : List Value).toArray ++ Builtin.zeroCells z.cells (0 + (m1 + m2) - 0) ++ Builtin.zeroCells z.cells (grownCap w (0 + (m1 + m2)) 0 52 - (0 + (m1 + m2)))) 52)).heap.size := by simp
  have hG1 : Calls Tryd.prog 42 #[.slice none 0 0, .int .i64 ((m1 : Int) + (m2 : Int))] w fun e w' => e = .returned (.slice (some ⟨w.heap.size, 0, none⟩) 0 (grownCap w (0 + (m1 + m2)) 0 52)) /\
    w' = (w.drew.alloc (.cells (([] : List Value).toArray ++ Builtin.zeroCells z.cells (0 + (m1 + m2) - 0) ++ Builtin.zeroCells z.cells (grownCap w (0 + (m1 + m2)) 0 52 - (0 + (m1 + m2)))) 52)) := hG0
  generalize grownCap w (0 + (m1 + m2)) 0 52 = cap at hG1 hcap hR0 hkg hsg
  generalize w.drew.alloc (.cells (([] : List Value).toArray ++ Builtin.zeroCells z.cells (0 + (m1 + m2) - 0) ++ Builtin.zeroCells z.cells (cap - (0 + (m1 + m2)))) 52) = wg at hG1 hR0 hkg hsg
  have hR0 : RowAt wg w.heap.size ks cap [] 0 := hR0
  obtain ⟨w1, a1, a2, a3⟩ := app_run (ty := 23) T hR0 (S1.keep hkg) (by omega)
  have hk1 : Keep [] w w1 := hkg.trans a2 (fun r hr => .inl (by simp only [List.mem_singleton] at hr; subst hr; exact Nat.le_refl _))
  obtain ⟨w2, b1, b2, b3⟩ := app_run (ty := 23) T a3 (S2.keep hk1) (by omega)
  have hk2 : Keep [] w w2 := hk1.trans b2 (fun r hr => .inl (by simp only [List.mem_singleton] at hr; subst hr; exact Nat.le_refl _))
  have hs2 : w.heap.size < w2.heap.size := Nat.lt_of_lt_of_le hsg (Nat.le_trans a2.size b2.size)
  refine Calls.mono (Tryd.concat_run _ _ ccap m1 m2 k1 k2 p1 p2 w wg w1 w2 _ _ _ (by omega) (by omega) hu1 hu2 hG1
   (by rw [hkg.cell _ (World.block_lt_of_cell? w _ hu1) (by simp)]; exact hu1) (by rw [hk1.cell _ (World.block_lt_of_cell? w _ hu2) (by simp)]; exact hu2) a1 b1) fun e u h => ?_
  obtain ⟨rfl, rfl⟩ := h
  obtain ⟨d1, d2, d3, d4⟩ := b3
  simp only [Nat.zero_add, List.nil_append] at d1 d2 d3 d4 ⊢
  refine ⟨_, rfl, _, step_rowK hlo hhi hfr hb hN (cap * ks.length) (m1 + m2) hk2 hs2, slm_new d2, rowW_mt ?_⟩
  exact ⟨_, cap, l1 ++ l2, Beta.set_same _ _ _, rfl, rfl, T.ne, rfl, d2, hqd, hnd, by rw [hnd]; exact hinn, d1, d3, fun j hj => by
   have := d4 j hj
   simpa [rowRg] using this⟩
end Go.Proofs.YtfgbfdlacnihkaaDoor.Sx
namespace Go.Proofs.YtfgbfdlacnihkaaDoor.Sx
open Go Go.Shelf

def encR (p : Int × Int) : List Value := [.int .i64 p.1, .int .i64 p.2]
def cfR (x y : Int × Int) : Int := if x.1 < y.1 then -1 else if x.1 = y.1 then 0 else 1
theorem ltR (x y : Int × Int) : ltOf cfR x y = decide (x.1 < y.1) := by
 unfold ltOf cfR
 by_cases h : x.1 < y.1
 ·simp [h]
 ·by_cases h2 : x.1 = y.1 <;> simp [h, h2]
theorem swoR : Sort.SWO (ltOf cfR) :=
 ⟨fun x => by rw [ltR]; simp, fun x y z => by simp only [ltR, decide_eq_true_eq]; omega, fun x y z => by simp only [ltR, decide_eq_false_iff_not]; omega⟩
def pairs : List Int -> List (Int × Int)
 | a :: b :: l => (a, b) :: pairs l
 | _ => []
def flat2 : List (Int × Int) -> List Int
 | [] => []
 | p :: l => p.1 :: p.2 :: flat2 l
theorem pairs_len : ∀ {l : List Int} {n : Nat}, l.length = n * 2 -> (pairs l).length = n
 | [], n, h => by simp at h; simp [pairs]; omega
 | [_], n, h => by simp at h; omega
 | a :: b :: l, 0, h => by simp at h
 | a :: b :: l, n + 1, h => by simp only [pairs, List.length_cons]; rw [pairs_len (n := n) (by simp at h; omega)]
theorem flat2_len : ∀ l : List (Int × Int), (flat2 l).length = l.length * 2
 | [] => rfl
 | p :: l => by simp only [flat2, List.length_cons, flat2_len l]; omega
theorem pairs_get : ∀ {l : List Int} {n i : Nat} {p : Int × Int}, l.length = n * 2 -> (pairs l)[i]? = some p -> l[i * 2]? = some p.1 /\ l[i * 2 + 1]? = some p.2
 | [], n, i, p, _, h => by simp [pairs] at h
 | [_], n, i, p, h, _ => by simp at h; omega
 | a :: b :: l, 0, _, _, h, _ => by simp at h
 | a :: b :: l, n + 1, 0, p, h, hp => by simp [pairs] at hp; subst hp; exact ⟨rfl, rfl⟩
 | a :: b :: l, n + 1, i + 1, p, h, hp => by
  simp only [pairs, List.getElem?_cons_succ] at hp
  obtain ⟨h1, h2⟩ := pairs_get (l := l) (n := n) (by simp at h; omega) hp
  rw [show (i + 1) * 2 = i * 2 + 1 + 1 by omega]
  exact ⟨h1, h2⟩
theorem flat2_get : ∀ {l : List (Int × Int)} {i : Nat} {p : Int × Int}, l[i]? = some p -> (flat2 l)[i * 2]? = some p.1 /\ (flat2 l)[i * 2 + 1]? = some p.2
 | [], i, p, h => by simp at h
 | q :: l, 0, p, h => by simp at h; subst h; exact ⟨rfl, rfl⟩
 | q :: l, i + 1, p, h => by
  simp only [List.getElem?_cons_succ] at h
  obtain ⟨h1, h2⟩ := flat2_get h
  rw [show (i + 1) * 2 = i * 2 + 1 + 1 by omega]
  exact ⟨h1, h2⟩
def sortP (d : List (Int × Int)) : List (Int × Int) := (Sort.pdq (ltOf cfR) d.toArray 0 d.length (Lib.bitLen d.length) true true).toList
def sortF : Fun := fun is _ => ([enc (flat2 (sortP (pairs (dec (is.getD 0 0)))))], [])
theorem sortP_perm (d : List (Int × Int)) : (sortP d).Perm d /\ Sort.SortedIn (ltOf cfR) 0 d.length (Sort.pdq (ltOf cfR) d.toArray 0 d.length (Lib.bitLen d.length) true true) := by
 obtain ⟨⟨h1, _, h3⟩, h4⟩ := Sort.pdq_sorts (ltOf cfR) swoR d.toArray 0 d.length (Lib.bitLen d.length) true true (Nat.zero_le _) (by simp) (.inl rfl)
 refine ⟨?_, h4⟩
 have e : ∀ (a : Array (Int × Int)) (n : Nat), a.size = n -> (a.extract 0 n).toList = a.toList := fun a n h => by subst h; simp
 rw [e _ _ (by rw [h1]; simp), e _ _ (by simp)] at h3
 exact h3
theorem sortP_len (d : List (Int × Int)) : (sortP d).length = d.length := (sortP_perm d).1.length_eq

theorem Keep.grow (W : List Rg) (w : World) (os : Array Obj) : Keep W w (Go.Sort.grow w os) :=
 Keep.of_blocks rfl rfl rfl (by simp [Go.Sort.grow]) fun k hk => by simp [Go.Sort.grow, Array.getElem?_append, hk]
theorem shape?_mapBlock (w : World) (b : Nat) (f : Array Value -> Array Value) (hf : ∀ c, (f c).size = c.size) (k : Nat) : (Sort.mapBlock w b f).shape? k = w.shape? k := by
 simp only [Sort.mapBlock, World.shape?, Array.getElem?_modify]
 by_cases hb : b = k
 ·simp only [hb, if_true]
  cases hh : w.heap[k]? with
  | none => simp
  | some x => cases x <;> simp [Sort.onCells, hf]
 ·simp [hb]
theorem Keep.putRow {W : List Rg} {w : World} {r : Rg} (hr : r ∈ W) (d : Array Value) (hs : d.size <= r.len) : Keep W w (Sort.putRow id w r.blk r.off d) := by
 refine ⟨rfl, rfl, rfl, by simp, fun a ha hn => ?_, fun a ha => Sort.frozen?_putRow _ _ _ _ _ _, fun k hk => ?_, fun k hk hn => ?_⟩
 ·refine Sort.cell?_putRow_other _ _ _ _ _ _ ?_
  have := hn r hr
  unfold inRg at this
  omega
 ·exact shape?_mapBlock w r.blk _ (fun c => by simp [Sort.putCells]) k
 ·by_cases h0 : r.len = 0
  ·have hd : d = #[] := Array.eq_empty_of_size_eq_zero (by omega)
   subst hd
   unfold Sort.putRow
   rw [Sort.mapBlock_id]
   intro c e fr hc
   unfold Sort.putCells
   apply Array.ext_getElem?
   intro j
   simp only [Array.getElem?_mapIdx]
   cases c[j]? with
   | none => rfl
   | some x => simp only [Option.map_some]; rw [if_neg (by simp)]
  ·have := hn r hr h0
   simp only [Sort.putRow, Sort.mapBlock, Array.getElem?_modify]
   rw [if_neg this]
def ks2 : List CK := [.int .i64, .int .i64]
theorem ks2_get (j : Nat) : ks2[j % ks2.length]? = some (.int .i64) := by
 have : j % 2 = 0 \/ j % 2 = 1 := by omega
 show ks2[j % 2]? = _
 rcases this with h | h <;> rw [h] <;> rfl
theorem encR_get (p : Int × Int) (j : Nat) (h : j < 2) : (encR p)[j]! = .int .i64 (if j = 0 then p.1 else p.2) := by
 match j, h with
 | 0, _ => rfl
 | 1, _ => rfl
theorem flatK_get {d : List (Int × Int)} {j : Nat} {x : Int} (hx : (flat2 d)[j]? = some x) : (Sort.flatK encR 2 d.toArray)[j]! = .int .i64 x := by
 have hj : j < d.length * 2 := by rw [<- flat2_len]; exact (List.getElem?_eq_some_iff.1 hx).1
 have hi : j / 2 < d.length := by omega
 rw [Sort.get_flatK _ _ _ _ (by simpa using hj), encR_get _ _ (by omega)]
 obtain ⟨h1, h2⟩ := flat2_get (List.getElem?_eq_getElem hi)
 have e : d.toArray[j / 2]! = d[j / 2] := by simp [hi]
 rw [e]
 have : j % 2 = 0 \/ j % 2 = 1 := by omega
 rcases this with h | h
 ·rw [h, if_pos rfl]
  rw [show j / 2 * 2 = j by omega, hx] at h1
  cases h1; rfl
 ·rw [h, if_neg (by omega)]
  rw [show j / 2 * 2 + 1 = j by omega, hx] at h2
  cases h2; rfl
theorem pairs_flat : ∀ {l : List Int} {n : Nat}, l.length = n * 2 -> flat2 (pairs l) = l
 | [], _, _ => rfl
 | [_], n, h => by simp at h; omega
 | a :: b :: l, 0, h => by simp at h
 | a :: b :: l, n + 1, h => by simp only [pairs, flat2]; rw [pairs_flat (n := n) (by simp at h; omega)]
theorem flat2_mem {x : Int} : ∀ {d : List (Int × Int)}, x ∈ flat2 d ↔ ∃ p, p ∈ d /\ (x = p.1 \/ x = p.2)
 | [] => by simp [flat2]
 | p :: d => by
  simp only [flat2, List.mem_cons, flat2_mem (d := d)]
  constructor
  ·rintro (h | h | ⟨q, hq, h⟩)
   ·exact ⟨p, .inl rfl, .inl h⟩
   ·exact ⟨p, .inl rfl, .inr h⟩
   ·exact ⟨q, .inr hq, h⟩
  ·rintro ⟨q, rfl | hq, h⟩
   ·rcases h with h | h
    ·exact .inl h
    ·exact .inr (.inl h)
   ·exact .inr (.inr ⟨q, hq, h⟩)
def cmpN (c : C) : Option Nat := match c with
 | .fn [] (some (g, [])) => some g
 | _ => none
theorem cmpN_spec {c : C} {g : Nat} (h : cmpN c = some g) : c = .fn [] (some (g, [])) := by
 unfold cmpN at h
 split at h
 ·cases h; rfl
 ·cases h
def isCmp (c : C) (g : Nat) : Bool := match cmpN c with
 | some h => Nat.beq h g
 | none => false
theorem isCmp_spec {c : C} {g : Nat} (h : isCmp c g = true) : c = .fn [] (some (g, [])) := by
 unfold isCmp at h
 split at h
 ·rename_i e
  rw [Nat.beq_eq] at h
  subst h
  exact cmpN_spec e
 ·cases h
def sortM (f g : Nat) (Γ : Gd) (hp : Hp) (xs : List S) : M Res := match xs with
 | [.one false [.slm id ks], .one false [c]] =>
  if cksEq ks ks2 && isCmp c g then do
   let r <- lift (rowOf Γ hp id ks)
   let b <- mkCm .leq r.2 (.c 2305843009213693952)
   oblige b
   let p <- newCall f [r.1, r.2] [] 1 0
   pure { s := .tup [], w := [(id, { g := [], ro := false, cells := [.vec ks (.v p.1) r.2] })] }
  else M.fail
 | _ => M.fail
def sortH (f g : Nat) (H : Hnd) : Hnd := fun h Γ hp xs => if h == f then sortM f g Γ hp xs else H h Γ hp xs
section
variable {P : Program} {Φ : Funs} {gl : Gl} {H : Hnd}
set_option maxHeartbeats 2000000 in
theorem sortH_ok (hH : HOk P Φ gl H) {r : Go.Shelf.Ren} (L : SlLaysF0.n6 P r) (hcl : ∀ args w, (callFunc (r.f 6) args).run P w = .ok (.enter (r.f 6) args) w) (aE : ∀ w, (isAgg (r.t 24)).run P w = .ok true w) (zE : ∀ w, (Go.sizeOf (r.t 24)).run P w = .ok 2 w)
  {g : Nat} (hy : g ≠ yieldN) (eg : ∀ args w, (callFunc g args).run P w = .ok (.enter g args) w) (hC : ∀ blk off size w, CmpLays P g #[] encR 2 cfR blk off size w) (hΦ : Φ (r.f 6) = sortF) : HOk P Φ gl (sortH (r.f 6) g H) := by
 intro f Γ hp xs ρ c res c' out he hg hΓ N R Q β w vs hm hh hb hN hG hf
 unfold sortH at he
 split at he
 case isFalse => exact hH f Γ hp xs ρ c res c' out he hg hΓ N R Q β w vs hm hh hb hN hG hf
 rename_i hfe
 have hfe : f = r.f 6 := by simpa using hfe
 subst hfe
 refine ⟨hcl, ?_⟩
 unfold sortM at he
 split at he
 case h_2 => simp [M.fail] at he
 rename_i id ks cc
 split at he
 case isFalse => simp [M.fail] at he
 rename_i hc
 rw [Bool.and_eq_true] at hc
 obtain ⟨hks, hfn⟩ := hc
 have hks : ks = ks2 := cksEq_sound hks
 subst hks
 obtain rfl : cc = .fn [] (some (g, [])) := isCmp_spec hfn
 obtain ⟨rr, c1, o1, c2, o2, y, g1, g2, e1⟩ := M.bind_inv he
 simp only [Prod.mk.injEq] at e1
 obtain ⟨rfl, rfl, rfl⟩ := e1
 obtain ⟨rr', hrr, e1⟩ := lift_inv g1
 simp only [Prod.mk.injEq] at e1
 obtain ⟨rfl, rfl, rfl⟩ := e1
 rw [List.nil_append] at hg
 obtain ⟨hle, p, hcall, hres⟩ := (show Snd Φ ρ (do
   let b <- mkCm .leq rr.2 (.c 2305843009213693952)
   oblige b
   let p <- newCall (r.f 6) [rr.1, rr.2] [] 1 0
   pure { s := .tup [], w := [(id, { g := [], ro := false, cells := [.vec ks2 (.v p.1) rr.2] })] } : M Res) (fun res => rr.2.d ρ <= 2305843009213693952 /\ ∃ p : Nat × Nat, ρ.i (p.1 + 0) = (Φ (r.f 6) [rr.1.d ρ, rr.2.d ρ] []).1.getD 0 0 /\ res = { s := .tup [], w := [(id, { g := [], ro := false, cells := [.vec ks2 (.v p.1) rr.2] })] }) from
  Snd.bind (mkCm_snd _ _ _) fun b e1 => Snd.bind (oblige_snd b) fun _ e2 => Snd.bind (newCall_snd _ _ _ _ _) fun p hp => Snd.pure ⟨by rw [e1] at e2; exact of_decide_eq_true e2, p, hp.1 0 (by omega), rfl⟩) _ _ _ _ g2 hg
 subst hres
 rw [Nat.add_zero, hΦ] at hcall
 match vs, hm with
 | [v1, v2], ⟨m1, m2, _⟩ =>
 obtain ⟨v1', hv1, m1⟩ : ∃ c, [C.slm id ks2] = [c] /\ c.mt β ρ v1 := m1
 cases hv1
 obtain ⟨v2', hv2, m2⟩ : ∃ c, [C.fn [] (some (g, []))] = [c] /\ c.mt β ρ v2 := m2
 cases hv2
 obtain ⟨ws, rfl, hcap⟩ : ∃ ws : List Value, v2 = fvVal g ws /\ capMt β [] ws := m2
 have hws : ws = [] := by
  cases ws with
  | nil => rfl
  | cons _ _ => exact hcap.elim
 subst hws
 rw [fvVal_ne hy]
 obtain ⟨rg, cap, p1, hr1, hrow, hlen, hrn, rfl, hp1⟩ := m1
 obtain ⟨rg', cap', l, hr2, _, hro, hne, hlen', hrn', hq, hn, hin, hll, hsq, hcells⟩ := rowOf_spec hΓ (q := rr.1) (n := rr.2) hrr hh
 rw [hr1] at hr2
 cases hr2
 have hll2 : l.length = rg.rn * 2 := hll
 have hlen2 : rg.len = cap * 2 := hlen
 have hpl := pairs_len hll2
 have hval : ρ.i p.1 = enc (flat2 (sortP (pairs l))) := by
  rw [hcall]
  show enc (flat2 (sortP (pairs (dec (rr.1.d ρ))))) = _
  rw [hq, dec_enc]
 by_cases h0 : rg.rn = 0
 ·-- nothing to sort
  have hl0 : l = [] := List.eq_nil_of_length_eq_zero (by omega)
  subst hl0
  rw [h0]
  refine Calls.mono (AnyF.slices_SortFunc_none L p1 cap _ w) fun e u h => ?_
  obtain ⟨rfl, rfl⟩ := h
  have hs0 : sortP (pairs ([] : List Int)) = [] := List.eq_nil_of_length_eq_zero (by rw [sortP_len]; rfl)
  rw [hs0] at hval
  refine ⟨_, rfl, β, Step.refl hb _ _ _, ⟨#[], rfl, trivial⟩, rowW_mt ⟨rg, cap, [], hr1, hrow, hro, hne, hlen, hrn, hval, hn, hin, by rw [h0]; rfl, fun j x hj => by simp at hj, hcells⟩⟩
 ·have hcap0 : cap ≠ 0 := by omega
  have hp1 := hp1.resolve_left hcap0
  subst hp1
  have hH : Sort.HoldsK encR 2 w rg.blk rg.off (pairs l).toArray := by
   intro j hj
   have hj2 : j < rg.rn * 2 := by simpa [hpl] using hj
   have hjl : j < l.length := by omega
   obtain ⟨ck, v, e1, e2, e3⟩ := hsq j _ (List.getElem?_eq_getElem hjl)
   rw [ks2_get] at e1
   cases e1
   refine ⟨?_, (hcells j (by omega)).2⟩
   rw [e2, e3.1]
   have : (flat2 (pairs l))[j]? = some l[j] := by rw [pairs_flat hll2]; exact List.getElem?_eq_getElem hjl
   rw [flatK_get this]; rfl
  have hblk : rg.blk < w.heap.size := by
   obtain ⟨⟨u, hu, _⟩, _⟩ := hcells 0 (by omega)
   exact World.block_lt_of_cell? w ⟨rg.blk, rg.off + 0, none⟩ hu
  have hsz : (pairs l).toArray.size = rg.rn := by simp [hpl]
  have hbig : (pairs l).toArray.size < 4611686018427387904 := by rw [hsz]; rw [hn] at hle; omega
  have hone : ∀ x, ∀ v ∈ encR x, v.oneCell' = true := by
   intro x v hv
   simp only [encR, List.mem_cons, List.not_mem_nil, or_false] at hv
   rcases hv with rfl | rfl <;> rfl
  have hrun := AnyQ.slices_SortFunc_eq L 2 aE zE encR (fun _ => rfl) hone cfR swoR g #[] rg.blk rg.off cap (pairs l).toArray w eg (hC _ _ _ _) hH hblk hbig
  rw [hsz] at hrun
  refine Calls.mono hrun fun e u h => ?_
  obtain ⟨rfl, n, os, rfl⟩ := h
  have hD : (Sort.pdq (ltOf cfR) (pairs l).toArray 0 rg.rn (Lib.bitLen rg.rn) true true) = (sortP (pairs l)).toArray := by
   unfold sortP; rw [hpl]
  rw [hD]
  have hsl : (sortP (pairs l)).length = rg.rn := by rw [sortP_len, hpl]
  have hfl : (flat2 (sortP (pairs l))).length = rg.rn * 2 := by rw [flat2_len, hsl]
  have hfs : (Sort.flatK encR 2 (sortP (pairs l)).toArray).size = rg.rn * 2 := by rw [Sort.size_flatK]; simp [hsl]
  have hk1 : Keep [rg] w (Sort.ahead w n) := Keep.of_blocks rfl rfl rfl (Nat.le_refl _) fun _ _ => rfl
  have hk2 : Keep [rg] (Sort.ahead w n) (Sort.putRowK encR 2 (Sort.ahead w n) rg.blk rg.off (sortP (pairs l)).toArray) := Keep.putRow (by simp) _ (by rw [hfs]; omega)
  have hcov : ∀ (N : Nat) q, q ∈ [rg] -> Cov [rg] N q := fun N q hq => by
   rw [List.mem_singleton.1 hq]; exact .inr ⟨rg, by simp, rfl, Nat.le_refl _, Nat.le_refl _⟩
  have hk3 : Keep [rg] w (sortWorldK encR 2 w rg.blk rg.off n (sortP (pairs l)).toArray os) := (hk1.trans hk2 (hcov _)).trans (Keep.grow [rg] _ os) (hcov _)
  have hcell : ∀ (j : Nat) (x : Int), (flat2 (sortP (pairs l)))[j]? = some x -> (sortWorldK encR 2 w rg.blk rg.off n (sortP (pairs l)).toArray os).cell? ⟨rg.blk, rg.off + j, none⟩ = some (.int .i64 x) := fun j x hx => by
   have hj := (List.getElem?_eq_some_iff.1 hx).1
   have e1 := (Keep.grow [] (Sort.putRowK encR 2 (Sort.ahead w n) rg.blk rg.off (sortP (pairs l)).toArray) os).cell ⟨rg.blk, rg.off + j, none⟩ (by simpa [Sort.putRowK] using hblk) (by simp)
   refine e1.trans ?_
   have e2 := Sort.cell?_putRow _root_.id (Sort.ahead w n) rg.blk rg.off (Sort.flatK encR 2 (pairs l).toArray) (Sort.flatK encR 2 (sortP (pairs l)).toArray) hH (by rw [hfs, Sort.size_flatK]; simp [hpl]) j (by rw [hfs]; omega)
   rw [flatK_get hx] at e2
   exact e2
  have hmem : ∀ x, x ∈ flat2 (sortP (pairs l)) -> x ∈ l := fun x hx => by
   obtain ⟨q, hq, hx⟩ := flat2_mem.1 hx
   rw [<- pairs_flat hll2]
   exact flat2_mem.2 ⟨q, (sortP_perm _).1.mem_iff.1 hq, hx⟩
  refine ⟨_, rfl, β, ⟨ExtP.refl _ β, hb.keep (W := [rg]) (fun r' hr' => List.mem_singleton.1 hr' ▸ ⟨_, hr1, hro⟩) hk3, ⟨[rg], fun r' hr' => ?_, hk3⟩, fun _ _ _ => rfl, by simp⟩, ⟨#[], rfl, trivial⟩,
   rowW_mt ⟨rg, cap, flat2 (sortP (pairs l)), hr1, hrow, hro, hne, hlen, hrn, hval, hn, hin, hfl, fun j x hj => ?_, fun j hj => ?_⟩⟩
  ·rw [List.mem_singleton.1 hr']
   obtain ⟨⟨u, hu, _⟩, _⟩ := hcells 0 (by omega)
   exact ⟨id, by simp [rowW], hr1, hro, _, u, hu⟩
  ·obtain ⟨i, hi⟩ := List.mem_iff_getElem?.1 (hmem x (List.mem_of_getElem? hj))
   obtain ⟨ck, v, e1, e2, e3⟩ := hsq i x hi
   rw [ks2_get] at e1
   cases e1
   exact ⟨_, _, ks2_get j, hcell j x hj, rfl, e3.2⟩
  ·have hpl2 : rg.blk < w.heap.size := hblk
   refine ⟨?_, (hk3.frz _ hpl2).trans (hcells j hj).2⟩
   by_cases hj2 : j < rg.rn * 2
   ·exact ⟨_, hcell j _ (List.getElem?_eq_getElem (by omega)), rfl⟩
   ·obtain ⟨u, hu, ho⟩ := (hcells j hj).1
    refine ⟨u, ?_, ho⟩
    have e1 := (Keep.grow [] (Sort.putRowK encR 2 (Sort.ahead w n) rg.blk rg.off (sortP (pairs l)).toArray) os).cell ⟨rg.blk, rg.off + j, none⟩ (by simpa [Sort.putRowK] using hblk) (by simp)
    refine e1.trans ((Sort.cell?_putRow_other _root_.id (Sort.ahead w n) rg.blk rg.off _ ⟨rg.blk, rg.off + j, none⟩ (.inr (.inr ?_))).trans hu)
    rw [hfs]
    show rg.off + rg.rn * 2 <= rg.off + j
    omega
end
end Go.Proofs.YtfgbfdlacnihkaaDoor.Sx
namespace Go.Proofs.YtfgbfdlacnihkaaDoor.Sx
open Go

def knN (ng : Nat) (hp : Hl) (i : Nat) : Bool := Nat.blt i ng || (match hpOf hp i with | some b => b.g.isEmpty && (vecOf b.cells).isNone | none => false)
theorem knN_row {x : Cx} {ρ : Env} {β : Beta} {σ : St} {a : Act} {w : World} (hR : Rel x ρ β σ a w) {i : Nat} {r : Rg} (h : knN x.ng σ.hp i = true) (hi : β i = some r) : r.row = false := by
 unfold knN at h
 rw [Bool.or_eq_true, Nat.blt_eq] at h
 rcases h with h | h
 ·have := hR.gl i _ (List.getElem?_eq_getElem h)
  rw [hi] at this
  cases this
  rfl
 ·split at h
  ·rename_i b hb
   simp only [Bool.and_eq_true, List.isEmpty_iff, Option.isNone_iff_eq_none] at h
   obtain ⟨q, hq, hrow, _⟩ := (blkMt_cs h.2).1 (hR.hm i b hb (by rw [h.1]; rfl))
   rw [hi] at hq
   cases hq
   exact hrow
  ·cases h
theorem knN_keep {x : Cx} {ρ : Env} {β β' : Beta} {σ : St} {a : Act} {w : World} (hR : Rel x ρ β σ a w) (hE : Ext β β') : ∀ i r, knN x.ng σ.hp i = true -> β i = some r -> β' i = some r :=
 fun i r h hi => hE.at hi (knN_row hR h hi)
theorem knN_mv {x : Cx} {ρ : Env} {β β' : Beta} {σ : St} {a : Act} {w : World} (hR : Rel x ρ β σ a w) (hE : Ext β β') : Mv (knN x.ng σ.hp) β β' :=
 ⟨fun i r hi hr => hr.elim (hE.at hi) fun h => knN_keep hR hE i r h hi, (Mv.of hR.bo (ExtP.refl (fun _ => true) β)).sq⟩

def C.tj (p : Nat -> Bool) : C -> C
 | .int k (.c n) => .int k (.c n)
 | .bool (.c b) => .bool (.c b)
 | .ptr [] i o => if p i then .ptr [] i o else .junk
 | .val u => .val u
 | .emp => .emp
 | .fn [] d => if (fvIds d).all p then .fn [] d else .junk
 | _ => .junk
section
variable {p : Nat -> Bool} {β β' : Beta} {ρ ρ' : Env} (hk : ∀ i r, p i = true -> β i = some r -> β' i = some r)
include hk
theorem tj_cap : ∀ {l : List (Nat × Nat)} {vs : List Value}, (l.map (·.1)).all p = true -> capMt β l vs -> capMt β' l vs
 | [], [], _, _ => trivial
 | q :: l, v :: vs, h, ⟨⟨r, hr, hv⟩, h2⟩ => by
  simp only [List.map_cons, List.all_cons, Bool.and_eq_true] at h
  exact ⟨⟨r, hk _ _ h.1 hr, hv⟩, tj_cap h.2 h2⟩
 | [], _ :: _, _, h => h.elim
 | _ :: _, [], _, h => h.elim
theorem C.tj_mt {c : C} {v : Value} (h : c.mt β ρ v) : (c.tj p).mt β' ρ' v := by
 have ho := C.mt_oneCell h
 unfold C.tj
 split
 ·exact h
 ·exact h
 ·rename_i i o
  split
  ·rename_i hp
   obtain ⟨r, hr, hv⟩ := h
   exact ⟨r, hk _ _ hp hr, hv⟩
  ·exact ho
 ·exact h
 ·exact h
 ·rename_i d
  split
  ·rename_i hp
   have h : fvMt β d v := h
   show fvMt β' d v
   unfold fvMt at *
   cases d with
   | none => exact h
   | some q => obtain ⟨vs, h1, h2⟩ := h; exact ⟨vs, h1, tj_cap hk hp h2⟩
  ·exact ho
 ·exact ho
theorem tj_L : ∀ {l : List C} {vs : List Value}, mtL β ρ l vs -> mtL β' ρ' (l.map (C.tj p)) vs
 | [], [], _ => trivial
 | c :: l, v :: vs, ⟨h1, h2⟩ => ⟨C.tj_mt hk h1, tj_L h2⟩
 | [], _ :: _, h => h.elim
 | _ :: _, [], h => h.elim
theorem tj_1 {agg : Bool} {l : List C} {v : Value} (h : mt1 β ρ agg l v) : mt1 β' ρ' agg (l.map (C.tj p)) v := by
 unfold mt1 at *
 cases agg
 ·obtain ⟨c, rfl, h⟩ := h; exact ⟨_, rfl, C.tj_mt hk h⟩
 ·obtain ⟨vs, rfl, h⟩ := h; exact ⟨vs, rfl, tj_L hk h⟩
end
def SV.tj (p : Nat -> Bool) (v : SV) : SV := match v with
 | { g := [], s := .one agg l } => { g := [], s := .one agg (l.map (C.tj p)) }
 | _ => anySV
theorem SV.tj_mt {p : Nat -> Bool} {β β' : Beta} {ρ ρ' : Env} (hk : ∀ i r, p i = true -> β i = some r -> β' i = some r) {s : SV} {v : Value} (h : s.mt β ρ v) : (s.tj p).mt β' ρ' v := by
 unfold SV.tj
 split
 ·exact ⟨fun _ => tj_1 hk (h.1 rfl), fun h => by cases h⟩
 ·exact anySV_mt v
theorem args_slots {β : Beta} {ρ : Env} : ∀ {xs : List S} {vs : List Value} {n t : Nat} {v : SV}, mtAll β ρ xs vs -> (xs.map (fun s => ({ g := [], s := s } : SV)) ++ List.replicate n anySV)[t]? = some v -> v.mt β ρ ((vs ++ List.replicate n undef).getD t undef)
 | [], vs, n, t, v, hm, ht => by
  simp only [List.map_nil, List.nil_append, List.getElem?_replicate] at ht
  split at ht
  ·simp only [Option.some.injEq] at ht
   subst ht
   exact anySV_mt _
  ·cases ht
 | x :: xs, [], _, _, _, hm, _ => hm.elim
 | x :: xs, u :: vs, n, 0, v, hm, ht => by
  simp at ht
  subst ht
  exact ⟨fun _ => by simpa using hm.1, fun h => by cases h⟩
 | x :: xs, u :: vs, n, t + 1, v, hm, ht => by
  have := args_slots (n := n) (t := t) (v := v) hm.2 (by simpa using ht)
  simpa using this
def setPs : List SV -> List (Nat × SV) -> List SV
 | T, [] => T
 | T, p :: l => setPs (T.set p.1 p.2) l
theorem setPs_len : ∀ {l : List (Nat × SV)} {T : List SV}, (setPs T l).length = T.length
 | [], _ => rfl
 | p :: l, T => by unfold setPs; rw [setPs_len]; simp
theorem setPs_mt {β : Beta} {ρ : Env} : ∀ {ps : List Nat} {xs : List S} {vs : List Value} {T : List SV} {tm : Array Value}, ps.length = xs.length -> mtAll β ρ xs vs -> tm.size = T.length -> (∀ (t : Nat) v, T[t]? = some v -> v.mt β ρ (tm.getD t undef)) ->
  ((ps.zip vs).foldl (fun tm p => tm.setIfInBounds p.1 p.2) tm).size = T.length /\ ∀ (t : Nat) v, (setPs T (ps.zip (xs.map fun s => ({ g := [], s := s } : SV))))[t]? = some v -> v.mt β ρ (((ps.zip vs).foldl (fun tm p => tm.setIfInBounds p.1 p.2) tm).getD t undef)
 | [], [], vs, T, tm, _, hm, hs, h => by
  cases vs with
  | nil => exact ⟨hs, h⟩
  | cons _ _ => exact hm.elim
 | p :: ps, x :: xs, [], T, tm, _, hm, _, _ => hm.elim
 | p :: ps, x :: xs, v :: vs, T, tm, hl, ⟨h1, h2⟩, hs, h => by
  simp only [List.zip_cons_cons, List.map_cons, List.foldl_cons, setPs]
  have := setPs_mt (ps := ps) (xs := xs) (vs := vs) (T := T.set p { g := [], s := x }) (tm := tm.setIfInBounds p v) (by simpa using hl) h2 (by simpa using hs) (fun t u hu => by
   rw [List.getElem?_set] at hu
   by_cases e : p = t
   ·subst e
    rw [if_pos rfl] at hu
    split at hu
    ·rename_i hlt
     simp only [Option.some.injEq] at hu
     subst hu
     have hlt' : p < tm.size := by omega
     refine ⟨fun _ => ?_, fun h => by cases h⟩
     simpa [hlt'] using h1
    ·cases hu
   ·rw [if_neg e] at hu
    have := h t u hu
    simpa [Array.getElem?_setIfInBounds_ne e] using this)
  simpa using this
 | [], _ :: _, _, _, _, hl, _, _, _ => by simp at hl
 | _ :: _, [], _, _, _, hl, _, _, _ => by simp at hl
end Go.Proofs.YtfgbfdlacnihkaaDoor.Sx
namespace Go.Proofs.YtfgbfdlacnihkaaDoor.Sx
open Go

structure RfD where
 lid : Nat
 T : List SV
 ps : List Nat
 asg : Code
 bd : Code
 jl : List Code
def kdJ : Code -> Option Kd
 | .ret => some .r
 | .exit id => some (.x id)
 | _ => none
def idxJ (K : Kd) : List Code -> Nat -> Option Nat
 | [], _ => none
 | c :: l, j => match kdJ c with
  | some K' => if K'.eq K then some j else idxJ K l (j + 1)
  | none => idxJ K l (j + 1)
theorem idxJ_spec {K : Kd} : ∀ {l : List Code} {j i : Nat}, idxJ K l j = some i -> j <= i /\ kdJ (pickJ l (i - j)) = some K
 | [], j, i, h => by simp [idxJ] at h
 | c :: l, j, i, h => by
  have hrec : idxJ K l (j + 1) = some i -> j <= i /\ kdJ (pickJ (c :: l) (i - j)) = some K := fun h => by
   obtain ⟨h1, h2⟩ := idxJ_spec h
   refine ⟨by omega, ?_⟩
   cases l with
   | nil => simp [idxJ] at h
   | cons d l =>
    rw [show i - j = (i - (j + 1)) + 1 by omega]
    exact h2
  unfold idxJ at h
  split at h
  ·rename_i K' hK
   split at h
   ·rename_i he
    simp only [Option.some.injEq] at h
    subst h
    refine ⟨Nat.le_refl _, ?_⟩
    rw [Nat.sub_self]
    have : pickJ (c :: l) 0 = c := by cases l <;> rfl
    rw [this, hK, Kd.eq_sound he]
   ·exact hrec h
  ·exact hrec h
def yJs (jl : List Code) : Kd -> Option (Bool × Js)
 | .n => some (true, {})
 | K => match idxJ K jl 0 with
  | some j => some (false, { b := .c false, a := .c (Int.ofNat j) })
  | none => none
theorem kdJ_r {c : Code} (h : kdJ c = some .r) : c = .ret := by
 unfold kdJ at h
 split at h
 ·rfl
 ·cases h
 ·cases h
theorem kdJ_x {c : Code} {id : Nat} (h : kdJ c = some (.x id)) : c = .exit id := by
 unfold kdJ at h
 split at h
 ·cases h
 ·cases h; rfl
 ·cases h
theorem yJs_spec {jl : List Code} {K : Kd} {res : Bool} {js : Js} (h : yJs jl K = some (res, js)) (hne : K ≠ .n) : res = false /\ ∃ j : Nat, js = { b := .c false, a := .c (Int.ofNat j) } /\ kdJ (pickJ jl j) = some K := by
 have key : ∀ i, idxJ K jl 0 = some i -> kdJ (pickJ jl i) = some K := fun i hi => (idxJ_spec hi).2
 unfold yJs at h
 split at h
 ·exact absurd rfl hne
 ·split at h
  ·rename_i j hj
   simp only [Option.some.injEq, Prod.mk.injEq] at h
   exact ⟨h.1.symm, j, h.2.symm, key j hj⟩
  ·cases h
def yOne (jl : List Code) (tm : List SV) (dst : Option Tmp) (K : Kd) (s : St) : Option St :=
 match yJs jl K with
 | some (r, js) => match setT tm dst { g := [], s := .one false [.bool (.c r)] } with
  | some tm' => some { tm := tm', hp := s.hp, rb := s.rb, js := js }
  | none => none
 | none => none
def yOuts (jl : List Code) (tm : List SV) (dst : Option Tmp) : Outs -> Option (List (Gd × St))
 | [] => some []
 | (K, q, s) :: O => match yOne jl tm dst K s, yOuts jl tm dst O with
  | some s', some l => some ((q, s') :: l)
  | _, _ => none
theorem yOuts_spec {jl : List Code} {tm : List SV} {dst : Option Tmp} : ∀ {O : Outs} {l : List (Gd × St)}, yOuts jl tm dst O = some l ->
  (∀ p, p ∈ l -> ∃ K s, (K, p.1, s) ∈ O /\ yOne jl tm dst K s = some p.2) /\ ∀ K q s, (K, q, s) ∈ O -> ∃ s', (q, s') ∈ l
 | [], l, h => by
  simp only [yOuts, Option.some.injEq] at h
  subst h
  exact ⟨fun p hp => (by cases hp), fun K q s h => (by cases h)⟩
 | (K, q, s) :: O, l, h => by
  unfold yOuts at h
  split at h
  ·rename_i s' l' h1 h2
   simp only [Option.some.injEq] at h
   subst h
   obtain ⟨i1, i2⟩ := yOuts_spec h2
   refine ⟨fun p hp => ?_, fun K' q' t ht => ?_⟩
   ·rcases List.mem_cons.1 hp with rfl | hp
    ·exact ⟨K, s, by simp, h1⟩
    ·obtain ⟨K', t, e1, e2⟩ := i1 p hp
     exact ⟨K', t, by simp [e1], e2⟩
   ·rcases List.mem_cons.1 ht with e | ht
    ·cases e; exact ⟨s', by simp⟩
    ·obtain ⟨t', e⟩ := i2 K' q' t ht
     exact ⟨t', by simp [e]⟩
  ·cases h
def distO : Outs -> Bool
 | [] => true
 | (k, _, _) :: O => (O.all fun p => !(k.eq p.1)) && distO O
theorem distO_get {k : Kd} {q : Gd} {s : St} : ∀ {O : Outs}, distO O = true -> (k, q, s) ∈ O -> getK k O = some (q, s)
 | (l, q', s') :: O, h, hm => by
  simp only [distO, Bool.and_eq_true, List.all_eq_true, Bool.not_eq_true'] at h
  unfold getK
  rcases List.mem_cons.1 hm with e | hm
  ·cases e; rw [if_pos (Kd.eq_refl _)]
  ·rw [if_neg, distO_get h.2 hm]
   intro he
   have := h.1 _ hm
   rw [Kd.eq_sound he, Kd.eq_refl] at this
   cases this
theorem getK_mem {k : Kd} {q : Gd} {s : St} : ∀ {O : Outs}, getK k O = some (q, s) -> (k, q, s) ∈ O
 | [], h => by simp [getK] at h
 | (l, q', s') :: O, h => by
  unfold getK at h
  split at h
  ·rename_i he
   simp only [Option.some.injEq, Prod.mk.injEq] at h
   rw [Kd.eq_sound he, <- h.1, <- h.2]
   simp
  ·exact List.mem_cons.2 (.inr (getK_mem h))
def yJoin (keep : Kp) : List (Gd × St) -> M St
 | [] => M.fail
 | [(_, s)] => pure s
 | (q, s) :: p :: l => do
  let b <- gAtom q
  let r <- M.mono (yJoin keep (p :: l))
  M.mono (joinSt keep b s r)
theorem yJoin_ok {Φ : Funs} {x : Cx} {ρ : Env} {keep : Kp} (hx : GrOk x keep) : ∀ (l : List (Gd × St)) {z : St} {c c' : Ctr} {out : List Em}, yJoin keep l c = some (z, c', out) -> Good Φ ρ out -> ∀ {β : Beta} {a : Act} {w : World}, (∃ p, p ∈ l /\ Gd.d ρ p.1 = true) ->
  (∀ p, p ∈ l -> Gd.d ρ p.1 = true -> Rel x ρ β p.2 a w) -> Fresh β c -> ∃ β', Ext β β' /\ Rel x ρ β' z a w /\ Fresh β' c'
 | [], z, c, c', out, h, _, β, a, w, _, _, _ => by simp [yJoin, M.fail] at h
 | [(q, s)], z, c, c', out, h, _, β, a, w, ⟨p, hp, hq⟩, hR, hF => by
  have he := M.pure_inv h
  simp only [Prod.mk.injEq] at he
  obtain ⟨rfl, rfl, rfl⟩ := he
  rw [List.mem_singleton.1 hp] at hq
  exact ⟨β, Ext.refl β, hR (q, z) (by simp) hq, hF⟩
 | (q, s) :: p :: l, z, c, c', out, h, hg, β, a, w, hex, hR, hF => by
  unfold yJoin at h
  obtain ⟨b, c1, o1, c2, o2, y, g1, g2, he⟩ := M.bind_inv h
  simp only [Prod.mk.injEq] at he
  obtain ⟨rfl, rfl, rfl⟩ := he
  obtain ⟨r, c3, o3, c4, o4, y, g3, g4, he⟩ := M.bind_inv g2
  simp only [Prod.mk.injEq] at he
  obtain ⟨rfl, rfl, rfl⟩ := he
  simp only [Good.append] at hg
  have hb := gAtom_snd q _ _ _ _ g1 hg.1
  have hid := gAtom_id g1
  obtain ⟨g3, le3⟩ := mono_inv g3
  simp only at le3
  obtain ⟨le4, hj⟩ := joinSt_ok (Φ := Φ) (x := x) (ρ := ρ) hx g4 hg.2.2
  cases hq : Gd.d ρ q with
  | true =>
   exact hj β a w (by rw [hb, hq, if_pos rfl]; exact hR (q, s) (by simp) hq) (hF.le (by omega))
  | false =>
   obtain ⟨p', hp', hq'⟩ := hex
   rcases List.mem_cons.1 hp' with e | hp'
   ·rw [e, hq] at hq'; cases hq'
   ·obtain ⟨β1, f1, f2, f3⟩ := yJoin_ok hx (p :: l) g3 hg.2.1 ⟨p', hp', hq'⟩ (fun p'' h1 h2 => hR p'' (List.mem_cons.2 (.inr h1)) h2) (hF.le (by omega))
    obtain ⟨β2, f4, f5, f6⟩ := hj β1 a w (by rw [hb, hq]; simpa using f2) f3
    exact ⟨β2, f1.trans f4, f5, f6⟩
def onlyN (O : Outs) : Option St := match O with
 | [(.n, _, s)] => some s
 | _ => none
def knY (lid ng : Nat) (hp : Hl) (i : Nat) : Bool := i == lid || knN ng hp i
def yS (P : Program) (H : Hnd) (gl : Gl) (kb : Ctl) (keep : Kp) (D : RfD) (σ : St) (dst : Option Tmp) (args : List Operand) : M St :=
 if args.length == D.ps.length then do
  let _ <- oblige σ.js.b
  let Oa <- M.mono (exec P H (ghOf gl 0) gl.length kb D.asg { tm := setPs D.T (D.ps.zip ((args.map fun y => rs [] (ev gl.length σ y)).map fun s => ({ g := [], s := s } : SV))), hp := σ.hp, rb := σ.rb })
  let sa <- lift (onlyN Oa)
  let Ob <- M.mono (exec P H (ghOf gl 0) gl.length kb D.bd { sa with js := {} })
  let l <- lift (if distO Ob then yOuts D.jl (σ.tm.map (SV.jk (knY D.lid gl.length σ.hp))) dst Ob else none)
  M.mono (yJoin keep l)
 else M.fail
structure RcOk (x : Cx) (D : RfD) (r : LpRec) : Prop where
 lr : x.lr = some r
 fix : r.fix = none
 jl : r.jl = D.jl
 ps : r.rc.params.toList = D.ps
 asg : r.rc.assign = D.asg
 bd : r.rc.body = D.bd
 sz : r.rc.tmps.size = D.T.length
 T : ∀ (β : Beta) (ρ : Env), Ext x.b0 β -> ∀ (t : Nat) (v : SV), D.T[t]? = some v -> v.mt β ρ (r.rc.tmps.getD t undef)
 lid : ∃ q, x.b0 D.lid = some q /\ q.row = false /\ q.blk = r.l
 rl : x.rl = none
theorem Rel.into {x y : Cx} {ρ : Env} {β : Beta} {σ σ' : St} {a a' : Act} {w : World} (h : Rel x ρ β σ a w) (hy : y.w0 = x.w0 /\ y.R = x.R /\ y.gl = x.gl /\ y.gr = x.gr /\ y.Q = x.Q /\ y.gi = x.gi) (hhp : σ'.hp = σ.hp) (heb : ExtP (fun i => !σ'.rb.contains i) y.b0 β)
  (hsz : a'.tmps.size = σ'.tm.length) (hsl : ∀ (t : Nat) (v : SV), σ'.tm[t]? = some v -> v.mt β ρ (a'.tmps.getD t undef)) (hl : Lk y ρ σ'.js a'.defers w) : Rel y ρ β σ' a' w := by
 obtain ⟨y1, y2, y3, y4, y5, y7⟩ := hy
 have e : y.gh = x.gh := by unfold Cx.gh; rw [y3]
 refine ⟨hsz, hsl, hl, by rw [hhp]; exact h.hm, by rw [e]; exact h.gm, by rw [e]; exact h.gro, by rw [y1, y2, y5]; exact h.bo, by rw [y1, y2]; exact h.kp, by rw [y3]; exact h.gl, by rw [y4, y7]; exact h.ra, heb⟩
theorem getD_map_jk {p : Nat -> Bool} {β β' : Beta} {ρ : Env} (h : Mv p β β') {tm : List SV} {f : Nat -> Value} (hs : ∀ (t : Nat) (v : SV), tm[t]? = some v -> v.mt β ρ (f t)) : ∀ (t : Nat) (v : SV), (tm.map (SV.jk p))[t]? = some v -> v.mt β' ρ (f t) := fun t v hv => by
 rw [List.getElem?_map, Option.map_eq_some_iff] at hv
 obtain ⟨u, hu, rfl⟩ := hv
 exact SV.jk_mt h (hs t u hu)
end Go.Proofs.YtfgbfdlacnihkaaDoor.Sx
namespace Go.Proofs.YtfgbfdlacnihkaaDoor.Sx
open Go

section
variable {P : Program} {Φ : Funs} {H : Hnd} {x : Cx} {ρ : Env}
theorem yS_ok (hH : HOk P Φ x.gl H) (hG : ∀ w, Keep x.R x.w0 w -> Laid x.gl w) {kb : Ctl} (hxb : GrOk x kb.keep) (hLb : LoopsOk Φ kb) (hEb : kb.E = {}) {keep : Kp} (hx : GrOk x keep) {D : RfD} {r : LpRec} (hrc : RcOk x D r)
  {σ σ' : St} {dst : Option Tmp} {args : List Operand} {c c' : Ctr} {out : List Em} (h : yS P H x.gl kb keep D σ dst args c = some (σ', c', out)) (hg : Good Φ ρ out) {β : Beta} {a : Act} {w : World} (hR : Rel x ρ β σ a w) (hF : Fresh β c)
  (next : Act -> World -> Prop) (Q : Exit -> Act -> World -> Prop) (hn : ∀ β' a' w', Ext β β' -> Rel x ρ β' σ' a' w' -> Fresh β' c' -> next a' w') :
  (Instr.yield r.l (args.map a.eval).toArray).run P w = .ok (.round r.l r.rc.fn ((r.rc.params.zip (args.map a.eval).toArray).foldl (fun tmps (t, v) => tmps.setIfInBounds t v) r.rc.tmps) D.asg D.bd) w /\
   RoundIn Fence.wide 0 P r.l r.rc.fn ((r.rc.params.zip (args.map a.eval).toArray).foldl (fun tmps (t, v) => tmps.setIfInBounds t v) r.rc.tmps) D.asg D.bd w fun
    | .returned v, w'' => next (a.put dst v) w''
    | .panicked chain, w'' => Q (.panic chain) a w''
    | .outgrown, _ => LetsOut Q := by
 unfold yS at h
 split at h
 rotate_left
 ·simp [M.fail] at h
 rename_i hlen
 simp only [beq_iff_eq] at hlen
 obtain ⟨u0, c1, o1, c2, o2, y, g1, g2, he⟩ := M.bind_inv h
 simp only [Prod.mk.injEq] at he
 obtain ⟨rfl, rfl, rfl⟩ := he
 obtain ⟨Oa, c3, o3, c4, o4, y, g3, g4, he⟩ := M.bind_inv g2
 simp only [Prod.mk.injEq] at he
 obtain ⟨rfl, rfl, rfl⟩ := he
 obtain ⟨sa, c5, o5, c6, o6, y, g5, g6, he⟩ := M.bind_inv g4
 simp only [Prod.mk.injEq] at he
 obtain ⟨rfl, rfl, rfl⟩ := he
 obtain ⟨sa', hsa, he⟩ := lift_inv g5
 simp only [Prod.mk.injEq] at he
 obtain ⟨rfl, rfl, rfl⟩ := he
 obtain ⟨Ob, c7, o7, c8, o8, y, g7, g8, he⟩ := M.bind_inv g6
 simp only [Prod.mk.injEq] at he
 obtain ⟨rfl, rfl, rfl⟩ := he
 obtain ⟨l, c9, o9, c10, o10, y, g9, g10, he⟩ := M.bind_inv g8
 simp only [Prod.mk.injEq] at he
 obtain ⟨rfl, rfl, rfl⟩ := he
 obtain ⟨l', hl, he⟩ := lift_inv g9
 simp only [Prod.mk.injEq] at he
 obtain ⟨rfl, rfl, rfl⟩ := he
 simp only [Good.append] at hg
 obtain ⟨hg1, hg3, _, hg7, _, hg10⟩ := hg
 have hjs : σ.js.b.d ρ = true := oblige_snd _ _ _ _ _ g1 hg1
 have hid1 := oblige_id g1
 obtain ⟨g3, le3⟩ := mono_inv g3
 obtain ⟨g7, le7⟩ := mono_inv g7
 obtain ⟨g10, le10⟩ := mono_inv g10
 simp only at le3 le7 le10
 split at hl
 rotate_left
 ·cases hl
 rename_i hdist
 obtain ⟨ho1, ho2⟩ := yOuts_spec hl
 obtain ⟨hN, hrec⟩ := hR.df.rc r hrc.lr
 have hat : r.at (σ.js.b.d ρ) (σ.js.a.d ρ) = { r.rc with state := .ready, pending := none } := by
  unfold LpRec.at; rw [hrc.fix, hjs]; rfl
 rw [hat] at hrec
 have hdl : a.defers = [] := hR.df.nm (by rw [hrc.lr]; rfl)
 have hxs : mtAll β ρ (args.map fun y => rs [] (ev x.gl.length σ y)) (args.map a.eval) := mtAll_map fun y _ => rs_mt (Γ := []) rfl (ev_mt hR y)
 have hpl : r.rc.params.size = args.length := by have := congrArg List.length hrc.ps; simp at this; omega
 refine ⟨by have := run_yield (P := P) (args := (args.map a.eval).toArray) hrec (by simp [hpl]); rw [this]; rw [<- hrc.asg, <- hrc.bd], ?_⟩
 obtain ⟨tms, htms⟩ : ∃ tms, tms = (r.rc.params.zip (args.map a.eval).toArray).foldl (fun tmps (t, v) => tmps.setIfInBounds t v) r.rc.tmps := ⟨_, rfl⟩
 rw [<- htms]
 have htl : tms = (D.ps.zip (args.map a.eval)).foldl (fun tm p => tm.setIfInBounds p.1 p.2) r.rc.tmps := by
  rw [htms, <- hrc.ps, <- Array.foldl_toList]
  simp
 obtain ⟨hs1, hs2⟩ := setPs_mt (ps := D.ps) (T := D.T) (tm := r.rc.tmps) (by simpa using hlen.symm) hxs hrc.sz (hrc.T β ρ hR.eb.ext)
 rw [<- htl] at hs1 hs2
 refine roundIn_of_wpIn (F := Fence.wide) (n := 0) trivial ?_
 obtain ⟨xa, hxa⟩ : ∃ xa : Cx, xa = { x with lr := some { r with fix := some .ready }, rl := some r.l } := ⟨_, rfl⟩
 have hRa : Rel xa ρ β { tm := setPs D.T (D.ps.zip ((args.map fun y => rs [] (ev x.gl.length σ y)).map fun s => ({ g := [], s := s } : SV))), hp := σ.hp, rb := σ.rb } { tmps := tms, defers := [] } w := by
  subst hxa
  refine hR.into ⟨rfl, rfl, rfl, rfl, rfl, rfl⟩ rfl hR.eb (by rw [hs1]; exact setPs_len.symm) hs2 ⟨fun r' hr' => ?_, hR.df.ds, trivial, fun _ => rfl⟩
  simp only [Option.some.injEq] at hr'
  subst hr'
  exact ⟨hN, hrec⟩
 have hEa : ∀ y : Cx, EOk P Φ y kb.E := fun y => EOk.nil hEb
 have hFa : Fresh β c1 := hF.le (by omega)
 have hka : CodeOk P Φ xa ρ D.asg (exec P H xa.gh xa.ng kb D.asg) := by
  subst hxa
  exact exec_ok (x := { x with lr := some { r with fix := some .ready }, rl := some r.l }) hH hG kb hxb hLb (hEa _) D.asg ρ
 have hka2 : D.asg.wpIn (Fence.wide.inRound r.l) 0 P (Exit.then (fun a₁ w₁ => ∃ w₂, (Instr.beginRound r.l).run P w₁ = .ok () w₂ /\ D.bd.wpIn (Fence.wide.inRound r.l) 0 P (roundPost P r.l fun
    | .returned v, w'' => next (a.put dst v) w''
    | .panicked chain, w'' => Q (.panic chain) a w''
    | .outgrown, _ => LetsOut Q) a₁ w₂) (fun _ _ _ => False)) { tmps := tms, defers := [] } w := by
  have := hka _ _ _ Oa _ (by subst hxa; exact g3) hg3 β _ w hRa hFa (Exit.then (fun a₁ w₁ => ∃ w₂, (Instr.beginRound r.l).run P w₁ = .ok () w₂ /\ D.bd.wpIn (Fence.wide.inRound r.l) 0 P (roundPost P r.l fun
    | .returned v, w'' => next (a.put dst v) w''
    | .panicked chain, w'' => Q (.panic chain) a w''
    | .outgrown, _ => LetsOut Q) a₁ w₂) (fun _ _ _ => False)) (fun e a1 w1 K hk hO => ?_)
  ·subst hxa; exact this
  have hOa : ∃ q, Oa = [(.n, q, sa)] := by
   unfold onlyN at hsa
   split at hsa
   ·simp only [Option.some.injEq] at hsa; subst hsa; exact ⟨_, rfl⟩
   ·cases hsa
  obtain ⟨q0, rfl⟩ := hOa
  obtain ⟨_, q1, s1, β1, hK1, hE1, hR1, hF1⟩ := hO
  have hKn : K = .n /\ s1 = sa := by
   unfold getK at hK1
   split at hK1
   ·rename_i he
    simp only [Option.some.injEq, Prod.mk.injEq] at hK1
    exact ⟨Kd.eq_sound he, hK1.2.symm⟩
   ·simp [getK] at hK1
  obtain ⟨rfl, rfl⟩ := hKn
  have hen := kdOf_n hk
  subst hen
  have hrec1 : w1.heap[r.l]? = some (.loop { r.rc with state := .ready, pending := none }) := by
   have := (hR1.df.rc { r with fix := some .ready } (by rw [hxa])).2
   exact this
  have hbr := run_beginRound (P := P) hrec1 rfl
  refine ⟨_, hbr, ?_⟩
  obtain ⟨xb, hxbd⟩ : ∃ xb : Cx, xb = { x with lr := some { r with fix := some .busy }, rl := some r.l } := ⟨_, rfl⟩
  have hd1 : a1.defers = [] := hR1.df.nm (by rw [hxa]; rfl)
  have hlt1 := (Array.getElem?_eq_some_iff.1 hrec1).1
  have hRb : Rel xb ρ β1 { s1 with js := {} } a1 (w1.putObj r.l (.loop { r.rc with state := .busy, pending := none })) := by
   refine hR1.putObj (y := xb) (a' := a1) (by rw [hxa]; exact hN) hrec1 rfl rfl (by rw [hxa, hxbd]; exact ⟨rfl, rfl, rfl, rfl, rfl, rfl, rfl⟩) rfl ?_
   rw [hd1, hxbd]
   refine ⟨fun r' hr' => ?_, fun E hE => ?_, trivial, fun _ => rfl⟩
   ·simp only [Option.some.injEq] at hr'
    subst hr'
    exact ⟨hN, World.putObj_heap_same hlt1⟩
   ·obtain ⟨e1, e2⟩ := hR1.df.ds E (by rw [hxa]; exact hE)
    refine ⟨by rw [hxa] at e1; exact e1, (World.putObj_heap_other (fun e => ?_)).trans e2⟩
    subst e
    rw [hrec1] at e2
    cases e2
  have hkb : CodeOk P Φ xb ρ D.bd (exec P H xb.gh xb.ng kb D.bd) := by
   subst hxbd
   exact exec_ok (x := { x with lr := some { r with fix := some .busy }, rl := some r.l }) hH hG kb hxb hLb (hEa _) D.bd ρ
  have := hkb _ _ _ Ob _ (by subst hxbd; exact g7) hg7 β1 a1 _ hRb hF1 (roundPost P r.l fun
    | .returned v, w'' => next (a.put dst v) w''
    | .panicked chain, w'' => Q (.panic chain) a w''
    | .outgrown, _ => LetsOut Q) (fun e3 a3 w3 K3 hk3 hO3 => ?_)
  ·subst hxbd; exact this
  obtain ⟨hO3a, q3, s3, β3, hK3, hE3, hR3, hF3⟩ := hO3
  have hq3 : Gd.d ρ q3 = true := (hO3a _ _ _ hK3).2 rfl
  have hrec3 : w3.heap[r.l]? = some (.loop { r.rc with state := .busy, pending := none }) := by
   have := (hR3.df.rc { r with fix := some .busy } (by rw [hxbd])).2
   exact this
  have hlt3 := (Array.getElem?_eq_some_iff.1 hrec3).1
  have hEE : Ext β β3 := hE1.trans hE3
  have hfin : ∀ (res : Bool) (js : Js) (o' : Loop), yJs D.jl K3 = some (res, js) -> r.at (js.b.d ρ) (js.a.d ρ) = o' -> next (a.put dst (.bool res)) (w3.putObj r.l (.loop o')) := fun res js o' hyj hat' => by
   have hone : ∀ p, p ∈ l -> Gd.d ρ p.1 = true -> Rel x ρ β3 p.2 (a.put dst (.bool res)) (w3.putObj r.l (.loop o')) := fun p hp hpq => by
    obtain ⟨K', s', e1, e2⟩ := ho1 p hp
    have hget := distO_get hdist e1
    have hKK : K' = K3 := (hO3a _ _ _ hget).1 hpq
    subst hKK
    rw [hK3] at hget
    simp only [Option.some.injEq, Prod.mk.injEq] at hget
    obtain ⟨_, rfl⟩ := hget
    unfold yOne at e2
    rw [hyj] at e2
    simp only at e2
    split at e2
    ·rename_i tm' htm
     simp only [Option.some.injEq] at e2
     rw [<- e2]
     have hmv : Mv (knY D.lid x.gl.length σ.hp) β β3 := ⟨fun i r hi hr => hr.elim (hEE.at hi) fun h => by
      unfold knY at h
      rw [Bool.or_eq_true] at h
      rcases h with h | h
      ·obtain ⟨q, hq1, hq2, _⟩ := hrc.lid
       have e0 : i = D.lid := by simpa using h
       subst e0
       have e1 := hR.eb _ _ hq1 (.inl hq2)
       rw [hi] at e1
       cases e1
       exact hEE.at hi hq2
      ·exact knN_keep hR hEE i r h hi, (Mv.of hR.bo (ExtP.refl (fun _ => true) β)).sq⟩
     obtain ⟨t1, t2⟩ := slot_put (v := .bool res) (a := a) (tm := σ.tm.map (SV.jk (knY D.lid x.gl.length σ.hp))) (dst := dst) (by rw [hR.size]; simp) (getD_map_jk hmv hR.slot) htm ⟨fun _ => ⟨_, rfl, rfl⟩, fun h => by cases h⟩
     have hR4 := hR3.putObj (y := xb) (js := {}) (a' := a3) (o' := .loop { r.rc with state := .busy, pending := none }) (by rw [hxbd]; exact hN) hrec3 rfl rfl ⟨rfl, rfl, rfl, rfl, rfl, rfl, rfl⟩ rfl (by
      have hd3 : a3.defers = [] := hR3.df.nm (by rw [hxbd]; rfl)
      rw [hd3]
      refine ⟨fun r' hr' => ⟨(hR3.df.rc r' hr').1, ?_⟩, fun E hE => ⟨(hR3.df.ds E hE).1, ?_⟩, trivial, fun _ => rfl⟩
      ·rw [hxbd] at hr'
       simp only [Option.some.injEq] at hr'
       subst hr'
       exact World.putObj_heap_same hlt3
      ·have e2 := (hR3.df.ds E hE).2
       exact (World.putObj_heap_other (fun e => by subst e; rw [hrec3] at e2; cases e2)).trans e2)
     have hR5 : Rel x ρ β3 { tm := tm', hp := s3.hp, rb := s3.rb, js := js } (a.put dst (.bool res)) (w3.putObj r.l (.loop o')) := by
      have hR6 : Rel xb ρ β3 { s3 with js := {} } { a3 with defers := [] } (w3.putObj r.l (.loop o')) \/ True := .inr trivial
      have hc := putObj_cell (o' := .loop o') hrec3 rfl rfl
      have e : x.gh = xb.gh := by rw [hxbd]; rfl
      refine ⟨t1, t2, ⟨fun r' hr' => ?_, fun E hE => ?_, by rw [(put_tmps a _ _).1, hdl]; trivial, fun _ => by rw [(put_tmps a _ _).1, hdl]⟩, fun id b hb hbg => blkMt_cells hc (hR3.hm id b hb hbg), by rw [e]; exact fun id b hb hbg => blkMt_cells hc (hR3.gm id b hb hbg), by rw [e]; exact hR3.gro, ?_, ?_, ?_, ?_, ?_⟩
      ·rw [hrc.lr] at hr'
       simp only [Option.some.injEq] at hr'
       subst hr'
       exact ⟨hN, by rw [World.putObj_heap_same hlt3, hat']⟩
      ·obtain ⟨d1, d2⟩ := hR3.df.ds E (by rw [hxbd]; exact hE)
       refine ⟨by rw [hxbd] at d1; exact d1, (World.putObj_heap_other (fun e => ?_)).trans d2⟩
       subst e
       rw [hrec3] at d2
       cases d2
      ·have := hR3.bo
       rw [hxbd] at this
       exact betaOk_cells (fun a => (hc a).1) (by rw [World.putObj_size]; exact Nat.le_refl _) this
      ·have := hR3.kp
       rw [hxbd] at this
       exact putObj_keep this hN hrec3 rfl rfl
      ·have := hR3.gl; rw [hxbd] at this; exact this
      ·have := hR3.ra; rw [hxbd] at this; exact this
      ·have := hR3.eb; rw [hxbd] at this; exact this
     exact hR5
    ·cases e2
   have hF3' : Fresh β3 c9 := hF3.le (by omega)
   obtain ⟨β4, f1, f2, f3⟩ := yJoin_ok hx l g10 hg10 (by
    obtain ⟨s', hs'⟩ := ho2 _ _ _ (getK_mem hK3)
    exact ⟨(q3, s'), hs', hq3⟩) hone hF3'
   exact hn β4 _ _ (hEE.trans f1) f2 f3
  have hyn : ∀ c0 : Code, kdJ c0 = some K3 -> (K3 ≠ .n) -> ∃ js : Js, yJs D.jl K3 = some (false, js) /\ ∃ c1, kdJ c1 = some K3 /\ r.at (js.b.d ρ) (js.a.d ρ) = { r.rc with state := .done, pending := some c1 } := fun c0 hc0 hne => by
   obtain ⟨s', hs'⟩ := ho2 _ _ _ (getK_mem hK3)
   obtain ⟨K', s2, e1, e2⟩ := ho1 _ hs'
   have hget := distO_get hdist e1
   have hKK : K' = K3 := (hO3a _ _ _ hget).1 hq3
   subst hKK
   unfold yOne at e2
   cases hyj : yJs D.jl K' with
   | none => rw [hyj] at e2; cases e2
   | some y =>
    obtain ⟨res, js⟩ := y
    obtain ⟨rfl, j, rfl, hj⟩ := yJs_spec hyj hne
    exact ⟨_, rfl, pickJ D.jl j, hj, by unfold LpRec.at; rw [hrc.fix, hrc.jl]; rfl⟩
  cases e3 with
  | normal =>
   simp only [kdOf, Option.some.injEq] at hk3
   subst hk3
   exact ⟨_, _, run_endRound none hrec3, hfin true {} _ rfl (by unfold LpRec.at; rw [hrc.fix]; rfl)⟩
  | ret =>
   simp only [kdOf, Option.some.injEq] at hk3
   subst hk3
   obtain ⟨js, e1, c1, e2, e3⟩ := hyn .ret rfl (by simp)
   rw [kdJ_r e2] at e3
   exact ⟨_, _, run_endRound (some .ret) hrec3, hfin false js _ e1 e3⟩
  | exit id =>
   simp only [kdOf, Option.some.injEq] at hk3
   subst hk3
   obtain ⟨js, e1, c1, e2, e3⟩ := hyn (.exit id) rfl (by simp)
   rw [kdJ_x e2] at e3
   exact ⟨_, _, run_endRound (some (.exit id)) hrec3, hfin false js _ e1 e3⟩
  | goto t => simp [kdOf] at hk3
  | panic ch => simp [kdOf] at hk3
  | outgrown => simp [kdOf] at hk3
 exact hka2
end
end Go.Proofs.YtfgbfdlacnihkaaDoor.Sx
namespace Go.Proofs.YtfgbfdlacnihkaaDoor.Sx
open Go

def isYl (lid ng : Nat) (σ : St) (o : Oper) : Option (List Operand) :=
 match o with
 | ⟨_, .call ⟨.value (.tmp t), args, _⟩, _, _, _, none⟩ => match ev ng σ (.tmp t) with
  | { g := [], s := .one false [.fn [] (some (n, [(i, 0)]))] } => if n == yieldN && i == lid then some args.toList else none
  | _ => none
 | _ => none
theorem isYl_spec {lid ng : Nat} {σ : St} {o : Oper} {l : List Operand} (h : isYl lid ng σ o = some l) : ∃ dst t args at' ty pos after, o = ⟨dst, .call ⟨.value (.tmp t), args, at'⟩, ty, pos, after, none⟩ /\ l = args.toList /\
  ev ng σ (.tmp t) = { g := [], s := .one false [.fn [] (some (yieldN, [(lid, 0)]))] } := by
 unfold isYl at h
 split at h
 ·rename_i dst t args at' ty pos after
  split at h
  ·rename_i n i hev
   split at h
   ·rename_i hc
    simp only [Bool.and_eq_true, beq_iff_eq] at hc
    obtain ⟨rfl, rfl⟩ := hc
    simp only [Option.some.injEq] at h
    exact ⟨dst, t, args, at', ty, pos, after, rfl, h.symm, hev⟩
   ·cases h
  ·cases h
 ·cases h
def regY (P : Program) (H : Hnd) (gl : Gl) (kb : Ctl) (keep : Kp) (D : RfD) (ops : Array Oper) : List Oper -> St -> M St
 | [], σ => pure σ
 | o :: l, σ => match isYl D.lid gl.length σ o with
  | some args => do
   let σ' <- M.mono (yS P H gl kb keep D σ o.dst args)
   regY P H gl kb keep D ops l σ'
  | none => do
   let σ' <- opS P H (ghOf gl 0) gl.length ops o σ
   regY P H gl kb keep D ops l σ'
def callT (o : Oper) : Bool := match o.op with
 | .call ⟨.value (.tmp _), _, _⟩ => true
 | _ => false
def yE (P : Program) (H : Hnd) (gl : Gl) (kb : Ctl) (keep : Kp) (D : RfD) : XE :=
 { rg := fun ops draw s => if !draw && (ops.toList.any callT && noDef ops.toList) then some (regY P H gl kb keep D ops ops.toList s) else none }

section
variable {P : Program} {Φ : Funs} {H : Hnd} {x : Cx}
theorem yield_val {D : RfD} {r : LpRec} (hrc : RcOk x D r) {ρ : Env} {β : Beta} {σ : St} {a : Act} {w : World} (hR : Rel x ρ β σ a w) {t : Nat} (h : ev x.ng σ (.tmp t) = { g := [], s := .one false [.fn [] (some (yieldN, [(D.lid, 0)]))] }) : a.eval (.tmp t) = .func (.yield r.l) #[] #[] := by
 have hv := (ev_mt hR (.tmp t))
 rw [h] at hv
 have hm := mt_cell (s := .one false [.fn [] (some (yieldN, [(D.lid, 0)]))]) rfl (hv.1 rfl)
 have hm : fvMt β (some (yieldN, [(D.lid, 0)])) (a.eval (.tmp t)) := hm
 obtain ⟨vs, h1, h2⟩ := hm
 obtain ⟨q, hq, hrow, hb⟩ := hrc.lid
 have hq' := hR.eb.at hq hrow
 match vs, h2 with
 | [v], ⟨⟨q2, hq2, hv2⟩, _⟩ =>
  rw [hq'] at hq2
  cases hq2
  rw [h1, hv2]
  unfold fvVal
  rw [if_pos rfl]
  simp only
  rw [hb]
theorem regY_sound (hH : HOk P Φ x.gl H) (hG : ∀ w, Keep x.R x.w0 w -> Laid x.gl w) {kb : Ctl} (hxb : GrOk x kb.keep) (hLb : LoopsOk Φ kb) (hEb : kb.E = {}) {keep : Kp} (hx : GrOk x keep) {D : RfD} {r : LpRec} (hrc : RcOk x D r) {ρ : Env} {ops : Array Oper} {Q : Exit -> Act -> World -> Prop} (hQ : ¬ LetsOut Q) :
  ∀ (l : List Oper) {σ σ' : St} {c c' : Ctr} {out : List Em}, noDef l = true -> regY P H x.gl kb keep D ops l σ c = some (σ', c', out) -> Good Φ ρ out -> ∀ {β : Beta} {a : Act} {w : World}, Rel x ρ β σ a w -> Fresh β c ->
   (∀ β' a' w', Ext β β' -> Rel x ρ β' σ' a' w' -> Fresh β' c' -> Q .normal a' w') -> wpListIn (FR none) 0 P ops Q l a w
 | [], σ, σ', c, c', out, _, h, hg, β, a, w, hR, hF, hn => by
  have he := M.pure_inv h
  simp only [Prod.mk.injEq] at he
  obtain ⟨rfl, rfl, rfl⟩ := he
  exact hn β a w (Ext.refl β) hR hF
 | o :: l, σ, σ', c, c', out, hd, h, hg, β, a, w, hR, hF, hn => by
  have hd1 := noDef_spec hd (o := o) (by simp)
  have hd2 : noDef l = true := by simp only [noDef, List.all_cons, Bool.and_eq_true] at hd; exact hd.2
  unfold regY at h
  cases hy : isYl D.lid x.gl.length σ o with
  | none =>
   rw [hy] at h
   simp only at h
   obtain ⟨σ1, c1, o1, c2, o2, y, h1, h2, he⟩ := M.bind_inv h
   simp only [Prod.mk.injEq] at he
   obtain ⟨rfl, rfl, rfl⟩ := he
   rw [Good.append] at hg
   have hop := opS_sound hH hG h1 hg.1 hR hF (wpListIn (FR none) 0 P ops Q l) Q fun β' a' w' he' hR' hF' =>
    regY_sound hH hG hxb hLb hEb hx hrc hQ l hd2 h2 hg.2 hR' hF' fun β'' a'' w'' he'' hR'' hF'' => hn β'' a'' w'' (he'.trans he'') hR'' hF''
   unfold wpListIn
   split
   ·rename_i hw
    rw [if_pos hw] at hop
    exact wpIn_of_wp hd1 hop
   ·rename_i hw
    rw [if_neg hw] at hop
    exact ⟨fun f _ => FR_fn none f, hop⟩
  | some args =>
   rw [hy] at h
   simp only at h
   obtain ⟨σ1, c1, o1, c2, o2, y, h1, h2, he⟩ := M.bind_inv h
   simp only [Prod.mk.injEq] at he
   obtain ⟨rfl, rfl, rfl⟩ := he
   rw [Good.append] at hg
   obtain ⟨dst, t, args', at', ty, pos, after, rfl, rfl, hev⟩ := isYl_spec hy
   have hval := yield_val hrc hR hev
   obtain ⟨hrun, hround⟩ := yS_ok hH hG hxb hLb hEb hx hrc (mono_inv h1).1 hg.1 hR hF (wpListIn (FR none) 0 P ops Q l) Q fun β' a' w' he' hR' hF' =>
    regY_sound hH hG hxb hLb hEb hx hrc hQ l hd2 h2 hg.2 hR' hF' fun β'' a'' w'' he'' hR'' hF'' => hn β'' a'' w'' (he'.trans he'') hR'' hF''
   have hargs : (args'.toList.map a.eval).toArray = args'.map a.eval := by
    apply Array.toList_inj.1; simp
   rw [hargs] at hrun hround
   unfold wpListIn
   rw [if_pos (wanted_none rfl _)]
   refine ⟨fun f _ => FR_fn none f, ?_⟩
   rw [Oper.semAt_eq _ _ _ hd1]
   have hex : (execOp a.eval ⟨dst, .call ⟨.value (.tmp t), args', at'⟩, ty, pos, after, none⟩).run P w = .ok (.round r.l r.rc.fn ((r.rc.params.zip (args'.map a.eval)).foldl (fun tmps (t, v) => tmps.setIfInBounds t v) r.rc.tmps) D.asg D.bd) w := by
    rw [<- hrun]
    simp [execOp, resolve, hval, Deferred.ofValue, invoke]
   rw [hex, Oper.uponIn_round]
   exact ⟨fun hh => (by cases hh), hround⟩
theorem yE_ok (hH : HOk P Φ x.gl H) (hG : ∀ w, Keep x.R x.w0 w -> Laid x.gl w) {kb : Ctl} (hxb : GrOk x kb.keep) (hLb : LoopsOk Φ kb) (hEb : kb.E = {}) {keep : Kp} (hx : GrOk x keep) {D : RfD} {r : LpRec} (hrc : RcOk x D r) : EOk P Φ x (yE P H x.gl kb keep D) := by
 refine ⟨fun ρ g ps asg bd s c c' O out hm => by simp [yE, M.fail] at hm, fun ρ ops draw s m hm c c' s' out hrun hg β a w hR hF Q hQ id => ?_⟩
 unfold yE at hm
 simp only at hm
 split at hm
 ·rename_i hc
  simp only [Bool.and_eq_true, Bool.not_eq_true'] at hc
  simp only [Option.some.injEq] at hm
  subst hm
  obtain ⟨rfl, _, hnd⟩ := hc
  rw [hrc.rl]
  have hno : ¬ LetsOut (fun (e : Exit) (a : Act) (w : World) => e = .normal /\ Q .normal a w) := fun ⟨_, _, h⟩ => by cases h.1
  exact wpIn_mono (wpIn_region_list (regY_sound hH hG hxb hLb hEb hx hrc hno ops.toList hnd hrun hg hR hF fun β' a' w' he' hR' hF' => ⟨rfl, hQ β' a' w' he' hR' hF'⟩)) fun e a w ⟨e1, e2⟩ => by rw [e1]; exact e2
 ·cases hm
end
end Go.Proofs.YtfgbfdlacnihkaaDoor.Sx
namespace Go.Proofs.YtfgbfdlacnihkaaDoor.Sx
open Go

def exitIds : Code -> List Nat
 | .exit id => [id]
 | .seq a b => exitIds a ++ exitIds b
 | .cond _ a b => exitIds a ++ exitIds b
 | .block id a => (exitIds a).filter fun i => !(i == id)
 | .loop a => exitIds a
 | _ => []
def hasRet : Code -> Bool
 | .ret => true
 | .seq a b => hasRet a || hasRet b
 | .cond _ a b => hasRet a || hasRet b
 | .block _ a => hasRet a
 | .loop a => hasRet a
 | _ => false
def jumpsOf (bd : Code) : List Code := (if hasRet bd then [.ret] else []) ++ (dedup (exitIds bd)).map .exit
def kdD (c : Code) : Kd := (kdJ c).getD .n
def goJ (ja : A) (s : St) : List Code -> Nat -> Gd -> M Outs
 | [], _, _ => pure []
 | [c], _, acc => pure [(kdD c, acc, s)]
 | c :: d :: l, i, acc => do
  let e <- mkCm .leq ja (.c (Int.ofNat i))
  let r <- goJ ja s (d :: l) (i + 1) (acc ++ [(e, false)])
  pure ((kdD c, acc ++ [(e, true)], s) :: r)
def jlOk : List Code -> Bool
 | [] => true
 | c :: l => (kdJ c).isSome && (l.all fun d => !((kdD c).eq (kdD d))) && jlOk l
theorem pickJ_mem : ∀ {l : List Code} {n : Nat}, l ≠ [] -> pickJ l n ∈ l
 | [], _, h => absurd rfl h
 | [c], n, _ => by cases n <;> simp [pickJ]
 | c :: d :: l, 0, _ => by simp [pickJ]
 | c :: d :: l, n + 1, _ => by
  have := pickJ_mem (l := d :: l) (n := n) (by simp)
  simp only [pickJ]
  exact List.mem_cons.2 (.inr this)
theorem goJ_ok {Φ : Funs} {ρ : Env} {ja : A} {s : St} : ∀ {l : List Code} {i : Nat} {acc : Gd} {O : Outs} {c c' : Ctr} {out : List Em}, goJ ja s l i acc c = some (O, c', out) -> Good Φ ρ out -> l ≠ [] -> jlOk l = true -> (Gd.d ρ acc = true -> i <= (ja.d ρ).toNat \/ i = 0) ->
  (∀ k q t, getK k O = some (q, t) -> t = s /\ (Gd.d ρ q = true ↔ Gd.d ρ acc = true /\ kdD (pickJ l ((ja.d ρ).toNat - i)) = k)) /\ ∀ d, d ∈ l -> ∃ q, getK (kdD d) O = some (q, s)
 | [], _, _, _, _, _, _, _, _, hne, _, _ => absurd rfl hne
 | [d], i, acc, O, c, c', out, h, hg, _, _, _ => by
  have he := M.pure_inv h
  simp only [Prod.mk.injEq] at he
  obtain ⟨rfl, rfl, rfl⟩ := he
  have hp : ∀ m, pickJ [d] m = d := fun m => by cases m <;> rfl
  refine ⟨fun k q t hk => ?_, fun d' hd' => ?_⟩
  ·unfold getK at hk
   split at hk
   ·rename_i he
    simp only [Option.some.injEq, Prod.mk.injEq] at hk
    obtain ⟨rfl, rfl⟩ := hk
    rw [hp, Kd.eq_sound he]
    simp
   ·simp [getK] at hk
  ·rw [List.mem_singleton.1 hd']
   exact ⟨acc, by simp [getK, Kd.eq_refl]⟩
 | d :: d2 :: l, i, acc, O, c, c', out, h, hg, _, hj, hi => by
  unfold goJ at h
  obtain ⟨e, c1, o1, c2, o2, y, g1, g2, he⟩ := M.bind_inv h
  simp only [Prod.mk.injEq] at he
  obtain ⟨rfl, rfl, rfl⟩ := he
  obtain ⟨r, c3, o3, c4, o4, y, g3, g4, he⟩ := M.bind_inv g2
  simp only [Prod.mk.injEq] at he
  obtain ⟨rfl, rfl, rfl⟩ := he
  have he := M.pure_inv g4
  simp only [Prod.mk.injEq] at he
  obtain ⟨rfl, rfl, rfl⟩ := he
  simp only [Good.append] at hg
  have hev : e.d ρ = decide (ja.d ρ <= (i : Int)) := mkCm_snd _ _ _ _ _ _ _ g1 hg.1
  have hj' := hj
  simp only [jlOk, Bool.and_eq_true] at hj'
  obtain ⟨⟨hj1, hj2⟩, hj3⟩ := hj'
  have hj3' : jlOk (d2 :: l) = true := by simp only [jlOk, Bool.and_eq_true]; exact hj3
  obtain ⟨i1, i2⟩ := goJ_ok g3 hg.2.1 (by simp) hj3' (fun ha => by
   simp only [Gd.d_append, Gd.d_cons, Gd.d_nil, Bool.and_true, Bool.and_eq_true, beq_iff_eq] at ha
   have h2 := ha.2
   rw [hev] at h2
   simp only [decide_eq_false_iff_not] at h2
   left
   omega)
  have hdis : ∀ d', d' ∈ d2 :: l -> kdD d ≠ kdD d' := fun d' hd' e => by
   have := (List.all_eq_true.1 hj2) d' hd'
   rw [e, Kd.eq_refl] at this
   cases this
  have hpick0 : (ja.d ρ <= (i : Int)) -> kdD (pickJ (d :: d2 :: l) ((ja.d ρ).toNat - i)) = kdD d := fun h => by
   rw [show (ja.d ρ).toNat - i = 0 by omega]; rfl
  have hpick1 : ¬ (ja.d ρ <= (i : Int)) -> pickJ (d :: d2 :: l) ((ja.d ρ).toNat - i) = pickJ (d2 :: l) ((ja.d ρ).toNat - (i + 1)) := fun h => by
   rw [show (ja.d ρ).toNat - i = ((ja.d ρ).toNat - (i + 1)) + 1 by omega]; rfl
  refine ⟨fun k q t hk => ?_, fun d' hd' => ?_⟩
  ·unfold getK at hk
   split at hk
   ·rename_i he
    simp only [Option.some.injEq, Prod.mk.injEq] at hk
    obtain ⟨rfl, rfl⟩ := hk
    refine ⟨rfl, ?_⟩
    have hkk := Kd.eq_sound he
    subst hkk
    simp only [Gd.d_append, Gd.d_cons, Gd.d_nil, Bool.and_true, Bool.and_eq_true, beq_iff_eq, hev, decide_eq_true_eq]
    constructor
    ·rintro ⟨h1, h2⟩; exact ⟨h1, hpick0 h2⟩
    ·rintro ⟨h1, h2⟩
     refine ⟨h1, ?_⟩
     by_cases hle : ja.d ρ <= (i : Int)
     ·exact hle
     ·rw [hpick1 hle] at h2
      exact absurd h2.symm (hdis _ (pickJ_mem (by simp)))
   ·rename_i hne
    obtain ⟨e1, e2⟩ := i1 k q t hk
    refine ⟨e1, e2.trans ?_⟩
    simp only [Gd.d_append, Gd.d_cons, Gd.d_nil, Bool.and_true, Bool.and_eq_true, beq_iff_eq, hev, decide_eq_false_iff_not]
    constructor
    ·rintro ⟨⟨h1, h2⟩, h3⟩; exact ⟨h1, by rw [hpick1 h2]; exact h3⟩
    ·rintro ⟨h1, h2⟩
     by_cases hle : ja.d ρ <= (i : Int)
     ·rw [hpick0 hle] at h2
      exact absurd (by rw [h2]; exact Kd.eq_refl _) hne
     ·rw [hpick1 hle] at h2
      exact ⟨⟨h1, hle⟩, h2⟩
  ·unfold getK
   by_cases hk : (kdD d').eq (kdD d) = true
   ·rw [if_pos hk]; exact ⟨_, rfl⟩
   ·rw [if_neg hk]
    rcases List.mem_cons.1 hd' with e | hd'
    ·subst e; exact absurd (Kd.eq_refl _) hk
    ·exact i2 d' hd'
def isTt : B -> Bool
 | .c true => true
 | _ => false
def rfOuts (jl : List Code) (js : Js) (s : St) : M Outs :=
 if jl.isEmpty || isTt js.b then do
  let _ <- oblige js.b
  pure [(.n, [], s)]
 else do
  let r <- goJ js.a s jl 0 [(js.b, false)]
  pure ((.n, [(js.b, true)], s) :: r)
theorem rfOuts_ok {Φ : Funs} {ρ : Env} {jl : List Code} {js : Js} {s : St} {O : Outs} {c c' : Ctr} {out : List Em} (h : rfOuts jl js s c = some (O, c', out)) (hg : Good Φ ρ out) (hj : jlOk jl = true) {K : Kd} (hK : K = if js.b.d ρ then .n else kdD (pickJ jl (js.a.d ρ).toNat)) :
  (∀ k q t, getK k O = some (q, t) -> (Gd.d ρ q = true ↔ k = K)) /\ ∃ q, getK K O = some (q, s) := by
 unfold rfOuts at h
 split at h
 ·obtain ⟨u, c1, o1, c2, o2, y, g1, g2, he⟩ := M.bind_inv h
  simp only [Prod.mk.injEq] at he
  obtain ⟨rfl, rfl, rfl⟩ := he
  have he := M.pure_inv g2
  simp only [Prod.mk.injEq] at he
  obtain ⟨rfl, rfl, rfl⟩ := he
  rw [Good.append] at hg
  have hb : js.b.d ρ = true := oblige_snd _ _ _ _ _ g1 hg.1
  rw [hb, if_pos rfl] at hK
  subst hK
  refine ⟨fun k q t hk => ?_, [], by simp [getK, Kd.eq]⟩
  unfold getK at hk
  split at hk
  ·rename_i he
   simp only [Option.some.injEq, Prod.mk.injEq] at hk
   obtain ⟨rfl, rfl⟩ := hk
   simp [Kd.eq_sound he]
  ·simp [getK] at hk
 ·rename_i hc
  simp only [Bool.or_eq_true, List.isEmpty_iff, not_or] at hc
  obtain ⟨r, c1, o1, c2, o2, y, g1, g2, he⟩ := M.bind_inv h
  simp only [Prod.mk.injEq] at he
  obtain ⟨rfl, rfl, rfl⟩ := he
  have he := M.pure_inv g2
  simp only [Prod.mk.injEq] at he
  obtain ⟨rfl, rfl, rfl⟩ := he
  rw [Good.append] at hg
  obtain ⟨i1, i2⟩ := goJ_ok g1 hg.1 hc.1 hj (fun _ => .inr rfl)
  rw [Nat.sub_zero] at i1
  have hnn : ∀ d, d ∈ jl -> kdD d ≠ .n := fun d hd e => by
   have key : ∀ {l : List Code}, jlOk l = true -> d ∈ l -> (kdJ d).isSome = true := by
    intro l
    induction l with
    | nil => intro _ h; cases h
    | cons a l ih =>
     intro h hm
     simp only [jlOk, Bool.and_eq_true] at h
     rcases List.mem_cons.1 hm with rfl | hm
     ·exact h.1.1
     ·exact ih h.2 hm
   have h1 := key hj hd
   unfold kdD at e
   cases d <;> simp [kdJ] at h1 e
  have hpk := hnn _ (pickJ_mem (n := (js.a.d ρ).toNat) hc.1)
  cases hb : js.b.d ρ with
  | true =>
   rw [hb, if_pos rfl] at hK
   subst hK
   refine ⟨fun k q t hk => ?_, _, by simp [getK, Kd.eq]; rfl⟩
   unfold getK at hk
   split at hk
   ·rename_i he
    simp only [Option.some.injEq, Prod.mk.injEq] at hk
    obtain ⟨rfl, rfl⟩ := hk
    simp [Kd.eq_sound he, hb]
   ·rename_i hne
    obtain ⟨_, e2⟩ := i1 k q t hk
    rw [e2]
    simp only [Gd.d_cons, Gd.d_nil, Bool.and_true, hb]
    constructor
    ·rintro ⟨h, _⟩; simp at h
    ·intro e; subst e; exact absurd (Kd.eq_refl _) hne
  | false =>
   rw [hb] at hK
   simp only [Bool.false_eq_true, if_false] at hK
   subst hK
   refine ⟨fun k q t hk => ?_, ?_⟩
   ·unfold getK at hk
    split at hk
    ·rename_i he
     simp only [Option.some.injEq, Prod.mk.injEq] at hk
     obtain ⟨rfl, rfl⟩ := hk
     simp only [Gd.d_cons, Gd.d_nil, Bool.and_true, hb]
     constructor
     ·intro h; simp at h
     ·intro e; rw [Kd.eq_sound he] at e; exact absurd e.symm hpk
    ·obtain ⟨_, e2⟩ := i1 k q t hk
     rw [e2]
     simp only [Gd.d_cons, Gd.d_nil, Bool.and_true, hb]
     constructor
     ·rintro ⟨_, h⟩; exact h.symm
     ·intro e; exact ⟨rfl, e.symm⟩
   ·obtain ⟨q, hq⟩ := i2 _ (pickJ_mem (n := (js.a.d ρ).toNat) hc.1)
    refine ⟨q, ?_⟩
    unfold getK
    rw [if_neg (fun e => hpk (Kd.eq_sound e))]
    exact hq
end Go.Proofs.YtfgbfdlacnihkaaDoor.Sx
namespace Go.Proofs.YtfgbfdlacnihkaaDoor.Sx
open Go

def rfG (s : S) : Option (Nat × List (Nat × Nat)) := match fnOf s with
 | some ([], some p) => if p.1 == yieldN then none else some p
 | _ => none
def rfFn (P : Program) (f : Nat) : Option (Func × Code) := match P.funcs[f]? with
 | some fn => match fn.body with
  | some b => if fn.results.toList.isEmpty && !(fn.name == "runtime.NumGoroutine") then some (fn, b) else none
  | none => none
 | none => none
def rfCtl (P : Program) (H : Hnd) (gl : Gl) (kb : Ctl) (keep : Kp) (D : RfD) (fn : Func) (ll : List (Nat × LAnn)) (turns : Nat) : Ctl :=
 { keep := { l := keepOf fn, fz := keep.fz }, turns := turns, ret := [], base := 1000000000, loops := ll, E := yE P H gl kb keep D }
def rfIn (gl : Gl) (s : St) (fn : Func) (lid : Nat) (caps : List (Nat × Nat)) : St :=
 { tm := (S.one false [.fn [] (some (yieldN, [(lid, 0)]))] :: capS caps).map (fun s => ({ g := [], s := s } : SV)) ++ List.replicate (fn.ntmps - (caps.length + 1)) anySV, hp := s.hp }
def rfEnd (gl : Gl) (s σ : St) : St := { tm := s.tm.map (SV.jk (knN gl.length s.hp)), hp := σ.hp, rb := uniN σ.rb s.rb, js := s.js }
def rfM (P : Program) (H : Hnd) (gl : Gl) (kb : Ctl) (keep : Kp) (ll : List (Nat × LAnn)) (turns : Nat) (g : Operand) (ps : Array Tmp) (asg bd : Code) (s : St) : M Outs := do
 let fv <- lift (rfG (rs [] (ev gl.length s g)))
 let fb <- lift (rfFn P fv.1)
 let _ <- lift (if jlOk (jumpsOf bd) then some () else none)
 let lid <- newId
 let O <- M.mono (exec P H (ghOf gl 0) gl.length (rfCtl P H gl kb keep { lid := lid, T := s.tm.map (SV.tj (knN gl.length s.hp)), ps := ps.toList, asg := asg, bd := bd, jl := jumpsOf bd } fb.1 ll turns) fb.2 (rfIn gl s fb.1 lid fv.2))
 let σ <- M.mono (endSt { l := keepOf fb.1, fz := keep.fz } O)
 M.mono (rfOuts (jumpsOf bd) σ.js (rfEnd gl s σ))
def rfE (P : Program) (H : Hnd) (gl : Gl) (kb : Ctl) (keep : Kp) (ll : List (Nat × LAnn)) (turns : Nat) : XE := { rf := rfM P H gl kb keep ll turns }

theorem mtAll_len2 {β : Beta} {ρ : Env} : ∀ {xs : List S} {vs : List Value}, mtAll β ρ xs vs -> xs.length = vs.length
 | [], [], _ => rfl
 | _ :: _, _ :: _, h => by simp [mtAll_len2 h.2]
def tgts : List Deferred -> List Nat
 | [] => []
 | d :: l => match d.target with
  | .collected D => D :: tgts l
  | _ => tgts l
theorem Marks.tgts {N : Nat} {w : World} : ∀ {l : List Deferred}, Marks N w l -> ∀ D, D ∈ Sx.tgts l -> N <= D /\ w.heap[D]? = some (.deferred (some []))
 | [], _, D, h => by cases h
 | d :: l, ⟨E, e1, e2, e3, e4, e5⟩, D, h => by
  subst e1
  simp only [Sx.tgts] at h
  rcases List.mem_cons.1 h with rfl | h
  ·exact ⟨e2, e3⟩
  ·exact Marks.tgts e5 D h
theorem Marks.of {N : Nat} {w w' : World} : ∀ {l : List Deferred}, Marks N w l -> (∀ D, D ∈ Sx.tgts l -> w'.heap[D]? = some (.deferred (some []))) -> Marks N w' l
 | [], _, _ => trivial
 | d :: l, ⟨E, e1, e2, e3, e4, e5⟩, h => by
  subst e1
  refine ⟨E, rfl, e2, h E (by simp [Sx.tgts]), e4, Marks.of e5 fun D hD => h D ?_⟩
  simp only [Sx.tgts]
  exact List.mem_cons.2 (.inr hD)
theorem Marks.notin {N : Nat} {w : World} {D : Nat} : ∀ {l : List Deferred}, Marks N w l -> (∀ E, E ∈ Sx.tgts l -> E ≠ D) -> ∀ e, e ∈ l -> e.target ≠ .collected D
 | [], _, _, e, he => by cases he
 | d :: l, ⟨E, e1, e2, e3, e4, e5⟩, h, e, he => by
  subst e1
  rcases List.mem_cons.1 he with rfl | he
  ·intro hh
   simp only [Target.collected.injEq] at hh
   exact h E (by simp [Sx.tgts]) hh
  ·exact Marks.notin e5 (fun E' hE' => h E' (by simp only [Sx.tgts]; exact List.mem_cons.2 (.inr hE'))) e he

theorem pickJ_some {n : Nat} : ∀ {l : List Code}, jlOk l = true -> (kdJ (pickJ l n)).isSome = true := by
 have key : ∀ {l : List Code}, jlOk l = true -> ∀ d, d ∈ l -> (kdJ d).isSome = true := by
  intro l
  induction l with
  | nil => intro _ d h; cases h
  | cons a l ih =>
   intro h d hm
   simp only [jlOk, Bool.and_eq_true] at h
   rcases List.mem_cons.1 hm with rfl | hm
   ·exact h.1.1
   ·exact ih h.2 d hm
 intro l h
 cases l with
 | nil => rfl
 | cons c l => exact key h _ (pickJ_mem (by simp))
section
variable {P : Program} {Φ : Funs} {H : Hnd} {x : Cx}
theorem rfG_spec {s : S} {p : Nat × List (Nat × Nat)} (h : rfG s = some p) : p.1 ≠ yieldN /\ ∃ c, s = .one false [c] /\ asFn c = some ([], some p) := by
 unfold rfG at h
 split at h
 ·rename_i q hq
  split at h
  ·cases h
  ·rename_i hy
   simp only [Option.some.injEq] at h
   subst h
   obtain ⟨c, h1, h2⟩ := fnOf_spec hq
   exact ⟨by simpa using hy, c, h1, h2⟩
 ·cases h
theorem rfFn_spec {f : Nat} {fn : Func} {b : Code} (h : rfFn P f = some (fn, b)) : P.funcs[f]? = some fn /\ fn.body = some b /\ fn.results.toList = [] /\ (fn.name == "runtime.NumGoroutine") = false := by
 unfold rfFn at h
 split at h
 ·rename_i fn' hfn
  split at h
  ·rename_i b' hb
   split at h
   ·rename_i hc
    simp only [Bool.and_eq_true, List.isEmpty_iff, Bool.not_eq_true'] at hc
    simp only [Option.some.injEq, Prod.mk.injEq] at h
    obtain ⟨rfl, rfl⟩ := h
    exact ⟨hfn, hb, hc.1, hc.2⟩
   ·cases h
  ·cases h
 ·cases h
theorem rf_ok (hH : HOk P Φ x.gl H) (hG : ∀ w, Keep x.R x.w0 w -> Laid x.gl w) {kb : Ctl} (hxb : GrOk x kb.keep) (hLb : LoopsOk Φ kb) (hEb : kb.E = {}) {keep : Kp} (hx : GrOk x keep) {ll : List (Nat × LAnn)} {turns : Nat} (hLL : ∀ p, p ∈ ll -> Φ p.2.id = loopF (p.2.S.run Φ true) p.2.nI p.2.nB)
  (hrl : x.rl = none) (hlr : x.lr = none) (hds : x.ds = []) (ρ : Env) (g : Operand) (ps : Array Tmp) (asg bd : Code) :
  OkW Φ x ρ (fun Q a w => (Code.rangeFunc g ps asg bd).wpIn (FR x.rl) 0 P Q a w) (rfM P H x.gl kb keep ll turns g ps asg bd) := by
 intro s c c' O' out h hg β a w hR hF Q hQ
 unfold rfM at h
 obtain ⟨fv, c1, o1, c2, o2, y, g1, g2, he⟩ := M.bind_inv h
 simp only [Prod.mk.injEq] at he
 obtain ⟨rfl, rfl, rfl⟩ := he
 obtain ⟨fv', hfv, he⟩ := lift_inv g1
 simp only [Prod.mk.injEq] at he
 obtain ⟨rfl, rfl, rfl⟩ := he
 obtain ⟨fb, c3, o3, c4, o4, y, g3, g4, he⟩ := M.bind_inv g2
 simp only [Prod.mk.injEq] at he
 obtain ⟨rfl, rfl, rfl⟩ := he
 obtain ⟨fb', hfb, he⟩ := lift_inv g3
 simp only [Prod.mk.injEq] at he
 obtain ⟨rfl, rfl, rfl⟩ := he
 obtain ⟨u, c5, o5, c6, o6, y, g5, g6, he⟩ := M.bind_inv g4
 simp only [Prod.mk.injEq] at he
 obtain ⟨rfl, rfl, rfl⟩ := he
 obtain ⟨u', hjl, he⟩ := lift_inv g5
 simp only [Prod.mk.injEq] at he
 obtain ⟨_, rfl, rfl⟩ := he
 obtain ⟨lid, c7, o7, c8, o8, y, g7, g8, he⟩ := M.bind_inv g6
 simp only [Prod.mk.injEq] at he
 obtain ⟨rfl, rfl, rfl⟩ := he
 simp only [newId, Option.some.injEq, Prod.mk.injEq] at g7
 obtain ⟨hlid, hc7, rfl⟩ := g7
 obtain ⟨O, c9, o9, c10, o10, y, g9, g10, he⟩ := M.bind_inv g8
 simp only [Prod.mk.injEq] at he
 obtain ⟨rfl, rfl, rfl⟩ := he
 obtain ⟨σ, c11, o11, c12, o12, y, g11, g12, he⟩ := M.bind_inv g10
 simp only [Prod.mk.injEq] at he
 obtain ⟨rfl, rfl, rfl⟩ := he
 obtain ⟨g9, le9⟩ := mono_inv g9
 obtain ⟨g11, le11⟩ := mono_inv g11
 obtain ⟨g12, le12⟩ := mono_inv g12
 simp only at le9 le11 le12
 simp only [Good.append] at hg
 obtain ⟨_, _, _, _, hg9, hg11, hg12⟩ := hg
 split at hjl
 rotate_left
 ·cases hjl
 rename_i hjok
 obtain ⟨fn, body⟩ := fb
 obtain ⟨hfn, hbody, hres, hname⟩ := rfFn_spec hfb
 obtain ⟨hyn, cc, hcc, hcf⟩ := rfG_spec hfv
 obtain ⟨gf, caps⟩ := fv
 have hvm := asFn_mt hcf (mt_cell hcc (rs_mt (Γ := []) rfl (ev_mt hR g)))
 have hvm : fvMt β (some (gf, caps)) (a.eval g) := hvm
 obtain ⟨ws, hval, hcap⟩ := hvm
 rw [fvVal_ne hyn] at hval
 have hcall := callable_of hfn hname (by rw [hbody]; rfl)
 rw [hrl]
 refine wpIn_rangeFunc (F := Fence.wide) (n := 0) fun fnid _ => ?_
 obtain ⟨rc, hrc⟩ : ∃ rc : Loop, rc = { state := .ready, pending := none, fn := fnid, tmps := a.tmps, params := ps, assign := asg, body := bd, defers := w.heap.size } := ⟨_, rfl⟩
 obtain ⟨W1, hW1⟩ : ∃ W1, W1 = (w.alloc (.deferred (some []))).alloc (.loop rc) := ⟨_, rfl⟩
 have hsz1 : W1.heap.size = w.heap.size + 2 := by rw [hW1]; simp
 have hL1 : W1.heap[w.heap.size + 1]? = some (.loop rc) := by
  rw [hW1]; have := World.alloc_heap_new (w.alloc (.deferred (some []))) (.loop rc); rwa [World.size_alloc] at this
 have hK1 : W1.heap[w.heap.size]? = some (.deferred (some [])) := by
  rw [hW1]; exact (Go.RowKit.Below.heap_alloc _ _ _ (by simp)).trans (World.alloc_heap_new w _)
 have hkeep : Keep [] w W1 := by
  rw [hW1]
  exact (Keep.alloc [] w _).trans (Keep.alloc [] _ _) (fun r hr => by cases hr)
 have hN : x.w0.heap.size <= w.heap.size := hR.kp.size
 refine ⟨w.heap.size + 1, [{ target := .collected w.heap.size, args := #[] }], W1, { target := .fn (.func gf) ws.toArray, args := #[.func (.yield (w.heap.size + 1)) #[] #[]] }, W1, gf,
  #[.func (.yield (w.heap.size + 1)) #[] #[]] ++ ws.toArray, W1, ?_, ?_, fun _ _ => trivial, ?_, fun hh => (by cases hh), ?_⟩
 ·rw [hW1, hrc]; exact run_enterLoop_outer _ _ _ _ _
 ·simp only [resolve, hval]
  simp [go_sem]
 ·simp [invoke, hcall]
 obtain ⟨q1, hq1⟩ : ∃ q1 : Rg, q1 = { blk := w.heap.size + 1, off := 0, len := 0, ro := true } := ⟨_, rfl⟩
 obtain ⟨β1, hβ1⟩ : ∃ β1, β1 = β.set lid q1 := ⟨_, rfl⟩
 have hfree : β lid = none := by rw [<- hlid]; exact hF _ (Nat.le_refl _)
 have hext : ∀ p, ExtP p β β1 := fun p => by rw [hβ1]; exact Beta.set_ext p hfree
 have hbo1 : BetaOk x.w0.heap.size x.R x.Q β1 W1 := by
  rw [hβ1]
  refine hR.bo.bind (W := []) (by simp) hkeep (fun j q _ _ => .inr ?_) (.inl (by rw [hq1])) (.inl (by rw [hq1])) (fun ks l he => by rw [hq1] at he; cases he) (fun _ => .inl (by rw [hq1]; simp only; omega)) (fun he => by rw [hq1] at he; cases he)
  unfold Rg.apart
  rw [hq1]
  simp
 obtain ⟨r, hr⟩ : ∃ r : LpRec, r = { l := w.heap.size + 1, rc := rc, jl := jumpsOf bd } := ⟨_, rfl⟩
 obtain ⟨xc, hxc⟩ : ∃ xc : Cx, xc = { x with b0 := β1, lr := some r, ds := w.heap.size :: tgts a.defers } := ⟨_, rfl⟩
 obtain ⟨D, hD⟩ : ∃ D : RfD, D = { lid := lid, T := s.tm.map (SV.tj (knN x.gl.length s.hp)), ps := ps.toList, asg := asg, bd := bd, jl := jumpsOf bd } := ⟨_, rfl⟩
 rw [<- hD] at g9
 have hrco : RcOk xc D r := by
  refine ⟨by rw [hxc], by rw [hr], by rw [hr, hD], by rw [hr, hrc, hD], by rw [hr, hrc, hD], by rw [hr, hrc, hD], by rw [hr, hrc, hD, List.length_map]; exact hR.size, fun β' ρ' hE t v hv => ?_, ⟨q1, by rw [hxc, hD, hβ1]; exact Beta.set_same _ _ _, by rw [hq1], by rw [hq1, hr]⟩, by rw [hxc]; exact hrl⟩
  rw [hxc] at hE
  rw [hD] at hv
  simp only [List.getElem?_map, Option.map_eq_some_iff] at hv
  obtain ⟨u, hu, rfl⟩ := hv
  rw [hr, hrc]
  exact SV.tj_mt (knN_keep hR ((hext (fun _ => true)).ext.trans hE)) (hR.slot t u hu)
 have hwold : ∀ k o, w.heap[k]? = some o -> W1.heap[k]? = some o := fun k o hk => by
  rw [hkeep.blk k (Array.getElem?_eq_some_iff.1 hk).1 (fun r hr => by cases hr)]; exact hk
 have hRc : Rel xc ρ β1 (rfIn x.gl s fn lid caps) { tmps := (#[Value.func (.yield (w.heap.size + 1)) #[] #[]] ++ ws.toArray) ++ Array.replicate (fn.ntmps - (#[Value.func (.yield (w.heap.size + 1)) #[] #[]] ++ ws.toArray).size) undef, defers := [] } W1 := by
  have hcap1 : capMt β1 caps ws := tj_cap (p := fun _ => true) (fun i r _ hi => (hext (fun _ => true)) i r hi (.inr rfl)) (List.all_eq_true.2 fun _ _ => rfl) hcap
  have hms : mtAll β1 ρ (S.one false [.fn [] (some (yieldN, [(lid, 0)]))] :: capS caps) (.func (.yield (w.heap.size + 1)) #[] #[] :: ws) := by
   refine ⟨⟨_, rfl, [.pointer (some ⟨w.heap.size + 1, 0, none⟩)], ?_, ⟨q1, by rw [hβ1]; exact Beta.set_same _ _ _, by rw [hq1]; rfl⟩, trivial⟩, capS_mt hcap1⟩
   unfold fvVal
   rw [if_pos rfl]
  have hlen := mtAll_len2 hms
  have hcl : caps.length + 1 = ws.length + 1 := by simpa [capS] using hlen
  have e : (#[Value.func (.yield (w.heap.size + 1)) #[] #[]] ++ ws.toArray) ++ Array.replicate (fn.ntmps - (#[Value.func (.yield (w.heap.size + 1)) #[] #[]] ++ ws.toArray).size) undef = ((Value.func (.yield (w.heap.size + 1)) #[] #[] :: ws) ++ List.replicate (fn.ntmps - (caps.length + 1)) undef).toArray := by
   apply Array.toList_inj.1
   rw [hcl]
   simp [Nat.add_comm]
  refine ⟨?_, fun t v hv => ?_, ⟨fun r' hr' => ?_, fun E hE => ?_, trivial, fun _ => rfl⟩, fun id b hb hbg => ?_, fun id b hb hbg => ?_, ?_, ?_, ?_, ?_, ?_, ?_⟩
  ·rw [e]
   simp [rfIn, capS, hcl]
   omega
  ·rw [e]
   have := args_slots hms (show ((S.one false [.fn [] (some (yieldN, [(lid, 0)]))] :: capS caps).map (fun s => ({ g := [], s := s } : SV)) ++ List.replicate (fn.ntmps - (caps.length + 1)) anySV)[t]? = some v from hv)
   simpa using this
  ·rw [hxc] at hr'
   simp only [Option.some.injEq] at hr'
   subst hr'
   rw [hxc, hr]
   refine ⟨by simp only; omega, ?_⟩
   rw [hL1]
   unfold LpRec.at
   simp only [rfIn, B.d_c, if_true]
   rw [hrc]
  ·rw [hxc] at hE ⊢
   rcases List.mem_cons.1 hE with rfl | hE
   ·exact ⟨hN, hK1⟩
   ·obtain ⟨e1, e2⟩ := hR.df.ma.tgts E hE
    exact ⟨e1, hwold _ _ e2⟩
  ·exact blkMt_keep' (hext (fun _ => true)) hR.bo hkeep (fun r q hr => by cases hr) (hR.hm id b hb hbg)
  ·have e : xc.gh = x.gh := by rw [hxc]; rfl
   rw [e] at hb
   exact blkMt_keep' (hext (fun _ => true)) hR.bo hkeep (fun r q hr => by cases hr) (hR.gm id b hb hbg)
  ·have e : xc.gh = x.gh := by rw [hxc]; rfl
   rw [e]; exact hR.gro
  ·rw [hxc]; exact hbo1
  ·rw [hxc]; exact hR.kp.trans hkeep (fun r hr => by cases hr)
  ·rw [hxc]; exact fun g vs hgv => (hext (fun _ => false)).at (hR.gl g vs hgv) rfl
  ·rw [hxc]; exact fun j q hj => ⟨(hR.ra j q hj).1, (hext (fun _ => false)).at (hR.ra j q hj).2 (hR.ra j q hj).1⟩
  ·rw [hxc]; exact ExtP.refl _ _
 have hFc : Fresh β1 c7 := fun i hi => by
  rw [<- hc7] at hi
  simp only at hi
  rw [hβ1, Beta.set_other _ _ (by omega)]
  exact hF i (by omega)
 have hxcG : xc.gl = x.gl := by rw [hxc]
 have hGc : ∀ w, Keep xc.R xc.w0 w -> Laid xc.gl w := by rw [hxc]; exact hG
 have hHc : HOk P Φ xc.gl H := by rw [hxcG]; exact hH
 have hgr : ∀ kp : Kp, GrOk x kp -> GrOk xc kp := fun kp hk => by rw [hxc]; exact hk
 have hkeepc : GrOk xc { l := keepOf fn, fz := keep.fz } := by
  refine hgr _ fun hf => hx hf
 have hEc : EOk P Φ xc (yE P H x.gl kb keep D) := by
  have := yE_ok (P := P) (Φ := Φ) (x := xc) hHc hGc (hgr _ hxb) hLb hEb (hgr _ hx) hrco
  rwa [hxcG] at this
 have hLc : LoopsOk Φ (rfCtl P H x.gl kb keep D fn ll turns) := hLL
 have hex : CodeOk P Φ xc ρ body (exec P H xc.gh xc.ng (rfCtl P H x.gl kb keep D fn ll turns)  body) := exec_ok (x := xc) hHc hGc (rfCtl P H x.gl kb keep D fn ll turns) hkeepc hLc hEc body ρ
 have hrun := hex _ _ _ O _ (by rw [hxc]; exact g9) hg9 β1 _ W1 hRc hFc
  (bodyPostM Fence.wide 0 P fn (rangePost Fence.wide 0 P (w.heap.size + 1) Q { a with defers := [{ target := .collected w.heap.size, args := #[] }] ++ a.defers })) fun e a' w' K hk hO => ?_
 ·refine callsIn_of_wp_marks hfn hbody trivial ?_ rfl
  rw [hxc] at hrun
  simp only [hrl] at hrun
  exact hrun
 ·obtain ⟨hKK, β', hE, hR', hF'⟩ := endSt_ok hkeepc g11 hg11 hO
  have hfin : LeavesInM Fence.wide 0 P fn a'.tmps (rangePost Fence.wide 0 P (w.heap.size + 1) Q { a with defers := [{ target := .collected w.heap.size, args := #[] }] ++ a.defers }) a'.defers .returning w' := by
   have hd' : a'.defers = [] := hR'.df.nm (by rw [hxc]; rfl)
   rw [hd']
   refine ⟨_, results_run (vs := []) (by rw [hres]; rfl), ?_⟩
   obtain ⟨hNl, hrec⟩ := hR'.df.rc r (by rw [hxc])
   rw [hr] at hrec
   obtain ⟨lp, hlp⟩ : ∃ lp, lp = r.at (σ.js.b.d ρ) (σ.js.a.d ρ) := ⟨_, rfl⟩
   have hrec : w'.heap[w.heap.size + 1]? = some (.loop lp) := by rw [hlp, hr]; exact hrec
   have hnb : lp.state ≠ .busy := by
    rw [hlp, hr]
    unfold LpRec.at
    simp only
    split <;> simp
   have hlt := (Array.getElem?_eq_some_iff.1 hrec).1
   refine ⟨_, _, run_endLoop (P := P) hrec hnb, ?_⟩
   have hc := putObj_cell (o' := .loop { lp with state := .exhausted }) hrec rfl rfl
   have hEE : Ext β β' := (hext (fun _ => true)).ext.trans hE
   have hRel : Rel x ρ β' (rfEnd x.gl s σ) { a with defers := [{ target := .collected w.heap.size, args := #[] }] ++ a.defers } (w'.putObj (w.heap.size + 1) (.loop { lp with state := .exhausted })) := by
    have hds' := hR'.df.ds
    have hopen : ∀ E, E = w.heap.size \/ E ∈ tgts a.defers -> (w'.putObj (w.heap.size + 1) (.loop { lp with state := .exhausted })).heap[E]? = some (.deferred (some [])) := fun E hE => by
     obtain ⟨_, e2⟩ := hds' E (by rw [hxc]; simp only [List.mem_cons]; exact hE)
     exact (World.putObj_heap_other (fun e => by subst e; rw [hrec] at e2; cases e2)).trans e2
    have e : x.gh = xc.gh := by rw [hxc]; rfl
    refine ⟨by simp only [rfEnd, List.length_map]; exact hR.size, getD_map_jk (knN_mv hR hEE) hR.slot, ⟨fun r' hr' => (by rw [hlr] at hr'; cases hr'), fun E hE => (by rw [hds] at hE; cases hE), ?_, fun hh => (by rw [hlr] at hh; cases hh)⟩, fun id b hb hbg => blkMt_cells hc (hR'.hm id b hb hbg), by rw [e]; exact fun id b hb hbg => blkMt_cells hc (hR'.gm id b hb hbg), by rw [e]; exact hR'.gro, ?_, ?_, ?_, ?_, ?_⟩
    ·refine ⟨w.heap.size, rfl, hN, hopen _ (.inl rfl), hR.df.ma.notin fun E hE e => ?_, hR.df.ma.of fun E hE => hopen E (.inr hE)⟩
     have := (Array.getElem?_eq_some_iff.1 (hR.df.ma.tgts E hE).2).1
     omega
    ·have := hR'.bo
     rw [hxc] at this
     exact betaOk_cells (fun a => (hc a).1) (by rw [World.putObj_size]; exact Nat.le_refl _) this
    ·have := hR'.kp
     rw [hxc] at this
     exact putObj_keep this (by omega) hrec rfl rfl
    ·have := hR'.gl; rw [hxc] at this; exact this
    ·have := hR'.ra; rw [hxc] at this; exact this
    ·have := hR'.eb
     rw [hxc] at this
     have h1 : ExtP (pOf s.rb) x.b0 β1 := fun i q hi hp => (hext (fun _ => true)) i q (hR.eb i q hi hp) (.inr rfl)
     exact ExtP.uni h1 this
   obtain ⟨K', hK'⟩ : ∃ K', K' = if σ.js.b.d ρ then Kd.n else kdD (pickJ (jumpsOf bd) (σ.js.a.d ρ).toNat) := ⟨_, rfl⟩
   obtain ⟨j1, q, j2⟩ := rfOuts_ok g12 hg12 hjok hK'
   have hout : OutMt x ρ β c' O' K' { a with defers := [{ target := .collected w.heap.size, args := #[] }] ++ a.defers } (w'.putObj (w.heap.size + 1) (.loop { lp with state := .exhausted })) :=
    ⟨j1, q, _, β', j2, hEE, hRel, hF'.le (by omega)⟩
   have hpend : lp.pending = if σ.js.b.d ρ then none else some (pickJ (jumpsOf bd) (σ.js.a.d ρ).toNat) := by
    rw [hlp, hr]
    unfold LpRec.at
    simp only
    split <;> rfl
   generalize (w'.putObj (w.heap.size + 1) (.loop { lp with state := .exhausted })) = w4 at hout ⊢
   rw [hpend]
   cases hb : σ.js.b.d ρ with
   | true =>
    rw [hb, if_pos rfl] at hK'
    subst hK'
    exact hQ .normal _ _ .n rfl hout
   | false =>
    rw [hb] at hK'
    simp only [Bool.false_eq_true, if_false] at hK' ⊢
    obtain ⟨pc, hpc⟩ : ∃ pc, pc = pickJ (jumpsOf bd) (σ.js.a.d ρ).toNat := ⟨_, rfl⟩
    have hps : (kdJ pc).isSome = true := by rw [hpc]; exact pickJ_some hjok
    rw [<- hpc] at hK' ⊢
    cases pc with
    | ret =>
     subst hK'
     exact wpIn_ret (hQ .ret _ _ _ rfl hout)
    | exit id =>
     subst hK'
     exact wpIn_exit (hQ (.exit id) _ _ _ rfl hout)
    | _ => simp [kdJ] at hps
  rcases hKK with rfl | rfl
  ·rw [kdOf_n hk]
   exact hfin
  ·cases e <;> simp only [kdOf, Option.some.injEq] at hk <;> (try (cases hk; done))
   exact hfin
theorem rfE_ok (hH : HOk P Φ x.gl H) (hG : ∀ w, Keep x.R x.w0 w -> Laid x.gl w) {kb : Ctl} (hxb : GrOk x kb.keep) (hLb : LoopsOk Φ kb) (hEb : kb.E = {}) {keep : Kp} (hx : GrOk x keep) {ll : List (Nat × LAnn)} {turns : Nat} (hLL : ∀ p, p ∈ ll -> Φ p.2.id = loopF (p.2.S.run Φ true) p.2.nI p.2.nB)
  (hrl : x.rl = none) (hlr : x.lr = none) (hds : x.ds = []) : EOk P Φ x (rfE P H x.gl kb keep ll turns) :=
 ⟨fun ρ g ps asg bd => rf_ok hH hG hxb hLb hEb hx hLL hrl hlr hds ρ g ps asg bd, fun ρ ops draw s m hm => by cases hm⟩
end
def ctlB (fn : Func) (lb : List (Nat × LAnn)) : Ctl := { keep := { l := keepOf fn, fz := true }, turns := 400, ret := [], base := 1000000000, loops := lb }
def ctlR (P : Program) (H : Hnd) (gl : Gl) (fn : Func) (s : Sum) (lo lb ll : List (Nat × LAnn)) : Ctl :=
 { ctlOf fn gl s with loops := lo, E := rfE P H gl (ctlB fn lb) { l := List.replicate 1000 true, fz := true } ll 400 }
theorem EAll.rf {P : Program} {Φ : Funs} {gl : Gl} {H : Hnd} (hH : HOk P Φ gl H) {fn : Func} {s : Sum} {lo lb ll : List (Nat × LAnn)} (hlb : ∀ p, p ∈ lb -> Φ p.2.id = loopF (p.2.S.run Φ true) p.2.nI p.2.nB) (hll : ∀ p, p ∈ ll -> Φ p.2.id = loopF (p.2.S.run Φ true) p.2.nI p.2.nB) :
  EAll P Φ gl (ctlR P H gl fn s lo lb ll) := fun x h1 h2 h3 h4 h5 h6 => by
 subst h1
 have hg : ∀ kp : Kp, GrOk x kp := fun kp _ => h5 rfl
 exact rfE_ok (kb := ctlB fn lb) hH h6 (hg _) hlb rfl (hg _) hll h2 h3 h4
end Go.Proofs.YtfgbfdlacnihkaaDoor.Sx
namespace Go.Proofs.YtfgbfdlacnihkaaDoor.Sx
open Go

def Beta.cutF (β : Beta) (f : Nat -> Bool) (m : Nat) (p : List Rg) : Beta := fun i => if f i then β i else if m <= i then p[i - m]? else none
theorem cutF_kn {β : Beta} {f : Nat -> Bool} {m : Nat} {p : List Rg} {i : Nat} {r : Rg} (hf : f i = true) (h : β i = some r) : β.cutF f m p i = some r := by
 unfold Beta.cutF; rw [if_pos hf]; exact h
def CutOk (f : Nat -> Bool) (m : Nat) : Prop := ∀ i, m <= i -> f i = false
theorem cutF_pool {β : Beta} {f : Nat -> Bool} {m : Nat} (hm : CutOk f m) {r : Rg} {p : List Rg} (h : r ∈ p) : ∃ i, β.cutF f m p i = some r := by
 obtain ⟨j, hj⟩ := List.mem_iff_getElem?.1 h
 exact ⟨m + j, by unfold Beta.cutF; rw [if_neg (by rw [hm _ (by omega)]; simp), if_pos (by omega), Nat.add_sub_cancel_left]; exact hj⟩
theorem cutF_inv {β : Beta} {f : Nat -> Bool} {m : Nat} {p : List Rg} {i : Nat} {r : Rg} (h : β.cutF f m p i = some r) : (f i = true /\ β i = some r) \/ (m <= i /\ p[i - m]? = some r) := by
 unfold Beta.cutF at h
 split at h
 ·rename_i hf; exact .inl ⟨hf, h⟩
 ·split at h
  ·rename_i hm; exact .inr ⟨hm, h⟩
  ·cases h
theorem cutF_from {β : Beta} {f : Nat -> Bool} {m : Nat} {p : List Rg} (hsq : ∀ i r, β i = some r -> r.sq.isSome = true -> r.ro = true /\ r.row = false) (hp : ∀ r, r ∈ p -> ∃ i, β i = some r /\ r.sq.isSome = true) {i : Nat} {r : Rg} (h : β.cutF f m p i = some r) :
  ∃ i0, β i0 = some r /\ (i0 = i /\ f i = true \/ r.ro = true /\ r.row = false) := by
 rcases cutF_inv h with ⟨h1, h2⟩ | ⟨_, h2⟩
 ·exact ⟨i, h2, .inl ⟨rfl, h1⟩⟩
 ·obtain ⟨i0, e1, e2⟩ := hp r (List.mem_of_getElem? h2)
  exact ⟨i0, e1, .inr (hsq i0 r e1 e2)⟩
def okL (f : Nat -> Bool) (l : List C) : Bool := l.all fun c => c.ids.all f
def okS (f : Nat -> Bool) : S -> Bool
 | .one _ l => okL f l
 | .tup l => l.all fun p => okL f p.2
 | .any => true
def cnC : C -> Nat
 | .slx _ _ _ => 1
 | .pxq _ _ _ _ => 1
 | _ => 0
def cnL : List C -> Nat
 | [] => 0
 | c :: l => cnC c + cnL l
def cnT : List (Bool × List C) -> Nat
 | [] => 0
 | p :: l => cnL p.2 + cnT l
def cnS : S -> Nat
 | .one _ l => cnL l
 | .tup l => cnT l
 | .any => 0
def cnXs : List S -> Nat
 | [] => 0
 | s :: l => cnS s + cnXs l
def cnHl : List (Nat × Blk) -> Nat
 | [] => 0
 | p :: l => cnL p.2.cells + cnHl l
section
variable {f : Nat -> Bool} {m : Nat} {β : Beta} {ρ : Env} (hm : CutOk f m)
theorem cutF_cap {p : List Rg} : ∀ {l : List (Nat × Nat)} {vs : List Value}, (l.map (·.1)).all f = true -> capMt β l vs -> capMt (β.cutF f m p) l vs
 | [], [], _, _ => trivial
 | q :: l, v :: vs, h, ⟨⟨r, hr, hv⟩, h2⟩ => by
  simp only [List.map_cons, List.all_cons, Bool.and_eq_true] at h
  exact ⟨⟨r, cutF_kn h.1 hr, hv⟩, cutF_cap h.2 h2⟩
 | [], _ :: _, _, h => h.elim
 | _ :: _, [], _, h => h.elim
include hm
theorem cutF_C {c : C} {v : Value} (hc : c.ids.all f = true) (h : c.mt β ρ v) : Pool β (cnC c) fun p => c.mt (β.cutF f m p) ρ v := by
 cases c with
 | ptr l id off =>
  obtain ⟨r, hr, hv⟩ := h
  refine Pool.triv fun p => ⟨r, cutF_kn ?_ hr, hv⟩
  simp only [C.ids, List.all_cons, Bool.and_eq_true] at hc
  rcases pick_mem (ρ := ρ) id off l with e | e
  ·rw [e]; exact hc.1
  ·exact List.all_eq_true.1 hc.2 _ e
 | pix id off s len a k => obtain ⟨h1, h2, r, hr, hv⟩ := h; exact Pool.triv fun p => ⟨h1, h2, r, cutF_kn (by simpa [C.ids] using hc) hr, hv⟩
 | sli id off len cap => obtain ⟨r, hr, hv⟩ := h; exact Pool.triv fun p => ⟨r, cutF_kn (by simpa [C.ids] using hc) hr, hv⟩
 | slx ks q len =>
  obtain ⟨h1, h2, p, cap, hv, hcap, h3⟩ := h
  rcases h3 with h3 | ⟨i, r, o, l, hr, hs, h4⟩
  ·exact Pool.triv fun p' => ⟨h1, h2, p, cap, hv, hcap, .inl h3⟩
  ·refine ⟨[r], by simp [cnC], fun r' hr' => ?_, fun p' hp => ?_⟩
   ·rw [List.mem_singleton.1 hr']
    exact ⟨i, hr, by obtain ⟨L, j, e, _⟩ := hs; rw [e]; rfl⟩
   ·obtain ⟨i', hi'⟩ := cutF_pool (β := β) hm (hp r (by simp))
    exact ⟨h1, h2, p, cap, hv, hcap, .inr ⟨i', r, o, l, hi', hs, h4⟩⟩
 | pxq ks q a k =>
  obtain ⟨h1, i, r, o, l, hr, hs, h2⟩ := h
  refine ⟨[r], by simp [cnC], fun r' hr' => ?_, fun p' hp => ?_⟩
  ·rw [List.mem_singleton.1 hr']
   exact ⟨i, hr, by obtain ⟨L, j, e, _⟩ := hs; rw [e]; rfl⟩
  ·obtain ⟨i', hi'⟩ := cutF_pool (β := β) hm (hp r (by simp))
   exact ⟨h1, i', r, o, l, hi', hs, h2⟩
 | slm id ks => obtain ⟨r, cap, q, hr, h2⟩ := h; exact Pool.triv fun p => ⟨r, cap, q, cutF_kn (by simpa [C.ids] using hc) hr, h2⟩
 | pxm id ks a k => obtain ⟨h1, r, hr, h2⟩ := h; exact Pool.triv fun p => ⟨h1, r, cutF_kn (by simpa [C.ids] using hc) hr, h2⟩
 | fn l d =>
  have hpf := pickF_ids (ρ := ρ) hc
  have h : fvMt β (pickF ρ l d) v := h
  refine Pool.triv fun p => ?_
  show fvMt (β.cutF f m p) (pickF ρ l d) v
  unfold fvMt at *
  cases hd : pickF ρ l d with
  | none => rw [hd] at h; exact h
  | some q =>
   rw [hd] at h hpf
   obtain ⟨vs, h1, h2⟩ := h
   exact ⟨vs, h1, cutF_cap hpf h2⟩
 | mp id => obtain ⟨r, hr, hv⟩ := h; exact Pool.triv fun p => ⟨r, cutF_kn (by simpa [C.ids] using hc) hr, hv⟩
 | vec => exact h.elim
 | int => exact Pool.triv fun p => h
 | bool => exact Pool.triv fun p => h
 | emp => exact Pool.triv fun p => h
 | val => exact Pool.triv fun p => h
 | junk => exact Pool.triv fun p => h
 | str => exact Pool.triv fun p => h
theorem cutF_L : ∀ {l : List C} {vs : List Value}, okL f l = true -> mtL β ρ l vs -> Pool β (cnL l) fun p => mtL (β.cutF f m p) ρ l vs
 | [], [], _, _ => Pool.triv fun _ => trivial
 | c :: l, v :: vs, hc, ⟨h1, h2⟩ => by
  simp only [okL, List.all_cons, Bool.and_eq_true] at hc
  exact (cutF_C hm hc.1 h1).and (cutF_L hc.2 h2)
 | [], _ :: _, _, h => h.elim
 | _ :: _, [], _, h => h.elim
theorem cutF_cells {w : World} {b : Nat} : ∀ {l : List C} {o : Nat}, okL f l = true -> cellsAt β ρ w b o l -> Pool β (cnL l) fun p => cellsAt (β.cutF f m p) ρ w b o l
 | [], _, _, _ => Pool.triv fun _ => trivial
 | c :: l, o, hc, ⟨⟨v, hv, h1⟩, h2⟩ => by
  simp only [okL, List.all_cons, Bool.and_eq_true] at hc
  exact ((cutF_C hm hc.1 h1).imp (Nat.le_refl _) fun p h => ⟨v, hv, h⟩).and (cutF_cells hc.2 h2)
theorem cutF_1 {agg : Bool} {l : List C} {v : Value} (hc : okL f l = true) (h : mt1 β ρ agg l v) : Pool β (cnL l) fun p => mt1 (β.cutF f m p) ρ agg l v := by
 unfold mt1 at *
 cases agg
 ·obtain ⟨c, rfl, h⟩ := h
  simp only [okL, List.all_cons, List.all_nil, Bool.and_true] at hc
  exact (cutF_C hm hc h).imp (Nat.le_refl _) fun p h => ⟨c, rfl, h⟩
 ·obtain ⟨vs, rfl, h⟩ := h
  exact (cutF_L hm hc h).imp (Nat.le_refl _) fun p h => ⟨vs, rfl, h⟩
theorem cutF_T : ∀ {l : List (Bool × List C)} {vs : List Value}, (l.all fun p => okL f p.2) = true -> mtT β ρ l vs -> Pool β (cnT l) fun p => mtT (β.cutF f m p) ρ l vs
 | [], [], _, _ => Pool.triv fun _ => trivial
 | p :: l, v :: vs, hc, ⟨h1, h2⟩ => by
  simp only [List.all_cons, Bool.and_eq_true] at hc
  exact (cutF_1 hm hc.1 h1).and (cutF_T hc.2 h2)
 | [], _ :: _, _, h => h.elim
 | _ :: _, [], _, h => h.elim
theorem cutF_S {s : S} {v : Value} (hc : okS f s = true) (h : s.mt β ρ v) : Pool β (cnS s) fun p => s.mt (β.cutF f m p) ρ v := by
 cases s with
 | one agg l => exact cutF_1 hm hc h
 | tup l => obtain ⟨vs, h1, h2⟩ := h; exact (cutF_T hm hc h2).imp (Nat.le_refl _) fun p h => ⟨vs, h1, h⟩
 | any => exact Pool.triv fun _ => trivial
theorem cutF_All : ∀ {xs : List S} {vs : List Value}, xs.all (okS f) = true -> mtAll β ρ xs vs -> Pool β (cnXs xs) fun p => mtAll (β.cutF f m p) ρ xs vs
 | [], [], _, _ => Pool.triv fun _ => trivial
 | x :: xs, v :: vs, hc, ⟨h1, h2⟩ => by
  simp only [List.all_cons, Bool.and_eq_true] at hc
  exact (cutF_S hm hc.1 h1).and (cutF_All hc.2 h2)
 | [], _ :: _, _, h => h.elim
 | _ :: _, [], _, h => h.elim
theorem cutF_blk {w : World} {id : Nat} {b : Blk} (hi : f id = true) (hc : okL f b.cells = true) (h : blkMt β ρ w id b) : Pool β (cnL b.cells) fun p => blkMt (β.cutF f m p) ρ w id b := by
 cases hv : vecOf b.cells with
 | none =>
  obtain ⟨r, hr, h0, hl, hro, hcs, hf⟩ := (blkMt_cs hv).1 h
  exact (cutF_cells hm hc hcs).imp (Nat.le_refl _) fun p hp => (blkMt_cs hv).2 ⟨r, cutF_kn hi hr, h0, hl, hro, hp, hf⟩
 | some y =>
  obtain ⟨h0, r, cap, l, hr, hh⟩ := (blkMt_row hv).1 h
  exact Pool.triv fun p => (blkMt_row hv).2 ⟨h0, r, cap, l, cutF_kn hi hr, hh⟩
theorem cutF_hl {w : World} : ∀ {l : List (Nat × Blk)}, (∀ q, q ∈ l -> f q.1 = true /\ okL f q.2.cells = true /\ blkMt β ρ w q.1 q.2) -> Pool β (cnHl l) fun p => ∀ q, q ∈ l -> blkMt (β.cutF f m p) ρ w q.1 q.2
 | [], _ => Pool.triv fun p q h => by cases h
 | u :: l, hc => by
  obtain ⟨h1, h2, h3⟩ := hc u (by simp)
  refine ((cutF_blk hm h1 h2 h3).and (cutF_hl (w := w) fun q hq => hc q (by simp [hq]))).imp (Nat.le_refl _) fun p h q hq => ?_
  rcases List.mem_cons.1 hq with rfl | hq
  ·exact h.1
  ·exact h.2 q hq
end

def argIds : List S -> List Nat
 | [] => []
 | x :: xs => sIds x ++ argIds xs
def calleeHp (ng lo : Nat) (Γ : Gd) (hp : Hp) : List Nat -> Hl
 | [] => []
 | i :: l => if Nat.blt i ng || !(Nat.blt i lo) then calleeHp ng lo Γ hp l else match hp i with
  | some b => if Gd.sub b.g Γ && !b.cells.isEmpty then (i, { g := [], ro := b.ro, cells := b.cells }) :: calleeHp ng lo Γ hp l else calleeHp ng lo Γ hp l
  | none => calleeHp ng lo Γ hp l
theorem calleeHp_spec {ng lo : Nat} {Γ : Gd} {hp : Hp} : ∀ {l : List Nat} {i : Nat} {b : Blk}, hpOf (calleeHp ng lo Γ hp l) i = some b -> ng <= i /\ i < lo /\ b.g = [] /\ b.cells ≠ [] /\ ∃ b', hp i = some b' /\ Gd.sub b'.g Γ = true /\ b.ro = b'.ro /\ b.cells = b'.cells
 | [], i, b, h => by simp [calleeHp, hpOf] at h
 | j :: l, i, b, h => by
  unfold calleeHp at h
  split at h
  ·exact calleeHp_spec h
  ·rename_i hj
   simp only [Bool.or_eq_true, Nat.blt_eq, Bool.not_eq_true', not_or, Bool.not_eq_false, Nat.not_lt] at hj
   split at h
   ·rename_i b' hb'
    split at h
    ·rename_i hc
     simp only [Bool.and_eq_true, Bool.not_eq_true', List.isEmpty_eq_false_iff] at hc
     unfold hpOf at h
     split at h
     ·rename_i he
      simp only [beq_iff_eq] at he
      simp only [Option.some.injEq] at h
      subst he; subst h
      exact ⟨hj.1, hj.2, rfl, hc.2, b', hb', hc.1, rfl, rfl⟩
     ·exact calleeHp_spec h
    ·exact calleeHp_spec h
   ·exact calleeHp_spec h
def hasB (h : Hl) (i : Nat) : Bool := match hpOf h i with | some _ => true | none => false
def outOld (h : Hl) : Hl -> Option (List (Nat × Blk))
 | [] => some []
 | (i, b) :: l => match outOld h l with
  | none => none
  | some r => if b.ro then some r else match hpOf h i with
   | some b' => if b'.g.isEmpty && !b'.ro then some ((i, b') :: r) else none
   | none => none
def isNewB (lo : Nat) (b : Blk) (i : Nat) : Bool := Nat.ble lo i && b.g.isEmpty && !b.ro
def outNew (lo : Nat) (h : Hl) : List Nat -> List (Nat × Blk)
 | [] => []
 | i :: l => match hpOf h i with
  | some b => if isNewB lo b i then (i, b) :: outNew lo h l else outNew lo h l
  | none => outNew lo h l
def knNew (lo : Nat) (h : Hl) (i : Nat) : Bool := match hpOf h i with | some b => isNewB lo b i | none => false
def tupOf : List S -> Option (List (Bool × List C))
 | [] => some []
 | .one agg l :: r => (tupOf r).map ((agg, l) :: ·)
 | _ => none
def tupS : List S -> Option S
 | [s] => some s
 | l => (tupOf l).map S.tup
theorem tupOf_mt {β : Beta} {ρ : Env} : ∀ {l : List S} {r : List (Bool × List C)} {vs : List Value}, tupOf l = some r -> mtAll β ρ l vs -> mtT β ρ r vs
 | [], r, vs, h, hm => by
  simp only [tupOf, Option.some.injEq] at h
  subst h
  cases vs with
  | nil => trivial
  | cons _ _ => exact hm.elim
 | .one agg l :: r, q, vs, h, hm => by
  unfold tupOf at h
  cases hr : tupOf r with
  | none => rw [hr] at h; simp at h
  | some t =>
   rw [hr] at h
   simp only [Option.map_some, Option.some.injEq] at h
   subst h
   cases vs with
   | nil => exact hm.elim
   | cons v vs => exact ⟨hm.1, tupOf_mt hr hm.2⟩
 | .tup _ :: _, _, _, h, _ => by simp [tupOf] at h
 | .any :: _, _, _, h, _ => by simp [tupOf] at h
theorem tupS_mt {β : Beta} {ρ : Env} {l : List S} {s : S} {vs : List Value} (h : tupS l = some s) (hm : mtAll β ρ l vs) : s.mt β ρ (tupV vs) := by
 unfold tupS at h
 split at h
 ·rename_i s'
  simp only [Option.some.injEq] at h
  subst h
  match vs, hm with
  | [v], ⟨h1, _⟩ => exact h1
 ·rename_i hne
  cases ht : tupOf l with
  | none => rw [ht] at h; simp at h
  | some t =>
   rw [ht] at h
   simp only [Option.map_some, Option.some.injEq] at h
   subst h
   have := tupOf_mt ht hm
   match vs, hm with
   | [], _ => exact ⟨_, rfl, this⟩
   | [v], hm =>
    match l, hm, hne with
    | [s], _, hne => exact (hne s rfl).elim
   | v :: u :: vs, _ => exact ⟨_, rfl, this⟩

def knOf (ng : Nat) (hl : Hl) (i : Nat) : Bool := Nat.blt i ng || hasB hl i
def knEnd (ng lo mid : Nat) (hl h : Hl) (i : Nat) : Bool := Nat.blt i mid && (knOf ng hl i || knNew lo h i)
def inlOk (ng lo : Nat) (hl : Hl) (xs : List S) : Bool :=
 Nat.ble ng lo && xs.all (okS (knOf ng hl)) && hl.all fun p => okL (knOf ng hl) p.2.cells
def inlW (lo : Nat) (h : Hl) (old : List (Nat × Blk)) : List (Nat × Blk) := old ++ outNew lo h (dedupN (h.map (·.1)))
def inlE (ng lo mid : Nat) (hl h : Hl) (s : S) (w : List (Nat × Blk)) : Bool :=
 okS (knEnd ng lo mid hl h) s && w.all fun p => knEnd ng lo mid hl h p.1 && okL (knEnd ng lo mid hl h) p.2.cells
def isVecH (hl : Hl) (i : Nat) : Bool := match hpOf hl i with | some b => (vecOf b.cells).isSome | none => false
def rowsIn (hl : Hl) : Bool := hl.any fun p => isVecH hl p.1
def rbIn (hl : Hl) (rb : List Nat) : List Nat := (hl.map (·.1)).filter fun i => isVecH hl i && rb.contains i
def ctlH (k : Ctl) (lo : Nat) (hl : Hl) : Ctl := { k with base := lo, keep := { k.keep with fz := k.keep.fz && !rowsIn hl } }
def inlSt (fn : Func) (xs : List S) (hl : Hl) : St := { tm := xs.map (fun s => { g := [], s := s }) ++ List.replicate (fn.ntmps - xs.length) anySV, hp := hl }
def inlB (P : Program) (H : Hnd) (gl : Gl) (k : Ctl) (fn : Func) (xs : List S) (lo : Nat) (body : Code) (hl : Hl) : M Res :=
 if inlOk gl.length lo hl xs then do
  let _ <- newIds (cnXs xs + cnHl hl)
  let O <- M.mono (exec P H (ghOf gl 0) gl.length (ctlH k lo hl) body (inlSt fn xs hl))
  let σ <- M.mono (endSt (ctlH k lo hl).keep O)
  let rs <- M.mono (rAll P (ghOf gl 0) gl.length σ fn.results.toList)
  let s <- lift (tupS rs)
  let old <- lift (outOld σ.hp hl)
  let mid <- getId
  let _ <- newIds (cnS s + cnHl (inlW lo σ.hp old))
  if inlE gl.length lo mid hl σ.hp s (inlW lo σ.hp old) then pure { s := s, w := inlW lo σ.hp old, rb := rbIn hl σ.rb } else M.fail
 else M.fail
def inlM (P : Program) (H : Hnd) (gl : Gl) (k : Ctl) (fn : Func) (Γ : Gd) (hp : Hp) (xs : List S) : M Res := do
 let lo <- getId
 let body <- lift fn.body
 inlB P H gl k fn xs lo body (calleeHp gl.length lo Γ hp (dedupN (reachH hp 3 (argIds xs))))
end Go.Proofs.YtfgbfdlacnihkaaDoor.Sx
namespace Go.Proofs.YtfgbfdlacnihkaaDoor.Sx
open Go

theorem hasB_some {h : Hl} {i : Nat} : hasB h i = true ↔ ∃ b, hpOf h i = some b := by
 unfold hasB
 cases hpOf h i <;> simp
theorem outOld_spec {h : Hl} : ∀ {l : Hl} {r : List (Nat × Blk)}, outOld h l = some r -> (∀ p, p ∈ r -> hpOf h p.1 = some p.2 /\ p.2.g = [] /\ p.2.ro = false /\ p.1 ∈ l.map (·.1)) /\ ∀ i b, (i, b) ∈ l -> b.ro = false -> i ∈ r.map (·.1)
 | [], r, e => by
  simp only [outOld, Option.some.injEq] at e
  subst e
  exact ⟨fun p hp => (by cases hp), fun i b hb => (by cases hb)⟩
 | (j, b0) :: l, r, e => by
  unfold outOld at e
  split at e
  ·cases e
  ·rename_i r' hr'
   obtain ⟨h1, h2⟩ := outOld_spec hr'
   split at e
   ·rename_i hro
    simp only [Option.some.injEq] at e
    subst e
    refine ⟨fun p hp => ?_, fun i b hb hbr => ?_⟩
    ·obtain ⟨a1, a2, a3, a4⟩ := h1 p hp
     exact ⟨a1, a2, a3, by simp only [List.map_cons, List.mem_cons]; exact .inr a4⟩
    ·rcases List.mem_cons.1 hb with e | hb
     ·cases e; rw [hro] at hbr; cases hbr
     ·exact h2 i b hb hbr
   ·split at e
    ·rename_i b' hb'
     split at e
     ·rename_i hc
      simp only [Bool.and_eq_true, List.isEmpty_iff, Bool.not_eq_true'] at hc
      simp only [Option.some.injEq] at e
      subst e
      refine ⟨fun p hp => ?_, fun i b hb hbr => ?_⟩
      ·rcases List.mem_cons.1 hp with rfl | hp
       ·exact ⟨hb', hc.1, hc.2, by simp⟩
       ·obtain ⟨a1, a2, a3, a4⟩ := h1 p hp
        exact ⟨a1, a2, a3, by simp only [List.map_cons, List.mem_cons]; exact .inr a4⟩
      ·rcases List.mem_cons.1 hb with e | hb
       ·cases e; simp
       ·simp only [List.map_cons, List.mem_cons]; exact .inr (h2 i b hb hbr)
     ·cases e
    ·cases e
theorem isNewB_spec {lo : Nat} {b : Blk} {i : Nat} (h : isNewB lo b i = true) : lo <= i /\ b.g = [] /\ b.ro = false := by
 unfold isNewB at h
 simp only [Bool.and_eq_true, Nat.ble_eq, List.isEmpty_iff, Bool.not_eq_true'] at h
 exact ⟨h.1.1, h.1.2, h.2⟩
theorem outNew_spec {lo : Nat} {h : Hl} : ∀ {l : List Nat} {p : Nat × Blk}, p ∈ outNew lo h l -> hpOf h p.1 = some p.2 /\ lo <= p.1 /\ p.2.g = [] /\ p.2.ro = false
 | [], p, hp => by cases hp
 | i :: l, p, hp => by
  unfold outNew at hp
  split at hp
  ·rename_i b hb
   split at hp
   ·rename_i hc
    rcases List.mem_cons.1 hp with rfl | hp
    ·obtain ⟨h1, h2, h3⟩ := isNewB_spec hc
     exact ⟨hb, h1, h2, h3⟩
    ·exact outNew_spec hp
   ·exact outNew_spec hp
  ·exact outNew_spec hp
theorem mtAll_len {β : Beta} {ρ : Env} : ∀ {xs : List S} {vs : List Value}, mtAll β ρ xs vs -> xs.length = vs.length
 | [], [], _ => rfl
 | _ :: _, _ :: _, h => by simp [mtAll_len h.2]
def rg0 : Rg := { blk := 0, off := 0, len := 0, ro := true }
def wrIds (hl : Hl) : List Nat := (hl.map (·.1)).filter fun i => match hpOf hl i with | some b => !b.ro | none => false
theorem wrIds_mem {hl : Hl} {i : Nat} : i ∈ wrIds hl ↔ ∃ b, hpOf hl i = some b /\ b.ro = false := by
 unfold wrIds
 rw [List.mem_filter]
 constructor
 ·rintro ⟨_, h⟩
  split at h
  ·rename_i b hb; exact ⟨b, hb, by simpa using h⟩
  ·cases h
 ·rintro ⟨b, hb, hro⟩
  exact ⟨List.mem_map.2 ⟨_, hpOf_mem' hb, rfl⟩, by rw [hb]; simp [hro]⟩
def wrRg (β : Beta) (hl : Hl) : List Rg := (wrIds hl).map fun i => (β i).getD rg0
def wrIdsN (hl : Hl) : List Nat := (wrIds hl).filter fun i => !isVecH hl i
def wrRgN (β : Beta) (hl : Hl) : List Rg := (wrIdsN hl).map fun i => (β i).getD rg0
theorem wrIdsN_all {hl : Hl} (h : rowsIn hl = false) : wrIdsN hl = wrIds hl := by
 unfold wrIdsN
 rw [List.filter_eq_self]
 intro i hi
 cases hv : isVecH hl i with
 | false => rfl
 | true =>
  obtain ⟨b, hb, _⟩ := wrIds_mem.1 hi
  unfold rowsIn at h
  rw [List.any_eq_false] at h
  exact absurd hv (h _ (hpOf_mem' hb))
theorem rbIn_mem {hl : Hl} {rb : List Nat} {i : Nat} : i ∈ rbIn hl rb ↔ isVecH hl i = true /\ i ∈ rb := by
 unfold rbIn
 rw [List.mem_filter]
 simp only [Bool.and_eq_true, List.contains_iff_mem]
 refine ⟨fun h => h.2, fun h => ⟨?_, h⟩⟩
 have h1 := h.1
 unfold isVecH at h1
 split at h1
 ·rename_i b hb; exact List.mem_map.2 ⟨_, hpOf_mem' hb, rfl⟩
 ·cases h1
def inCx (β : Beta) (gl : Gl) (w : World) (hl : Hl) (b0 : Beta) : Cx :=
 { w0 := w, R := wrRg β hl, gl := gl, gr := wrRgN β hl, Q := fun q => ∃ i0 r0, β i0 = some r0 /\ r0.ro = true /\ q.within r0, b0 := b0, gi := fun j => (wrIdsN hl).getD j 0 }
theorem cutF_bo {N : Nat} {R R2 : List Rg} {Q : Rg -> Prop} {β : Beta} {w : World} {f : Nat -> Bool} {m : Nat} {p : List Rg} (hb : BetaOk N R Q β w) (hp : ∀ r, r ∈ p -> ∃ i, β i = some r /\ r.sq.isSome = true) (hcov : ∀ i r, f i = true -> β i = some r -> r.ro = false -> r ∈ R2) :
  BetaOk w.heap.size R2 (fun q => ∃ i0 r0, β i0 = some r0 /\ r0.ro = true /\ q.within r0) (β.cutF f m p) w := by
 have hsq : ∀ i r, β i = some r -> r.sq.isSome = true -> r.ro = true /\ r.row = false := fun i r hi hs => by
  obtain ⟨x, hx⟩ := Option.isSome_iff_exists.1 hs
  have := hb.sq i r x.1 x.2 hi hx
  exact ⟨this.1, this.2.1⟩
 have key : ∀ {i : Nat} {r : Rg}, β.cutF f m p i = some r -> ∃ i0, β i0 = some r /\ (i0 = i /\ f i = true \/ r.ro = true /\ r.row = false) := fun h => cutF_from hsq hp h
 refine ⟨fun i j r q hij hi hj => ?_, fun i r hi => ?_, fun i r hi => ?_, fun i r ks l hi hs => ?_, fun i r hi hro => ?_, fun r q hq hw => ?_, fun i r hi hrow => ?_⟩
 ·obtain ⟨i0, e1, e2⟩ := key hi
  obtain ⟨j0, e3, e4⟩ := key hj
  by_cases he : i0 = j0
  ·subst he
   rw [e1] at e3
   cases e3
   rcases e2 with e2 | e2
   ·rcases e4 with e4 | e4
    ·exact absurd (e2.1.symm.trans e4.1) hij
    ·exact .inl ⟨e4.1, e4.1⟩
   ·exact .inl ⟨e2.1, e2.1⟩
  ·exact hb.apart i0 j0 r q he e1 e3
 ·obtain ⟨i0, e1, _⟩ := key hi; exact hb.place i0 r e1
 ·obtain ⟨i0, e1, e2⟩ := key hi
  rcases e2 with e2 | e2
  ·cases hro : r.ro with
   | true => exact .inl rfl
   | false => exact .inr (.inr ⟨r, hcov i r e2.2 (by rw [<- e2.1]; exact e1) hro, rfl, Nat.le_refl _, Nat.le_refl _⟩)
  ·exact .inl e2.1
 ·obtain ⟨i0, e1, _⟩ := key hi; exact hb.sq i0 r ks l e1 hs
 ·obtain ⟨i0, e1, _⟩ := key hi; exact .inr ⟨i0, r, e1, hro, Rg.within_refl r⟩
 ·obtain ⟨i0, r0, e1, e2, e3⟩ := hq; exact ⟨i0, r0, e1, e2, Rg.within_trans hw e3⟩
 ·obtain ⟨i0, e1, _⟩ := key hi; exact hb.rw i0 r e1 hrow

section
variable {P : Program} {Φ : Funs} {gl : Gl}
theorem knOf_lt {lo : Nat} {Γ : Gd} {hp : Hp} {ids : List Nat} {hl : Hl} (hhl : hl = calleeHp gl.length lo Γ hp ids) (hlo : gl.length <= lo) : CutOk (knOf gl.length hl) lo := fun i hi => by
 cases h : knOf gl.length hl i with
 | false => rfl
 | true =>
  unfold knOf at h
  simp only [Bool.or_eq_true, Nat.blt_eq] at h
  rcases h with h | h
  ·omega
  ·obtain ⟨b, hb'⟩ := hasB_some.1 h
   rw [hhl] at hb'
   obtain ⟨_, h2, _⟩ := calleeHp_spec hb'
   omega
theorem inl_rel {Γ : Gd} {hp : Hp} {xs : List S} {ρ : Env} {N : Nat} {R : List Rg} {Q : Rg -> Prop} {β : Beta} {w : World} {vs : List Value} {lo : Nat} {ids : List Nat} {hl : Hl} (hhl : hl = calleeHp gl.length lo Γ hp ids) (hok : inlOk gl.length lo hl xs = true)
  (hΓ : Gd.d ρ Γ = true) (hm : mtAll β ρ xs vs) (hh : heapMt β ρ hp w) (hb : BetaOk N R Q β w) (hG : GB gl β w) (fn : Func) :
  ∃ p : List Rg, p.length <= cnXs xs + cnHl hl /\ Rel (inCx β gl w hl (β.cutF (knOf gl.length hl) lo p)) ρ (β.cutF (knOf gl.length hl) lo p) (inlSt fn xs hl) { tmps := vs.toArray ++ Array.replicate (fn.ntmps - vs.toArray.size) undef, defers := [] } w /\
   (∀ i b, hpOf hl i = some b -> ∃ r, β i = some r /\ β.cutF (knOf gl.length hl) lo p i = some r /\ r.ro = b.ro /\ r.row = isVecH hl i /\ i < lo /\ gl.length <= i /\ (r.len ≠ 0 -> ∃ j v, w.cell? ⟨r.blk, j, none⟩ = some v)) := by
 unfold inlOk at hok
 simp only [Bool.and_eq_true, Nat.ble_eq] at hok
 obtain ⟨⟨hlo, hxs⟩, hcs⟩ := hok
 have hcut : CutOk (knOf gl.length hl) lo := knOf_lt hhl hlo
 have hblk : ∀ i b, hpOf hl i = some b -> knOf gl.length hl i = true /\ okL (knOf gl.length hl) b.cells = true /\ blkMt β ρ w i b /\ ∃ r, β i = some r /\ r.ro = b.ro /\ r.row = isVecH hl i /\ i < lo /\ gl.length <= i /\ (r.len ≠ 0 -> ∃ j v, w.cell? ⟨r.blk, j, none⟩ = some v) := fun i b hi => by
  have hi' := hi
  rw [hhl] at hi'
  obtain ⟨h1, h2, h3, h4, b', hb', hsub, hro, hc⟩ := calleeHp_spec hi'
  have hmb := hh i b' hb' (Gd.sub_d hsub hΓ)
  have hcb : okL (knOf gl.length hl) b.cells = true := by
   rw [List.all_eq_true] at hcs
   exact hcs _ (hpOf_mem' hi)
  cases hv : vecOf b'.cells with
  | none =>
   have h5 : vecOf b.cells = none := by rw [hc]; exact hv
   have h6 : isVecH hl i = false := by unfold isVecH; rw [hi]; simp only [h5]; rfl
   obtain ⟨r, hr, hrow, hl', hro', hca, hf⟩ := (blkMt_cs hv).1 hmb
   refine ⟨by unfold knOf; simp [hasB_some.2 ⟨b, hi⟩], hcb, (blkMt_cs h5).2 ⟨r, hr, hrow, by rw [hl', hc], by rw [hro', hro], by rw [hc]; exact hca, fun h0 j hj => hf (by rw [<- hro]; exact h0) j (by rw [<- hc]; exact hj)⟩, r, hr, by rw [hro', hro], by rw [hrow, h6], h2, h1, fun _ => ?_⟩
   rw [cellsAt_iff] at hca
   rw [hc] at h4
   obtain ⟨v, hv, _⟩ := hca 0 _ (List.getElem?_eq_getElem (List.length_pos_iff.2 h4))
   exact ⟨_, v, hv⟩
  | some y =>
   have h5 : vecOf b.cells = some y := by rw [hc]; exact hv
   have h6 : isVecH hl i = true := by unfold isVecH; rw [hi]; simp only [h5]; rfl
   obtain ⟨h0, hrm⟩ := (blkMt_row hv).1 hmb
   have hrm0 := hrm
   obtain ⟨r, cap, l, hr, hrow, hro', _, _, _, _, _, _, _, _, hcell⟩ := hrm
   refine ⟨by unfold knOf; simp [hasB_some.2 ⟨b, hi⟩], hcb, (blkMt_row h5).2 ⟨by rw [hro, h0], hrm0⟩, r, hr, by rw [hro', hro, h0], by rw [hrow, h6], h2, h1, fun hz => ?_⟩
   obtain ⟨⟨v, hv, _⟩, _⟩ := hcell 0 (by omega)
   exact ⟨_, v, hv⟩
 obtain ⟨hl1, hhl1⟩ : ∃ hl1, hl1 = ((hl.map (·.1)).filterMap fun i => (hpOf hl i).map fun b => (i, b)) := ⟨_, rfl⟩
 have hmem : ∀ q : Nat × Blk, hpOf hl q.1 = some q.2 -> q ∈ hl := fun q hq => hpOf_mem' hq
 have hpool := (cutF_All hcut hxs hm).and (k := cnXs xs) (l := cnHl hl) (X := fun p => mtAll (β.cutF (knOf gl.length hl) lo p) ρ xs vs) (Y := fun p => ∀ q, q ∈ hl -> hpOf hl q.1 = some q.2 -> blkMt (β.cutF (knOf gl.length hl) lo p) ρ w q.1 q.2) (by
  have key : ∀ l : Hl, Pool β (cnHl l) fun p => ∀ q, q ∈ l -> hpOf hl q.1 = some q.2 -> blkMt (β.cutF (knOf gl.length hl) lo p) ρ w q.1 q.2 := by
   intro l
   induction l with
   | nil => exact Pool.triv fun p q h => by cases h
   | cons u l ih =>
    have h0 : Pool β (cnL u.2.cells) fun p => hpOf hl u.1 = some u.2 -> blkMt (β.cutF (knOf gl.length hl) lo p) ρ w u.1 u.2 := Pool.if fun h => by
     obtain ⟨e1, e2, e3, _⟩ := hblk u.1 u.2 h
     exact cutF_blk hcut e1 e2 e3
    refine (h0.and ih).imp (Nat.le_refl _) fun p h q hq => ?_
    rcases List.mem_cons.1 hq with rfl | hq
    ·exact h.1
    ·exact h.2 q hq
  exact key hl)
 obtain ⟨p, hp1, hp2, hp3⟩ := hpool
 obtain ⟨hm', hh'⟩ := hp3 p fun _ h => h
 have hkn : ∀ i r, knOf gl.length hl i = true -> β i = some r -> β.cutF (knOf gl.length hl) lo p i = some r := fun i r hk hi => cutF_kn hk hi
 have hcov : ∀ i r, knOf gl.length hl i = true -> β i = some r -> r.ro = false -> r ∈ wrRg β hl := fun i r hk hi hro => by
  unfold knOf at hk
  simp only [Bool.or_eq_true, Nat.blt_eq] at hk
  rcases hk with hk | hk
  ·have := hG.2 i _ (List.getElem?_eq_getElem hk)
   rw [hi] at this
   simp only [Option.some.injEq] at this
   rw [this] at hro
   cases hro
  ·obtain ⟨b, hb'⟩ := hasB_some.1 hk
   obtain ⟨_, _, _, r', e1, e2, _⟩ := hblk i b hb'
   rw [hi] at e1
   cases e1
   unfold wrRg
   exact List.mem_map.2 ⟨i, wrIds_mem.2 ⟨b, hb', by rw [<- e2]; exact hro⟩, by rw [hi]; rfl⟩
 refine ⟨p, hp1, ⟨?_, fun t v ht => ?_, Lk.nil rfl rfl _, fun i b hi _ => hh' (i, b) (hpOf_mem' hi) hi, ?_, fun id b hb' => ?_, cutF_bo hb hp2 hcov, Keep.refl _ _, fun g us hg => ?_, fun j r hr => ?_, ExtP.refl _ _⟩, fun i b hi => ?_⟩
 ·simp [inlSt, mtAll_len hm]
 ·have key : ∀ {xs : List S} {vs : List Value} {n : Nat} {t : Nat} {v : SV} {β : Beta}, mtAll β ρ xs vs -> (xs.map (fun s => ({ g := [], s := s } : SV)) ++ List.replicate n anySV)[t]? = some v -> v.mt β ρ ((vs ++ List.replicate n undef).getD t undef) := by
   intro xs
   induction xs with
   | nil =>
    intro vs n t v β hm ht
    simp only [List.map_nil, List.nil_append, List.getElem?_replicate] at ht
    split at ht
    ·simp only [Option.some.injEq] at ht
     subst ht
     exact anySV_mt _
    ·cases ht
   | cons x xs ih =>
    intro vs n t v β hm ht
    cases vs with
    | nil => exact hm.elim
    | cons u vs =>
     cases t with
     | zero =>
      simp at ht
      subst ht
      exact ⟨fun _ => by simpa using hm.1, fun h => by cases h⟩
     | succ t =>
      have := ih (vs := vs) (n := n) (t := t) (v := v) hm.2 (by simpa using ht)
      simpa using this
  have hlen := mtAll_len hm
  have := key hm' ht
  rw [hlen] at this
  rw [List.getD_eq_getElem?_getD] at this
  have e : (vs.toArray ++ Array.replicate (fn.ntmps - vs.toArray.size) undef).getD t undef = ((vs ++ List.replicate (fn.ntmps - vs.length) undef)[t]?).getD undef := by
   have : (vs.toArray ++ Array.replicate (fn.ntmps - vs.toArray.size) undef) = (vs ++ List.replicate (fn.ntmps - vs.length) undef).toArray := by
    apply Array.toList_inj.1; simp
   rw [this]
   simp
  rw [e]
  exact this
 ·intro id b hb' _
  obtain ⟨us, hus, _, rfl⟩ := ghOf_get hb'
  rw [Nat.sub_zero] at hus
  have hus : gl[id]? = some us := hus
  have hlt : id < gl.length := (List.getElem?_eq_some_iff.1 hus).1
  refine blkMt_mk ⟨_, hkn _ _ (by unfold knOf; simp [hlt]) (hG.2 id us hus), rfl, by simp [gRg], rfl, ?_, fun h => by cases h⟩
  rw [cellsAt_iff]
  intro j c hj
  rw [List.getElem?_map] at hj
  cases hu : us[j]? with
  | none => rw [hu] at hj; simp at hj
  | some u =>
   rw [hu] at hj
   simp only [Option.map_some, Option.some.injEq] at hj
   subst hj
   have hl := (hG.1 id us hus).2 j u hu
   exact ⟨u, by simpa [gRg] using hl.1, ofC_mt hl.2⟩
 ·obtain ⟨us, _, _, rfl⟩ := ghOf_get hb'
  rfl
 ·have hg : gl[g]? = some us := hg
  have hlt : g < gl.length := (List.getElem?_eq_some_iff.1 hg).1
  exact hkn _ _ (by unfold knOf; simp [hlt]) (hG.2 g us hg)
 ·have hr : (wrRgN β hl)[j]? = some r := hr
  unfold wrRgN at hr
  rw [List.getElem?_map, Option.map_eq_some_iff] at hr
  obtain ⟨i, hi, rfl⟩ := hr
  have hmem' := List.mem_of_getElem? hi
  unfold wrIdsN at hmem'
  obtain ⟨hm1, hm2⟩ := List.mem_filter.1 hmem'
  obtain ⟨b, hb', hro⟩ := wrIds_mem.1 hm1
  obtain ⟨e0, _, _, r', e1, e2, e3, _⟩ := hblk i b hb'
  rw [e1]
  refine ⟨?_, ?_⟩
  ·show r'.row = false
   rw [e3]; simpa using hm2
  show β.cutF (knOf gl.length hl) lo p ((wrIdsN hl).getD j 0) = some r'
  rw [List.getD_eq_getElem?_getD, hi]
  exact hkn _ _ e0 e1
 ·obtain ⟨e0, _, _, r', e1, e2, e3, e4, e5, e6⟩ := hblk i b hi
  exact ⟨r', e1, hkn _ _ e0 e1, e2, e3, e4, e5, e6⟩
def beOut (β δ : Beta) (lo hi : Nat) (rb : List Nat) : Beta := fun i => if (lo <= i /\ i < hi) \/ i ∈ rb then δ i else β i
theorem beOut_old {β δ : Beta} {lo hi i : Nat} {rb : List Nat} (h : ¬ ((lo <= i /\ i < hi) \/ i ∈ rb)) : beOut β δ lo hi rb i = β i := by unfold beOut; rw [if_neg h]
theorem beOut_new {β δ : Beta} {lo hi i : Nat} {rb : List Nat} (h : (lo <= i /\ i < hi) \/ i ∈ rb) : beOut β δ lo hi rb i = δ i := by unfold beOut; rw [if_pos h]
theorem inl_post {ρ : Env} {N : Nat} {R : List Rg} {Q : Rg -> Prop} {β γ β' : Beta} {w w' : World} {lo mid hi : Nat} {hl : Hl} {xs : List S} (hok : inlOk gl.length lo hl xs = true) {σ : St} {old : List (Nat × Blk)} (hold : outOld σ.hp hl = some old) {s : S} (hend : inlE gl.length lo mid hl σ.hp s (inlW lo σ.hp old) = true)
  {v : Value} (hs : s.mt β' ρ v) (hb : BetaOk N R Q β w) (hN : N <= w.heap.size) (hG : GB gl β w) (hfr : ∀ i, lo <= i -> i < hi -> β i = none) (hlm : lo <= mid) (hmh : mid + (cnS s + cnHl (inlW lo σ.hp old)) <= hi)
  (hknown : ∀ i b, hpOf hl i = some b -> ∃ r, β i = some r /\ γ i = some r /\ r.ro = b.ro /\ r.row = isVecH hl i /\ i < lo /\ gl.length <= i /\ (r.len ≠ 0 -> ∃ j v, w.cell? ⟨r.blk, j, none⟩ = some v))
  (hE : Ext γ β') {a : Act} (hrel : Rel (inCx β gl w hl γ) ρ β' σ a w') :
  RPost N R Q ρ β w lo hi { s := s, w := inlW lo σ.hp old, rb := rbIn hl σ.rb } v w' := by
 unfold inlOk at hok
 simp only [Bool.and_eq_true, Nat.ble_eq] at hok
 obtain ⟨⟨hlo, _⟩, _⟩ := hok
 unfold inlE at hend
 simp only [Bool.and_eq_true] at hend
 obtain ⟨hend1, hend2⟩ := hend
 obtain ⟨ho1, ho2⟩ := outOld_spec hold
 have hcut : CutOk (knEnd gl.length lo mid hl σ.hp) mid := fun i hi => by
  have : Nat.blt i mid = false := by
   cases h : Nat.blt i mid
   ·rfl
   ·rw [Nat.blt_eq] at h; omega
  unfold knEnd
  rw [this, Bool.false_and]
 have hW : ∀ q, q ∈ inlW lo σ.hp old -> knEnd gl.length lo mid hl σ.hp q.1 = true /\ okL (knEnd gl.length lo mid hl σ.hp) q.2.cells = true /\ blkMt β' ρ w' q.1 q.2 := fun q hq => by
  have h1 := (List.all_eq_true.1 hend2) q hq
  simp only [Bool.and_eq_true] at h1
  refine ⟨h1.1, h1.2, ?_⟩
  simp only [inlW, List.mem_append] at hq
  rcases hq with hq | hq
  ·obtain ⟨a1, a2, _⟩ := ho1 q hq
   exact hrel.hm q.1 q.2 a1 (by rw [a2]; rfl)
  ·obtain ⟨a1, _, a3, _⟩ := outNew_spec hq
   exact hrel.hm q.1 q.2 a1 (by rw [a3]; rfl)
 obtain ⟨p, hp1, hp2, hp3⟩ := (cutF_S hcut hend1 hs).and (cutF_hl hcut (ρ := ρ) hW)
 obtain ⟨hs', hW'⟩ := hp3 p fun _ h => h
 obtain ⟨δ, hδ⟩ : ∃ δ, δ = β'.cutF (knEnd gl.length lo mid hl σ.hp) mid p := ⟨_, rfl⟩
 rw [<- hδ] at hs' hW'
 have hsqo : ∀ i r, β' i = some r -> r.sq.isSome = true -> r.ro = true /\ r.row = false := fun i r hi hs => by
  obtain ⟨x, hx⟩ := Option.isSome_iff_exists.1 hs
  have := hrel.bo.sq i r x.1 x.2 hi hx
  exact ⟨this.1, this.2.1⟩
 have hfrom : ∀ {i : Nat} {r : Rg}, δ i = some r -> ∃ i0, β' i0 = some r /\ (i0 = i /\ knEnd gl.length lo mid hl σ.hp i = true \/ r.ro = true /\ r.row = false) := fun h => cutF_from hsqo hp2 (by rw [<- hδ]; exact h)
 obtain ⟨rb, hrb⟩ : ∃ rb, rb = rbIn hl σ.rb := ⟨_, rfl⟩
 rw [<- hrb]
 have hstay : ∀ i b r, hpOf hl i = some b -> i ∉ rb -> β i = some r -> β' i = some r := fun i b r hi' hn hr => by
  obtain ⟨r', e1, e2, _, e3, _⟩ := hknown i b hi'
  rw [hr] at e1
  cases e1
  refine hrel.eb i r e2 ?_
  cases hv : isVecH hl i with
  | false => exact .inl (by rw [e3, hv])
  | true =>
   right
   show (!σ.rb.contains i) = true
   cases hc : σ.rb.contains i with
   | false => rfl
   | true => exact absurd (rbIn_mem.2 ⟨hv, by simpa using hc⟩) (by rw [<- hrb]; exact hn)
 have hrbk : ∀ i, i ∈ rb -> ∃ b r, hpOf hl i = some b /\ β i = some r /\ r.row = true /\ r.ro = false /\ b.ro = false /\ i < lo := fun i hi' => by
  rw [hrb] at hi'
  have hv := (rbIn_mem.1 hi').1
  have hv' := hv
  unfold isVecH at hv'
  split at hv'
  ·rename_i b hb'
   obtain ⟨r', e1, _, e3, e4, e5, _⟩ := hknown i b hb'
   have e6 : r'.row = true := by rw [e4, hv]
   have e7 := hb.rw i r' e1 e6
   exact ⟨b, r', hb', e1, e6, e7, by rw [<- e3]; exact e7, e5⟩
  ·cases hv'
 have hsub : ∀ i r, δ i = some r -> beOut β δ lo hi rb i = some r := fun i r hi' => by
  by_cases h : (lo <= i /\ i < hi) \/ i ∈ rb
  ·rw [beOut_new h]; exact hi'
  ·rw [beOut_old h]
   rw [hδ] at hi'
   rcases cutF_inv hi' with ⟨h1, h2⟩ | ⟨h1, h2⟩
   ·unfold knEnd at h1
    simp only [Bool.and_eq_true, Nat.blt_eq, Bool.or_eq_true] at h1
    have hlt : i < lo := by
     rcases Nat.lt_or_ge i lo with h3 | h3
     ·exact h3
     ·exact absurd (.inl ⟨h3, by omega⟩) h
    rcases h1.2 with hk | hk
    ·unfold knOf at hk
     simp only [Bool.or_eq_true, Nat.blt_eq] at hk
     rcases hk with hk | hk
     ·have e1 := hrel.gl i _ (List.getElem?_eq_getElem hk)
      have e2 := hG.2 i _ (List.getElem?_eq_getElem hk)
      rw [h2] at e1
      rw [e2, e1]
     ·obtain ⟨b, hb'⟩ := hasB_some.1 hk
      obtain ⟨r', e1, _⟩ := hknown i b hb'
      have := hstay i b r' hb' (fun h4 => h (.inr h4)) e1
      rw [h2] at this
      rw [e1]
      exact this.symm
    ·unfold knNew at hk
     split at hk
     ·obtain ⟨e1, _⟩ := isNewB_spec hk; omega
     ·cases hk
   ·have := (List.getElem?_eq_some_iff.1 h2).1
    exact absurd (.inl ⟨by omega, by omega⟩) h
 have hmv : Mv (fun _ => true) δ (beOut β δ lo hi rb) := ⟨fun i r hi' _ => hsub i r hi', fun i r hi' hs => by
  obtain ⟨i0, e1, _⟩ := hfrom hi'
  exact hsqo i0 r e1 hs⟩
 have hsz : w.heap.size <= w'.heap.size := hrel.kp.size
 have hR2 : ∀ r, r ∈ wrRg β hl -> ∃ i b, hpOf hl i = some b /\ β i = some r /\ r.ro = false /\ b.ro = false /\ i < lo /\ (r.len ≠ 0 -> ∃ j v, w.cell? ⟨r.blk, j, none⟩ = some v) := fun r hr => by
  unfold wrRg at hr
  obtain ⟨i, hi', rfl⟩ := List.mem_map.1 hr
  obtain ⟨b, hb', hro⟩ := wrIds_mem.1 hi'
  obtain ⟨r', e1, e2, e3, e4, e5, e6, e7⟩ := hknown i b hb'
  rw [e1]
  exact ⟨i, b, hb', e1, by simpa [hro] using e3, hro, e5, e7⟩
 have hnew : ∀ j q, β' j = some q -> w.heap.size <= q.blk \/ (q.ro = false /\ ∃ i0 q0, i0 < lo /\ β i0 = some q0 /\ (i0 ∉ rb -> β' i0 = some q0) /\ q0.ro = false /\ q0.blk = q.blk /\ q0.off <= q.off /\ q.off + q.len <= q0.off + q0.len) \/ (q.ro = true /\ ∃ i0 r0, β i0 = some r0 /\ r0.ro = true /\ q.within r0) := fun j q h3 => by
  cases hro : q.ro with
  | false =>
   rcases hrel.bo.may j q h3 with h | h
   ·rw [hro] at h; cases h
   ·rcases h with h | ⟨q0, hq0, e1, e2, e3⟩
    ·exact .inl h
    ·obtain ⟨i0, b0, g1, g2, g3, _, g4, _⟩ := hR2 q0 hq0
     exact .inr (.inl ⟨rfl, i0, q0, g4, g2, fun hn => hstay i0 b0 q0 g1 hn g2, g3, e1, e2, e3⟩)
  | true =>
   rcases hrel.bo.rom j q h3 hro with h | h
   ·exact .inl h
   ·exact .inr (.inr ⟨rfl, h⟩)
 have hold_new : ∀ i j r q, ¬ ((lo <= i /\ i < hi) \/ i ∈ rb) -> ((lo <= j /\ j < hi) \/ j ∈ rb) -> β i = some r -> δ j = some q -> (r.ro = true /\ q.ro = true) \/ r.apart q := fun i j r q h1 h2 h3 h4 => by
  obtain ⟨j0, k1, k2⟩ := hfrom h4
  rcases hnew j0 q k1 with h | ⟨h, i0, q0, e0, e1, e2, e3, e4, e5, e6⟩ | ⟨h, i0, r0, e1, e2, e3⟩
  ·right
   have := hb.place i r h3
   unfold Rg.apart
   omega
  ·right
   have hj0 : j0 = j := by
    rcases k2 with k2 | k2
    ·exact k2.1
    ·rw [h] at k2; cases k2.1
   subst hj0
   by_cases hi0 : i = i0
   ·subst hi0
    rw [h3] at e1
    cases e1
    exact hrel.bo.apartW (fun e => h1 (by rw [e]; exact h2)) (e2 fun h4 => h1 (.inr h4)) k1 e3
   ·have := Rg.apart_symm (hb.apartW (i := i0) (j := i) (fun e => hi0 e.symm) e1 h3 e3)
    unfold Rg.apart at *
    omega
  ·cases hro : r.ro with
   | true => exact .inl ⟨rfl, h⟩
   | false =>
    right
    have hne : i ≠ i0 := fun e => by subst e; rw [h3] at e1; cases e1; rw [hro] at e2; cases e2
    exact Rg.apart_symm (Rg.within_apart e3 (Rg.apart_symm (hb.apartW hne h3 e1 hro)))
 have hb2 : BetaOk N R Q β w' := hb.keep (W := wrRg β hl) (fun r hr => by obtain ⟨i, b, _, e2, e3, _⟩ := hR2 r hr; exact ⟨i, e2, e3⟩) hrel.kp
 refine ⟨beOut β δ lo hi rb, ⟨fun i r hi' hp => ?_, ⟨fun i j r q hij hi' hj => ?_, fun i r hi' => ?_, fun i r hi' => ?_, fun i r ks l hi' hsq => ?_, fun i r hi' hro => ?_, hb.qs, fun i r hi' hrow => ?_⟩, ⟨_, fun r hr => ?_, hrel.kp.nz⟩, fun i hi' hn => beOut_old (by rintro (h | h); omega; exact hn h), fun i hi' => ?_⟩, S.mt_mv hmv hs', fun q hq => ?_⟩
 ·by_cases h : (lo <= i /\ i < hi) \/ i ∈ rb
  ·rcases h with h | h
   ·rw [hfr i h.1 h.2] at hi'; cases hi'
   ·exfalso
    obtain ⟨b, r', _, e1, e2, _⟩ := hrbk i h
    rw [hi'] at e1
    cases e1
    rcases hp with hp | hp
    ·rw [e2] at hp; cases hp
    ·simp at hp; exact hp h
  ·rw [beOut_old h]; exact hi'
 ·by_cases h1 : (lo <= i /\ i < hi) \/ i ∈ rb
  ·rw [beOut_new h1] at hi'
   by_cases h2 : (lo <= j /\ j < hi) \/ j ∈ rb
   ·rw [beOut_new h2] at hj
    obtain ⟨i0, e1, e2⟩ := hfrom hi'
    obtain ⟨j0, e3, e4⟩ := hfrom hj
    by_cases he : i0 = j0
    ·subst he
     rw [e1] at e3
     cases e3
     rcases e2 with e2 | e2
     ·rcases e4 with e4 | e4
      ·exact absurd (e2.1.symm.trans e4.1) hij
      ·exact .inl ⟨e4.1, e4.1⟩
     ·exact .inl ⟨e2.1, e2.1⟩
    ·exact hrel.bo.apart i0 j0 r q he e1 e3
   ·rw [beOut_old h2] at hj
    exact (hold_new j i q r h2 h1 hj hi').imp (fun h => ⟨h.2, h.1⟩) Rg.apart_symm
  ·rw [beOut_old h1] at hi'
   by_cases h2 : (lo <= j /\ j < hi) \/ j ∈ rb
   ·rw [beOut_new h2] at hj
    exact hold_new i j r q h1 h2 hi' hj
   ·rw [beOut_old h2] at hj
    exact hb.apart i j r q hij hi' hj
 ·by_cases h1 : (lo <= i /\ i < hi) \/ i ∈ rb
  ·rw [beOut_new h1] at hi'
   obtain ⟨i0, e1, _⟩ := hfrom hi'
   exact hrel.bo.place i0 r e1
  ·rw [beOut_old h1] at hi'
   exact hb2.place i r hi'
 ·by_cases h1 : (lo <= i /\ i < hi) \/ i ∈ rb
  ·rw [beOut_new h1] at hi'
   obtain ⟨j0, k1, _⟩ := hfrom hi'
   rcases hnew j0 r k1 with h | ⟨h, i0, q0, e0, e1, e2, e3, e4, e5, e6⟩ | ⟨h, _⟩
   ·exact .inr (.inl (by omega))
   ·rcases hb.may i0 q0 e1 with h | h
    ·rw [e3] at h; cases h
    ·right
     rcases h with h | ⟨q, hq, g1, g2, g3⟩
     ·exact .inl (by omega)
     ·exact .inr ⟨q, hq, by omega, by omega, by omega⟩
   ·exact .inl h
  ·rw [beOut_old h1] at hi'
   exact hb.may i r hi'
 ·by_cases h1 : (lo <= i /\ i < hi) \/ i ∈ rb
  ·rw [beOut_new h1] at hi'
   obtain ⟨j0, k1, _⟩ := hfrom hi'
   exact hrel.bo.sq j0 r ks l k1 hsq
  ·rw [beOut_old h1] at hi'
   exact hb2.sq i r ks l hi' hsq
 ·by_cases h1 : (lo <= i /\ i < hi) \/ i ∈ rb
  ·rw [beOut_new h1] at hi'
   obtain ⟨j0, k1, _⟩ := hfrom hi'
   rcases hnew j0 r k1 with h | ⟨h, _⟩ | ⟨_, i0, r0, e1, e2, e3⟩
   ·exact .inl (by omega)
   ·rw [hro] at h; cases h
   ·rcases hb.rom i0 r0 e1 e2 with h | h
    ·exact .inl (by rw [e3.1]; exact h)
    ·exact .inr (hb.qs r r0 h e3)
  ·rw [beOut_old h1] at hi'
   exact hb.rom i r hi' hro
 ·by_cases h1 : (lo <= i /\ i < hi) \/ i ∈ rb
  ·rw [beOut_new h1] at hi'
   obtain ⟨j0, k1, _⟩ := hfrom hi'
   exact hrel.bo.rw j0 r k1 hrow
  ·rw [beOut_old h1] at hi'
   exact hb.rw i r hi' hrow
 ·obtain ⟨hr, hz⟩ := List.mem_filter.1 hr
  obtain ⟨i, b, e1, e2, e3, e4, _, e5⟩ := hR2 r hr
  refine ⟨i, ?_, e2, e3, e5 (by simpa using hz)⟩
  have := ho2 i b (hpOf_mem' e1) e4
  simp only [inlW, List.map_append, List.mem_append]
  exact .inl this
 ·obtain ⟨b, r, e1, e2, e3, _, e5, e6⟩ := hrbk i hi'
  refine ⟨?_, .inl e6, r, e2, e3⟩
  have := ho2 i b (hpOf_mem' e1) e5
  simp only [inlW, List.map_append, List.mem_append]
  exact .inl this
 ·have := blkMt_jk (w' := w') hmv (.inr rfl) (fun r _ j _ => ⟨rfl, rfl⟩) (hW' q hq)
  rwa [Blk.jk_true] at this
theorem newIds_inv {k : Nat} {u : Unit} {c c' : Ctr} {o : List Em} (h : newIds k c = some (u, c', o)) : c'.id = c.id + k /\ o = [] := by
 simp only [newIds, Option.some.injEq, Prod.mk.injEq] at h
 obtain ⟨_, rfl, rfl⟩ := h
 exact ⟨rfl, rfl⟩
theorem inl_ok {H : Hnd} (hH : HOk P Φ gl H) {f : Nat} {fn : Func} (hf : P.funcs[f]? = some fn) (hn : (fn.name == "runtime.NumGoroutine") = false) {k : Ctl} (hK : LoopsOk Φ k) (hEA : ∀ x : Cx, x.gl = gl -> x.rl = none -> x.lr = none -> x.ds = [] -> (∀ w, Keep x.R x.w0 w -> Laid gl w) -> EOk P Φ x k.E) {Γ : Gd} {hp : Hp} {xs : List S} {ρ : Env} {c c' : Ctr} {res : Res} {out : List Em}
  (he : inlM P H gl k fn Γ hp xs c = some (res, c', out)) (hg : Good Φ ρ out) (hΓ : Gd.d ρ Γ = true) {N : Nat} {R : List Rg} {Q : Rg -> Prop} {β : Beta} {w : World} {vs : List Value} (hm : mtAll β ρ xs vs) (hh : heapMt β ρ hp w) (hb : BetaOk N R Q β w) (hN : N <= w.heap.size)
  (hG : GB gl β w) (hfr : ∀ i, c.id <= i -> i < c'.id -> β i = none) :
  (∀ args w, (callFunc f args).run P w = .ok (.enter f args) w) /\ Calls P f vs.toArray w fun e w' => ∃ v, e = .returned v /\ RPost N R Q ρ β w c.id c'.id res v w' := by
 unfold inlM at he
 obtain ⟨lo, c1, o1, c2, o2, y, h1, h2, he⟩ := M.bind_inv he
 simp only [Prod.mk.injEq] at he
 obtain ⟨rfl, rfl, rfl⟩ := he
 simp only [getId, Option.some.injEq, Prod.mk.injEq] at h1
 obtain ⟨rfl, rfl, rfl⟩ := h1
 obtain ⟨body, c3, o3, c4, o4, y, h3, h4, he⟩ := M.bind_inv h2
 simp only [Prod.mk.injEq] at he
 obtain ⟨rfl, rfl, rfl⟩ := he
 obtain ⟨body', hbody, he⟩ := lift_inv h3
 simp only [Prod.mk.injEq] at he
 obtain ⟨rfl, rfl, rfl⟩ := he
 obtain ⟨hl, hhl⟩ : ∃ hl, hl = calleeHp gl.length c3.id Γ hp (dedupN (reachH hp 3 (argIds xs))) := ⟨_, rfl⟩
 rw [<- hhl] at h4
 unfold inlB at h4
 split at h4
 ·rename_i hok
  obtain ⟨u0, c30, o30, c40, o40, y, hn0, h40, he⟩ := M.bind_inv h4
  simp only [Prod.mk.injEq] at he
  obtain ⟨rfl, rfl, rfl⟩ := he
  obtain ⟨O, c5, o5, c6, o6, y, h5, h6, he⟩ := M.bind_inv h40
  simp only [Prod.mk.injEq] at he
  obtain ⟨rfl, rfl, rfl⟩ := he
  obtain ⟨σ, c7, o7, c8, o8, y, h7, h8, he⟩ := M.bind_inv h6
  simp only [Prod.mk.injEq] at he
  obtain ⟨rfl, rfl, rfl⟩ := he
  obtain ⟨rs, c9, o9, c10, o10, y, h9, h10, he⟩ := M.bind_inv h8
  simp only [Prod.mk.injEq] at he
  obtain ⟨rfl, rfl, rfl⟩ := he
  obtain ⟨s, c11, o11, c12, o12, y, h11, h12, he⟩ := M.bind_inv h10
  simp only [Prod.mk.injEq] at he
  obtain ⟨rfl, rfl, rfl⟩ := he
  obtain ⟨s', hts, he⟩ := lift_inv h11
  simp only [Prod.mk.injEq] at he
  obtain ⟨rfl, rfl, rfl⟩ := he
  obtain ⟨old, c13, o13, c14, o14, y, h13, h14, he⟩ := M.bind_inv h12
  simp only [Prod.mk.injEq] at he
  obtain ⟨rfl, rfl, rfl⟩ := he
  obtain ⟨old', hold, he⟩ := lift_inv h13
  simp only [Prod.mk.injEq] at he
  obtain ⟨rfl, rfl, rfl⟩ := he
  obtain ⟨mid, c15, o15, c16, o16, y, h15, h16, he⟩ := M.bind_inv h14
  simp only [Prod.mk.injEq] at he
  obtain ⟨rfl, rfl, rfl⟩ := he
  simp only [getId, Option.some.injEq, Prod.mk.injEq] at h15
  obtain ⟨rfl, rfl, rfl⟩ := h15
  obtain ⟨u1, c17, o17, c18, o18, y, hn1, h17, he⟩ := M.bind_inv h16
  simp only [Prod.mk.injEq] at he
  obtain ⟨rfl, rfl, rfl⟩ := he
  split at h17
  ·rename_i hend
   have he := M.pure_inv h17
   simp only [Prod.mk.injEq] at he
   obtain ⟨rfl, rfl, rfl⟩ := he
   obtain ⟨h5, le5⟩ := mono_inv h5
   obtain ⟨h7, le7⟩ := mono_inv h7
   obtain ⟨h9, le9⟩ := mono_inv h9
   simp only at le5 le7 le9
   obtain ⟨en0, rfl⟩ := newIds_inv hn0
   obtain ⟨en1, rfl⟩ := newIds_inv hn1
   simp only [Good.append] at hg
   obtain ⟨_, _, _, g5, g7, g9, _⟩ := hg
   obtain ⟨p, hpl, hrel, hknown⟩ := inl_rel (Γ := Γ) (hp := hp) hhl hok hΓ hm hh hb hG fn
   have hlo : gl.length <= c3.id := by
    unfold inlOk at hok
    simp only [Bool.and_eq_true, Nat.ble_eq] at hok
    exact hok.1.1
   have hcut : CutOk (knOf gl.length hl) c3.id := knOf_lt hhl hlo
   obtain ⟨γ, hγ⟩ : ∃ γ, γ = β.cutF (knOf gl.length hl) c3.id p := ⟨_, rfl⟩
   rw [<- hγ] at hrel hknown
   have hapG : ∀ r, r ∈ wrRg β hl -> ∀ (g : Nat) (us : List Value), gl[g]? = some us -> r.apart (gRg g us) := fun r hr g us hgu => by
    unfold wrRg at hr
    obtain ⟨i, hi', rfl⟩ := List.mem_map.1 hr
    obtain ⟨b, hb', hro⟩ := wrIds_mem.1 hi'
    obtain ⟨r', e1, _, e3, _⟩ := hknown i b hb'
    rw [e1]
    rw [hro] at e3
    refine hb.apartW (fun e => ?_) e1 (hG.2 g us hgu) e3
    subst e
    rw [hG.2 _ us hgu] at e1
    cases e1
    cases e3
   have hGl : ∀ w', Keep (wrRg β hl) w w' -> Laid gl w' := by
    intro w' hk g us hgu
    obtain ⟨e1, e2⟩ := hG.1 g us hgu
    refine ⟨by have := hk.size; omega, fun j v hj => ?_⟩
    obtain ⟨e3, e4⟩ := e2 j v hj
    refine ⟨(hk.cell _ e1 fun r hr hin => ?_).trans e3, e4⟩
    have := hapG r hr g us hgu
    have hlt := (List.getElem?_eq_some_iff.1 hj).1
    unfold inRg at hin
    unfold Rg.apart gRg at this
    simp only at hin this
    omega
   have hfresh : Fresh γ c30 := fun i hi => by
    rw [hγ]
    unfold Beta.cutF
    rw [if_neg (by rw [hcut i (by omega)]; simp), if_pos (by omega)]
    exact List.getElem?_eq_none (by omega)
   have hK' : LoopsOk Φ (ctlH k c3.id hl) := hK
   have hx : GrOk (inCx β gl w hl γ) (ctlH k c3.id hl).keep := fun hz q hq => by
    have hz : (k.keep.fz && !rowsIn hl) = true := hz
    simp only [Bool.and_eq_true, Bool.not_eq_true'] at hz
    refine List.mem_iff_getElem?.1 ?_
    show q ∈ wrRgN β hl
    unfold wrRgN
    rw [wrIdsN_all hz.2]
    exact hq
   refine ⟨callable_of hf hn (by rw [hbody]; rfl), ?_⟩
   have hrun := exec_ok (x := inCx β gl w hl γ) hH hGl (ctlH k c3.id hl) hx hK' (hEA _ rfl rfl rfl rfl hGl) body ρ _ _ _ O _ h5 g5 γ _ w hrel hfresh
    (bodyPostM Fence.wide 0 P fn fun e w' => ∃ v, e = .returned v /\ RPost N R Q ρ β w c3.id c'.id { s := s, w := inlW c3.id σ.hp old, rb := rbIn hl σ.rb } v w') fun e a' w' K hk hO => ?_
   ·exact callsIn_wide.1 (callsIn_of_wp_marks hf hbody trivial hrun rfl)
   ·obtain ⟨hKK, β', hE, hR, hF⟩ := endSt_ok hx h7 g7 hO
    have hfin : LeavesInM Fence.wide 0 P fn a'.tmps (fun e w' => ∃ v, e = .returned v /\ RPost N R Q ρ β w c3.id c'.id { s := s, w := inlW c3.id σ.hp old, rb := rbIn hl σ.rb } v w') a'.defers .returning w' :=
     leaves_ok (x := inCx β gl w hl γ) rfl rfl a'.defers hR.noDf hR.df.ma fun w2 hR2 => by
      obtain ⟨us, hus, hum⟩ := rAll_snd (P := P) (x := inCx β gl w hl γ) σ fn.results.toList _ _ _ _ h9 g9 β' _ w2 hR2
      exact ⟨_, results_run hus, _, rfl, inl_post hok hold hend (tupS_mt hts hum) hb hN hG hfr (by omega) (by omega) hknown hE hR2⟩
    rcases hKK with rfl | rfl
    ·rw [kdOf_n hk]
     exact hfin
    ·cases e <;> simp only [kdOf, Option.some.injEq] at hk <;> (try (cases hk; done))
     exact hfin
  ·simp [M.fail] at h17
 ·simp [M.fail] at h4
end
end Go.Proofs.YtfgbfdlacnihkaaDoor.Sx
namespace Go.Proofs.YtfgbfdlacnihkaaDoor.Sx
open Go

def ctlI (fn : Func) : Ctl := { keep := { l := keepOf fn, fz := true }, turns := 400, ret := retOf fn, base := 0 }
def hndI (P : Program) (gl : Gl) (I : List Nat) (H : Hnd) : Nat -> Hnd
 | 0 => H
 | n + 1 => fun f Γ hp xs => if I.contains f then (match P.funcs[f]? with
   | some fn => inlM P (hndI P gl I H n) gl (ctlI fn) fn Γ hp xs
   | none => M.fail) else H f Γ hp xs
def hnd (P : Program) (gl : Gl) (I : List Nat) (X : Sums) : Hnd := hndI P gl I (hnd0 X) 12
end Go.Proofs.YtfgbfdlacnihkaaDoor.Sx
