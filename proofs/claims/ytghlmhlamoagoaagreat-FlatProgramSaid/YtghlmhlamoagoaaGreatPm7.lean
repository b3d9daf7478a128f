/-
  Flat's laws, and what they stand on (merged by wip/gen2/mini.py): part Pm7. No condition.
-/
import Derived.Shelf.SlLaysE0
import Derived.Shelf.RegionOpenPlain
import Derived.WalkKit
import Derived.Deep.LoopGhost
import Derived.Lib.Walk
import Derived.Lib.SliceRun
import Derived.ProofKit
import Derived.WideKeyArgs
import Derived.LaidLaws
import Derived.Handed
import Derived.OpenShut
import Derived.Test.YtghlmhlamoagoaaGreatPm2
import Derived.Test.YtghlmhlamoagoaaGreatPm5
import Derived.Test.YtghlmhlamoagoaaGreatPm6
set_option linter.unusedVariables false
set_option linter.unusedSimpArgs false
namespace Go.Proofs.YtghlmhlamoagoaaGreat.Sx
open Go Go.Shelf Go.RowKit Go.Lib
section
theorem wpList_append_run {P : Program} {w : World} {ops : Array Oper} {rest : List Oper} {o : Oper} {a : Act} {Q : Exit -> Act -> World -> Prop} (hgd : o.guard = none) (s x : Operand) (t : TypeId)
  (ho : o.op = .call { callee := .builtin .append, args := #[s, x], argTypes := #[t, t] }) {v' v1 v2 : Value} {w' : World} (h1 : a.eval s = v1) (h2 : a.eval x = v2) {ty : TypeId} (hty : o.type = ty)
  (hr : (Builtin.append_ #[t, t] ty #[v1, v2]).run P w = .ok v' w') (h : wpList P ops Q rest (a.put o.dst v') w') : wpList P ops Q (o :: rest) a w := by
 subst h1 h2 hty
 refine wpList_plain hgd fun next hK => ?_
 obtain ⟨dst, op, ty, pos, after, guard⟩ := o
 simp only at ho
 subst ho
 exact OpG.value (Post := fun v u => v = v' /\ u = w') (execOp_append hr) ⟨rfl, rfl⟩ next Q fun v u hv => by
  obtain ⟨rfl, rfl⟩ := hv
  exact hK _ _ h
section
variable {P : Program} {ρ : Go.Shelf.Ren} {ks : List CK} {bytes : Nat} {i : TypeInfo} {z : Value}
theorem clone_nil (L : SlLaysE0.n41 P ρ) (n c : Nat) (w : World) : Calls P (ρ.f 41) #[.slice none n c] w fun e w' => e = .returned (.slice none 0 0) /\ w' = w := by
 have mixed := L.mixed; have t4 := L.t4; have a4 := L.a4; have z4 := L.z4; have v4 := L.v4; have t22 := L.t22; have a22 := L.a22; have z22 := L.z22; have v22 := L.v22
 have q22 : ∀ (w : World) (a : Option Addr) (n c n' c' : Nat), (binOp .eql (ρ.t 22) (.slice a n c) (.slice none n' c')).run P w = .ok (.bool a.isNone) w := fun w a n c n' c' => Lib.run_eql_slice_nil w _ _ a n c n' c' L.t22
 obtain ⟨_, _, FG⟩ := L.f41
 go_enter FG, SlBodyN.n41_ntmps ρ
 go_wp2
 go_ret
 exact ⟨rfl, rfl⟩
theorem clone_run (L : SlLaysE0.n41 P ρ) (hi : P.info? (ρ.t 23) = some i) (b : Addr) (n c : Nat) (w : World) (v' : Value) (w' : World)
  (hr : (Builtin.append_ #[ρ.t 22, ρ.t 22] (ρ.t 22) #[.slice (some ⟨w.heap.size, 0, none⟩) 0 0, .slice (some b) n c]).run P (w.alloc (.cells #[] (ρ.t 23))) = .ok v' w') :
  Calls P (ρ.f 41) #[.slice (some b) n c] w fun e u => e = .returned v' /\ u = w' := by
 have mixed := L.mixed; have t4 := L.t4; have a4 := L.a4; have z4 := L.z4; have v4 := L.v4; have t22 := L.t22; have a22 := L.a22; have z22 := L.z22; have v22 := L.v22
 have q22 : ∀ (w : World) (a : Option Addr) (n c n' c' : Nat), (binOp .eql (ρ.t 22) (.slice a n c) (.slice none n' c')).run P w = .ok (.bool a.isNone) w := fun w a n c n' c' => Lib.run_eql_slice_nil w _ _ a n c n' c' L.t22
 have u22 : ∀ w, Sem.run P (underlying (ρ.t 22)) w = .ok (TypeDesc.slice (ρ.t 23)) w := run_underlying t22
 have z23 : ∀ w, (Go.sizeOf (ρ.t 23)).run P w = .ok i.size w := fun w => by simp [sizeOf, typeInfo, hi]
 have A : Aside ((Builtin.append_ #[ρ.t 22, ρ.t 22] (ρ.t 22) #[.slice (some ⟨w.heap.size, 0, none⟩) 0 0, .slice (some b) n c]).run P (w.alloc (.cells #[] (ρ.t 23))) = .ok v' w') := hr
 clear hr
 obtain ⟨_, _, FG⟩ := L.f41
 go_enter FG, SlBodyN.n41_ntmps ρ
 go_wp2_with (at_builtin; refine wpList_append_run rfl _ _ (ρ.t 22) rfl rfl rfl rfl A.out ?_)
 go_ret
 exact ⟨rfl, rfl⟩
end
end
end Go.Proofs.YtghlmhlamoagoaaGreat.Sx
namespace Go.Proofs.YtghlmhlamoagoaaGreat.Sx
open Go Go.Shelf
section
def cloneM (P : Program) (t : TypeId) (Γ : Gd) (hp : Hp) (xs : List S) : M Res := match xs with
 | [x] => do
  let p <- lift (rowTy P t)
  let r <- sameId (do
   let r <- srcOf Γ hp p.1 x
   let b <- mkCm .leq r.2 (.c (appK p.2))
   oblige b
   pure r)
  appTo Γ hp p.1 p.2 (.one false [.emp]) r
 | _ => M.fail
def cloneH (P : Program) (f : Nat) (t : TypeId) (H : Hnd) : Hnd := fun g Γ hp xs => if g == f then cloneM P t Γ hp xs else H g Γ hp xs
theorem step_rowNew' {N : Nat} {R : List Rg} {Q : Rg -> Prop} {β : Beta} {w w1 : World} {lo hi id : Nat} (hlo : lo <= id) (hhi : id < hi) (hn : β id = none) (hb : BetaOk N R Q β w) (hN : N <= w.heap.size) (len m : Nat) (o : Obj)
  (hk : Keep [] w w1) (hs : w.heap.size <= w1.heap.size) : Step N R Q β w [id] [] lo hi (β.set id (rowRg w1.heap.size len m)) (w1.alloc o) := by
 have hk2 : Keep [] w (w1.alloc o) := hk.trans (Keep.alloc [] w1 o) (by simp)
 refine ⟨Beta.set_ext _ hn, ?_, ⟨[], by simp, hk2⟩, fun i hi' _ => Beta.set_other _ _ (by omega), by simp⟩
 exact hb.bind (W := []) (by simp) hk2 (fun j q _ hj => .inr (hb.new_apart (by simp [rowRg, hs]) hj)) (.inr (by simp [rowRg])) (.inr (.inl (by simp [rowRg]; omega))) (by simp [rowRg]) (by simp [rowRg]) (by simp [rowRg])
theorem step_rowNil' {N : Nat} {R : List Rg} {Q : Rg -> Prop} {β : Beta} {w w1 : World} {lo hi id : Nat} (hlo : lo <= id) (hhi : id < hi) (hn : β id = none) (hb : BetaOk N R Q β w) (hN : N <= w.heap.size) (hk : Keep [] w w1) :
  Step N R Q β w [id] [] lo hi (β.set id (rowRg w.heap.size 0 0)) w1 := by
 refine ⟨Beta.set_ext _ hn, ?_, ⟨[], by simp, hk⟩, fun i hi' _ => Beta.set_other _ _ (by omega), by simp⟩
 exact hb.bind (W := []) (by simp) hk (fun j q _ hj => .inr (hb.new_apart (by simp [rowRg]) hj)) (.inl rfl) (.inr (.inl (by simp [rowRg]; omega))) (by simp [rowRg]) (by simp [rowRg]) (by simp [rowRg])
section
variable {P : Program} {Φ : Funs} {gl : Gl} {H : Hnd}
theorem cloneH_ok (hH : HOk P Φ gl H) {r : Go.Shelf.Ren} (L : SlLaysE0.n41 P r) (hcl : ∀ args w, (callFunc (r.f 41) args).run P w = .ok (.enter (r.f 41) args) w) : HOk P Φ gl (cloneH P (r.f 41) (r.t 22) H) := by
 intro f Γ hp xs ρ c res c' out he hg hΓ N R Q β w vs hm hh hb hN hG hf
 unfold cloneH at he
 split at he
 case isFalse => exact hH f Γ hp xs ρ c res c' out he hg hΓ N R Q β w vs hm hh hb hN hG hf
 rename_i hfe
 have hfe : f = r.f 41 := by simpa using hfe
 subst hfe
 refine ⟨hcl, ?_⟩
 unfold cloneM at he
 split at he
 case h_2 => simp [M.fail] at he
 rename_i x
 obtain ⟨p, c1, o1, c2, o2, y, g1, g2, e1⟩ := M.bind_inv he
 simp only [zPi] at e1
 obtain ⟨rfl, rfl, rfl⟩ := e1
 obtain ⟨p', hp', e1⟩ := lift_inv g1
 simp only [zPi] at e1
 obtain ⟨rfl, rfl, rfl⟩ := e1
 obtain ⟨ks, bytes⟩ := p
 obtain ⟨e, i, z, T⟩ := rowTy_spec hp'
 have hee : e = r.t 23 := by
  have h1 := T.ut
  rw [L.t22] at h1
  simp only [zOi, TypeDesc.slice.injEq] at h1
  exact h1.symm
 subst hee
 obtain ⟨rr, c3, o3, c4, o4, y, g3, g4, e1⟩ := M.bind_inv g2
 simp only [zPi] at e1
 obtain ⟨rfl, rfl, rfl⟩ := e1
 obtain ⟨g3, hid⟩ := sameId_inv g3
 simp only [List.nil_append] at hg
 obtain ⟨hg3, hg4⟩ := Good.append.1 hg
 obtain ⟨hb0, hsrc⟩ := (show Snd Φ ρ (do
   let r <- srcOf Γ hp ks x
   let b <- mkCm .leq r.2 (.c (appK bytes))
   oblige b
   pure r : M (A × A)) (fun r => r.2.d ρ <= (appK bytes : Nat) /\ ∀ β w v, x.mt β ρ v -> heapMt β ρ hp w -> SqOk β w -> ∃ l m, r.1.d ρ = enc l /\ r.2.d ρ = ((m : Nat) : Int) /\ InR .i64 (m : Int) /\ SrcOk w ks l m v) from
  Snd.bind (srcOf_snd hΓ T.klen x) fun r hr => Snd.bind (mkCm_snd _ _ _) fun b e1 => Snd.bind (oblige_snd b) fun _ e2 => Snd.pure ⟨by rw [e1] at e2; exact of_decide_eq_true e2, hr⟩) _ _ _ _ g3 hg3
 match vs, hm with
 | [v], hm =>
 obtain ⟨lx, m, hqx, hnx, hinm, p', capx, hvx, hlx, hpx⟩ := hsrc β w v hm.1 hh hb.sq
 subst hvx
 have hmK : m <= appK bytes := by omega
 unfold appTo at g4
 simp only [slmOf, empOf, asEmp, if_true] at g4
 unfold Sx.withId at g4
 obtain ⟨x1, c5, o5, c6, o6, y1, f1, f2, e1⟩ := M.bind_inv g4
 simp only [newId, zOi, zPi] at f1
 obtain ⟨rfl, rfl, rfl⟩ := f1
 obtain ⟨r3, c7, o7, c8, o8, y2, f3, f4, e2⟩ := M.bind_inv f2
 have f3 := M.pure_inv f3
 simp only [zPi] at f3
 obtain ⟨rfl, rfl, rfl⟩ := f3
 obtain ⟨hi, c9, o9, c10, o10, y3, f5, f6, e3⟩ := M.bind_inv f4
 simp only [getId, zOi, zPi] at f5
 obtain ⟨rfl, rfl, rfl⟩ := f5
 split at f6
 case isFalse => cases f6
 have e4 := M.pure_inv f6
 simp only [zPi] at e4 e3 e2 e1
 obtain ⟨rfl, rfl, rfl⟩ := e4
 obtain ⟨rfl, rfl, rfl⟩ := e3
 obtain ⟨rfl, rfl, rfl⟩ := e2
 obtain ⟨rfl, rfl, rfl⟩ := e1
 have hlo : c1.id <= c3.id := by omega
 have hhi : c3.id < c3.id + 1 := by omega
 have hfr := hf c3.id hlo hhi
 obtain ⟨hK, hK2⟩ := appK_le (n := 0) (m := m) (by omega) hmK T.b0
 cases p' with
 | none =>
  have hm0 : m = 0 := hpx.resolve_right fun ⟨_, _, h, _⟩ => by cases h
  subst hm0
  have hlx0 : lx = [] := List.eq_nil_of_length_eq_zero (by simpa using hlx)
  subst hlx0
  refine Calls.mono (clone_nil L 0 capx w) fun e u h => ?_
  obtain ⟨rfl, rfl⟩ := h
  exact ⟨_, rfl, _, step_rowNil hlo hhi hfr hb hN, slm_nil _ none, rowW_mt (row_nil T.ne _ hqx (by simpa using hnx))⟩
 | some a =>
  by_cases hm0 : m = 0
  ·subst hm0
   have hlx0 : lx = [] := List.eq_nil_of_length_eq_zero (by simpa using hlx)
   subst hlx0
   refine Calls.mono (clone_run L T.info a 0 capx w _ _ (append_zero T _ _ 0 0 capx (Nat.le_refl _))) fun e u h => ?_
   obtain ⟨rfl, rfl⟩ := h
   exact ⟨_, rfl, _, step_rowNil' hlo hhi hfr hb hN (Keep.alloc [] w _), slm_nil _ _, rowW_mt (row_nil T.ne _ hqx (by simpa using hnx))⟩
  ·obtain ⟨bx, ox, hpx, hsx⟩ := hpx.resolve_left hm0
   simp only [zOi] at hpx
   subst hpx
   obtain ⟨news, hn1, hn2, hn3, hn4⟩ := seqAt_vals hsx
   have hcell : ∀ j u, news[j]? = some u -> (w.alloc (.cells #[] (r.t 23))).cell? (Addr.add ⟨bx, ox, none⟩ j) = some u := fun j u hj => by
    rw [add_addr]
    exact Lib.cell?_alloc_some _ (hn2 j u hj)
   obtain ⟨cap2, hc2, _, hrun⟩ := append_new (P := P) (w := w.alloc (.cells #[] (r.t 23))) (ty := r.t 22) (p := some ⟨w.heap.size, 0, none⟩) (n := 0) (cap := 0) (m := m) (c := capx) (b := ⟨bx, ox, none⟩) T (olds := []) (news := news)
    (.inl ⟨rfl, rfl⟩) (by simp) (by rw [hn1, hlx]) hcell (by omega) hK
   have hrun := hrun.resolve_left (fun h => h.2 rfl)
   obtain ⟨a1, a2, a3⟩ := grown_arr T (olds := []) (news := news) (l := []) (lx := lx) (n := 0) (m := m) (cap := cap2) (by simp) (by simp) (by rw [hn1, hlx]) hlx hc2 (by simp) hn3 (by simp) hn4
   refine Calls.mono (clone_run L T.info ⟨bx, ox, none⟩ m capx w _ _ hrun) fun e u h => ?_
   obtain ⟨rfl, rfl⟩ := h
   have hk1 : Keep [] w (w.alloc (.cells #[] (r.t 23))).drew := (Keep.alloc [] w _).trans (Keep.drew [] _) (by simp)
   refine ⟨_, rfl, _, step_rowNew' (w1 := (w.alloc (.cells #[] (r.t 23))).drew) hlo hhi hfr hb hN (cap2 * ks.length) (0 + m) _ hk1 hk1.size, slm_new hc2, rowW_mt ?_⟩
   exact row_new (β := β) (ρ := ρ) (w := (w.alloc (.cells #[] (r.t 23))).drew) (id := c3.id) T.ne _ (r.t 23) a1 (by simpa using hlx) hc2 (by simpa using hqx) (by simpa using hnx) (by simpa using hinm) (by simpa using a2) a3
end
end
end Go.Proofs.YtghlmhlamoagoaaGreat.Sx
namespace Go.Proofs.YtghlmhlamoagoaaGreat.Sx
open Go
section

def knN (ng : Nat) (hp : Hl) (i : Nat) : Bool := Nat.blt i ng || (match hpOf hp i with | some b => b.g.isEmpty && (vecOf b.cells).isNone | none => false)
theorem knN_row {x : Cx} {ρ : Env} {β : Beta} {σ : St} {a : Act} {w : World} (hR : Rel x ρ β σ a w) {i : Nat} {r : Rg} (h : knN x.ng σ.hp i = true) (hi : β i = some r) : r.row = false := by
 unfold knN at h
 rw [Bool.or_eq_true, Nat.blt_eq] at h
 rcases h with h | h
 ·have := hR.gl i _ (List.getElem?_eq_getElem h)
  rw [hi] at this
  cases this
  rfl
 ·split at h
  ·rename_i b hb
   simp only [zAi, List.isEmpty_iff, Option.isNone_iff_eq_none] at h
   obtain ⟨q, hq, hrow, _⟩ := (blkMt_cs h.2).1 (hR.hm i b hb (by rw [h.1]; rfl))
   rw [hi] at hq
   cases hq
   exact hrow
  ·cases h
theorem knN_keep {x : Cx} {ρ : Env} {β β' : Beta} {σ : St} {a : Act} {w : World} (hR : Rel x ρ β σ a w) (hE : Ext β β') : ∀ i r, knN x.ng σ.hp i = true -> β i = some r -> β' i = some r :=
 fun i r h hi => hE.at hi (knN_row hR h hi)
theorem knN_mv {x : Cx} {ρ : Env} {β β' : Beta} {σ : St} {a : Act} {w : World} (hR : Rel x ρ β σ a w) (hE : Ext β β') : Mv (knN x.ng σ.hp) β β' :=
 ⟨fun i r hi hr => hr.elim (hE.at hi) fun h => knN_keep hR hE i r h hi, (Mv.of hR.bo (ExtP.refl (fun _ => true) β)).sq⟩

def C.tj (p : Nat -> Bool) : C -> C
 | .int k (.c n) => .int k (.c n)
 | .bool (.c b) => .bool (.c b)
 | .ptr [] i o => if p i then .ptr [] i o else .junk
 | .val u => .val u
 | .emp => .emp
 | .fn [] d => if (fvIds d).all p then .fn [] d else .junk
 | _ => .junk
section
variable {p : Nat -> Bool} {β β' : Beta} {ρ ρ' : Env} (hk : ∀ i r, p i = true -> β i = some r -> β' i = some r)
include hk
theorem tj_cap : ∀ {l : List (Nat × Nat)} {vs : List Value}, (l.map (·.1)).all p = true -> capMt β l vs -> capMt β' l vs
 | [], [], _, _ => trivial
 | q :: l, v :: vs, h, ⟨⟨r, hr, hv⟩, h2⟩ => by
  simp only [List.map_cons, List.all_cons, zAi] at h
  exact ⟨⟨r, hk _ _ h.1 hr, hv⟩, tj_cap h.2 h2⟩
 | [], _ :: _, _, h => h.elim
 | _ :: _, [], _, h => h.elim
theorem C.tj_mt {c : C} {v : Value} (h : c.mt β ρ v) : (c.tj p).mt β' ρ' v := by
 have ho := C.mt_oneCell h
 unfold C.tj
 split
 ·exact h
 ·exact h
 ·rename_i i o
  split
  ·rename_i hp
   obtain ⟨r, hr, hv⟩ := h
   exact ⟨r, hk _ _ hp hr, hv⟩
  ·exact ho
 ·exact h
 ·exact h
 ·rename_i d
  split
  ·rename_i hp
   have h : fvMt β d v := h
   show fvMt β' d v
   unfold fvMt at *
   cases d with
   | none => exact h
   | some q => obtain ⟨vs, h1, h2⟩ := h; exact ⟨vs, h1, tj_cap hk hp h2⟩
  ·exact ho
 ·exact ho
theorem tj_L : ∀ {l : List C} {vs : List Value}, mtL β ρ l vs -> mtL β' ρ' (l.map (C.tj p)) vs
 | [], [], _ => trivial
 | c :: l, v :: vs, ⟨h1, h2⟩ => ⟨C.tj_mt hk h1, tj_L h2⟩
 | [], _ :: _, h => h.elim
 | _ :: _, [], h => h.elim
theorem tj_1 {agg : Bool} {l : List C} {v : Value} (h : mt1 β ρ agg l v) : mt1 β' ρ' agg (l.map (C.tj p)) v := by
 unfold mt1 at *
 cases agg
 ·obtain ⟨c, rfl, h⟩ := h; exact ⟨_, rfl, C.tj_mt hk h⟩
 ·obtain ⟨vs, rfl, h⟩ := h; exact ⟨vs, rfl, tj_L hk h⟩
end
def SV.tj (p : Nat -> Bool) (v : SV) : SV := match v with
 | { g := [], s := .one agg l } => { g := [], s := .one agg (l.map (C.tj p)) }
 | _ => anySV
theorem SV.tj_mt {p : Nat -> Bool} {β β' : Beta} {ρ ρ' : Env} (hk : ∀ i r, p i = true -> β i = some r -> β' i = some r) {s : SV} {v : Value} (h : s.mt β ρ v) : (s.tj p).mt β' ρ' v := by
 unfold SV.tj
 split
 ·exact ⟨fun _ => tj_1 hk (h.1 rfl), fun h => by cases h⟩
 ·exact anySV_mt v
theorem args_slots {β : Beta} {ρ : Env} : ∀ {xs : List S} {vs : List Value} {n t : Nat} {v : SV}, mtAll β ρ xs vs -> (xs.map (fun s => ({ g := [], s := s } : SV)) ++ List.replicate n anySV)[t]? = some v -> v.mt β ρ ((vs ++ List.replicate n undef).getD t undef)
 | [], vs, n, t, v, hm, ht => by
  simp only [List.map_nil, List.nil_append, List.getElem?_replicate] at ht
  split at ht
  ·simp only [zOi] at ht
   subst ht
   exact anySV_mt _
  ·cases ht
 | x :: xs, [], _, _, _, hm, _ => hm.elim
 | x :: xs, u :: vs, n, 0, v, hm, ht => by
  simp at ht
  subst ht
  exact ⟨fun _ => by simpa using hm.1, fun h => by cases h⟩
 | x :: xs, u :: vs, n, t + 1, v, hm, ht => by
  have := args_slots (n := n) (t := t) (v := v) hm.2 (by simpa using ht)
  simpa using this
def setPs : List SV -> List (Nat × SV) -> List SV
 | T, [] => T
 | T, p :: l => setPs (T.set p.1 p.2) l
theorem setPs_len : ∀ {l : List (Nat × SV)} {T : List SV}, (setPs T l).length = T.length
 | [], _ => rfl
 | p :: l, T => by unfold setPs; rw [setPs_len]; simp
theorem setPs_mt {β : Beta} {ρ : Env} : ∀ {ps : List Nat} {xs : List S} {vs : List Value} {T : List SV} {tm : Array Value}, ps.length = xs.length -> mtAll β ρ xs vs -> tm.size = T.length -> (∀ (t : Nat) v, T[t]? = some v -> v.mt β ρ (tm.getD t undef)) ->
  ((ps.zip vs).foldl (fun tm p => tm.setIfInBounds p.1 p.2) tm).size = T.length /\ ∀ (t : Nat) v, (setPs T (ps.zip (xs.map fun s => ({ g := [], s := s } : SV))))[t]? = some v -> v.mt β ρ (((ps.zip vs).foldl (fun tm p => tm.setIfInBounds p.1 p.2) tm).getD t undef)
 | [], [], vs, T, tm, _, hm, hs, h => by
  cases vs with
  | nil => exact ⟨hs, h⟩
  | cons _ _ => exact hm.elim
 | p :: ps, x :: xs, [], T, tm, _, hm, _, _ => hm.elim
 | p :: ps, x :: xs, v :: vs, T, tm, hl, ⟨h1, h2⟩, hs, h => by
  simp only [List.zip_cons_cons, List.map_cons, List.foldl_cons, setPs]
  have := setPs_mt (ps := ps) (xs := xs) (vs := vs) (T := T.set p { g := [], s := x }) (tm := tm.setIfInBounds p v) (by simpa using hl) h2 (by simpa using hs) (fun t u hu => by
   rw [List.getElem?_set] at hu
   by_cases e : p = t
   ·subst e
    rw [if_pos rfl] at hu
    split at hu
    ·rename_i hlt
     simp only [zOi] at hu
     subst hu
     have hlt' : p < tm.size := by omega
     refine ⟨fun _ => ?_, fun h => by cases h⟩
     simpa [hlt'] using h1
    ·cases hu
   ·rw [if_neg e] at hu
    have := h t u hu
    simpa [Array.getElem?_setIfInBounds_ne e] using this)
  simpa using this
 | [], _ :: _, _, _, _, hl, _, _, _ => by simp at hl
 | _ :: _, [], _, _, _, hl, _, _, _ => by simp at hl
end

structure RfD where
 lid : Nat
 T : List SV
 ps : List Nat
 asg : Code
 bd : Code
 jl : List Code
def kdJ : Code -> Option Kd
 | .ret => some .r
 | .exit id => some (.x id)
 | _ => none
def idxJ (K : Kd) : List Code -> Nat -> Option Nat
 | [], _ => none
 | c :: l, j => match kdJ c with
  | some K' => if K'.eq K then some j else idxJ K l (j + 1)
  | none => idxJ K l (j + 1)
theorem idxJ_spec {K : Kd} : ∀ {l : List Code} {j i : Nat}, idxJ K l j = some i -> j <= i /\ kdJ (pickJ l (i - j)) = some K
 | [], j, i, h => by simp [idxJ] at h
 | c :: l, j, i, h => by
  have hrec : idxJ K l (j + 1) = some i -> j <= i /\ kdJ (pickJ (c :: l) (i - j)) = some K := fun h => by
   obtain ⟨h1, h2⟩ := idxJ_spec h
   refine ⟨by omega, ?_⟩
   cases l with
   | nil => simp [idxJ] at h
   | cons d l =>
    rw [show i - j = (i - (j + 1)) + 1 by omega]
    exact h2
  unfold idxJ at h
  split at h
  ·rename_i K' hK
   split at h
   ·rename_i he
    simp only [zOi] at h
    subst h
    refine ⟨Nat.le_refl _, ?_⟩
    rw [Nat.sub_self]
    have : pickJ (c :: l) 0 = c := by cases l <;> rfl
    rw [this, hK, Kd.eq_sound he]
   ·exact hrec h
  ·exact hrec h
def yJs (jl : List Code) : Kd -> Option (Bool × Js)
 | .n => some (true, {})
 | K => match idxJ K jl 0 with
  | some j => some (false, { b := .c false, a := .c (Int.ofNat j) })
  | none => none
theorem kdJ_r {c : Code} (h : kdJ c = some .r) : c = .ret := by
 unfold kdJ at h
 split at h
 ·rfl
 ·cases h
 ·cases h
theorem kdJ_x {c : Code} {id : Nat} (h : kdJ c = some (.x id)) : c = .exit id := by
 unfold kdJ at h
 split at h
 ·cases h
 ·cases h; rfl
 ·cases h
theorem yJs_spec {jl : List Code} {K : Kd} {res : Bool} {js : Js} (h : yJs jl K = some (res, js)) (hne : K ≠ .n) : res = false /\ ∃ j : Nat, js = { b := .c false, a := .c (Int.ofNat j) } /\ kdJ (pickJ jl j) = some K := by
 have key : ∀ i, idxJ K jl 0 = some i -> kdJ (pickJ jl i) = some K := fun i hi => (idxJ_spec hi).2
 unfold yJs at h
 split at h
 ·exact absurd rfl hne
 ·split at h
  ·rename_i j hj
   simp only [zOi, zPi] at h
   exact ⟨h.1.symm, j, h.2.symm, key j hj⟩
  ·cases h
def yOne (jl : List Code) (tm : List SV) (dst : Option Tmp) (K : Kd) (s : St) : Option St :=
 match yJs jl K with
 | some (r, js) => match setT tm dst { g := [], s := .one false [.bool (.c r)] } with
  | some tm' => some { tm := tm', hp := s.hp, rb := s.rb, js := js }
  | none => none
 | none => none
def yOuts (jl : List Code) (tm : List SV) (dst : Option Tmp) : Outs -> Option (List (Gd × St))
 | [] => some []
 | (K, q, s) :: O => match yOne jl tm dst K s, yOuts jl tm dst O with
  | some s', some l => some ((q, s') :: l)
  | _, _ => none
theorem yOuts_spec {jl : List Code} {tm : List SV} {dst : Option Tmp} : ∀ {O : Outs} {l : List (Gd × St)}, yOuts jl tm dst O = some l ->
  (∀ p, p ∈ l -> ∃ K s, (K, p.1, s) ∈ O /\ yOne jl tm dst K s = some p.2) /\ ∀ K q s, (K, q, s) ∈ O -> ∃ s', (q, s') ∈ l
 | [], l, h => by
  simp only [yOuts, zOi] at h
  subst h
  exact ⟨fun p hp => (by cases hp), fun K q s h => (by cases h)⟩
 | (K, q, s) :: O, l, h => by
  unfold yOuts at h
  split at h
  ·rename_i s' l' h1 h2
   simp only [zOi] at h
   subst h
   obtain ⟨i1, i2⟩ := yOuts_spec h2
   refine ⟨fun p hp => ?_, fun K' q' t ht => ?_⟩
   ·rcases List.mem_cons.1 hp with rfl | hp
    ·exact ⟨K, s, by simp, h1⟩
    ·obtain ⟨K', t, e1, e2⟩ := i1 p hp
     exact ⟨K', t, by simp [e1], e2⟩
   ·rcases List.mem_cons.1 ht with e | ht
    ·cases e; exact ⟨s', by simp⟩
    ·obtain ⟨t', e⟩ := i2 K' q' t ht
     exact ⟨t', by simp [e]⟩
  ·cases h
def distO : Outs -> Bool
 | [] => true
 | (k, _, _) :: O => (O.all fun p => !(k.eq p.1)) && distO O
theorem distO_get {k : Kd} {q : Gd} {s : St} : ∀ {O : Outs}, distO O = true -> (k, q, s) ∈ O -> getK k O = some (q, s)
 | (l, q', s') :: O, h, hm => by
  simp only [distO, zAi, List.all_eq_true, Bool.not_eq_true'] at h
  unfold getK
  rcases List.mem_cons.1 hm with e | hm
  ·cases e; rw [if_pos (Kd.eq_refl _)]
  ·rw [if_neg, distO_get h.2 hm]
   intro he
   have := h.1 _ hm
   rw [Kd.eq_sound he, Kd.eq_refl] at this
   cases this
theorem getK_mem {k : Kd} {q : Gd} {s : St} : ∀ {O : Outs}, getK k O = some (q, s) -> (k, q, s) ∈ O
 | [], h => by simp [getK] at h
 | (l, q', s') :: O, h => by
  unfold getK at h
  split at h
  ·rename_i he
   simp only [zOi, zPi] at h
   rw [Kd.eq_sound he, <- h.1, <- h.2]
   simp
  ·exact List.mem_cons.2 (.inr (getK_mem h))
def yJoin (keep : Kp) : List (Gd × St) -> M St
 | [] => M.fail
 | [(_, s)] => pure s
 | (q, s) :: p :: l => do
  let b <- gAtom q
  let r <- M.mono (yJoin keep (p :: l))
  M.mono (joinSt keep b s r)
theorem yJoin_ok {Φ : Funs} {x : Cx} {ρ : Env} {keep : Kp} (hx : GrOk x keep) : ∀ (l : List (Gd × St)) {z : St} {c c' : Ctr} {out : List Em}, yJoin keep l c = some (z, c', out) -> Good Φ ρ out -> ∀ {β : Beta} {a : Act} {w : World}, (∃ p, p ∈ l /\ Gd.d ρ p.1 = true) ->
  (∀ p, p ∈ l -> Gd.d ρ p.1 = true -> Rel x ρ β p.2 a w) -> Fresh β c -> ∃ β', Ext β β' /\ Rel x ρ β' z a w /\ Fresh β' c'
 | [], z, c, c', out, h, _, β, a, w, _, _, _ => by simp [yJoin, M.fail] at h
 | [(q, s)], z, c, c', out, h, _, β, a, w, ⟨p, hp, hq⟩, hR, hF => by
  have he := M.pure_inv h
  simp only [zPi] at he
  obtain ⟨rfl, rfl, rfl⟩ := he
  rw [List.mem_singleton.1 hp] at hq
  exact ⟨β, Ext.refl β, hR (q, z) (by simp) hq, hF⟩
 | (q, s) :: p :: l, z, c, c', out, h, hg, β, a, w, hex, hR, hF => by
  unfold yJoin at h
  obtain ⟨b, c1, o1, c2, o2, y, g1, g2, he⟩ := M.bind_inv h
  simp only [zPi] at he
  obtain ⟨rfl, rfl, rfl⟩ := he
  obtain ⟨r, c3, o3, c4, o4, y, g3, g4, he⟩ := M.bind_inv g2
  simp only [zPi] at he
  obtain ⟨rfl, rfl, rfl⟩ := he
  simp only [Good.append] at hg
  have hb := gAtom_snd q _ _ _ _ g1 hg.1
  have hid := gAtom_id g1
  obtain ⟨g3, le3⟩ := mono_inv g3
  simp only at le3
  obtain ⟨le4, hj⟩ := joinSt_ok (Φ := Φ) (x := x) (ρ := ρ) hx g4 hg.2.2
  cases hq : Gd.d ρ q with
  | true =>
   exact hj β a w (by rw [hb, hq, if_pos rfl]; exact hR (q, s) (by simp) hq) (hF.le (by omega))
  | false =>
   obtain ⟨p', hp', hq'⟩ := hex
   rcases List.mem_cons.1 hp' with e | hp'
   ·rw [e, hq] at hq'; cases hq'
   ·obtain ⟨β1, f1, f2, f3⟩ := yJoin_ok hx (p :: l) g3 hg.2.1 ⟨p', hp', hq'⟩ (fun p'' h1 h2 => hR p'' (List.mem_cons.2 (.inr h1)) h2) (hF.le (by omega))
    obtain ⟨β2, f4, f5, f6⟩ := hj β1 a w (by rw [hb, hq]; simpa using f2) f3
    exact ⟨β2, f1.trans f4, f5, f6⟩
def onlyN (O : Outs) : Option St := match O with
 | [(.n, _, s)] => some s
 | _ => none
def knY (lid ng : Nat) (hp : Hl) (i : Nat) : Bool := i == lid || knN ng hp i
def yS (P : Program) (H : Hnd) (gl : Gl) (kb : Ctl) (keep : Kp) (D : RfD) (σ : St) (dst : Option Tmp) (args : List Operand) : M St :=
 if args.length == D.ps.length then do
  let _ <- oblige σ.js.b
  let Oa <- M.mono (exec P H (ghOf gl 0) gl.length kb D.asg { tm := setPs D.T (D.ps.zip ((args.map fun y => rs [] (ev gl.length σ y)).map fun s => ({ g := [], s := s } : SV))), hp := σ.hp, rb := σ.rb })
  let sa <- lift (onlyN Oa)
  let Ob <- M.mono (exec P H (ghOf gl 0) gl.length kb D.bd { sa with js := {} })
  let l <- lift (if distO Ob then yOuts D.jl (σ.tm.map (SV.jk (knY D.lid gl.length σ.hp))) dst Ob else none)
  M.mono (yJoin keep l)
 else M.fail
structure RcOk (x : Cx) (D : RfD) (r : LpRec) : Prop where
 lr : x.lr = some r
 fix : r.fix = none
 jl : r.jl = D.jl
 ps : r.rc.params.toList = D.ps
 asg : r.rc.assign = D.asg
 bd : r.rc.body = D.bd
 sz : r.rc.tmps.size = D.T.length
 T : ∀ (β : Beta) (ρ : Env), Ext x.b0 β -> ∀ (t : Nat) (v : SV), D.T[t]? = some v -> v.mt β ρ (r.rc.tmps.getD t undef)
 lid : ∃ q, x.b0 D.lid = some q /\ q.row = false /\ q.blk = r.l
 rl : x.rl = none
theorem Rel.into {x y : Cx} {ρ : Env} {β : Beta} {σ σ' : St} {a a' : Act} {w : World} (h : Rel x ρ β σ a w) (hy : y.w0 = x.w0 /\ y.R = x.R /\ y.gl = x.gl /\ y.gr = x.gr /\ y.Q = x.Q /\ y.gi = x.gi) (hhp : σ'.hp = σ.hp) (heb : ExtP (fun i => !σ'.rb.contains i) y.b0 β)
  (hsz : a'.tmps.size = σ'.tm.length) (hsl : ∀ (t : Nat) (v : SV), σ'.tm[t]? = some v -> v.mt β ρ (a'.tmps.getD t undef)) (hl : Lk y ρ σ'.js a'.defers w) : Rel y ρ β σ' a' w := by
 obtain ⟨y1, y2, y3, y4, y5, y7⟩ := hy
 have e : y.gh = x.gh := by unfold Cx.gh; rw [y3]
 refine ⟨hsz, hsl, hl, by rw [hhp]; exact h.hm, by rw [e]; exact h.gm, by rw [e]; exact h.gro, by rw [y1, y2, y5]; exact h.bo, by rw [y1, y2]; exact h.kp, by rw [y3]; exact h.gl, by rw [y4, y7]; exact h.ra, heb⟩
theorem getD_map_jk {p : Nat -> Bool} {β β' : Beta} {ρ : Env} (h : Mv p β β') {tm : List SV} {f : Nat -> Value} (hs : ∀ (t : Nat) (v : SV), tm[t]? = some v -> v.mt β ρ (f t)) : ∀ (t : Nat) (v : SV), (tm.map (SV.jk p))[t]? = some v -> v.mt β' ρ (f t) := fun t v hv => by
 rw [List.getElem?_map, Option.map_eq_some_iff] at hv
 obtain ⟨u, hu, rfl⟩ := hv
 exact SV.jk_mt h (hs t u hu)
section

section
variable {P : Program} {Φ : Funs} {H : Hnd} {x : Cx} {ρ : Env}
theorem yS_ok (hH : HOk P Φ x.gl H) (hG : ∀ w, Keep x.R x.w0 w -> Laid x.gl w) {kb : Ctl} (hxb : GrOk x kb.keep) (hLb : LoopsOk Φ kb) (hEb : kb.E = {}) {keep : Kp} (hx : GrOk x keep) {D : RfD} {r : LpRec} (hrc : RcOk x D r)
  {σ σ' : St} {dst : Option Tmp} {args : List Operand} {c c' : Ctr} {out : List Em} (h : yS P H x.gl kb keep D σ dst args c = some (σ', c', out)) (hg : Good Φ ρ out) {β : Beta} {a : Act} {w : World} (hR : Rel x ρ β σ a w) (hF : Fresh β c)
  (next : Act -> World -> Prop) (Q : Exit -> Act -> World -> Prop) (hn : ∀ β' a' w', Ext β β' -> Rel x ρ β' σ' a' w' -> Fresh β' c' -> next a' w') :
  (Instr.yield r.l (args.map a.eval).toArray).run P w = .ok (.round r.l r.rc.fn ((r.rc.params.zip (args.map a.eval).toArray).foldl (fun tmps (t, v) => tmps.setIfInBounds t v) r.rc.tmps) D.asg D.bd) w /\
   RoundIn Fence.wide 0 P r.l r.rc.fn ((r.rc.params.zip (args.map a.eval).toArray).foldl (fun tmps (t, v) => tmps.setIfInBounds t v) r.rc.tmps) D.asg D.bd w fun
    | .returned v, w'' => next (a.put dst v) w''
    | .panicked chain, w'' => Q (.panic chain) a w''
    | .outgrown, _ => LetsOut Q := by
 unfold yS at h
 split at h
 rotate_left
 ·simp [M.fail] at h
 rename_i hlen
 simp only [beq_iff_eq] at hlen
 obtain ⟨u0, c1, o1, c2, o2, y, g1, g2, he⟩ := M.bind_inv h
 simp only [zPi] at he
 obtain ⟨rfl, rfl, rfl⟩ := he
 obtain ⟨Oa, c3, o3, c4, o4, y, g3, g4, he⟩ := M.bind_inv g2
 simp only [zPi] at he
 obtain ⟨rfl, rfl, rfl⟩ := he
 obtain ⟨sa, c5, o5, c6, o6, y, g5, g6, he⟩ := M.bind_inv g4
 simp only [zPi] at he
 obtain ⟨rfl, rfl, rfl⟩ := he
 obtain ⟨sa', hsa, he⟩ := lift_inv g5
 simp only [zPi] at he
 obtain ⟨rfl, rfl, rfl⟩ := he
 obtain ⟨Ob, c7, o7, c8, o8, y, g7, g8, he⟩ := M.bind_inv g6
 simp only [zPi] at he
 obtain ⟨rfl, rfl, rfl⟩ := he
 obtain ⟨l, c9, o9, c10, o10, y, g9, g10, he⟩ := M.bind_inv g8
 simp only [zPi] at he
 obtain ⟨rfl, rfl, rfl⟩ := he
 obtain ⟨l', hl, he⟩ := lift_inv g9
 simp only [zPi] at he
 obtain ⟨rfl, rfl, rfl⟩ := he
 simp only [Good.append] at hg
 obtain ⟨hg1, hg3, _, hg7, _, hg10⟩ := hg
 have hjs : σ.js.b.d ρ = true := oblige_snd _ _ _ _ _ g1 hg1
 have hid1 := oblige_id g1
 obtain ⟨g3, le3⟩ := mono_inv g3
 obtain ⟨g7, le7⟩ := mono_inv g7
 obtain ⟨g10, le10⟩ := mono_inv g10
 simp only at le3 le7 le10
 split at hl
 rotate_left
 ·cases hl
 rename_i hdist
 obtain ⟨ho1, ho2⟩ := yOuts_spec hl
 obtain ⟨hN, hrec⟩ := hR.df.rc r hrc.lr
 have hat : r.at (σ.js.b.d ρ) (σ.js.a.d ρ) = { r.rc with state := .ready, pending := none } := by
  unfold LpRec.at; rw [hrc.fix, hjs]; rfl
 rw [hat] at hrec
 have hdl : a.defers = [] := hR.df.nm (by rw [hrc.lr]; rfl)
 have hxs : mtAll β ρ (args.map fun y => rs [] (ev x.gl.length σ y)) (args.map a.eval) := mtAll_map fun y _ => rs_mt (Γ := []) rfl (ev_mt hR y)
 have hpl : r.rc.params.size = args.length := by have := congrArg List.length hrc.ps; simp at this; omega
 refine ⟨by have := run_yield (P := P) (args := (args.map a.eval).toArray) hrec (by simp [hpl]); rw [this]; rw [<- hrc.asg, <- hrc.bd], ?_⟩
 obtain ⟨tms, htms⟩ : ∃ tms, tms = (r.rc.params.zip (args.map a.eval).toArray).foldl (fun tmps (t, v) => tmps.setIfInBounds t v) r.rc.tmps := ⟨_, rfl⟩
 rw [<- htms]
 have htl : tms = (D.ps.zip (args.map a.eval)).foldl (fun tm p => tm.setIfInBounds p.1 p.2) r.rc.tmps := by
  rw [htms, <- hrc.ps, <- Array.foldl_toList]
  simp
 obtain ⟨hs1, hs2⟩ := setPs_mt (ps := D.ps) (T := D.T) (tm := r.rc.tmps) (by simpa using hlen.symm) hxs hrc.sz (hrc.T β ρ hR.eb.ext)
 rw [<- htl] at hs1 hs2
 refine roundIn_of_wpIn (F := Fence.wide) (n := 0) trivial ?_
 obtain ⟨xa, hxa⟩ : ∃ xa : Cx, xa = { x with lr := some { r with fix := some .ready }, rl := some r.l } := ⟨_, rfl⟩
 have hRa : Rel xa ρ β { tm := setPs D.T (D.ps.zip ((args.map fun y => rs [] (ev x.gl.length σ y)).map fun s => ({ g := [], s := s } : SV))), hp := σ.hp, rb := σ.rb } { tmps := tms, defers := [] } w := by
  subst hxa
  refine hR.into ⟨rfl, rfl, rfl, rfl, rfl, rfl⟩ rfl hR.eb (by rw [hs1]; exact setPs_len.symm) hs2 ⟨fun r' hr' => ?_, hR.df.ds, trivial, fun _ => rfl⟩
  simp only [zOi] at hr'
  subst hr'
  exact ⟨hN, hrec⟩
 have hEa : ∀ y : Cx, EOk P Φ y kb.E := fun y => EOk.nil hEb
 have hFa : Fresh β c1 := hF.le (by omega)
 have hka : CodeOk P Φ xa ρ D.asg (exec P H xa.gh xa.ng kb D.asg) := by
  subst hxa
  exact exec_ok (x := { x with lr := some { r with fix := some .ready }, rl := some r.l }) hH hG kb hxb hLb (hEa _) D.asg ρ
 have hka2 : D.asg.wpIn (Fence.wide.inRound r.l) 0 P (Exit.then (fun a₁ w₁ => ∃ w₂, (Instr.beginRound r.l).run P w₁ = .ok () w₂ /\ D.bd.wpIn (Fence.wide.inRound r.l) 0 P (roundPost P r.l fun
    | .returned v, w'' => next (a.put dst v) w''
    | .panicked chain, w'' => Q (.panic chain) a w''
    | .outgrown, _ => LetsOut Q) a₁ w₂) (fun _ _ _ => False)) { tmps := tms, defers := [] } w := by
  have := hka _ _ _ Oa _ (by subst hxa; exact g3) hg3 β _ w hRa hFa (Exit.then (fun a₁ w₁ => ∃ w₂, (Instr.beginRound r.l).run P w₁ = .ok () w₂ /\ D.bd.wpIn (Fence.wide.inRound r.l) 0 P (roundPost P r.l fun
    | .returned v, w'' => next (a.put dst v) w''
    | .panicked chain, w'' => Q (.panic chain) a w''
    | .outgrown, _ => LetsOut Q) a₁ w₂) (fun _ _ _ => False)) (fun e a1 w1 K hk hO => ?_)
  ·subst hxa; exact this
  have hOa : ∃ q, Oa = [(.n, q, sa)] := by
   unfold onlyN at hsa
   split at hsa
   ·simp only [zOi] at hsa; subst hsa; exact ⟨_, rfl⟩
   ·cases hsa
  obtain ⟨q0, rfl⟩ := hOa
  obtain ⟨_, q1, s1, β1, hK1, hE1, hR1, hF1⟩ := hO
  have hKn : K = .n /\ s1 = sa := by
   unfold getK at hK1
   split at hK1
   ·rename_i he
    simp only [zOi, zPi] at hK1
    exact ⟨Kd.eq_sound he, hK1.2.symm⟩
   ·simp [getK] at hK1
  obtain ⟨rfl, rfl⟩ := hKn
  have hen := kdOf_n hk
  subst hen
  have hrec1 : w1.heap[r.l]? = some (.loop { r.rc with state := .ready, pending := none }) := by
   have := (hR1.df.rc { r with fix := some .ready } (by rw [hxa])).2
   exact this
  have hbr := run_beginRound (P := P) hrec1 rfl
  refine ⟨_, hbr, ?_⟩
  obtain ⟨xb, hxbd⟩ : ∃ xb : Cx, xb = { x with lr := some { r with fix := some .busy }, rl := some r.l } := ⟨_, rfl⟩
  have hd1 : a1.defers = [] := hR1.df.nm (by rw [hxa]; rfl)
  have hlt1 := (Array.getElem?_eq_some_iff.1 hrec1).1
  have hRb : Rel xb ρ β1 { s1 with js := {} } a1 (w1.putObj r.l (.loop { r.rc with state := .busy, pending := none })) := by
   refine hR1.putObj (y := xb) (a' := a1) (by rw [hxa]; exact hN) hrec1 rfl rfl (by rw [hxa, hxbd]; exact ⟨rfl, rfl, rfl, rfl, rfl, rfl, rfl⟩) rfl ?_
   rw [hd1, hxbd]
   refine ⟨fun r' hr' => ?_, fun E hE => ?_, trivial, fun _ => rfl⟩
   ·simp only [zOi] at hr'
    subst hr'
    exact ⟨hN, World.putObj_heap_same hlt1⟩
   ·obtain ⟨e1, e2⟩ := hR1.df.ds E (by rw [hxa]; exact hE)
    refine ⟨by rw [hxa] at e1; exact e1, (World.putObj_heap_other (fun e => ?_)).trans e2⟩
    subst e
    rw [hrec1] at e2
    cases e2
  have hkb : CodeOk P Φ xb ρ D.bd (exec P H xb.gh xb.ng kb D.bd) := by
   subst hxbd
   exact exec_ok (x := { x with lr := some { r with fix := some .busy }, rl := some r.l }) hH hG kb hxb hLb (hEa _) D.bd ρ
  have := hkb _ _ _ Ob _ (by subst hxbd; exact g7) hg7 β1 a1 _ hRb hF1 (roundPost P r.l fun
    | .returned v, w'' => next (a.put dst v) w''
    | .panicked chain, w'' => Q (.panic chain) a w''
    | .outgrown, _ => LetsOut Q) (fun e3 a3 w3 K3 hk3 hO3 => ?_)
  ·subst hxbd; exact this
  obtain ⟨hO3a, q3, s3, β3, hK3, hE3, hR3, hF3⟩ := hO3
  have hq3 : Gd.d ρ q3 = true := (hO3a _ _ _ hK3).2 rfl
  have hrec3 : w3.heap[r.l]? = some (.loop { r.rc with state := .busy, pending := none }) := by
   have := (hR3.df.rc { r with fix := some .busy } (by rw [hxbd])).2
   exact this
  have hlt3 := (Array.getElem?_eq_some_iff.1 hrec3).1
  have hEE : Ext β β3 := hE1.trans hE3
  have hfin : ∀ (res : Bool) (js : Js) (o' : Loop), yJs D.jl K3 = some (res, js) -> r.at (js.b.d ρ) (js.a.d ρ) = o' -> next (a.put dst (.bool res)) (w3.putObj r.l (.loop o')) := fun res js o' hyj hat' => by
   have hone : ∀ p, p ∈ l -> Gd.d ρ p.1 = true -> Rel x ρ β3 p.2 (a.put dst (.bool res)) (w3.putObj r.l (.loop o')) := fun p hp hpq => by
    obtain ⟨K', s', e1, e2⟩ := ho1 p hp
    have hget := distO_get hdist e1
    have hKK : K' = K3 := (hO3a _ _ _ hget).1 hpq
    subst hKK
    rw [hK3] at hget
    simp only [zOi, zPi] at hget
    obtain ⟨_, rfl⟩ := hget
    unfold yOne at e2
    rw [hyj] at e2
    simp only at e2
    split at e2
    ·rename_i tm' htm
     simp only [zOi] at e2
     rw [<- e2]
     have hmv : Mv (knY D.lid x.gl.length σ.hp) β β3 := ⟨fun i r hi hr => hr.elim (hEE.at hi) fun h => by
      unfold knY at h
      rw [Bool.or_eq_true] at h
      rcases h with h | h
      ·obtain ⟨q, hq1, hq2, _⟩ := hrc.lid
       have e0 : i = D.lid := by simpa using h
       subst e0
       have e1 := hR.eb _ _ hq1 (.inl hq2)
       rw [hi] at e1
       cases e1
       exact hEE.at hi hq2
      ·exact knN_keep hR hEE i r h hi, (Mv.of hR.bo (ExtP.refl (fun _ => true) β)).sq⟩
     obtain ⟨t1, t2⟩ := slot_put (v := .bool res) (a := a) (tm := σ.tm.map (SV.jk (knY D.lid x.gl.length σ.hp))) (dst := dst) (by rw [hR.size]; simp) (getD_map_jk hmv hR.slot) htm ⟨fun _ => ⟨_, rfl, rfl⟩, fun h => by cases h⟩
     have hR4 := hR3.putObj (y := xb) (js := {}) (a' := a3) (o' := .loop { r.rc with state := .busy, pending := none }) (by rw [hxbd]; exact hN) hrec3 rfl rfl ⟨rfl, rfl, rfl, rfl, rfl, rfl, rfl⟩ rfl (by
      have hd3 : a3.defers = [] := hR3.df.nm (by rw [hxbd]; rfl)
      rw [hd3]
      refine ⟨fun r' hr' => ⟨(hR3.df.rc r' hr').1, ?_⟩, fun E hE => ⟨(hR3.df.ds E hE).1, ?_⟩, trivial, fun _ => rfl⟩
      ·rw [hxbd] at hr'
       simp only [zOi] at hr'
       subst hr'
       exact World.putObj_heap_same hlt3
      ·have e2 := (hR3.df.ds E hE).2
       exact (World.putObj_heap_other (fun e => by subst e; rw [hrec3] at e2; cases e2)).trans e2)
     have hR5 : Rel x ρ β3 { tm := tm', hp := s3.hp, rb := s3.rb, js := js } (a.put dst (.bool res)) (w3.putObj r.l (.loop o')) := by
      have hR6 : Rel xb ρ β3 { s3 with js := {} } { a3 with defers := [] } (w3.putObj r.l (.loop o')) \/ True := .inr trivial
      have hc := putObj_cell (o' := .loop o') hrec3 rfl rfl
      have e : x.gh = xb.gh := by rw [hxbd]; rfl
      refine ⟨t1, t2, ⟨fun r' hr' => ?_, fun E hE => ?_, by rw [(put_tmps a _ _).1, hdl]; trivial, fun _ => by rw [(put_tmps a _ _).1, hdl]⟩, fun id b hb hbg => blkMt_cells hc (hR3.hm id b hb hbg), by rw [e]; exact fun id b hb hbg => blkMt_cells hc (hR3.gm id b hb hbg), by rw [e]; exact hR3.gro, ?_, ?_, ?_, ?_, ?_⟩
      ·rw [hrc.lr] at hr'
       simp only [zOi] at hr'
       subst hr'
       exact ⟨hN, by rw [World.putObj_heap_same hlt3, hat']⟩
      ·obtain ⟨d1, d2⟩ := hR3.df.ds E (by rw [hxbd]; exact hE)
       refine ⟨by rw [hxbd] at d1; exact d1, (World.putObj_heap_other (fun e => ?_)).trans d2⟩
       subst e
       rw [hrec3] at d2
       cases d2
      ·have := hR3.bo
       rw [hxbd] at this
       exact betaOk_cells (fun a => (hc a).1) (by rw [World.putObj_size]; exact Nat.le_refl _) this
      ·have := hR3.kp
       rw [hxbd] at this
       exact putObj_keep this hN hrec3 rfl rfl
      ·have := hR3.gl; rw [hxbd] at this; exact this
      ·have := hR3.ra; rw [hxbd] at this; exact this
      ·have := hR3.eb; rw [hxbd] at this; exact this
     exact hR5
    ·cases e2
   have hF3' : Fresh β3 c9 := hF3.le (by omega)
   obtain ⟨β4, f1, f2, f3⟩ := yJoin_ok hx l g10 hg10 (by
    obtain ⟨s', hs'⟩ := ho2 _ _ _ (getK_mem hK3)
    exact ⟨(q3, s'), hs', hq3⟩) hone hF3'
   exact hn β4 _ _ (hEE.trans f1) f2 f3
  have hyn : ∀ c0 : Code, kdJ c0 = some K3 -> (K3 ≠ .n) -> ∃ js : Js, yJs D.jl K3 = some (false, js) /\ ∃ c1, kdJ c1 = some K3 /\ r.at (js.b.d ρ) (js.a.d ρ) = { r.rc with state := .done, pending := some c1 } := fun c0 hc0 hne => by
   obtain ⟨s', hs'⟩ := ho2 _ _ _ (getK_mem hK3)
   obtain ⟨K', s2, e1, e2⟩ := ho1 _ hs'
   have hget := distO_get hdist e1
   have hKK : K' = K3 := (hO3a _ _ _ hget).1 hq3
   subst hKK
   unfold yOne at e2
   cases hyj : yJs D.jl K' with
   | none => rw [hyj] at e2; cases e2
   | some y =>
    obtain ⟨res, js⟩ := y
    obtain ⟨rfl, j, rfl, hj⟩ := yJs_spec hyj hne
    exact ⟨_, rfl, pickJ D.jl j, hj, by unfold LpRec.at; rw [hrc.fix, hrc.jl]; rfl⟩
  cases e3 with
  | normal =>
   simp only [kdOf, zOi] at hk3
   subst hk3
   exact ⟨_, _, run_endRound none hrec3, hfin true {} _ rfl (by unfold LpRec.at; rw [hrc.fix]; rfl)⟩
  | ret =>
   simp only [kdOf, zOi] at hk3
   subst hk3
   obtain ⟨js, e1, c1, e2, e3⟩ := hyn .ret rfl (by simp)
   rw [kdJ_r e2] at e3
   exact ⟨_, _, run_endRound (some .ret) hrec3, hfin false js _ e1 e3⟩
  | exit id =>
   simp only [kdOf, zOi] at hk3
   subst hk3
   obtain ⟨js, e1, c1, e2, e3⟩ := hyn (.exit id) rfl (by simp)
   rw [kdJ_x e2] at e3
   exact ⟨_, _, run_endRound (some (.exit id)) hrec3, hfin false js _ e1 e3⟩
  | goto t => simp [kdOf] at hk3
  | panic ch => simp [kdOf] at hk3
  | outgrown => simp [kdOf] at hk3
 exact hka2
end
end
section

def isYl (lid ng : Nat) (σ : St) (o : Oper) : Option (List Operand) :=
 match o with
 | ⟨_, .call ⟨.value (.tmp t), args, _⟩, _, _, _, none⟩ => match ev ng σ (.tmp t) with
  | { g := [], s := .one false [.fn [] (some (n, [(i, 0)]))] } => if n == yieldN && i == lid then some args.toList else none
  | _ => none
 | _ => none
theorem isYl_spec {lid ng : Nat} {σ : St} {o : Oper} {l : List Operand} (h : isYl lid ng σ o = some l) : ∃ dst t args at' ty pos after, o = ⟨dst, .call ⟨.value (.tmp t), args, at'⟩, ty, pos, after, none⟩ /\ l = args.toList /\
  ev ng σ (.tmp t) = { g := [], s := .one false [.fn [] (some (yieldN, [(lid, 0)]))] } := by
 unfold isYl at h
 split at h
 ·rename_i dst t args at' ty pos after
  split at h
  ·rename_i n i hev
   split at h
   ·rename_i hc
    simp only [zAi, beq_iff_eq] at hc
    obtain ⟨rfl, rfl⟩ := hc
    simp only [zOi] at h
    exact ⟨dst, t, args, at', ty, pos, after, rfl, h.symm, hev⟩
   ·cases h
  ·cases h
 ·cases h
def regY (P : Program) (H : Hnd) (gl : Gl) (kb : Ctl) (keep : Kp) (D : RfD) (ops : Array Oper) : List Oper -> St -> M St
 | [], σ => pure σ
 | o :: l, σ => match isYl D.lid gl.length σ o with
  | some args => do
   let σ' <- M.mono (yS P H gl kb keep D σ o.dst args)
   regY P H gl kb keep D ops l σ'
  | none => do
   let σ' <- opS P H (ghOf gl 0) gl.length ops o σ
   regY P H gl kb keep D ops l σ'
def callT (o : Oper) : Bool := match o.op with
 | .call ⟨.value (.tmp _), _, _⟩ => true
 | _ => false
def yE (P : Program) (H : Hnd) (gl : Gl) (kb : Ctl) (keep : Kp) (D : RfD) : XE :=
 { rg := fun ops draw s => if !draw && (ops.toList.any callT && noDef ops.toList) then some (regY P H gl kb keep D ops ops.toList s) else none }

section
variable {P : Program} {Φ : Funs} {H : Hnd} {x : Cx}
theorem yield_val {D : RfD} {r : LpRec} (hrc : RcOk x D r) {ρ : Env} {β : Beta} {σ : St} {a : Act} {w : World} (hR : Rel x ρ β σ a w) {t : Nat} (h : ev x.ng σ (.tmp t) = { g := [], s := .one false [.fn [] (some (yieldN, [(D.lid, 0)]))] }) : a.eval (.tmp t) = .func (.yield r.l) #[] #[] := by
 have hv := (ev_mt hR (.tmp t))
 rw [h] at hv
 have hm := mt_cell (s := .one false [.fn [] (some (yieldN, [(D.lid, 0)]))]) rfl (hv.1 rfl)
 have hm : fvMt β (some (yieldN, [(D.lid, 0)])) (a.eval (.tmp t)) := hm
 obtain ⟨vs, h1, h2⟩ := hm
 obtain ⟨q, hq, hrow, hb⟩ := hrc.lid
 have hq' := hR.eb.at hq hrow
 match vs, h2 with
 | [v], ⟨⟨q2, hq2, hv2⟩, _⟩ =>
  rw [hq'] at hq2
  cases hq2
  rw [h1, hv2]
  unfold fvVal
  rw [if_pos rfl]
  simp only
  rw [hb]
theorem regY_sound (hH : HOk P Φ x.gl H) (hG : ∀ w, Keep x.R x.w0 w -> Laid x.gl w) {kb : Ctl} (hxb : GrOk x kb.keep) (hLb : LoopsOk Φ kb) (hEb : kb.E = {}) {keep : Kp} (hx : GrOk x keep) {D : RfD} {r : LpRec} (hrc : RcOk x D r) {ρ : Env} {ops : Array Oper} {Q : Exit -> Act -> World -> Prop} (hQ : ¬ LetsOut Q) :
  ∀ (l : List Oper) {σ σ' : St} {c c' : Ctr} {out : List Em}, noDef l = true -> regY P H x.gl kb keep D ops l σ c = some (σ', c', out) -> Good Φ ρ out -> ∀ {β : Beta} {a : Act} {w : World}, Rel x ρ β σ a w -> Fresh β c ->
   (∀ β' a' w', Ext β β' -> Rel x ρ β' σ' a' w' -> Fresh β' c' -> Q .normal a' w') -> wpListIn (FR none) 0 P ops Q l a w
 | [], σ, σ', c, c', out, _, h, hg, β, a, w, hR, hF, hn => by
  have he := M.pure_inv h
  simp only [zPi] at he
  obtain ⟨rfl, rfl, rfl⟩ := he
  exact hn β a w (Ext.refl β) hR hF
 | o :: l, σ, σ', c, c', out, hd, h, hg, β, a, w, hR, hF, hn => by
  have hd1 := noDef_spec hd (o := o) (by simp)
  have hd2 : noDef l = true := by simp only [noDef, List.all_cons, zAi] at hd; exact hd.2
  unfold regY at h
  cases hy : isYl D.lid x.gl.length σ o with
  | none =>
   rw [hy] at h
   simp only at h
   obtain ⟨σ1, c1, o1, c2, o2, y, h1, h2, he⟩ := M.bind_inv h
   simp only [zPi] at he
   obtain ⟨rfl, rfl, rfl⟩ := he
   rw [Good.append] at hg
   have hop := opS_sound hH hG h1 hg.1 hR hF (wpListIn (FR none) 0 P ops Q l) Q fun β' a' w' he' hR' hF' =>
    regY_sound hH hG hxb hLb hEb hx hrc hQ l hd2 h2 hg.2 hR' hF' fun β'' a'' w'' he'' hR'' hF'' => hn β'' a'' w'' (he'.trans he'') hR'' hF''
   unfold wpListIn
   split
   ·rename_i hw
    rw [if_pos hw] at hop
    exact wpIn_of_wp hd1 hop
   ·rename_i hw
    rw [if_neg hw] at hop
    exact ⟨fun f _ => FR_fn none f, hop⟩
  | some args =>
   rw [hy] at h
   simp only at h
   obtain ⟨σ1, c1, o1, c2, o2, y, h1, h2, he⟩ := M.bind_inv h
   simp only [zPi] at he
   obtain ⟨rfl, rfl, rfl⟩ := he
   rw [Good.append] at hg
   obtain ⟨dst, t, args', at', ty, pos, after, rfl, rfl, hev⟩ := isYl_spec hy
   have hval := yield_val hrc hR hev
   obtain ⟨hrun, hround⟩ := yS_ok hH hG hxb hLb hEb hx hrc (mono_inv h1).1 hg.1 hR hF (wpListIn (FR none) 0 P ops Q l) Q fun β' a' w' he' hR' hF' =>
    regY_sound hH hG hxb hLb hEb hx hrc hQ l hd2 h2 hg.2 hR' hF' fun β'' a'' w'' he'' hR'' hF'' => hn β'' a'' w'' (he'.trans he'') hR'' hF''
   have hargs : (args'.toList.map a.eval).toArray = args'.map a.eval := by
    apply Array.toList_inj.1; simp
   rw [hargs] at hrun hround
   unfold wpListIn
   rw [if_pos (wanted_none rfl _)]
   refine ⟨fun f _ => FR_fn none f, ?_⟩
   rw [Oper.semAt_eq _ _ _ hd1]
   have hex : (execOp a.eval ⟨dst, .call ⟨.value (.tmp t), args', at'⟩, ty, pos, after, none⟩).run P w = .ok (.round r.l r.rc.fn ((r.rc.params.zip (args'.map a.eval)).foldl (fun tmps (t, v) => tmps.setIfInBounds t v) r.rc.tmps) D.asg D.bd) w := by
    rw [<- hrun]
    simp [execOp, resolve, hval, Deferred.ofValue, invoke]
   rw [hex, Oper.uponIn_round]
   exact ⟨fun hh => (by cases hh), hround⟩
theorem yE_ok (hH : HOk P Φ x.gl H) (hG : ∀ w, Keep x.R x.w0 w -> Laid x.gl w) {kb : Ctl} (hxb : GrOk x kb.keep) (hLb : LoopsOk Φ kb) (hEb : kb.E = {}) {keep : Kp} (hx : GrOk x keep) {D : RfD} {r : LpRec} (hrc : RcOk x D r) : EOk P Φ x (yE P H x.gl kb keep D) := by
 refine ⟨fun ρ g ps asg bd s c c' O out hm => by simp [yE, M.fail] at hm, fun ρ ops draw s m hm c c' s' out hrun hg β a w hR hF Q hQ id => ?_⟩
 unfold yE at hm
 simp only at hm
 split at hm
 ·rename_i hc
  simp only [zAi, Bool.not_eq_true'] at hc
  simp only [zOi] at hm
  subst hm
  obtain ⟨rfl, _, hnd⟩ := hc
  rw [hrc.rl]
  have hno : ¬ LetsOut (fun (e : Exit) (a : Act) (w : World) => e = .normal /\ Q .normal a w) := fun ⟨_, _, h⟩ => by cases h.1
  exact wpIn_mono (wpIn_region_list (regY_sound hH hG hxb hLb hEb hx hrc hno ops.toList hnd hrun hg hR hF fun β' a' w' he' hR' hF' => ⟨rfl, hQ β' a' w' he' hR' hF'⟩)) fun e a w ⟨e1, e2⟩ => by rw [e1]; exact e2
 ·cases hm
end
end

def exitIds : Code -> List Nat
 | .exit id => [id]
 | .seq a b => exitIds a ++ exitIds b
 | .cond _ a b => exitIds a ++ exitIds b
 | .block id a => (exitIds a).filter fun i => !(i == id)
 | .loop a => exitIds a
 | _ => []
def hasRet : Code -> Bool
 | .ret => true
 | .seq a b => hasRet a || hasRet b
 | .cond _ a b => hasRet a || hasRet b
 | .block _ a => hasRet a
 | .loop a => hasRet a
 | _ => false
def jumpsOf (bd : Code) : List Code := (if hasRet bd then [.ret] else []) ++ (dedup (exitIds bd)).map .exit
def kdD (c : Code) : Kd := (kdJ c).getD .n
def goJ (ja : A) (s : St) : List Code -> Nat -> Gd -> M Outs
 | [], _, _ => pure []
 | [c], _, acc => pure [(kdD c, acc, s)]
 | c :: d :: l, i, acc => do
  let e <- mkCm .leq ja (.c (Int.ofNat i))
  let r <- goJ ja s (d :: l) (i + 1) (acc ++ [(e, false)])
  pure ((kdD c, acc ++ [(e, true)], s) :: r)
def jlOk : List Code -> Bool
 | [] => true
 | c :: l => (kdJ c).isSome && (l.all fun d => !((kdD c).eq (kdD d))) && jlOk l
theorem pickJ_mem : ∀ {l : List Code} {n : Nat}, l ≠ [] -> pickJ l n ∈ l
 | [], _, h => absurd rfl h
 | [c], n, _ => by cases n <;> simp [pickJ]
 | c :: d :: l, 0, _ => by simp [pickJ]
 | c :: d :: l, n + 1, _ => by
  have := pickJ_mem (l := d :: l) (n := n) (by simp)
  simp only [pickJ]
  exact List.mem_cons.2 (.inr this)
theorem goJ_ok {Φ : Funs} {ρ : Env} {ja : A} {s : St} : ∀ {l : List Code} {i : Nat} {acc : Gd} {O : Outs} {c c' : Ctr} {out : List Em}, goJ ja s l i acc c = some (O, c', out) -> Good Φ ρ out -> l ≠ [] -> jlOk l = true -> (Gd.d ρ acc = true -> i <= (ja.d ρ).toNat \/ i = 0) ->
  (∀ k q t, getK k O = some (q, t) -> t = s /\ (Gd.d ρ q = true ↔ Gd.d ρ acc = true /\ kdD (pickJ l ((ja.d ρ).toNat - i)) = k)) /\ ∀ d, d ∈ l -> ∃ q, getK (kdD d) O = some (q, s)
 | [], _, _, _, _, _, _, _, _, hne, _, _ => absurd rfl hne
 | [d], i, acc, O, c, c', out, h, hg, _, _, _ => by
  have he := M.pure_inv h
  simp only [zPi] at he
  obtain ⟨rfl, rfl, rfl⟩ := he
  have hp : ∀ m, pickJ [d] m = d := fun m => by cases m <;> rfl
  refine ⟨fun k q t hk => ?_, fun d' hd' => ?_⟩
  ·unfold getK at hk
   split at hk
   ·rename_i he
    simp only [zOi, zPi] at hk
    obtain ⟨rfl, rfl⟩ := hk
    rw [hp, Kd.eq_sound he]
    simp
   ·simp [getK] at hk
  ·rw [List.mem_singleton.1 hd']
   exact ⟨acc, by simp [getK, Kd.eq_refl]⟩
 | d :: d2 :: l, i, acc, O, c, c', out, h, hg, _, hj, hi => by
  unfold goJ at h
  obtain ⟨e, c1, o1, c2, o2, y, g1, g2, he⟩ := M.bind_inv h
  simp only [zPi] at he
  obtain ⟨rfl, rfl, rfl⟩ := he
  obtain ⟨r, c3, o3, c4, o4, y, g3, g4, he⟩ := M.bind_inv g2
  simp only [zPi] at he
  obtain ⟨rfl, rfl, rfl⟩ := he
  have he := M.pure_inv g4
  simp only [zPi] at he
  obtain ⟨rfl, rfl, rfl⟩ := he
  simp only [Good.append] at hg
  have hev : e.d ρ = decide (ja.d ρ <= (i : Int)) := mkCm_snd _ _ _ _ _ _ _ g1 hg.1
  have hj' := hj
  simp only [jlOk, zAi] at hj'
  obtain ⟨⟨hj1, hj2⟩, hj3⟩ := hj'
  have hj3' : jlOk (d2 :: l) = true := by simp only [jlOk, zAi]; exact hj3
  obtain ⟨i1, i2⟩ := goJ_ok g3 hg.2.1 (by simp) hj3' (fun ha => by
   simp only [Gd.d_append, Gd.d_cons, Gd.d_nil, Bool.and_true, zAi, beq_iff_eq] at ha
   have h2 := ha.2
   rw [hev] at h2
   simp only [decide_eq_false_iff_not] at h2
   left
   omega)
  have hdis : ∀ d', d' ∈ d2 :: l -> kdD d ≠ kdD d' := fun d' hd' e => by
   have := (List.all_eq_true.1 hj2) d' hd'
   rw [e, Kd.eq_refl] at this
   cases this
  have hpick0 : (ja.d ρ <= (i : Int)) -> kdD (pickJ (d :: d2 :: l) ((ja.d ρ).toNat - i)) = kdD d := fun h => by
   rw [show (ja.d ρ).toNat - i = 0 by omega]; rfl
  have hpick1 : ¬ (ja.d ρ <= (i : Int)) -> pickJ (d :: d2 :: l) ((ja.d ρ).toNat - i) = pickJ (d2 :: l) ((ja.d ρ).toNat - (i + 1)) := fun h => by
   rw [show (ja.d ρ).toNat - i = ((ja.d ρ).toNat - (i + 1)) + 1 by omega]; rfl
  refine ⟨fun k q t hk => ?_, fun d' hd' => ?_⟩
  ·unfold getK at hk
   split at hk
   ·rename_i he
    simp only [zOi, zPi] at hk
    obtain ⟨rfl, rfl⟩ := hk
    refine ⟨rfl, ?_⟩
    have hkk := Kd.eq_sound he
    subst hkk
    simp only [Gd.d_append, Gd.d_cons, Gd.d_nil, Bool.and_true, zAi, beq_iff_eq, hev, decide_eq_true_eq]
    constructor
    ·rintro ⟨h1, h2⟩; exact ⟨h1, hpick0 h2⟩
    ·rintro ⟨h1, h2⟩
     refine ⟨h1, ?_⟩
     by_cases hle : ja.d ρ <= (i : Int)
     ·exact hle
     ·rw [hpick1 hle] at h2
      exact absurd h2.symm (hdis _ (pickJ_mem (by simp)))
   ·rename_i hne
    obtain ⟨e1, e2⟩ := i1 k q t hk
    refine ⟨e1, e2.trans ?_⟩
    simp only [Gd.d_append, Gd.d_cons, Gd.d_nil, Bool.and_true, zAi, beq_iff_eq, hev, decide_eq_false_iff_not]
    constructor
    ·rintro ⟨⟨h1, h2⟩, h3⟩; exact ⟨h1, by rw [hpick1 h2]; exact h3⟩
    ·rintro ⟨h1, h2⟩
     by_cases hle : ja.d ρ <= (i : Int)
     ·rw [hpick0 hle] at h2
      exact absurd (by rw [h2]; exact Kd.eq_refl _) hne
     ·rw [hpick1 hle] at h2
      exact ⟨⟨h1, hle⟩, h2⟩
  ·unfold getK
   by_cases hk : (kdD d').eq (kdD d) = true
   ·rw [if_pos hk]; exact ⟨_, rfl⟩
   ·rw [if_neg hk]
    rcases List.mem_cons.1 hd' with e | hd'
    ·subst e; exact absurd (Kd.eq_refl _) hk
    ·exact i2 d' hd'
def isTt : B -> Bool
 | .c true => true
 | _ => false
def rfOuts (jl : List Code) (js : Js) (s : St) : M Outs :=
 if jl.isEmpty || isTt js.b then do
  let _ <- oblige js.b
  pure [(.n, [], s)]
 else do
  let r <- goJ js.a s jl 0 [(js.b, false)]
  pure ((.n, [(js.b, true)], s) :: r)
theorem rfOuts_ok {Φ : Funs} {ρ : Env} {jl : List Code} {js : Js} {s : St} {O : Outs} {c c' : Ctr} {out : List Em} (h : rfOuts jl js s c = some (O, c', out)) (hg : Good Φ ρ out) (hj : jlOk jl = true) {K : Kd} (hK : K = if js.b.d ρ then .n else kdD (pickJ jl (js.a.d ρ).toNat)) :
  (∀ k q t, getK k O = some (q, t) -> (Gd.d ρ q = true ↔ k = K)) /\ ∃ q, getK K O = some (q, s) := by
 unfold rfOuts at h
 split at h
 ·obtain ⟨u, c1, o1, c2, o2, y, g1, g2, he⟩ := M.bind_inv h
  simp only [zPi] at he
  obtain ⟨rfl, rfl, rfl⟩ := he
  have he := M.pure_inv g2
  simp only [zPi] at he
  obtain ⟨rfl, rfl, rfl⟩ := he
  rw [Good.append] at hg
  have hb : js.b.d ρ = true := oblige_snd _ _ _ _ _ g1 hg.1
  rw [hb, if_pos rfl] at hK
  subst hK
  refine ⟨fun k q t hk => ?_, [], by simp [getK, Kd.eq]⟩
  unfold getK at hk
  split at hk
  ·rename_i he
   simp only [zOi, zPi] at hk
   obtain ⟨rfl, rfl⟩ := hk
   simp [Kd.eq_sound he]
  ·simp [getK] at hk
 ·rename_i hc
  simp only [Bool.or_eq_true, List.isEmpty_iff, not_or] at hc
  obtain ⟨r, c1, o1, c2, o2, y, g1, g2, he⟩ := M.bind_inv h
  simp only [zPi] at he
  obtain ⟨rfl, rfl, rfl⟩ := he
  have he := M.pure_inv g2
  simp only [zPi] at he
  obtain ⟨rfl, rfl, rfl⟩ := he
  rw [Good.append] at hg
  obtain ⟨i1, i2⟩ := goJ_ok g1 hg.1 hc.1 hj (fun _ => .inr rfl)
  rw [Nat.sub_zero] at i1
  have hnn : ∀ d, d ∈ jl -> kdD d ≠ .n := fun d hd e => by
   have key : ∀ {l : List Code}, jlOk l = true -> d ∈ l -> (kdJ d).isSome = true := by
    intro l
    induction l with
    | nil => intro _ h; cases h
    | cons a l ih =>
     intro h hm
     simp only [jlOk, zAi] at h
     rcases List.mem_cons.1 hm with rfl | hm
     ·exact h.1.1
     ·exact ih h.2 hm
   have h1 := key hj hd
   unfold kdD at e
   cases d <;> simp [kdJ] at h1 e
  have hpk := hnn _ (pickJ_mem (n := (js.a.d ρ).toNat) hc.1)
  cases hb : js.b.d ρ with
  | true =>
   rw [hb, if_pos rfl] at hK
   subst hK
   refine ⟨fun k q t hk => ?_, _, by simp [getK, Kd.eq]; rfl⟩
   unfold getK at hk
   split at hk
   ·rename_i he
    simp only [zOi, zPi] at hk
    obtain ⟨rfl, rfl⟩ := hk
    simp [Kd.eq_sound he, hb]
   ·rename_i hne
    obtain ⟨_, e2⟩ := i1 k q t hk
    rw [e2]
    simp only [Gd.d_cons, Gd.d_nil, Bool.and_true, hb]
    constructor
    ·rintro ⟨h, _⟩; simp at h
    ·intro e; subst e; exact absurd (Kd.eq_refl _) hne
  | false =>
   rw [hb] at hK
   simp only [zFi, if_false] at hK
   subst hK
   refine ⟨fun k q t hk => ?_, ?_⟩
   ·unfold getK at hk
    split at hk
    ·rename_i he
     simp only [zOi, zPi] at hk
     obtain ⟨rfl, rfl⟩ := hk
     simp only [Gd.d_cons, Gd.d_nil, Bool.and_true, hb]
     constructor
     ·intro h; simp at h
     ·intro e; rw [Kd.eq_sound he] at e; exact absurd e.symm hpk
    ·obtain ⟨_, e2⟩ := i1 k q t hk
     rw [e2]
     simp only [Gd.d_cons, Gd.d_nil, Bool.and_true, hb]
     constructor
     ·rintro ⟨_, h⟩; exact h.symm
     ·intro e; exact ⟨rfl, e.symm⟩
   ·obtain ⟨q, hq⟩ := i2 _ (pickJ_mem (n := (js.a.d ρ).toNat) hc.1)
    refine ⟨q, ?_⟩
    unfold getK
    rw [if_neg (fun e => hpk (Kd.eq_sound e))]
    exact hq
section

def rfG (s : S) : Option (Nat × List (Nat × Nat)) := match fnOf s with
 | some ([], some p) => if p.1 == yieldN then none else some p
 | _ => none
def rfFn (P : Program) (f : Nat) : Option (Func × Code) := match P.funcs[f]? with
 | some fn => match fn.body with
  | some b => if fn.results.toList.isEmpty && !(fn.name == "runtime.NumGoroutine") then some (fn, b) else none
  | none => none
 | none => none
def rfCtl (P : Program) (H : Hnd) (gl : Gl) (kb : Ctl) (keep : Kp) (D : RfD) (fn : Func) (ll : List (Nat × LAnn)) (turns : Nat) : Ctl :=
 { keep := { l := keepOf fn, fz := keep.fz }, turns := turns, ret := [], base := 1000000000, loops := ll, E := yE P H gl kb keep D }
def rfIn (gl : Gl) (s : St) (fn : Func) (lid : Nat) (caps : List (Nat × Nat)) : St :=
 { tm := (S.one false [.fn [] (some (yieldN, [(lid, 0)]))] :: capS caps).map (fun s => ({ g := [], s := s } : SV)) ++ List.replicate (fn.ntmps - (caps.length + 1)) anySV, hp := s.hp }
def rfEnd (gl : Gl) (s σ : St) : St := { tm := s.tm.map (SV.jk (knN gl.length s.hp)), hp := σ.hp, rb := uniN σ.rb s.rb, js := s.js }
def rfM (P : Program) (H : Hnd) (gl : Gl) (kb : Ctl) (keep : Kp) (ll : List (Nat × LAnn)) (turns : Nat) (g : Operand) (ps : Array Tmp) (asg bd : Code) (s : St) : M Outs := do
 let fv <- lift (rfG (rs [] (ev gl.length s g)))
 let fb <- lift (rfFn P fv.1)
 let _ <- lift (if jlOk (jumpsOf bd) then some () else none)
 let lid <- newId
 let O <- M.mono (exec P H (ghOf gl 0) gl.length (rfCtl P H gl kb keep { lid := lid, T := s.tm.map (SV.tj (knN gl.length s.hp)), ps := ps.toList, asg := asg, bd := bd, jl := jumpsOf bd } fb.1 ll turns) fb.2 (rfIn gl s fb.1 lid fv.2))
 let σ <- M.mono (endSt { l := keepOf fb.1, fz := keep.fz } O)
 M.mono (rfOuts (jumpsOf bd) σ.js (rfEnd gl s σ))
def rfE (P : Program) (H : Hnd) (gl : Gl) (kb : Ctl) (keep : Kp) (ll : List (Nat × LAnn)) (turns : Nat) : XE := { rf := rfM P H gl kb keep ll turns }

theorem mtAll_len2 {β : Beta} {ρ : Env} : ∀ {xs : List S} {vs : List Value}, mtAll β ρ xs vs -> xs.length = vs.length
 | [], [], _ => rfl
 | _ :: _, _ :: _, h => by simp [mtAll_len2 h.2]
def tgts : List Deferred -> List Nat
 | [] => []
 | d :: l => match d.target with
  | .collected D => D :: tgts l
  | _ => tgts l
theorem Marks.tgts {N : Nat} {w : World} : ∀ {l : List Deferred}, Marks N w l -> ∀ D, D ∈ Sx.tgts l -> N <= D /\ w.heap[D]? = some (.deferred (some []))
 | [], _, D, h => by cases h
 | d :: l, ⟨E, e1, e2, e3, e4, e5⟩, D, h => by
  subst e1
  simp only [Sx.tgts] at h
  rcases List.mem_cons.1 h with rfl | h
  ·exact ⟨e2, e3⟩
  ·exact Marks.tgts e5 D h
theorem Marks.of {N : Nat} {w w' : World} : ∀ {l : List Deferred}, Marks N w l -> (∀ D, D ∈ Sx.tgts l -> w'.heap[D]? = some (.deferred (some []))) -> Marks N w' l
 | [], _, _ => trivial
 | d :: l, ⟨E, e1, e2, e3, e4, e5⟩, h => by
  subst e1
  refine ⟨E, rfl, e2, h E (by simp [Sx.tgts]), e4, Marks.of e5 fun D hD => h D ?_⟩
  simp only [Sx.tgts]
  exact List.mem_cons.2 (.inr hD)
theorem Marks.notin {N : Nat} {w : World} {D : Nat} : ∀ {l : List Deferred}, Marks N w l -> (∀ E, E ∈ Sx.tgts l -> E ≠ D) -> ∀ e, e ∈ l -> e.target ≠ .collected D
 | [], _, _, e, he => by cases he
 | d :: l, ⟨E, e1, e2, e3, e4, e5⟩, h, e, he => by
  subst e1
  rcases List.mem_cons.1 he with rfl | he
  ·intro hh
   simp only [Target.collected.injEq] at hh
   exact h E (by simp [Sx.tgts]) hh
  ·exact Marks.notin e5 (fun E' hE' => h E' (by simp only [Sx.tgts]; exact List.mem_cons.2 (.inr hE'))) e he

theorem pickJ_some {n : Nat} : ∀ {l : List Code}, jlOk l = true -> (kdJ (pickJ l n)).isSome = true := by
 have key : ∀ {l : List Code}, jlOk l = true -> ∀ d, d ∈ l -> (kdJ d).isSome = true := by
  intro l
  induction l with
  | nil => intro _ d h; cases h
  | cons a l ih =>
   intro h d hm
   simp only [jlOk, zAi] at h
   rcases List.mem_cons.1 hm with rfl | hm
   ·exact h.1.1
   ·exact ih h.2 d hm
 intro l h
 cases l with
 | nil => rfl
 | cons c l => exact key h _ (pickJ_mem (by simp))
section
variable {P : Program} {Φ : Funs} {H : Hnd} {x : Cx}
theorem rfG_spec {s : S} {p : Nat × List (Nat × Nat)} (h : rfG s = some p) : p.1 ≠ yieldN /\ ∃ c, s = .one false [c] /\ asFn c = some ([], some p) := by
 unfold rfG at h
 split at h
 ·rename_i q hq
  split at h
  ·cases h
  ·rename_i hy
   simp only [zOi] at h
   subst h
   obtain ⟨c, h1, h2⟩ := fnOf_spec hq
   exact ⟨by simpa using hy, c, h1, h2⟩
 ·cases h
theorem rfFn_spec {f : Nat} {fn : Func} {b : Code} (h : rfFn P f = some (fn, b)) : P.funcs[f]? = some fn /\ fn.body = some b /\ fn.results.toList = [] /\ (fn.name == "runtime.NumGoroutine") = false := by
 unfold rfFn at h
 split at h
 ·rename_i fn' hfn
  split at h
  ·rename_i b' hb
   split at h
   ·rename_i hc
    simp only [zAi, List.isEmpty_iff, Bool.not_eq_true'] at hc
    simp only [zOi, zPi] at h
    obtain ⟨rfl, rfl⟩ := h
    exact ⟨hfn, hb, hc.1, hc.2⟩
   ·cases h
  ·cases h
 ·cases h
theorem rf_ok (hH : HOk P Φ x.gl H) (hG : ∀ w, Keep x.R x.w0 w -> Laid x.gl w) {kb : Ctl} (hxb : GrOk x kb.keep) (hLb : LoopsOk Φ kb) (hEb : kb.E = {}) {keep : Kp} (hx : GrOk x keep) {ll : List (Nat × LAnn)} {turns : Nat} (hLL : ∀ p, p ∈ ll -> Φ p.2.id = loopF (p.2.S.run Φ true) p.2.nI p.2.nB)
  (hrl : x.rl = none) (hlr : x.lr = none) (hds : x.ds = []) (ρ : Env) (g : Operand) (ps : Array Tmp) (asg bd : Code) :
  OkW Φ x ρ (fun Q a w => (Code.rangeFunc g ps asg bd).wpIn (FR x.rl) 0 P Q a w) (rfM P H x.gl kb keep ll turns g ps asg bd) := by
 intro s c c' O' out h hg β a w hR hF Q hQ
 unfold rfM at h
 obtain ⟨fv, c1, o1, c2, o2, y, g1, g2, he⟩ := M.bind_inv h
 simp only [zPi] at he
 obtain ⟨rfl, rfl, rfl⟩ := he
 obtain ⟨fv', hfv, he⟩ := lift_inv g1
 simp only [zPi] at he
 obtain ⟨rfl, rfl, rfl⟩ := he
 obtain ⟨fb, c3, o3, c4, o4, y, g3, g4, he⟩ := M.bind_inv g2
 simp only [zPi] at he
 obtain ⟨rfl, rfl, rfl⟩ := he
 obtain ⟨fb', hfb, he⟩ := lift_inv g3
 simp only [zPi] at he
 obtain ⟨rfl, rfl, rfl⟩ := he
 obtain ⟨u, c5, o5, c6, o6, y, g5, g6, he⟩ := M.bind_inv g4
 simp only [zPi] at he
 obtain ⟨rfl, rfl, rfl⟩ := he
 obtain ⟨u', hjl, he⟩ := lift_inv g5
 simp only [zPi] at he
 obtain ⟨_, rfl, rfl⟩ := he
 obtain ⟨lid, c7, o7, c8, o8, y, g7, g8, he⟩ := M.bind_inv g6
 simp only [zPi] at he
 obtain ⟨rfl, rfl, rfl⟩ := he
 simp only [newId, zOi, zPi] at g7
 obtain ⟨hlid, hc7, rfl⟩ := g7
 obtain ⟨O, c9, o9, c10, o10, y, g9, g10, he⟩ := M.bind_inv g8
 simp only [zPi] at he
 obtain ⟨rfl, rfl, rfl⟩ := he
 obtain ⟨σ, c11, o11, c12, o12, y, g11, g12, he⟩ := M.bind_inv g10
 simp only [zPi] at he
 obtain ⟨rfl, rfl, rfl⟩ := he
 obtain ⟨g9, le9⟩ := mono_inv g9
 obtain ⟨g11, le11⟩ := mono_inv g11
 obtain ⟨g12, le12⟩ := mono_inv g12
 simp only at le9 le11 le12
 simp only [Good.append] at hg
 obtain ⟨_, _, _, _, hg9, hg11, hg12⟩ := hg
 split at hjl
 rotate_left
 ·cases hjl
 rename_i hjok
 obtain ⟨fn, body⟩ := fb
 obtain ⟨hfn, hbody, hres, hname⟩ := rfFn_spec hfb
 obtain ⟨hyn, cc, hcc, hcf⟩ := rfG_spec hfv
 obtain ⟨gf, caps⟩ := fv
 have hvm := asFn_mt hcf (mt_cell hcc (rs_mt (Γ := []) rfl (ev_mt hR g)))
 have hvm : fvMt β (some (gf, caps)) (a.eval g) := hvm
 obtain ⟨ws, hval, hcap⟩ := hvm
 rw [fvVal_ne hyn] at hval
 have hcall := callable_of hfn hname (by rw [hbody]; rfl)
 rw [hrl]
 refine wpIn_rangeFunc (F := Fence.wide) (n := 0) fun fnid _ => ?_
 obtain ⟨rc, hrc⟩ : ∃ rc : Loop, rc = { state := .ready, pending := none, fn := fnid, tmps := a.tmps, params := ps, assign := asg, body := bd, defers := w.heap.size } := ⟨_, rfl⟩
 obtain ⟨W1, hW1⟩ : ∃ W1, W1 = (w.alloc (.deferred (some []))).alloc (.loop rc) := ⟨_, rfl⟩
 have hsz1 : W1.heap.size = w.heap.size + 2 := by rw [hW1]; simp
 have hL1 : W1.heap[w.heap.size + 1]? = some (.loop rc) := by
  rw [hW1]; have := World.alloc_heap_new (w.alloc (.deferred (some []))) (.loop rc); rwa [World.size_alloc] at this
 have hK1 : W1.heap[w.heap.size]? = some (.deferred (some [])) := by
  rw [hW1]; exact (Go.RowKit.Below.heap_alloc _ _ _ (by simp)).trans (World.alloc_heap_new w _)
 have hkeep : Keep [] w W1 := by
  rw [hW1]
  exact (Keep.alloc [] w _).trans (Keep.alloc [] _ _) (fun r hr => by cases hr)
 have hN : x.w0.heap.size <= w.heap.size := hR.kp.size
 refine ⟨w.heap.size + 1, [{ target := .collected w.heap.size, args := #[] }], W1, { target := .fn (.func gf) ws.toArray, args := #[.func (.yield (w.heap.size + 1)) #[] #[]] }, W1, gf,
  #[.func (.yield (w.heap.size + 1)) #[] #[]] ++ ws.toArray, W1, ?_, ?_, fun _ _ => trivial, ?_, fun hh => (by cases hh), ?_⟩
 ·rw [hW1, hrc]; exact run_enterLoop_outer _ _ _ _ _
 ·simp only [resolve, hval]
  simp [go_sem]
 ·simp [invoke, hcall]
 obtain ⟨q1, hq1⟩ : ∃ q1 : Rg, q1 = { blk := w.heap.size + 1, off := 0, len := 0, ro := true } := ⟨_, rfl⟩
 obtain ⟨β1, hβ1⟩ : ∃ β1, β1 = β.set lid q1 := ⟨_, rfl⟩
 have hfree : β lid = none := by rw [<- hlid]; exact hF _ (Nat.le_refl _)
 have hext : ∀ p, ExtP p β β1 := fun p => by rw [hβ1]; exact Beta.set_ext p hfree
 have hbo1 : BetaOk x.w0.heap.size x.R x.Q β1 W1 := by
  rw [hβ1]
  refine hR.bo.bind (W := []) (by simp) hkeep (fun j q _ _ => .inr ?_) (.inl (by rw [hq1])) (.inl (by rw [hq1])) (fun ks l he => by rw [hq1] at he; cases he) (fun _ => .inl (by rw [hq1]; simp only; omega)) (fun he => by rw [hq1] at he; cases he)
  unfold Rg.apart
  rw [hq1]
  simp
 obtain ⟨r, hr⟩ : ∃ r : LpRec, r = { l := w.heap.size + 1, rc := rc, jl := jumpsOf bd } := ⟨_, rfl⟩
 obtain ⟨xc, hxc⟩ : ∃ xc : Cx, xc = { x with b0 := β1, lr := some r, ds := w.heap.size :: tgts a.defers } := ⟨_, rfl⟩
 obtain ⟨D, hD⟩ : ∃ D : RfD, D = { lid := lid, T := s.tm.map (SV.tj (knN x.gl.length s.hp)), ps := ps.toList, asg := asg, bd := bd, jl := jumpsOf bd } := ⟨_, rfl⟩
 rw [<- hD] at g9
 have hrco : RcOk xc D r := by
  refine ⟨by rw [hxc], by rw [hr], by rw [hr, hD], by rw [hr, hrc, hD], by rw [hr, hrc, hD], by rw [hr, hrc, hD], by rw [hr, hrc, hD, List.length_map]; exact hR.size, fun β' ρ' hE t v hv => ?_, ⟨q1, by rw [hxc, hD, hβ1]; exact Beta.set_same _ _ _, by rw [hq1], by rw [hq1, hr]⟩, by rw [hxc]; exact hrl⟩
  rw [hxc] at hE
  rw [hD] at hv
  simp only [List.getElem?_map, Option.map_eq_some_iff] at hv
  obtain ⟨u, hu, rfl⟩ := hv
  rw [hr, hrc]
  exact SV.tj_mt (knN_keep hR ((hext (fun _ => true)).ext.trans hE)) (hR.slot t u hu)
 have hwold : ∀ k o, w.heap[k]? = some o -> W1.heap[k]? = some o := fun k o hk => by
  rw [hkeep.blk k (Array.getElem?_eq_some_iff.1 hk).1 (fun r hr => by cases hr)]; exact hk
 have hRc : Rel xc ρ β1 (rfIn x.gl s fn lid caps) { tmps := (#[Value.func (.yield (w.heap.size + 1)) #[] #[]] ++ ws.toArray) ++ Array.replicate (fn.ntmps - (#[Value.func (.yield (w.heap.size + 1)) #[] #[]] ++ ws.toArray).size) undef, defers := [] } W1 := by
  have hcap1 : capMt β1 caps ws := tj_cap (p := fun _ => true) (fun i r _ hi => (hext (fun _ => true)) i r hi (.inr rfl)) (List.all_eq_true.2 fun _ _ => rfl) hcap
  have hms : mtAll β1 ρ (S.one false [.fn [] (some (yieldN, [(lid, 0)]))] :: capS caps) (.func (.yield (w.heap.size + 1)) #[] #[] :: ws) := by
   refine ⟨⟨_, rfl, [.pointer (some ⟨w.heap.size + 1, 0, none⟩)], ?_, ⟨q1, by rw [hβ1]; exact Beta.set_same _ _ _, by rw [hq1]; rfl⟩, trivial⟩, capS_mt hcap1⟩
   unfold fvVal
   rw [if_pos rfl]
  have hlen := mtAll_len2 hms
  have hcl : caps.length + 1 = ws.length + 1 := by simpa [capS] using hlen
  have e : (#[Value.func (.yield (w.heap.size + 1)) #[] #[]] ++ ws.toArray) ++ Array.replicate (fn.ntmps - (#[Value.func (.yield (w.heap.size + 1)) #[] #[]] ++ ws.toArray).size) undef = ((Value.func (.yield (w.heap.size + 1)) #[] #[] :: ws) ++ List.replicate (fn.ntmps - (caps.length + 1)) undef).toArray := by
   apply Array.toList_inj.1
   rw [hcl]
   simp [Nat.add_comm]
  refine ⟨?_, fun t v hv => ?_, ⟨fun r' hr' => ?_, fun E hE => ?_, trivial, fun _ => rfl⟩, fun id b hb hbg => ?_, fun id b hb hbg => ?_, ?_, ?_, ?_, ?_, ?_, ?_⟩
  ·rw [e]
   simp [rfIn, capS, hcl]
   omega
  ·rw [e]
   have := args_slots hms (show ((S.one false [.fn [] (some (yieldN, [(lid, 0)]))] :: capS caps).map (fun s => ({ g := [], s := s } : SV)) ++ List.replicate (fn.ntmps - (caps.length + 1)) anySV)[t]? = some v from hv)
   simpa using this
  ·rw [hxc] at hr'
   simp only [zOi] at hr'
   subst hr'
   rw [hxc, hr]
   refine ⟨by simp only; omega, ?_⟩
   rw [hL1]
   unfold LpRec.at
   simp only [rfIn, B.d_c, if_true]
   rw [hrc]
  ·rw [hxc] at hE ⊢
   rcases List.mem_cons.1 hE with rfl | hE
   ·exact ⟨hN, hK1⟩
   ·obtain ⟨e1, e2⟩ := hR.df.ma.tgts E hE
    exact ⟨e1, hwold _ _ e2⟩
  ·exact blkMt_keep' (hext (fun _ => true)) hR.bo hkeep (fun r q hr => by cases hr) (hR.hm id b hb hbg)
  ·have e : xc.gh = x.gh := by rw [hxc]; rfl
   rw [e] at hb
   exact blkMt_keep' (hext (fun _ => true)) hR.bo hkeep (fun r q hr => by cases hr) (hR.gm id b hb hbg)
  ·have e : xc.gh = x.gh := by rw [hxc]; rfl
   rw [e]; exact hR.gro
  ·rw [hxc]; exact hbo1
  ·rw [hxc]; exact hR.kp.trans hkeep (fun r hr => by cases hr)
  ·rw [hxc]; exact fun g vs hgv => (hext (fun _ => false)).at (hR.gl g vs hgv) rfl
  ·rw [hxc]; exact fun j q hj => ⟨(hR.ra j q hj).1, (hext (fun _ => false)).at (hR.ra j q hj).2 (hR.ra j q hj).1⟩
  ·rw [hxc]; exact ExtP.refl _ _
 have hFc : Fresh β1 c7 := fun i hi => by
  rw [<- hc7] at hi
  simp only at hi
  rw [hβ1, Beta.set_other _ _ (by omega)]
  exact hF i (by omega)
 have hxcG : xc.gl = x.gl := by rw [hxc]
 have hGc : ∀ w, Keep xc.R xc.w0 w -> Laid xc.gl w := by rw [hxc]; exact hG
 have hHc : HOk P Φ xc.gl H := by rw [hxcG]; exact hH
 have hgr : ∀ kp : Kp, GrOk x kp -> GrOk xc kp := fun kp hk => by rw [hxc]; exact hk
 have hkeepc : GrOk xc { l := keepOf fn, fz := keep.fz } := by
  refine hgr _ fun hf => hx hf
 have hEc : EOk P Φ xc (yE P H x.gl kb keep D) := by
  have := yE_ok (P := P) (Φ := Φ) (x := xc) hHc hGc (hgr _ hxb) hLb hEb (hgr _ hx) hrco
  rwa [hxcG] at this
 have hLc : LoopsOk Φ (rfCtl P H x.gl kb keep D fn ll turns) := hLL
 have hex : CodeOk P Φ xc ρ body (exec P H xc.gh xc.ng (rfCtl P H x.gl kb keep D fn ll turns)  body) := exec_ok (x := xc) hHc hGc (rfCtl P H x.gl kb keep D fn ll turns) hkeepc hLc hEc body ρ
 have hrun := hex _ _ _ O _ (by rw [hxc]; exact g9) hg9 β1 _ W1 hRc hFc
  (bodyPostM Fence.wide 0 P fn (rangePost Fence.wide 0 P (w.heap.size + 1) Q { a with defers := [{ target := .collected w.heap.size, args := #[] }] ++ a.defers })) fun e a' w' K hk hO => ?_
 ·refine callsIn_of_wp_marks hfn hbody trivial ?_ rfl
  rw [hxc] at hrun
  simp only [hrl] at hrun
  exact hrun
 ·obtain ⟨hKK, β', hE, hR', hF'⟩ := endSt_ok hkeepc g11 hg11 hO
  have hfin : LeavesInM Fence.wide 0 P fn a'.tmps (rangePost Fence.wide 0 P (w.heap.size + 1) Q { a with defers := [{ target := .collected w.heap.size, args := #[] }] ++ a.defers }) a'.defers .returning w' := by
   have hd' : a'.defers = [] := hR'.df.nm (by rw [hxc]; rfl)
   rw [hd']
   refine ⟨_, results_run (vs := []) (by rw [hres]; rfl), ?_⟩
   obtain ⟨hNl, hrec⟩ := hR'.df.rc r (by rw [hxc])
   rw [hr] at hrec
   obtain ⟨lp, hlp⟩ : ∃ lp, lp = r.at (σ.js.b.d ρ) (σ.js.a.d ρ) := ⟨_, rfl⟩
   have hrec : w'.heap[w.heap.size + 1]? = some (.loop lp) := by rw [hlp, hr]; exact hrec
   have hnb : lp.state ≠ .busy := by
    rw [hlp, hr]
    unfold LpRec.at
    simp only
    split <;> simp
   have hlt := (Array.getElem?_eq_some_iff.1 hrec).1
   refine ⟨_, _, run_endLoop (P := P) hrec hnb, ?_⟩
   have hc := putObj_cell (o' := .loop { lp with state := .exhausted }) hrec rfl rfl
   have hEE : Ext β β' := (hext (fun _ => true)).ext.trans hE
   have hRel : Rel x ρ β' (rfEnd x.gl s σ) { a with defers := [{ target := .collected w.heap.size, args := #[] }] ++ a.defers } (w'.putObj (w.heap.size + 1) (.loop { lp with state := .exhausted })) := by
    have hds' := hR'.df.ds
    have hopen : ∀ E, E = w.heap.size \/ E ∈ tgts a.defers -> (w'.putObj (w.heap.size + 1) (.loop { lp with state := .exhausted })).heap[E]? = some (.deferred (some [])) := fun E hE => by
     obtain ⟨_, e2⟩ := hds' E (by rw [hxc]; simp only [List.mem_cons]; exact hE)
     exact (World.putObj_heap_other (fun e => by subst e; rw [hrec] at e2; cases e2)).trans e2
    have e : x.gh = xc.gh := by rw [hxc]; rfl
    refine ⟨by simp only [rfEnd, List.length_map]; exact hR.size, getD_map_jk (knN_mv hR hEE) hR.slot, ⟨fun r' hr' => (by rw [hlr] at hr'; cases hr'), fun E hE => (by rw [hds] at hE; cases hE), ?_, fun hh => (by rw [hlr] at hh; cases hh)⟩, fun id b hb hbg => blkMt_cells hc (hR'.hm id b hb hbg), by rw [e]; exact fun id b hb hbg => blkMt_cells hc (hR'.gm id b hb hbg), by rw [e]; exact hR'.gro, ?_, ?_, ?_, ?_, ?_⟩
    ·refine ⟨w.heap.size, rfl, hN, hopen _ (.inl rfl), hR.df.ma.notin fun E hE e => ?_, hR.df.ma.of fun E hE => hopen E (.inr hE)⟩
     have := (Array.getElem?_eq_some_iff.1 (hR.df.ma.tgts E hE).2).1
     omega
    ·have := hR'.bo
     rw [hxc] at this
     exact betaOk_cells (fun a => (hc a).1) (by rw [World.putObj_size]; exact Nat.le_refl _) this
    ·have := hR'.kp
     rw [hxc] at this
     exact putObj_keep this (by omega) hrec rfl rfl
    ·have := hR'.gl; rw [hxc] at this; exact this
    ·have := hR'.ra; rw [hxc] at this; exact this
    ·have := hR'.eb
     rw [hxc] at this
     have h1 : ExtP (pOf s.rb) x.b0 β1 := fun i q hi hp => (hext (fun _ => true)) i q (hR.eb i q hi hp) (.inr rfl)
     exact ExtP.uni h1 this
   obtain ⟨K', hK'⟩ : ∃ K', K' = if σ.js.b.d ρ then Kd.n else kdD (pickJ (jumpsOf bd) (σ.js.a.d ρ).toNat) := ⟨_, rfl⟩
   obtain ⟨j1, q, j2⟩ := rfOuts_ok g12 hg12 hjok hK'
   have hout : OutMt x ρ β c' O' K' { a with defers := [{ target := .collected w.heap.size, args := #[] }] ++ a.defers } (w'.putObj (w.heap.size + 1) (.loop { lp with state := .exhausted })) :=
    ⟨j1, q, _, β', j2, hEE, hRel, hF'.le (by omega)⟩
   have hpend : lp.pending = if σ.js.b.d ρ then none else some (pickJ (jumpsOf bd) (σ.js.a.d ρ).toNat) := by
    rw [hlp, hr]
    unfold LpRec.at
    simp only
    split <;> rfl
   generalize (w'.putObj (w.heap.size + 1) (.loop { lp with state := .exhausted })) = w4 at hout ⊢
   rw [hpend]
   cases hb : σ.js.b.d ρ with
   | true =>
    rw [hb, if_pos rfl] at hK'
    subst hK'
    exact hQ .normal _ _ .n rfl hout
   | false =>
    rw [hb] at hK'
    simp only [zFi, if_false] at hK' ⊢
    obtain ⟨pc, hpc⟩ : ∃ pc, pc = pickJ (jumpsOf bd) (σ.js.a.d ρ).toNat := ⟨_, rfl⟩
    have hps : (kdJ pc).isSome = true := by rw [hpc]; exact pickJ_some hjok
    rw [<- hpc] at hK' ⊢
    cases pc with
    | ret =>
     subst hK'
     exact wpIn_ret (hQ .ret _ _ _ rfl hout)
    | exit id =>
     subst hK'
     exact wpIn_exit (hQ (.exit id) _ _ _ rfl hout)
    | _ => simp [kdJ] at hps
  rcases hKK with rfl | rfl
  ·rw [kdOf_n hk]
   exact hfin
  ·cases e <;> simp only [kdOf, zOi] at hk <;> (try (cases hk; done))
   exact hfin
theorem rfE_ok (hH : HOk P Φ x.gl H) (hG : ∀ w, Keep x.R x.w0 w -> Laid x.gl w) {kb : Ctl} (hxb : GrOk x kb.keep) (hLb : LoopsOk Φ kb) (hEb : kb.E = {}) {keep : Kp} (hx : GrOk x keep) {ll : List (Nat × LAnn)} {turns : Nat} (hLL : ∀ p, p ∈ ll -> Φ p.2.id = loopF (p.2.S.run Φ true) p.2.nI p.2.nB)
  (hrl : x.rl = none) (hlr : x.lr = none) (hds : x.ds = []) : EOk P Φ x (rfE P H x.gl kb keep ll turns) :=
 ⟨fun ρ g ps asg bd => rf_ok hH hG hxb hLb hEb hx hLL hrl hlr hds ρ g ps asg bd, fun ρ ops draw s m hm => by cases hm⟩
end
def ctlB (fn : Func) (lb : List (Nat × LAnn)) : Ctl := { keep := { l := keepOf fn, fz := true }, turns := 400, ret := [], base := 1000000000, loops := lb }
def ctlR (P : Program) (H : Hnd) (gl : Gl) (fn : Func) (s : Sum) (lo lb ll : List (Nat × LAnn)) : Ctl :=
 { ctlOf fn gl s with loops := lo, E := rfE P H gl (ctlB fn lb) { l := List.replicate 1000 true, fz := true } ll 400 }
theorem EAll.rf {P : Program} {Φ : Funs} {gl : Gl} {H : Hnd} (hH : HOk P Φ gl H) {fn : Func} {s : Sum} {lo lb ll : List (Nat × LAnn)} (hlb : ∀ p, p ∈ lb -> Φ p.2.id = loopF (p.2.S.run Φ true) p.2.nI p.2.nB) (hll : ∀ p, p ∈ ll -> Φ p.2.id = loopF (p.2.S.run Φ true) p.2.nI p.2.nB) :
  EAll P Φ gl (ctlR P H gl fn s lo lb ll) := fun x h1 h2 h3 h4 h5 h6 => by
 subst h1
 have hg : ∀ kp : Kp, GrOk x kp := fun kp _ => h5 rfl
 exact rfE_ok (kb := ctlB fn lb) hH h6 (hg _) hlb rfl (hg _) hll h2 h3 h4
end

def asOf (f : Nat) : List (Nat × Int) -> Option Int
 | [] => none
 | (g, n) :: l => if g == f then some n else asOf f l
def asNum : S -> Option (IntKind × A)
 | .one false [.int k a] => some (k, a)
 | _ => none
theorem asNum_spec {s : S} {p : IntKind × A} (h : asNum s = some p) : s = .one false [.int p.1 p.2] := by
 unfold asNum at h
 split at h
 ·cases h; rfl
 ·cases h
def asM (n : Int) (r : Res) : M Res := do
 let p <- lift (asNum r.s)
 sameId (do
   let b <- mkCm .eql p.2 (.c n)
   oblige b
   pure { r with s := .one false [.int p.1 (.c n)] })
def asH (l : List (Nat × Int)) (H : Hnd) : Hnd := fun f Γ hp xs => do
 let r <- H f Γ hp xs
 match asOf f l with
 | none => pure r
 | some n => asM n r
theorem asM_spec {Φ : Funs} {ρ : Env} {n : Int} {r r' : Res} {c c' : Ctr} {o : List Em} (h : asM n r c = some (r', c', o)) (hg : Good Φ ρ o) : c'.id = c.id /\ r'.w = r.w /\ r'.rb = r.rb /\ ∀ β v, r.s.mt β ρ v -> r'.s.mt β ρ v := by
 unfold asM at h
 obtain ⟨p, c0, o0, c9, o9, y0, g0, h, e0⟩ := M.bind_inv h
 obtain ⟨p', hp', e9⟩ := lift_inv g0
 simp only [zPi] at e0 e9
 obtain ⟨rfl, rfl, rfl⟩ := e0
 obtain ⟨rfl, rfl, rfl⟩ := e9
 have hs := asNum_spec hp'
 obtain ⟨k, a⟩ := p
 ·obtain ⟨h, hid⟩ := sameId_inv h
  obtain ⟨b, c1, o1, c2, o2, y, g1, g2, e1⟩ := M.bind_inv h
  simp only [zPi] at e1
  obtain ⟨rfl, rfl, rfl⟩ := e1
  obtain ⟨u, c3, o3, c4, o4, y, g3, g4, e1⟩ := M.bind_inv g2
  simp only [zPi] at e1
  obtain ⟨rfl, rfl, rfl⟩ := e1
  have g4 := M.pure_inv g4
  simp only [zPi] at g4
  obtain ⟨rfl, rfl, rfl⟩ := g4
  simp only [List.nil_append, Good.append] at hg
  have e1 := mkCm_snd .eql a (.c n) _ _ _ _ g1 hg.1
  have e2 := oblige_snd b _ _ _ _ g3 hg.2.1
  refine ⟨hid, rfl, rfl, fun β v hv => ?_⟩
  rw [hs] at hv
  obtain ⟨c0, hc, hv⟩ := hv
  simp only [List.cons.injEq, and_true] at hc
  subst hc
  rw [e1] at e2
  have e3 : a.d ρ = n := by simpa [cmB] using e2
  refine ⟨_, rfl, ?_⟩
  obtain ⟨h1, h2⟩ := hv
  rw [e3] at h1 h2
  exact ⟨h1, h2⟩
theorem asH_ok {P : Program} {Φ : Funs} {gl : Gl} {H : Hnd} (hH : HOk P Φ gl H) (l : List (Nat × Int)) : HOk P Φ gl (asH l H) := by
 intro f Γ hp xs ρ c res c' out he hg hΓ N R Q β w vs hm hh hb hN hG hf
 unfold asH at he
 obtain ⟨r, c1, o1, c2, o2, y, g1, g2, e1⟩ := M.bind_inv he
 simp only [zPi] at e1
 obtain ⟨rfl, rfl, rfl⟩ := e1
 rw [Good.append] at hg
 cases hl : asOf f l with
 | none =>
  rw [hl] at g2
  have g2 := M.pure_inv g2
  simp only [zPi] at g2
  obtain ⟨rfl, rfl, rfl⟩ := g2
  exact hH f Γ hp xs ρ c _ _ _ g1 hg.1 hΓ N R Q β w vs hm hh hb hN hG hf
 | some n =>
  rw [hl] at g2
  obtain ⟨e1, e2, e3, e4⟩ := asM_spec (Φ := Φ) g2 hg.2
  have := hH f Γ hp xs ρ c _ _ _ g1 hg.1 hΓ N R Q β w vs hm hh hb hN hG (fun i h1 h2 => hf i h1 (by omega))
  refine ⟨this.1, Calls.mono this.2 fun e u ⟨v, hv, β', p1, p2, p3⟩ => ⟨v, hv, β', ?_, e4 β' v p2, ?_⟩⟩
  ·rw [e2, e3, e1]; exact p1
  ·rw [e2]; exact p3

def Ctl.fz (k : Ctl) (l : List Nat) : Ctl := { k with fzf := l }
def Fun.alt (F G : Fun) : Fun := fun is bs => if (F is bs).2.headD false then F is bs else G is bs
theorem Contract.alt {P : Program} {gl : Gl} {f : Nat} {s : Sum} {F G : Fun} (hF : Contract P gl f s F) (hG : Contract P gl f s G) (hp : s.pre = true) : Contract P gl f s (F.alt G) := by
 intro vs w is bs ps h1 h2 h3 h4 h5 h6 h7
 have h7' := h7 hp
 unfold Fun.alt at *
 by_cases hc : (F is bs).2.headD false = true
 ·simp only [hc, if_true]
  exact hF vs w is bs ps h1 h2 h3 h4 h5 h6 fun _ => hc
 ·simp only [hc, if_false] at h7' ⊢
  exact hG vs w is bs ps h1 h2 h3 h4 h5 h6 fun _ => h7'
theorem contract_preA {P : Program} {Φ : Funs} {X : Hnd} {gl : Gl} (hX : HOk P Φ gl X) {f : Nat} {fn : Func} (hf : P.funcs[f]? = some fn) {k : Ctl} (hK : LoopsOk Φ k) {s : Sum} {S : Smry} (h : fnX P X gl k fn s = some S)
  (hw : (wsEm S.em (argI s.args) (argB s.args) && shOk s && s.pre) = true) (hEA : EAll P Φ gl k) : Contract P gl f s (S.run Φ s.pre) := by
 simp only [zAi] at hw
 refine contract_gen hX hf hK hEA h hw.1.1 hw.1.2 fun vs w is bs ps _ hp => ?_
 have := hp hw.2
 simpa [Smry.run, hw.2] using this
end Go.Proofs.YtghlmhlamoagoaaGreat.Sx
namespace Go.Proofs.YtghlmhlamoagoaaGreat.Sx
open Go Go.ChangeShapes Go.WideShapes Go.ChangeAt Go.RowKit
section

def shOf (P : Program) (t : TypeId) : Option Sh := match P.underlying t with
 | some .bool => some (.val false [.bool])
 | some (.int k) => some (.val false [.int k])
 | some (.struct _) => (ckOf P 8 t).map (.val true ·)
 | some (.array _ _) => (ckOf P 8 t).map (.val true ·)
 | some .string => some (.val false [.str])
 | some (.slice _) => (ckOf P 8 t).map (.val false ·)
 | _ => none
def shsOf (P : Program) : List TypeId -> Option (List Sh)
 | [] => some []
 | t :: ts => match shOf P t, shsOf P ts with
  | some s, some ss => some (s :: ss)
  | _, _ => none

theorem flatC_append {w : World} {ps : List Rg} : ∀ {l1 : List CK} {v1 : List Value} {l2 : List CK} {v2 : List Value} {f1 f2 : Fl}, flatC w ps l1 v1 = some f1 -> flatC w ps l2 v2 = some f2 -> ∃ f, flatC w ps (l1 ++ l2) (v1 ++ v2) = some f
 | [], [], l2, v2, f1, f2, _, h2 => ⟨f2, h2⟩
 | .int k :: l1, v :: v1, l2, v2, f1, f2, h1, h2 => by
  unfold flatC at h1
  split at h1
  ·rename_i k' n is bs hv
   split at h1
   ·rename_i hc
    obtain ⟨f, hf⟩ := flatC_append hv h2
    refine ⟨(n :: f.1, f.2), ?_⟩
    simp only [List.cons_append, flatC, hf]
    rw [if_pos hc]
   ·cases h1
  ·cases h1
 | .bool :: l1, v :: v1, l2, v2, f1, f2, h1, h2 => by
  unfold flatC at h1
  split at h1
  ·rename_i b is bs hv
   obtain ⟨f, hf⟩ := flatC_append hv h2
   exact ⟨(f.1, b :: f.2), by simp only [List.cons_append, flatC, hf]⟩
  ·cases h1
 | .pt k o :: l1, v :: v1, l2, v2, f1, f2, h1, h2 => by
  unfold flatC at h1
  split at h1
  ·rename_i a r is bs hr hv
   split at h1
   ·rename_i hc
    obtain ⟨f, hf⟩ := flatC_append hv h2
    refine ⟨(f.1, f.2), ?_⟩
    simp only [List.cons_append, flatC, hf, hr]
    rw [if_pos hc]
   ·cases h1
  ·cases h1
 | .str :: l1, v :: v1, l2, v2, f1, f2, h1, h2 => by
  unfold flatC at h1
  split at h1
  ·rename_i s is bs hv
   split at h1
   ·rename_i hc
    obtain ⟨f, hf⟩ := flatC_append hv h2
    refine ⟨(encS s :: f.1, f.2), ?_⟩
    simp only [List.cons_append, flatC, hf]
    rw [if_pos hc]
   ·cases h1
  ·cases h1
 | .sl ks :: l1, v :: v1, l2, v2, f1, f2, h1, h2 => by
  unfold flatC at h1
  split at h1
  ·rename_i q n r is bs hs hv
   obtain ⟨f, hf⟩ := flatC_append hv h2
   exact ⟨(enc q :: n :: f.1, f.2), by simp only [List.cons_append, flatC, hf, hs]⟩
  ·cases h1
 | .sl _ :: _, [], _, _, _, _, h1, _ => by simp [flatC] at h1
 | .str :: _, [], _, _, _, _, h1, _ => by simp [flatC] at h1
 | [], _ :: _, _, _, _, _, h1, _ => by simp [flatC] at h1
 | .int _ :: _, [], _, _, _, _, h1, _ => by simp [flatC] at h1
 | .bool :: _, [], _, _, _, _, h1, _ => by simp [flatC] at h1
 | .pt _ _ :: _, [], _, _, _, _, h1, _ => by simp [flatC] at h1

section
variable {H : Type} {enc : TypeId × Value -> H} {P : Program} {w : World} {base : Nat} {spare : Nat -> Bool} {held : Bool}
theorem ckFields_flat {g : TypeId -> Option (List CK)} {n : Nat} (hg : ∀ (t : TypeId) (l : List CK) (cs : List Value) (x : DataW H × List MemPlace), g t = some l -> DataW.trod enc P w base spare held n t cs = some x -> ∃ f, flatC w [] l cs = some f) {cs : List Value} : ∀ {fs : List Field} {off : Nat} {l : List CK},
  ckFields P g fs off = some l -> (∀ f, f ∈ fs -> ∃ x, DataW.trod enc P w base spare held n f.type ((cs.drop f.offset).take (P.cellsOf f.type)) = some x) -> ∃ f, flatC w [] l ((cs.drop off).take l.length) = some f
 | [], off, l, h, _ => by
  simp only [ckFields, zOi] at h
  subst h
  exact ⟨_, rfl⟩
 | f :: fs, off, l, h, hx => by
  unfold ckFields at h
  split at h
  ·rename_i ho
   simp only [beq_iff_eq] at ho
   split at h
   ·rename_i l1 hl1
    split at h
    ·rename_i hlen
     simp only [beq_iff_eq] at hlen
     split at h
     ·rename_i r hr
      simp only [zOi] at h
      subst h
      obtain ⟨x, hx1⟩ := hx f (by simp)
      obtain ⟨f1, hf1⟩ := hg _ _ _ _ hl1 hx1
      obtain ⟨f2, hf2⟩ := ckFields_flat hg hr (fun g hm => hx g (by simp [hm]))
      obtain ⟨f3, hf3⟩ := flatC_append hf1 hf2
      refine ⟨f3, ?_⟩
      rw [List.length_append, List.take_add, List.drop_drop, <- ho, hlen]
      rw [<- ho, hlen] at hf3
      exact hf3
     ·cases h
    ·cases h
   ·cases h
  ·cases h
theorem repCK_flat {l : List CK} {cs : List Value} : ∀ {m off : Nat}, (∀ i, i < m -> ∃ f, flatC w [] l ((cs.drop (off + i * l.length)).take l.length) = some f) -> ∃ f, flatC w [] (repCK l m) ((cs.drop off).take (m * l.length)) = some f
 | 0, off, _ => ⟨_, by simp [repCK]; rfl⟩
 | m + 1, off, h => by
  obtain ⟨f1, hf1⟩ := h 0 (by omega)
  obtain ⟨f2, hf2⟩ := repCK_flat (l := l) (cs := cs) (m := m) (off := off + l.length) (fun i hi => by
   have := h (i + 1) (by omega)
   rwa [show off + (i + 1) * l.length = off + l.length + i * l.length by rw [Nat.add_mul]; omega] at this)
  simp only [Nat.zero_mul, Nat.add_zero] at hf1
  obtain ⟨f3, hf3⟩ := flatC_append hf1 hf2
  refine ⟨f3, ?_⟩
  rw [show (m + 1) * l.length = l.length + m * l.length by rw [Nat.add_mul]; omega, List.take_add, List.drop_drop]
  exact hf3
theorem flatC_dec : ∀ {l : List CK} {vs : List Value} {f : Fl}, flatC w [] l vs = some f -> l.all ckPlain = true -> vs.length = l.length /\ ∀ (k : Nat) (ck : CK), l[k]? = some ck -> ∃ v n, vs[k]? = some v /\ decV ck v = some n
 | [], [], f, h, _ => ⟨rfl, fun k ck hk => by simp at hk⟩
 | .int kd :: l, v :: vs, f, h, hp => by
  unfold flatC at h
  split at h
  ·rename_i k' n is bs hf
   split at h
   ·rename_i hc
    obtain ⟨h1, h2⟩ := flatC_dec hf (by simpa [ckPlain] using hp)
    refine ⟨by simp [h1], fun k ck hk => ?_⟩
    cases k with
    | zero => simp at hk; subst hk; exact ⟨_, n, by simp; rfl, by simp only [decV]; rw [if_pos hc]⟩
    | succ k => simp at hk; simpa using h2 k ck hk
   ·cases h
  ·cases h
 | .bool :: l, v :: vs, f, h, hp => by
  unfold flatC at h
  split at h
  ·rename_i b is bs hf
   obtain ⟨h1, h2⟩ := flatC_dec hf (by simpa [ckPlain] using hp)
   refine ⟨by simp [h1], fun k ck hk => ?_⟩
   cases k with
   | zero => simp at hk; subst hk; exact ⟨_, _, by simp; rfl, rfl⟩
   | succ k => simp at hk; simpa using h2 k ck hk
  ·cases h
 | .pt k o :: l, v :: vs, f, h, hp => by
  unfold flatC at h
  split at h
  ·rename_i a r is bs hr hf
   simp at hr
  ·cases h
 | .str :: l, v :: vs, f, h, hp => by
  unfold flatC at h
  split at h
  ·rename_i s is bs hf
   split at h
   ·rename_i hc
    obtain ⟨h1, h2⟩ := flatC_dec hf (by simpa [ckPlain] using hp)
    refine ⟨by simp [h1], fun k ck hk => ?_⟩
    cases k with
    | zero => simp at hk; subst hk; exact ⟨_, encS s, by simp; rfl, by simp only [decV]; rw [if_pos hc]⟩
    | succ k => simp at hk; simpa using h2 k ck hk
   ·cases h
  ·cases h
 | .sl _ :: _, _, f, h, hp => by simp [ckPlain] at hp
 | .str :: _, [], f, h, _ => by simp [flatC] at h
 | [], _ :: _, f, h, _ => by simp [flatC] at h
 | .int _ :: _, [], f, h, _ => by simp [flatC] at h
 | .bool :: _, [], f, h, _ => by simp [flatC] at h
 | .pt _ _ :: _, [], f, h, _ => by simp [flatC] at h
theorem read_dec {ks : List CK} {b : Nat} {w : World} : ∀ {n o j : Nat}, (∀ i, i < n -> ∃ ck v m, ks[(j + i) % ks.length]? = some ck /\ w.cell? ⟨b, o + i, none⟩ = some v /\ decV ck v = some m) -> ∃ us l, readCells w b o n = some us /\ decVs ks j us = some l
 | 0, o, j, _ => ⟨[], [], rfl, rfl⟩
 | n + 1, o, j, h => by
  obtain ⟨ck, v, m, h1, h2, h3⟩ := h 0 (by omega)
  rw [Nat.add_zero] at h1 h2
  obtain ⟨us, l, g1, g2⟩ := read_dec (ks := ks) (b := b) (w := w) (n := n) (o := o + 1) (j := j + 1) fun i hi => by
   obtain ⟨ck, v, m, h1, h2, h3⟩ := h (i + 1) (by omega)
   exact ⟨ck, v, m, by rw [show j + 1 + i = j + (i + 1) by omega]; exact h1, by rw [show o + 1 + i = o + (i + 1) by omega]; exact h2, h3⟩
  exact ⟨v :: us, m :: l, by simp only [readCells, h2, g1], by simp only [decVs, h1, g2, h3, Option.map_some]⟩
theorem cells?_get {w : World} {base : Nat} {a : Addr} {n : Nat} {cs : List Value} (h : w.cells? base a n = some cs) : ∀ k, k < n -> ∃ v, cs[k]? = some v /\ w.cell? (a.add k) = some v := by
 unfold World.cells? at h
 split at h
 ·intro k hk
  have := mapM_some_get h k k (by simp [hk])
  have hl := mapM_some_length h
  simp at hl
  have hkl : k < cs.length := by omega
  exact ⟨cs[k], List.getElem?_eq_getElem hkl, by rw [this]; exact List.getElem?_eq_getElem hkl⟩
 ·cases h
theorem flatSl_trod {fuel : Nat} {t e : TypeId} {ks : List CK} {v : Value} {x : DataW H × List MemPlace} (ht : P.underlying t = some (.slice e)) (hk : ∀ (n : Nat) (cs : List Value) (x : DataW H × List MemPlace), DataW.trod enc P w base spare held n e cs = some x -> ∃ f, flatC w [] ks cs = some f) (hpl : ks.all ckPlain = true) (hlen : ks.length = P.cellsOf e) (hne : ks ≠ [])
  (h : DataW.trod enc P w base spare held fuel t [v] = some x) : ∃ l n r, flatSl w ks v = some (l, n, r) := by
 rcases DataW.trod_slice ht h with ⟨h1, _⟩ | ⟨a, len, cap, elems, rest, n, rfl, h1, _, _, hl, hc, hlc, hel, _⟩
 ·simp only [List.cons.injEq, and_true] at h1
  subst h1
  exact ⟨[], 0, none, flatSl_0⟩
 ·simp only [List.cons.injEq, and_true] at h1
  subst h1
  have hpos : 0 < ks.length := List.length_pos_iff.2 hne
  by_cases h0 : len = 0
  ·subst h0
   exact ⟨[], 0, none, flatSl_0⟩
  ·-- an element's cells
   have cell : ∀ i, i < len -> ∀ k, k < ks.length -> ∃ ck v m, ks[k]? = some ck /\ w.cell? ((a.add (i * P.cellsOf e)).add k) = some v /\ decV ck v = some m := by
    intro i hi k hkl
    have h2 := hel i hi
    cases hcs : w.cells? base (a.add (i * P.cellsOf e)) (P.cellsOf e) with
    | none =>
     rw [hcs] at h2
     simp only [Option.bind_none] at h2
     have : elems[i]? = none := h2.symm
     rw [List.getElem?_eq_none_iff] at this
     omega
    | some cs =>
     rw [hcs] at h2
     simp only [Option.bind_some] at h2
     have hi' : i < elems.length := by omega
     rw [List.getElem?_eq_getElem hi'] at h2
     obtain ⟨f, hf⟩ := hk _ _ _ h2
     obtain ⟨g1, g2⟩ := flatC_dec hf hpl
     obtain ⟨v, m, g3, g4⟩ := g2 k _ (List.getElem?_eq_getElem hkl)
     obtain ⟨v', g5, g6⟩ := cells?_get hcs k (by omega)
     rw [g3] at g5
     cases g5
     exact ⟨_, v, m, List.getElem?_eq_getElem hkl, g6, g4⟩
   have hspot : a.spot = none := by
    obtain ⟨ck, v, m, _, hv, _⟩ := cell 0 (by omega) 0 hpos
    simp only [Nat.zero_mul, Addr.add, if_true] at hv
    unfold World.cell? at hv
    split at hv
    ·split at hv
     ·cases hv
     ·rename_i hs; simpa using hs
    ·cases hv
   obtain ⟨b, o, sp⟩ := a
   simp only at hspot
   subst hspot
   obtain ⟨us, l, g1, g2⟩ := read_dec (ks := ks) (b := b) (w := w) (n := len * ks.length) (o := o) (j := 0) fun i hi => by
    have hdiv : i / ks.length < len := (Nat.div_lt_iff_lt_mul hpos).2 hi
    have hmod : i % ks.length < ks.length := Nat.mod_lt _ hpos
    obtain ⟨ck, v, m, k1, k2, k3⟩ := cell (i / ks.length) hdiv (i % ks.length) hmod
    refine ⟨ck, v, m, by rw [Nat.zero_add]; exact k1, ?_, k3⟩
    rw [add_lit, add_lit, <- hlen] at k2
    have := Nat.div_add_mod i ks.length
    rw [Nat.mul_comm] at this
    rwa [Nat.add_assoc, this] at k2
   have hin : inR .i64 (len : Int) = true := by
    refine inR_mk ⟨?_, ?_⟩
    ·show -9223372036854775808 <= (len : Int); omega
    ·show (len : Int) <= 9223372036854775807
     unfold maxLen at hc
     omega
   refine ⟨l, len, some { blk := b, off := o, len := len * ks.length, ro := true, sq := some (ks, l) }, ?_⟩
   unfold flatSl
   have : (len == 0) = false := by simpa using h0
   have hblt : Nat.blt cap len = false := by
    cases h : Nat.blt cap len
    ·rfl
    ·rw [Nat.blt_eq] at h; omega
   simp only [hblt, this, zFi, if_false, hin, if_true, g1, Option.bind_some, g2]

theorem ckOf_flat : ∀ (m : Nat) (n : Nat) (t : TypeId) (l : List CK) (cs : List Value) (x : DataW H × List MemPlace), ckOf P m t = some l -> DataW.trod enc P w base spare held n t cs = some x -> ∃ f, flatC w [] l cs = some f
 | 0, n, t, l, cs, x, h, _ => by simp [ckOf] at h
 | m + 1, n, t, l, cs, x, h, hx => by
  unfold ckOf at h
  split at h
  ·rename_i ht
   simp only [zOi] at h
   subst h
   obtain ⟨b, rfl, _⟩ := DataW.trod_bool ht hx
   exact ⟨_, rfl⟩
  ·rename_i k ht
   simp only [zOi] at h
   subst h
   obtain ⟨v, rfl, _, hwf⟩ := DataW.trod_int ht hx
   refine ⟨([v], []), ?_⟩
   have : inR k v = true := by simpa [Lit.wf, inR] using hwf
   simp [flatC, this]
  ·rename_i ht
   simp only [zOi] at h
   subst h
   obtain ⟨s, rfl, _, hs⟩ := DataW.trod_string ht hx
   have : inR .i64 (s.size : Int) = true := by
    refine inR_mk ⟨?_, ?_⟩
    ·show -9223372036854775808 <= (s.size : Int); omega
    ·show (s.size : Int) <= 9223372036854775807
     unfold maxLen at hs
     omega
   exact ⟨([encS s], []), by simp [flatC, this]⟩
  ·rename_i e ht
   split at h
   ·rename_i ks hks
    split at h
    ·rename_i hc
     simp only [zAi, beq_iff_eq, Bool.not_eq_true', List.isEmpty_eq_false_iff] at hc
     simp only [zOi] at h
     subst h
     have hcs : ∃ v, cs = [v] := by
      rcases DataW.trod_slice ht hx with ⟨h1, _⟩ | ⟨_, _, _, _, _, _, _, h1, _⟩ <;> exact ⟨_, h1⟩
     obtain ⟨v, rfl⟩ := hcs
     obtain ⟨l, m, q, hq⟩ := flatSl_trod ht (fun n' cs x hx => ckOf_flat m n' e ks cs x hks hx) hc.2 hc.1.1 hc.1.2 hx
     exact ⟨(Sx.enc l :: m :: [], []), by simp [flatC, hq]⟩
    ·cases h
   ·cases h
  ·rename_i fs ht
   split at h
   ·rename_i l' hl
    split at h
    ·rename_i hlen
     simp only [beq_iff_eq] at hlen
     simp only [zOi] at h
     subst h
     obtain ⟨xs, n', rfl, _, hcs, hxl, hf⟩ := DataW.trod_struct ht hx
     have := ckFields_flat (cs := cs) (fun t l cs x h1 h2 => ckOf_flat m n' t l cs x h1 h2) hl (fun f hm => by
      obtain ⟨i, hi⟩ := List.getElem?_of_mem hm
      have hi' : fs[i]? = some f := by simpa using hi
      have := hf i f hi'
      have hlt : i < xs.length := by rw [hxl]; exact (Array.getElem?_eq_some_iff.1 hi').1
      exact ⟨xs[i], by rw [this]; exact List.getElem?_eq_getElem hlt⟩)
     simpa [hlen, <- hcs] using this
    ·cases h
   ·cases h
  ·rename_i k e ht
   split at h
   ·rename_i l' hl
    split at h
    ·rename_i hc
     simp only [zAi, beq_iff_eq] at hc
     simp only [zOi] at h
     subst h
     obtain ⟨xs, n', rfl, _, hcs, hxl, hf⟩ := DataW.trod_array ht hx
     have := repCK_flat (l := l') (cs := cs) (m := k) (off := 0) (fun i hi => by
      have h1 := hf i hi
      have hlt : i < xs.length := by omega
      rw [List.getElem?_eq_getElem hlt] at h1
      rw [Nat.zero_add, hc.1]
      exact ckOf_flat m n' e l' _ _ hl h1)
     rw [hc.2, <- hcs] at this
     simpa using this
    ·cases h
   ·cases h
  ·cases h

theorem shOf_flat {r : Reach} {b0 : Nat} {t : TypeId} {s : Sh} {v : Value} {d : DataW H} {p : List MemPlace} (h : shOf P t = some s) (hv : Value.okWide P w r b0 t v) (hd : DataW.Trod enc P w base spare held t v d p) : ∃ agg l f, s = .val agg l /\ flat1 w [] agg l v = some f := by
 obtain ⟨n, hn⟩ := hd
 unfold shOf at h
 split at h
 ·rename_i ht
  simp only [zOi] at h
  subst h
  obtain ⟨b, rfl⟩ := okWide_bool ht hv
  exact ⟨_, _, _, rfl, rfl⟩
 ·rename_i k ht
  simp only [zOi] at h
  subst h
  obtain ⟨m, rfl⟩ := okWide_int ht hv
  obtain ⟨m', hm, _, hwf⟩ := DataW.trod_int ht hn
  have e : m = m' := by simpa [Value.cells] using hm
  subst e
  have : inR k m = true := by simpa [Lit.wf, inR] using hwf
  exact ⟨_, _, ([m], []), rfl, by simp [flat1, flatC, this]⟩
 ·rename_i fs ht
  cases hc : ckOf P 8 t with
  | none => rw [hc] at h; cases h
  | some l =>
   rw [hc] at h
   simp only [Option.map_some, zOi] at h
   subst h
   obtain ⟨cs, rfl, _⟩ := okWide_struct ht hv
   obtain ⟨f, hf⟩ := ckOf_flat 8 _ _ _ _ _ hc hn
   exact ⟨_, _, f, rfl, hf⟩
 ·rename_i k e ht
  cases hc : ckOf P 8 t with
  | none => rw [hc] at h; cases h
  | some l =>
   rw [hc] at h
   simp only [Option.map_some, zOi] at h
   subst h
   obtain ⟨f, hf⟩ := ckOf_flat 8 _ _ _ _ _ hc hn
   obtain ⟨_, _, _, _, hcs, _⟩ := DataW.trod_array ht hn
   have hagg : ∃ cs, v = .agg cs := by
    simp only [Value.okWide, ht] at hv
    obtain ⟨cs, h1, _⟩ := hv
    exact ⟨cs, h1⟩
   obtain ⟨cs, rfl⟩ := hagg
   exact ⟨_, _, f, rfl, hf⟩
 ·rename_i ht
  simp only [zOi] at h
  subst h
  obtain ⟨s, hs, _, hm⟩ := DataW.trod_string ht hn
  have hv' : ∃ s, v = .string s := by
   cases v <;> simp_all [Value.okWide, Value.cells, Cell.okWide, Cell.ok]
  obtain ⟨s', rfl⟩ := hv'
  have e : s' = s := by simpa [Value.cells] using hs
  subst e
  have : inR .i64 (s'.size : Int) = true := by
   refine inR_mk ⟨?_, ?_⟩
   ·show -9223372036854775808 <= (s'.size : Int); omega
   ·show (s'.size : Int) <= 9223372036854775807
    unfold maxLen at hm
    omega
  exact ⟨_, _, ([encS s'], []), rfl, by simp [flat1, flatC, this]⟩
 ·rename_i e ht
  cases hc : ckOf P 8 t with
  | none => rw [hc] at h; cases h
  | some l =>
   rw [hc] at h
   simp only [Option.map_some, zOi] at h
   subst h
   obtain ⟨a, len, cap, rfl⟩ := okWide_slice ht hv
   obtain ⟨f, hf⟩ := ckOf_flat 8 _ _ _ _ _ hc hn
   refine ⟨_, _, f, rfl, ?_⟩
   have hl : ∃ ck, l = [ck] := by
    unfold ckOf at hc
    simp only [ht] at hc
    split at hc
    ·split at hc
     ·simp only [zOi] at hc; exact ⟨_, hc.symm⟩
     ·cases hc
    ·cases hc
   obtain ⟨ck, rfl⟩ := hl
   simpa [flat1, Value.cells] using hf
 ·cases h

theorem flat_of_trod {r : Reach} {b0 : Nat} : ∀ {ts : List TypeId} {ss : List Sh} {vs : List Value} {ds : List (DataW H)} {p : List MemPlace}, shsOf P ts = some ss -> (∀ (j : Nat) t v, ts[j]? = some t -> vs[j]? = some v -> Value.okWide P w r b0 t v) ->
  DataW.TrodAll enc P w base spare held ts vs ds p -> ∃ is bs, flatArgs ss vs w = some (is, bs, []) /\ ptrShapes ss = []
 | [], ss, vs, ds, p, h, _, hA => by
  simp only [shsOf, zOi] at h
  subst h
  obtain ⟨rfl, _, _⟩ := trodAll_nil hA
  exact ⟨[], [], rfl, rfl⟩
 | t :: ts, ss, vs, ds, p, h, hv, hA => by
  unfold shsOf at h
  split at h
  ·rename_i s ss' hs hss
   simp only [zOi] at h
   subst h
   obtain ⟨v, vs', d, ds', p', q, rfl, rfl, rfl, h1, h2⟩ := trodAll_cons hA
   obtain ⟨is, bs, hr, hp⟩ := flat_of_trod hss (fun j t v hj hvj => hv (j + 1) t v (by simpa using hj) (by simpa using hvj)) h2
   obtain ⟨agg, l, f, rfl, hf⟩ := shOf_flat hs (hv 0 t v (by simp) (by simp)) h1
   refine ⟨f.1 ++ is, f.2 ++ bs, ?_, hp⟩
   simp only [flatArgs, hf, hr]
  ·cases h

theorem trodAll_len : ∀ {ts : List TypeId} {vs : List Value} {ds : List (DataW H)} {p : List MemPlace}, DataW.TrodAll enc P w base spare held ts vs ds p -> vs.length = ts.length /\ ds.length = ts.length
 | [], vs, ds, p, h => by obtain ⟨rfl, rfl, _⟩ := trodAll_nil h; exact ⟨rfl, rfl⟩
 | t :: ts, vs, ds, p, h => by
  obtain ⟨v, vs', d, ds', p', q, rfl, rfl, rfl, _, h2⟩ := trodAll_cons h
  have := trodAll_len h2
  simp [this.1, this.2]
theorem trodAll_stays (hl : laidOutB P = true) {W W' : World} {sp' : Nat -> Bool} : ∀ {ts : List TypeId} {vs : List Value} {ds : List (DataW H)} {ps : List MemPlace}, (∀ t, t ∈ ts -> P.readableRec t = true /\ t < P.types.size) ->
  DataW.TrodAll enc P W base (fun _ => true) true ts vs ds ps -> (∀ p ∈ ps, W.sameAt W' p) -> (∀ p ∈ ps, sp' p.block = true) -> DataW.TrodAll enc P W' base sp' true ts vs ds ps
 | [], vs, ds, ps, _, h, _, _ => by obtain ⟨rfl, rfl, rfl⟩ := trodAll_nil h; exact trodAll_mk0
 | t :: ts, vs, ds, ps, hr, h, hs, hp => by
  obtain ⟨v, vs', d, ds', p', q, rfl, rfl, rfl, h1, h2⟩ := trodAll_cons h
  obtain ⟨hr1, hr2⟩ := hr t (by simp)
  exact trodAll_cons_mk (WideElems.Trod_stays hl hr1 hr2 h1 (fun p hm => hs p (by simp [hm])) (fun p hm => hp p (by simp [hm])))
   (trodAll_stays hl (fun t hm => hr t (by simp [hm])) h2 (fun p hm => hs p (by simp [hm])) (fun p hm => hp p (by simp [hm])))
end

def inCK : CK -> Int -> Prop
 | .int k, m => InR k m
 | .bool, m => m = 0 \/ m = 1
 | .pt _ _, _ => False
 | .str, m => ∃ s : ByteArray, m = encS s /\ InR .i64 s.size
 | .sl _, _ => False
def slRng (ks : List CK) (q n : Int) : Prop := 0 <= n /\ n <= 9223372036854775807 /\ ∃ l, q = enc l /\ l.length = n.toNat * ks.length /\ ∀ (j : Nat) (m : Int), l[j]? = some m -> ∃ ck, ks[j % ks.length]? = some ck /\ inCK ck m
def rngC : List CK -> List Int -> Prop
 | [], [] => True
 | .int k :: l, n :: is => (k.min <= n /\ n <= k.max) /\ rngC l is
 | .bool :: l, is => rngC l is
 | .pt _ _ :: l, is => rngC l is
 | .str :: l, n :: is => (∃ s : ByteArray, n = encS s /\ InR .i64 s.size) /\ rngC l is
 | .sl ks :: l, q :: n :: is => slRng ks q n /\ rngC l is
 | _, _ => False
def rngK : List CK -> (List Int -> Prop) -> List Int -> Prop
 | [], k, is => k is
 | .int kd :: l, k, n :: is => (kd.min <= n /\ n <= kd.max) /\ rngK l k is
 | .int _ :: _, _, [] => False
 | .bool :: l, k, is => rngK l k is
 | .pt _ _ :: l, k, is => rngK l k is
 | .str :: l, k, n :: is => (∃ s : ByteArray, n = encS s /\ InR .i64 s.size) /\ rngK l k is
 | .str :: _, _, [] => False
 | .sl ks :: l, k, q :: n :: is => slRng ks q n /\ rngK l k is
 | .sl _ :: _, _, [] => False
 | .sl _ :: _, _, [_] => False
def rngA : List Sh -> List Int -> Prop
 | [], is => is = []
 | .val _ l :: ss, is => rngK l (rngA ss) is
 | .ptr l :: ss, is => rngK l (rngA ss) is
theorem rngK_of {k : List Int -> Prop} : ∀ {l : List CK} {i1 i2 : List Int}, rngC l i1 -> k i2 -> rngK l k (i1 ++ i2)
 | [], [], i2, _, h => h
 | .int kd :: l, n :: i1, i2, h1, h2 => ⟨h1.1, rngK_of h1.2 h2⟩
 | .bool :: l, i1, i2, h1, h2 => rngK_of (l := l) (by cases i1 <;> exact h1) h2
 | .pt _ _ :: l, i1, i2, h1, h2 => rngK_of (l := l) (by cases i1 <;> exact h1) h2
 | .str :: l, n :: i1, i2, h1, h2 => ⟨h1.1, rngK_of h1.2 h2⟩
 | .sl ks :: l, q :: n :: i1, i2, h1, h2 => ⟨h1.1, rngK_of h1.2 h2⟩
 | .sl _ :: _, [], _, h, _ => h.elim
 | .sl _ :: _, [_], _, h, _ => h.elim
 | .str :: _, [], _, h, _ => h.elim
 | [], _ :: _, _, h, _ => h.elim
 | .int _ :: _, [], _, h, _ => h.elim
theorem flatSl_rng {w : World} {ks : List CK} {v : Value} {l : List Int} {n : Int} {r : Option Rg} (h : flatSl w ks v = some (l, n, r)) : slRng ks (enc l) n := by
 unfold flatSl at h
 split at h
 ·rename_i p len cap
  split at h
  ·cases h
  split at h
  ·simp only [zOi, zPi] at h
   obtain ⟨rfl, rfl, rfl⟩ := h
   exact ⟨by omega, by omega, [], rfl, by simp, fun j m hj => by simp at hj⟩
  ·split at h
   ·rename_i b o
    split at h
    ·rename_i hin
     split at h
     ·rename_i l' hl
      simp only [zOi, zPi] at h
      obtain ⟨rfl, rfl, rfl⟩ := h
      cases hrd : readCells w b o (len * ks.length) with
      | none => rw [hrd] at hl; simp at hl
      | some us =>
       rw [hrd] at hl
       simp only [Option.bind_some] at hl
       obtain ⟨g1, g2⟩ := readCells_get hrd
       obtain ⟨g3, g4⟩ := seq_of_read (b := b) (o := o) (w := w) hl g2
       refine ⟨by omega, (inR_spec hin).2, l', rfl, by rw [Int.toNat_natCast]; omega, fun j m hj => ?_⟩
       obtain ⟨ck, v, k1, k2, k3⟩ := g4 j m hj
       refine ⟨ck, by simpa using k1, ?_⟩
       cases ck with
       | int k => exact k3.2
       | bool => exact k3.1
       | str => obtain ⟨s, _, k4, k5⟩ := k3; exact ⟨s, k4, k5⟩
       | pt _ _ => exact k3
       | sl _ => exact k3
     ·cases h
    ·cases h
   ·cases h
 ·cases h
theorem flatC_rng {w : World} {ps : List Rg} : ∀ {l : List CK} {vs : List Value} {f : Fl}, flatC w ps l vs = some f -> rngC l f.1
 | [], [], f, h => by simp only [flatC, zOi] at h; subst h; trivial
 | .int k :: l, v :: vs, f, h => by
  unfold flatC at h
  split at h
  ·rename_i k' n is bs hv
   split at h
   ·rename_i hc
    simp only [zOi] at h
    subst h
    simp only [zAi, beq_iff_eq] at hc
    have h2 := hc.2
    simp only [inR, zAi, decide_eq_true_eq] at h2
    exact ⟨h2, flatC_rng hv⟩
   ·cases h
  ·cases h
 | .bool :: l, v :: vs, f, h => by
  unfold flatC at h
  split at h
  ·rename_i b is bs hv
   simp only [zOi] at h
   subst h
   have := flatC_rng hv
   cases is <;> exact this
  ·cases h
 | .pt k o :: l, v :: vs, f, h => by
  unfold flatC at h
  split at h
  ·rename_i a r is bs hr hv
   split at h
   ·simp only [zOi] at h
    subst h
    have := flatC_rng hv
    cases is <;> exact this
   ·cases h
  ·cases h
 | .str :: l, v :: vs, f, h => by
  unfold flatC at h
  split at h
  ·rename_i s is bs hv
   split at h
   ·rename_i hc
    simp only [zOi] at h
    subst h
    exact ⟨⟨s, rfl, inR_spec hc⟩, flatC_rng hv⟩
   ·cases h
  ·cases h
 | .sl ks :: l, v :: vs, f, h => by
  unfold flatC at h
  split at h
  ·rename_i q n r is bs hs hv
   simp only [zOi] at h
   subst h
   exact ⟨flatSl_rng hs, flatC_rng hv⟩
  ·cases h
 | .sl _ :: _, [], _, h => by simp [flatC] at h
 | .str :: _, [], _, h => by simp [flatC] at h
 | [], _ :: _, _, h => by simp [flatC] at h
 | .int _ :: _, [], _, h => by simp [flatC] at h
 | .bool :: _, [], _, h => by simp [flatC] at h
 | .pt _ _ :: _, [], _, h => by simp [flatC] at h
theorem flatArgs_rng {w : World} : ∀ {ss : List Sh} {vs : List Value} {is : List Int} {bs : List Bool} {ps : List Rg}, flatArgs ss vs w = some (is, bs, ps) -> rngA ss is
 | [], [], is, bs, ps, h => by
  simp only [flatArgs, zOi, zPi] at h
  exact h.1.symm
 | .val agg l :: ss, v :: vs, is, bs, ps, h => by
  unfold flatArgs at h
  split at h
  ·rename_i i b is' bs' ps' h1 h2
   simp only [zOi, zPi] at h
   obtain ⟨rfl, _⟩ := h
   obtain ⟨us, hf, _⟩ := flat1_inv h1
   exact rngK_of (flatC_rng hf) (flatArgs_rng h2)
  ·cases h
 | .ptr l :: ss, v :: vs, is, bs, ps, h => by
  unfold flatArgs at h
  split at h
  ·rename_i b o is' bs' ps' h2
   split at h
   ·rename_i i bb h1
    simp only [zOi, zPi] at h
    obtain ⟨rfl, _⟩ := h
    cases hr : readCells w b o l.length with
    | none => rw [hr] at h1; simp at h1
    | some us =>
     rw [hr] at h1
     simp only [Option.bind_some] at h1
     exact rngK_of (flatC_rng h1) (flatArgs_rng h2)
   ·cases h
  ·cases h
 | [], _ :: _, _, _, _, h => by simp [flatArgs] at h
 | .val _ _ :: _, [], _, _, _, h => by simp [flatArgs] at h
 | .ptr _ :: _, [], _, _, _, h => by simp [flatArgs] at h
theorem len_cons {α : Type} {l : List α} {n : Nat} (h : l.length = n + 1) : ∃ a t, l = a :: t /\ t.length = n := by
 cases l with
 | nil => simp at h
 | cons a t => exact ⟨a, t, rfl, by simpa using h⟩
theorem len_nil {α : Type} {l : List α} (h : l.length = 0) : l = [] := List.eq_nil_of_length_eq_zero h
theorem Keep.sameAt {w w' : World} (h : Keep [] w w') {p : MemPlace} (hp : p.block < w.heap.size) : w.sameAt w' p := by
 cases p with
 | cell b off => exact h.cell ⟨b, off, none⟩ hp fun r hr => by cases hr
 | map b => exact h.blk b hp fun r hr => by cases hr
theorem Keep.keptBut {w w' : World} (h : Keep [] w w') (may : MemPlace -> Prop) : w.keptBut w' may := by
 refine ⟨h.os, h.output, fun i hi => ?_⟩
 rw [h.blk i hi fun r hr => by cases hr]
 cases hw : w.heap[i]? with
 | none => trivial
 | some o =>
  cases o <;> simp

theorem law_post {P : Program} {fn : Func} {s : ChangeSpec} {H : Type} {enc : TypeId × Value -> H} {W W' : World} {args : Array Value} {ds gs : List (DataW H)} {before p : List MemPlace} (hl : laidOutB P = true) (hpar : ∀ t, t ∈ fn.params.toList -> P.readableRec t = true /\ t < P.types.size)
  {tb : TypeId} (hres : fn.resultTypes = #[tb]) (hb : P.underlying tb = some .bool) (hvars : s.vars = []) (hW : DataW.Whole enc P fn.params.toList s.vars false W args.toList ds gs before) (hA : DataW.TrodAll enc P W 0 (fun _ => true) true fn.params.toList args.toList ds p) (hbe : before = p) (hgs : gs = [])
  (hfn : s.fn H (ds ++ []) = { results := [.lit (.bool true)], args := ds }) (hk : Keep [] W W') : s.post enc P fn false true false false W args (.bool true) W' := by
 subst hbe hgs
 have hlt : ∀ x ∈ before, x.block < W.heap.size := fun x hx => hW.lt x hx
 have hsame : ∀ x ∈ before, W.sameAt W' x := fun x hx => hk.sameAt (hlt x hx)
 refine ⟨ds, [], before, [], before, [], hW, ?_, ?_, ?_, ?_, fun h => by cases h⟩
 ·rw [hfn, hres]
  exact trodAll_mk1 (shut_bool hb true)
 ·rw [hfn]
  exact trodAll_stays hl hpar hA hsame (fun x hx => by simpa using hlt x hx)
 ·rw [hvars, hfn]
  rfl
 ·exact hk.keptBut _
end
end Go.Proofs.YtghlmhlamoagoaaGreat.Sx
namespace Go.Proofs.YtghlmhlamoagoaaGreat.Fl
open Go Go.Proofs Go.Proofs.YtghlmhlamoagoaaGreat.Sx
section
instance (n : Nat) : OfNat A n := ⟨.v n⟩
instance (n : Nat) : OfNat B n := ⟨.v n⟩
def cp : List CK := [(.int .u8), .bool, (.int .u8), .bool, (.int .u8), .bool, (.int .u8), .bool, (.int .u8), (.int .u8), (.int .u16), .bool, (.int .u8), (.int .i64), (.int .u16), .bool, (.int .u8), .bool, .bool, (.int .i64), .bool, .bool, (.int .i64), .bool, .bool]
def wk : List CK := [(.int .u8), .bool, (.int .u8), .bool, (.int .u8), .bool, (.int .u8), .bool, (.int .u8), (.int .u8), (.int .u16), .bool, (.int .u8), (.int .i64), (.int .u16), .bool, (.int .u8), .bool, .bool, (.int .i64), .bool, .bool, (.int .i64), .bool, .bool, .str, (.int .i64), (.int .i64), (.int .i64), .bool, .bool]
abbrev Tb := List (Nat × Sum × Fun)
abbrev Ct (m : Int) (f : Nat) (s : Sum) (F : Fun) := Contract Tryz.prog (gl m) f s F
abbrev Ok (m : Int) (T : Tb) := AllOk Tryz.prog (tabF T) (gl m) (tabS T)
theorem ac {m : Int} {f : Nat} {fn : Func} {s : Sum} {F : Fun} {T : Tb} (hf : Tryz.prog.funcs[f]? = some fn) (h1 : (fn.name == "runtime.NumGoroutine") = false) (h2 : fn.body.isNone = false) (hc : Ct m f s F) (hs : s.sl = none /\ s.inl = none) (hA : Ok m T) : Ok m ((f, s, F) :: T) :=
 AllOk.cons (s := s) (by rw [hs.1]; exact hc) (callable_of hf h1 h2) (fun S h => by rw [hs.2] at h; cases h) hA
theorem aci {m : Int} {f : Nat} {fn : Func} {s : Sum} {F : Fun} {T : Tb} (hf : Tryz.prog.funcs[f]? = some fn) (h1 : (fn.name == "runtime.NumGoroutine") = false) (h2 : fn.body.isNone = false) (hc : Ct m f s F) (hi : ∀ S, s.inl = some S -> s.pre = false /\ ∀ is bs, F is bs = S.run Fun0 false is bs) (hs : s.sl = none) (hA : Ok m T) : Ok m ((f, s, F) :: T) :=
 AllOk.cons (s := s) (by rw [hs]; exact hc) (callable_of hf h1 h2) hi hA
def isS (o : Option Smry) (S : Smry) : Bool := match o with
 | some T => T.eq S
 | none => false
theorem isS_eq {o : Option Smry} {S : Smry} (h : isS o S = true) : o = some S := by
 unfold isS at h
 split at h
 ·rw [Smry.eq_sound h]
 ·cases h
inductive PE where
 | i (r : RI) | b (r : RB) | c (f : Nat) (ai : List A) (ab : List B) (ni nb : Nat) | o (g : Gd) (x : B)
def xJ : Nat -> Nat -> List PE -> List Em
 | _, _, [] => []
 | i, b, .i r :: l => .di i r :: xJ (i + 1) b l
 | i, b, .b r :: l => .db b r :: xJ i (b + 1) l
 | i, b, .c f ai ab ni nb :: l => .call f ai ab i ni b nb :: xJ (i + ni) (b + nb) l
 | i, b, .o g x :: l => .ob g x :: xJ i b l
def xK (i b : Nat) (l : List PE) (ri : List A) (rb : List B) : Smry := ⟨xJ i b l, ri, rb⟩
def xC (a : Nat) : Nat -> List A
 | 0 => []
 | n + 1 => .v a :: xC (a + 1) n
def xD (a : Nat) : Nat -> List B
 | 0 => []
 | n + 1 => .v a :: xD (a + 1) n
def xE : B := .c true
def xF : B := .c false
def xG : A := .c 0
def xH : A := .c 1
def xI : A := .c 2
def zA (a : A) : PE := .i (.cv .i64 a)
def zB (a b : A) : PE := .b (.cm .lss a b)
def zC (a b : A) : PE := .b (.cm .gtr a b)
def zD (a b : B) : PE := .b (.or a b)
def zE (a : A) : PE := .i (.cv .u64 a)
def zF (a b : A) : PE := .b (.cm .neq a b)
def zG (a : B) : PE := .b (.not a)
def zH (c : B) (a b : A) : PE := .i (.ite c a b)
def zI (a b : A) : PE := .i (.ar .and .u8 a b)
def zJ (a : A) : PE := .i (.cv .u8 a)
def zK (a b : A) : PE := .i (.ar .shr .u16 a b)
def zL (a : A) : PE := .i (.cv .u16 a)
def zM (a b : A) : PE := .i (.ar .add .u16 a b)
def zN (a b : A) : PE := .i (.ar .or .u8 a b)
def zO (a b : A) : PE := .b (.cm .eql a b)
def zP (c a b : B) : PE := .b (.ite c a b)
def zQ (a b : B) : PE := .b (.and a b)
def zR (a b : A) : PE := .b (.cm .geq a b)
def zS (a b : A) : PE := .i (.ar .add .u8 a b)
def zT (a b : A) : PE := .i (.ar .and .u16 a b)
def zU (a b : A) : PE := .i (.ar .or .u16 a b)
def zV (a b : A) : PE := .i (.ar .shr .u8 a b)
def zW (a b : A) : PE := .i (.ar .andNot .u8 a b)
def zX (a b : A) : PE := .i (.ar .shl .u8 a b)
def zY (a b : A) : PE := .i (.ar .xor .u8 a b)
def zZ (a b : A) : PE := .i (.ar .sub .u8 a b)
def xA (a b : A) : PE := .i (.ar .add .i64 a b)
def xB (a b : A) : PE := .b (.cm .leq a b)
variable {m : Int}

def sh41r : Go.Shelf.Ren := ⟨fun | 41 => 45 | n => n, fun | 4 => 4 | 22 => 29 | 23 => 23 | 3 => 3 | n => n, fun | n => n⟩
theorem sh41 : SlLaysE0.n41 Tryz.prog sh41r := {
 mixed := by kernel_rfl
 f41 := ⟨Tryz.f45.name, by decide, Tryz.func45.trans (congrArg some (by kernel_rfl))⟩
 t4 := Tryz.underlying4
 a4 := Tryz.isAgg4
 z4 := Tryz.sizeOf4
 v4 := Tryz.zeroValue4
 t22 := Tryz.underlying29
 a22 := Tryz.isAgg29
 z22 := Tryz.sizeOf29
 v22 := Tryz.zeroValue29 }
def inl : List Nat := [137, 106, 172, 183, 105, 174, 37, 38, 39, 41, 113, 159, 180, 26, 27, 28, 46]
theorem inl_ok : nameOk Tryz.prog inl = true := by kernel_rfl
theorem call45 : ∀ args w, (callFunc 45 args).run Tryz.prog w = .ok (.enter 45 args) w := callable_of Tryz.func45 (by kernel_rfl) (by kernel_rfl)
noncomputable def hC (m : Int) (X : Sums) : Hnd := hndI Tryz.prog (gl m) inl (cloneH Tryz.prog 45 29 (hnd0 X)) 12
theorem hC_ok {Φ : Funs} {X : Sums} (hX : AllOk Tryz.prog Φ (gl m) X) : HOk Tryz.prog Φ (gl m) (hC m X) := hndI_ok (cloneH_ok (r := sh41r) (hnd0_ok hX) sh41 call45) inl_ok 12
noncomputable def hCv (m : Int) (l : List (Nat × Int)) (X : Sums) : Hnd := hndI Tryz.prog (gl m) inl (asH l (cloneH Tryz.prog 45 29 (hnd0 X))) 12
theorem hCv_ok (l : List (Nat × Int)) {Φ : Funs} {X : Sums} (hX : AllOk Tryz.prog Φ (gl m) X) : HOk Tryz.prog Φ (gl m) (hCv m l X) := hndI_ok (asH_ok (cloneH_ok (r := sh41r) (hnd0_ok hX) sh41 call45) l) inl_ok 12
noncomputable def ckA (X : Hnd) (g : Gl) (fn : Func) (s : Sum) (S : Smry) : Bool := isS (fnX Tryz.prog X g (ctlOf fn g s) fn s) S && (wsEm S.em (argI s.args) (argB s.args) && shOk s && (s.pre || noOb S.em)) && !(fn.name == "runtime.NumGoroutine") && !fn.body.isNone && s.sl.isNone && s.inl.isNone
theorem ad {m : Int} {f : Nat} {fn : Func} {s : Sum} {S : Smry} {T : Tb} (hA : Ok m T) (hf : Tryz.prog.funcs[f]? = some fn) (h : ckA (hC m (tabS T)) (gl m) fn s S = true) : Ok m ((f, s, S.run (tabF T) s.pre) :: T) := by
 unfold ckA at h
 simp only [zAi, Bool.not_eq_true', Option.isNone_iff_eq_none] at h
 obtain ⟨⟨⟨⟨⟨h1, ⟨h2, h3⟩, h4⟩, h5⟩, h6⟩, h7⟩, h8⟩ := h
 refine ac hf h5 h6 ?_ ⟨h7, h8⟩ hA
 cases hp : s.pre
 ·rw [hp, Bool.false_or] at h4
  have := contract_of (hC_ok hA) hf (k := ctlOf fn (gl m) s) (LoopsOk.nil rfl) (isS_eq h1) (by rw [h2, h3, h4]; rfl)
  rwa [hp] at this
 ·have := contract_pre (hC_ok hA) hf (k := ctlOf fn (gl m) s) (LoopsOk.nil rfl) (isS_eq h1) (by rw [h2, h3, hp]; rfl)
  rwa [hp] at this
noncomputable def T0 : List (Nat × Sum × Fun) := []
theorem A0 : AllOk Tryz.prog (tabF T0) (gl m) (tabS T0) := AllOk.nil
def s49 : Sum := { args := [(.val false [(.int .u64)])], tup := false, res := [(false, [(.int .i64)])], pre := false }
def S49 : Smry := xK 1 0 [.i (.ar .shr .u64 0 xH),.i (.ar .and .u64 1 (.c yQ76)),.i (.ar .and .u64 0 (.c yQ76)),.i (.ar .add .u64 2 3),.i (.ar .shr .u64 4 xI),.i (.ar .and .u64 5 (.c yQ77)),.i (.ar .and .u64 4 (.c yQ77)),.i (.ar .add .u64 6 7),.i (.ar .shr .u64 8 (.c 4)),.i (.ar .add .u64 9 8),.i (.ar .and .u64 10 (.c yQ78)),.i (.ar .shr .u64 11 (.c 8)),.i (.ar .add .u64 11 12),.i (.ar .shr .u64 13 (.c 16)),.i (.ar .add .u64 13 14),.i (.ar .shr .u64 15 (.c 32)),.i (.ar .add .u64 15 16),zA 17,.i (.ar .and .i64 18 (.c 127))] [19] []
noncomputable def F49 : Fun := S49.run (tabF T0) false
theorem c49 : Ct m 49 s49 F49 := contract_of (hC_ok A0) Tryz.func49 (k := (ctlOf Tryz.f49 (gl m) s49)) (LoopsOk.nil rfl) (isS_eq (by kernel_rfl)) (by kernel_rfl)
noncomputable def T1 : Tb := (49, withInl s49 S49, F49) :: T0
theorem A1 : Ok m T1 := aci Tryz.func49 (by kernel_rfl) (by kernel_rfl) c49 (fun S h => by cases h; exact ⟨rfl, fun _ _ => rfl⟩) rfl A0
def s29 : Sum := { args := [(.val false [(.int .u64)])], tup := false, res := [(false, [(.int .i64)])], pre := false }
def S29 : Smry := xK 1 0 [.i (.ar .shr .u64 0 xH),.i (.ar .and .u64 1 (.c yQ76)),.i (.ar .and .u64 0 (.c yQ76)),.i (.ar .add .u64 2 3),.i (.ar .shr .u64 4 xI),.i (.ar .and .u64 5 (.c yQ77)),.i (.ar .and .u64 4 (.c yQ77)),.i (.ar .add .u64 6 7),.i (.ar .shr .u64 8 (.c 4)),.i (.ar .add .u64 9 8),.i (.ar .and .u64 10 (.c yQ78)),.i (.ar .shr .u64 11 (.c 8)),.i (.ar .add .u64 11 12),.i (.ar .shr .u64 13 (.c 16)),.i (.ar .add .u64 13 14),.i (.ar .shr .u64 15 (.c 32)),.i (.ar .add .u64 15 16),zA 17,.i (.ar .and .i64 18 (.c 127))] [19] []
noncomputable def F29 : Fun := S29.run (tabF T1) false
theorem c29 : Ct m 29 s29 F29 := contract_of (hC_ok A1) Tryz.func29 (k := (ctlOf Tryz.f29 (gl m) s29)) (LoopsOk.nil rfl) (isS_eq (by kernel_rfl)) (by kernel_rfl)
noncomputable def T2 : Tb := (29, withInl s29 S29, F29) :: T1
theorem A2 : Ok m T2 := aci Tryz.func29 (by kernel_rfl) (by kernel_rfl) c29 (fun S h => by cases h; exact ⟨rfl, fun _ _ => rfl⟩) rfl A1
def s16 : Sum := { args := [(.val false [(.sl [(.int .u8), .bool])])], tup := false, res := [(false, [(.int .i64)])], pre := false }
def S16 : Smry := xK 2 0 [zB 1 (.c 256),zC 1 (.c 65536),zD 0 1,zE 1,.i (.ar .shr .u64 2 xH),.i (.ar .and .u64 3 (.c yQ76)),.i (.ar .and .u64 2 (.c yQ76)),.i (.ar .add .u64 4 5),.i (.ar .shr .u64 6 xI),.i (.ar .and .u64 7 (.c yQ77)),.i (.ar .and .u64 6 (.c yQ77)),.i (.ar .add .u64 8 9),.i (.ar .shr .u64 10 (.c 4)),.i (.ar .add .u64 11 10),.i (.ar .and .u64 12 (.c yQ78)),.i (.ar .shr .u64 13 (.c 8)),.i (.ar .add .u64 13 14),.i (.ar .shr .u64 15 (.c 16)),.i (.ar .add .u64 15 16),.i (.ar .shr .u64 17 (.c 32)),.i (.ar .add .u64 17 18),zA 19,.i (.ar .and .i64 20 (.c 127)),zF 21 xH,zD 2 3,zG 4,zH 5 xG xH] [22] []
noncomputable def F16 : Fun := S16.run (tabF T2) false
noncomputable def T3 : Tb := (16, s16, F16) :: T2
theorem A3 : Ok m T3 := ad A2 Tryz.func16 (S := S16) (by kernel_rfl)
noncomputable def T4 : Tb := (35, s35, F35) :: T3
theorem A4 : Ok m T4 := ac Tryz.func35 (by kernel_rfl) (by kernel_rfl) c35 ⟨rfl, rfl⟩ A3
def s36 : Sum := { args := [(.val true [(.int .u8), (.int .u8)])], tup := false, res := [(true, [(.int .u8), (.int .u8)])], pre := false }
def S36 : Smry := xK 2 0 [zI 0 (.c 207),zI 1 (.c 207)] [2,3] []
noncomputable def F36 : Fun := S36.run (tabF T4) false
theorem c36 : Ct m 36 s36 F36 := contract_of (hC_ok A4) Tryz.func36 (k := (ctlOf Tryz.f36 (gl m) s36)) (LoopsOk.nil rfl) (isS_eq (by kernel_rfl)) (by kernel_rfl)
noncomputable def T5 : Tb := (36, withInl s36 S36, F36) :: T4
theorem A5 : Ok m T5 := aci Tryz.func36 (by kernel_rfl) (by kernel_rfl) c36 (fun S h => by cases h; exact ⟨rfl, fun _ _ => rfl⟩) rfl A4
def s21 : Sum := { args := [(.val true cp)], tup := false, res := [(false, [(.int .i64)])], pre := false }
def S21 : Smry := (.mk [(.call 35 [(.v 7)] [] 13 4 12 2), (.db 14 (.cm .eql (.v 14) (.c 11))), (.di 17 (.ar .add .i64 (.v 16) (.c 2))), (.di 18 (.ar .add .i64 (.v 16) (.c 1))), (.db 15 (.cm .eql (.v 14) (.c 20))), (.di 19 (.ite (.v 15) (.c 2) (.v 16))), (.di 20 (.ite (.v 12) (.v 18) (.v 19))), (.di 21 (.ite (.v 14) (.v 17) (.v 20))), (.db 16 (.cm .lss (.v 8) (.c 0))), (.db 17 (.cm .gtr (.v 8) (.c 0))), (.db 18 (.cm .geq (.v 8) (.v 21))), (.db 19 (.and (.v 17) (.v 18))), (.db 20 (.or (.v 16) (.v 19))), (.db 21 (.cm .lss (.v 11) (.c 0))), (.db 22 (.or (.v 20) (.v 21))), (.db 23 (.cm .gtr (.v 11) (.c 3))), (.db 24 (.or (.v 22) (.v 23))), (.db 25 (.cm .lss (.v 12) (.c 0))), (.db 26 (.or (.v 24) (.v 25))), (.db 27 (.cm .gtr (.v 12) (.c 2))), (.db 28 (.or (.v 26) (.v 27))), (.di 22 (.ar .and .u8 (.v 4) (.c 207))), (.di 23 (.ar .and .u8 (.v 5) (.c 207))), (.db 29 (.cm .eql (.v 22) (.v 4))), (.db 30 (.cm .eql (.v 23) (.v 5))), (.db 31 (.and (.v 29) (.v 30))), (.db 32 (.not (.v 31))), (.db 33 (.or (.v 28) (.v 32))), (.db 34 (.not (.v 33))), (.di 24 (.ite (.v 34) (.c 0) (.c 1)))] [(.v 24)] [])
noncomputable def F21 : Fun := S21.run (tabF T5) false
noncomputable def T6 : Tb := (21, s21, F21) :: T5
theorem A6 : Ok m T6 := ad A5 Tryz.func21 (S := S21) (by kernel_rfl)
def s69 : Sum := { args := [(.val false [(.int .u16)]), (.val false [.bool])], tup := true, res := [(true, [(.int .u8), .bool]), (true, [(.int .u8), .bool])], pre := false }
def S69 : Smry := xK 1 0 [zJ 0,zK 0 (.c 8),zJ 2] [1,3] [0,0]
noncomputable def F69 : Fun := S69.run (tabF T6) false
theorem c69 : Ct m 69 s69 F69 := contract_of (hC_ok A6) Tryz.func69 (k := (ctlOf Tryz.f69 (gl m) s69)) (LoopsOk.nil rfl) (isS_eq (by kernel_rfl)) (by kernel_rfl)
noncomputable def T7 : Tb := (69, withInl s69 S69, F69) :: T6
theorem A7 : Ok m T7 := aci Tryz.func69 (by kernel_rfl) (by kernel_rfl) c69 (fun S h => by cases h; exact ⟨rfl, fun _ _ => rfl⟩) rfl A6
def s40 : Sum := { args := [(.ptr wk), (.val true [(.int .u8), .bool])], tup := false, res := [(true, [(.int .u16), .bool, (.int .u8), .bool, .bool])], pre := false }
def S40 : Smry := xK 18 0 [zL 3,zM (.c 256) 18] ([19,17]++xC 0 17) ([xE,14,3]++xD 0 14)
noncomputable def F40 : Fun := S40.run (tabF T7) false
theorem c40 : Ct m 40 s40 F40 := contract_of (hC_ok A7) Tryz.func40 (k := (ctlOf Tryz.f40 (gl m) s40)) (LoopsOk.nil rfl) (isS_eq (by kernel_rfl)) (by kernel_rfl)
noncomputable def T8 : Tb := (40, withInl s40 S40, F40) :: T7
theorem A8 : Ok m T8 := aci Tryz.func40 (by kernel_rfl) (by kernel_rfl) c40 (fun S h => by cases h; exact ⟨rfl, fun _ _ => rfl⟩) rfl A7
def s70 : Sum := { args := [(.val true [(.int .u8), (.int .u8)]), (.val false [.bool])], tup := false, res := [(true, [(.int .u8), .bool])], pre := false }
def S70 : Smry := xK 2 1 [zI 0 (.c 207),zI 1 (.c 207),zN 2 (.c 32),zC 3 xG,zN 4 (.c 16),zH 0 5 4] [6] [1]
noncomputable def F70 : Fun := S70.run (tabF T8) false
theorem c70 : Ct m 70 s70 F70 := contract_of (hC_ok A8) Tryz.func70 (k := (ctlOf Tryz.f70 (gl m) s70)) (LoopsOk.nil rfl) (isS_eq (by kernel_rfl)) (by kernel_rfl)
noncomputable def T9 : Tb := (70, withInl s70 S70, F70) :: T8
theorem A9 : Ok m T9 := aci Tryz.func70 (by kernel_rfl) (by kernel_rfl) c70 (fun S h => by cases h; exact ⟨rfl, fun _ _ => rfl⟩) rfl A8
def s42 : Sum := { args := [(.ptr wk)], tup := false, res := [(true, [(.int .u8), .bool])], pre := false }
def S42 : Smry := xK 17 14 [zO 13 (.c yQ6),zI 4 (.c 207),zI 5 (.c 207),zN 17 (.c 32),zC 18 xG,zN 19 (.c 16),zG 14,zH 16 0 20,zP 16 0 15] ([21]++xC 0 17) ([17]++xD 0 14)
noncomputable def F42 : Fun := S42.run (tabF T9) false
theorem c42 : Ct m 42 s42 F42 := contract_of (hC_ok A9) Tryz.func42 (k := (ctlOf Tryz.f42 (gl m) s42)) (LoopsOk.nil rfl) (isS_eq (by kernel_rfl)) (by kernel_rfl)
noncomputable def T10 : Tb := (42, withInl s42 S42, F42) :: T9
theorem A10 : Ok m T10 := aci Tryz.func42 (by kernel_rfl) (by kernel_rfl) c42 (fun S h => by cases h; exact ⟨rfl, fun _ _ => rfl⟩) rfl A9
def s43 : Sum := { args := [(.ptr wk)], tup := false, res := [(true, [(.int .u16), .bool, (.int .u8), .bool, .bool])], pre := true }
def S43 : Smry := xK 17 14 [zO 11 xI,zO 11 (.c 3),zH 15 (.c 65532) (.c 65534),zH 14 (.c 65530) 17,zO 8 xH,zO 8 (.c 5),zO 8 (.c 6),zM 18 xH,zD 17 18,zH 17 18 19,zD 16 19,zH 16 6 20,zQ 16 4,zO 11 (.c 3),zL 3,zM (.c 256) 22,zJ 6,zK 6 (.c 8),zJ 25,zJ 6,zK 6 (.c 8),zJ 28,zO 11 xG,zI 4 (.c 207),zI 5 (.c 207),zN 30 (.c 32),zC 31 xG,zN 32 (.c 16),zH 23 33 32,.i (.ar .sub .i64 8 xI),zR 35 xG,.o [(16,false),(17,false),(18,false),(22,false)] 25,zB 35 (.c 3),.o [(16,false),(17,false),(18,false),(22,false)] 26,zO 35 xG,zO 35 xH,zH 28 27 34,zP 28 4 24,zH 27 26 36,zP 27 4 29,zL 3,zM (.c 256) 38,zG 22,zH 31 39 23,zH 31 37 xG,zQ 31 30,zG 16,zG 17,zG 18,zQ 34 35,zQ 33 36,zH 37 40 21,zQ 37 31,zH 37 41 xG,zQ 37 32,zP 37 3 21] ([42,43]++xC 0 17) ([38,39,40]++xD 0 14)
noncomputable def F43 : Fun := S43.run (tabF T10) true
noncomputable def T11 : Tb := (43, s43, F43) :: T10
theorem A11 : Ok m T11 := ad A10 Tryz.func43 (S := S43) (by kernel_rfl)
def s71 : Sum := { args := [(.ptr wk)], tup := true, res := [(false, [(.int .i64)]), (false, [.bool])], pre := true }
def S71 : Smry := (.mk [(.db 14 (.cm .geq 14 (.c 0))), (.ob [] 14), (.db 15 (.cm .lss 14 (.c 11))), (.ob [] 15), (.di 17 (.tab [0, 0, 0, 2, 3, 3, 3, 3, 3, 5, 4] 14)), (.db 16 (.cm .eql 14 (.c 7))), (.db 17 (.cm .eql 14 (.c 8))), (.db 18 (.or 16 17)), (.db 19 (.cm .eql 14 (.c 10))), (.db 20 (.or 18 19)), (.db 21 (.cm .neq 15 (.c 1))), (.db 22 (.and 20 21)), (.di 18 (.ar .add .i64 17 (.c 1))), (.di 19 (.ite 22 18 17))] [19, 0, 1, 2, 3, 4, 5, 6, 7, 8, 9, 10, 11, 12, 13, 14, 15, 16] [20, 0, 1, 2, 3, 4, 5, 6, 7, 8, 9, 10, 11, 12, 13])
noncomputable def F71 : Fun := S71.run (tabF T11) true
noncomputable def T12 : Tb := (71, s71, F71) :: T11
theorem A12 : Ok m T12 := ad A11 Tryz.func71 (S := S71) (by kernel_rfl)
def s100 : Sum := { args := [(.val true [(.int .u8), .bool]), (.val true [(.int .u8), .bool])], tup := false, res := [(true, [(.int .u8), .bool])], pre := false }
def S100 : Smry := xK 2 2 [zI 0 1,zG 0,zG 1,zG 1,zG 0,zP 5 1 0,zG 0,zG 1,zQ 7 8,zP 9 xF xE] [2] [10]
noncomputable def F100 : Fun := S100.run (tabF T12) false
theorem c100 : Ct m 100 s100 F100 := contract_of (hC_ok A12) Tryz.func100 (k := (ctlOf Tryz.f100 (gl m) s100)) (LoopsOk.nil rfl) (isS_eq (by kernel_rfl)) (by kernel_rfl)
noncomputable def T13 : Tb := (100, withInl s100 S100, F100) :: T12
theorem A13 : Ok m T13 := aci Tryz.func100 (by kernel_rfl) (by kernel_rfl) c100 (fun S h => by cases h; exact ⟨rfl, fun _ _ => rfl⟩) rfl A12
def s72 : Sum := { args := [(.ptr wk)], tup := false, res := [(true, [(.int .u16), .bool, (.int .u8), .bool, .bool])], pre := true }
def S72 : Smry := xK 17 14 [zI 0 1,zG 0,zG 1,zG 1,zG 0,zP 17 1 0,zG 0,zG 1,zQ 19 20,zP 21 xF xE,zO 13 (.c yQ35),zO 13 (.c yQ38),zO 13 (.c yQ37),zO 13 (.c yQ36),zO 13 (.c yQ48),zO 13 (.c yQ47),zO 13 (.c yQ43),zO 13 (.c yQ46),zH 30 17 xG,zQ 30 22,zH 29 17 18,zP 29 22 31,zH 28 2 19,zP 28 2 32,zH 27 1 20,zP 27 1 33,zH 26 17 21,zP 26 22 34,zH 25 2 22,zP 25 2 35,zH 24 1 23,zP 24 1 36,zH 23 0 24,zP 23 0 37,.i (.lenq 13 1),zB xH 26,.o [] 39,.i (.get 13 xH 1 0),zO 27 (.c 72),zO 13 (.c yQ46),zD 40 41,zG 42,zJ 9,zK 9 (.c 8),zJ 29,zG 7,zS 30 xH,zH 44 31 30,zI 25 32,zG 38,zG 5,zG 5,zG 38,zP 48 5 38,zG 38,zG 5,zQ 50 51,zP 52 xF xE,zT 9 (.c 255),zL 33,.i (.ar .shl .u16 35 (.c 8)),zU 34 36,zH 7 37 9,zP 7 53 5,zG 43,zH 55 38 9,zH 55 33 25,zP 55 53 38,zP 55 54 5] ([39,40]++xC 0 17) ([xE,56,57]++xD 0 14)
noncomputable def F72 : Fun := S72.run (tabF T13) true
noncomputable def T14 : Tb := (72, s72, F72) :: T13
theorem A14 : Ok m T14 := ad A13 Tryz.func72 (S := S72) (by kernel_rfl)
def s134 : Sum := { args := [(.val true [(.int .u8), .bool]), (.val false [(.int .i64)])], tup := false, res := [(true, [(.int .u8), .bool])], pre := false }
def S134 : Smry := xK 2 1 [zB 1 xG,zC 1 (.c 7),zD 1 2,zG 0,zG 0,zG 0,zP 6 xF xE,zR 1 xG,.o [(3,false)] 8,zV 0 1,zI 2 xH,zG 0,zG 0,zG 0,zP 11 xF xE,zG 3,zH 13 3 xG,zP 13 12 7] [4] [14]
noncomputable def F134 : Fun := S134.run (tabF T14) false
theorem c134 : Ct m 134 s134 F134 := contract_self (hC_ok A14) Tryz.func134 (k := (ctlOf Tryz.f134 (gl m) s134)) (LoopsOk.nil rfl) (isS_eq (by kernel_rfl)) (by kernel_rfl) (EAll.nil rfl)
noncomputable def T15 : Tb := (134, withInl s134 S134, F134) :: T14
theorem A15 : Ok m T15 := aci Tryz.func134 (by kernel_rfl) (by kernel_rfl) c134 (fun S h => by cases h; exact ⟨rfl, fun _ _ => rfl⟩) rfl A14
def s171 : Sum := { args := [(.val true [(.int .u8), (.int .u8)]), (.val false [(.int .u8)]), (.val true [(.int .u8), .bool])], tup := false, res := [(true, [(.int .u8), (.int .u8)])], pre := false }
def S171 : Smry := xK 4 1 [zI 0 (.c 207),zI 1 (.c 207),zF 3 xG,zI 2 (.c 207),zW 4 6,zI 2 (.c 207),zN 7 8,zH 1 9 7,zI 2 (.c 207),zW 5 11,zI 2 (.c 207),zN 12 13,zH 0 14 12] [10,15] []
noncomputable def F171 : Fun := S171.run (tabF T15) false
noncomputable def T16 : Tb := (171, s171, F171) :: T15
theorem A16 : Ok m T16 := ad A15 Tryz.func171 (S := S171) (by kernel_rfl)
def s136 : Sum := { args := [(.val true [(.int .u8), (.int .u8)]), (.val true [(.int .u8), .bool])], tup := false, res := [(true, [(.int .u8), (.int .u8)])], pre := false }
def S136 : Smry := xK 3 1 [zC 2 (.c 127),zG 0,zG 0,zG 0,zP 4 xF xE,zG 0,zG 0,zG 0,zP 8 xF xE,zG 1,zH 10 xG xH,zP 10 9 5,.c 171 [0,1,(.c 128),3] [11] 2 0,zO 2 xG,zG 0,zG 0,zG 0,zP 15 xF xE,zG 0,zG 0,zG 0,zP 19 xF xE,zG 12,zH 21 xG xH,zP 21 20 16,.c 171 [4,5,xI,6] [22] 2 0] [7,8] []
noncomputable def F136 : Fun := S136.run (tabF T16) false
noncomputable def T17 : Tb := (136, s136, F136) :: T16
theorem A17 : Ok m T17 := ad A16 Tryz.func136 (S := S136) (by kernel_rfl)
def s133 : Sum := { args := [(.val true [(.int .u8), (.int .u8)]), (.val true [(.int .u8), .bool]), (.val true [(.int .u8), .bool])], tup := true, res := [(true, [(.int .u8), .bool]), (true, [(.int .u8), (.int .u8)])], pre := false }
def S133 : Smry := xK 4 2 [.c 171 [0,1,xH,3] [1] 2 0,.c 136 [4,5,2] [0] 2 0] [2,6,7] [0]
noncomputable def F133 : Fun := S133.run (tabF T17) false
noncomputable def T18 : Tb := (133, s133, F133) :: T17
theorem A18 : Ok m T18 := ad A17 Tryz.func133 (S := S133) (by kernel_rfl)
def s101 : Sum := { args := [(.val true [(.int .u8), (.int .u8)]), (.val true [(.int .u8), .bool])], tup := true, res := [(true, [(.int .u8), .bool]), (true, [(.int .u8), (.int .u8)])], pre := false }
def S101 : Smry := xK 3 1 [zX 2 xH,zG 0,zG 0,zG 0,zP 3 xF xE,zG 0,zG 0,zG 0,zP 7 xF xE,zV 2 (.c 7),zI 4 xH,zG 0,zG 0,zG 0,zP 11 xF xE,.c 133 [0,1,3,5] [4,12] 3 1] [6,7,8] [13]
noncomputable def F101 : Fun := S101.run (tabF T18) false
noncomputable def T19 : Tb := (101, s101, F101) :: T18
theorem A19 : Ok m T19 := ad A18 Tryz.func101 (S := S101) (by kernel_rfl)
def s102 : Sum := { args := [(.val true [(.int .u8), (.int .u8)]), (.val true [(.int .u8), .bool])], tup := true, res := [(true, [(.int .u8), .bool]), (true, [(.int .u8), (.int .u8)])], pre := false }
def S102 : Smry := xK 3 1 [zV 2 xH,zG 0,zG 0,zG 0,zP 3 xF xE,zG 0,zG 0,zG 0,zP 7 xF xE,zV 2 xG,zI 4 xH,zG 0,zG 0,zG 0,zP 11 xF xE,.c 133 [0,1,3,5] [4,12] 3 1] [6,7,8] [13]
noncomputable def F102 : Fun := S102.run (tabF T19) false
noncomputable def T20 : Tb := (102, s102, F102) :: T19
theorem A20 : Ok m T20 := ad A19 Tryz.func102 (S := S102) (by kernel_rfl)
def s135 : Sum := { args := [(.val true [(.int .u8), (.int .u8)]), (.val false [(.int .u8)])], tup := false, res := [(true, [(.int .u8), .bool])], pre := false }
def S135 : Smry := xK 3 0 [zI 2 (.c 207),zI 1 3,zC 4 xG,zI 0 3,zC 5 xG,zH 1 xH xG] [6] [0]
noncomputable def F135 : Fun := S135.run (tabF T20) false
theorem c135 : Ct m 135 s135 F135 := contract_of (hC_ok A20) Tryz.func135 (k := (ctlOf Tryz.f135 (gl m) s135)) (LoopsOk.nil rfl) (isS_eq (by kernel_rfl)) (by kernel_rfl)
noncomputable def T21 : Tb := (135, withInl s135 S135, F135) :: T20
theorem A21 : Ok m T21 := aci Tryz.func135 (by kernel_rfl) (by kernel_rfl) c135 (fun S h => by cases h; exact ⟨rfl, fun _ _ => rfl⟩) rfl A20
def s103 : Sum := { args := [(.val true [(.int .u8), (.int .u8)]), (.val true [(.int .u8), .bool])], tup := true, res := [(true, [(.int .u8), .bool]), (true, [(.int .u8), (.int .u8)])], pre := false }
def S103 : Smry := xK 3 1 [zI 1 xH,zC 3 xG,zI 0 xH,zC 4 xG,zH 2 xH xG,zX 2 xH,zN 6 5,zG 0,zG 1,zG 1,zG 0,zP 6 1 0,zG 0,zG 1,zQ 8 9,zP 10 xF xE,zG 0,zG 0,zG 0,zP 14 xF xE,zV 2 (.c 7),zI 8 xH,zG 0,zG 0,zG 0,zP 18 xF xE,.c 133 [0,1,7,9] [11,19] 3 1] [10,11,12] [20]
noncomputable def F103 : Fun := S103.run (tabF T21) false
noncomputable def T22 : Tb := (103, s103, F103) :: T21
theorem A22 : Ok m T22 := ad A21 Tryz.func103 (S := S103) (by kernel_rfl)
def s104 : Sum := { args := [(.val true [(.int .u8), (.int .u8)]), (.val true [(.int .u8), .bool])], tup := true, res := [(true, [(.int .u8), .bool]), (true, [(.int .u8), (.int .u8)])], pre := false }
def S104 : Smry := xK 3 1 [zI 1 xH,zC 3 xG,zI 0 xH,zC 4 xG,zH 2 xH xG,zV 2 xH,zX 5 (.c 7),zN 6 7,zG 0,zG 1,zG 1,zG 0,zP 6 1 0,zG 0,zG 1,zQ 8 9,zP 10 xF xE,zG 0,zG 0,zG 0,zP 14 xF xE,zV 2 xG,zI 9 xH,zG 0,zG 0,zG 0,zP 18 xF xE,.c 133 [0,1,8,10] [11,19] 3 1] [11,12,13] [20]
noncomputable def F104 : Fun := S104.run (tabF T22) false
noncomputable def T23 : Tb := (104, s104, F104) :: T22
theorem A23 : Ok m T23 := ad A22 Tryz.func104 (S := S104) (by kernel_rfl)
def s138 : Sum := { args := [(.val true [(.int .u8), .bool]), (.val true [(.int .u8), .bool])], tup := false, res := [(true, [(.int .u8), .bool])], pre := false }
def S138 : Smry := xK 2 2 [zN 0 1,zG 0,zG 1,zG 1,zG 0,zP 5 1 0,zG 0,zG 1,zQ 7 8,zP 9 xF xE] [2] [10]
noncomputable def F138 : Fun := S138.run (tabF T23) false
theorem c138 : Ct m 138 s138 F138 := contract_of (hC_ok A23) Tryz.func138 (k := (ctlOf Tryz.f138 (gl m) s138)) (LoopsOk.nil rfl) (isS_eq (by kernel_rfl)) (by kernel_rfl)
noncomputable def T24 : Tb := (138, withInl s138 S138, F138) :: T23
theorem A24 : Ok m T24 := aci Tryz.func138 (by kernel_rfl) (by kernel_rfl) c138 (fun S h => by cases h; exact ⟨rfl, fun _ _ => rfl⟩) rfl A23
def s107 : Sum := { args := [(.ptr wk), (.val true [(.int .u8), .bool])], tup := true, res := [], pre := false }
def S107 : Smry := xK 18 15 [zN 0 17,zG 0,zG 14,zG 14,zG 0,zP 18 14 0,zG 0,zG 14,zQ 20 21,zP 22 xF xE,.c 136 [4,5,18] [23] 2 0] ([18,1,2,3,19,20]++xC 6 11) ([23]++xD 1 13)
noncomputable def F107 : Fun := S107.run (tabF T24) false
noncomputable def T25 : Tb := (107, s107, F107) :: T24
theorem A25 : Ok m T25 := ad A24 Tryz.func107 (S := S107) (by kernel_rfl)
def s108 : Sum := { args := [(.ptr wk), (.val true [(.int .u8), .bool])], tup := true, res := [], pre := false }
def S108 : Smry := xK 18 15 [zI 0 17,zG 0,zG 14,zG 14,zG 0,zP 18 14 0,zG 0,zG 14,zQ 20 21,zP 22 xF xE,.c 136 [4,5,18] [23] 2 0] ([18,1,2,3,19,20]++xC 6 11) ([23]++xD 1 13)
noncomputable def F108 : Fun := S108.run (tabF T25) false
noncomputable def T26 : Tb := (108, s108, F108) :: T25
theorem A26 : Ok m T26 := ad A25 Tryz.func108 (S := S108) (by kernel_rfl)
def s139 : Sum := { args := [(.val true [(.int .u8), .bool]), (.val true [(.int .u8), .bool])], tup := false, res := [(true, [(.int .u8), .bool])], pre := false }
def S139 : Smry := xK 2 2 [zY 0 1,zG 0,zG 1,zG 1,zG 0,zP 5 1 0,zG 0,zG 1,zQ 7 8,zP 9 xF xE] [2] [10]
noncomputable def F139 : Fun := S139.run (tabF T26) false
theorem c139 : Ct m 139 s139 F139 := contract_of (hC_ok A26) Tryz.func139 (k := (ctlOf Tryz.f139 (gl m) s139)) (LoopsOk.nil rfl) (isS_eq (by kernel_rfl)) (by kernel_rfl)
noncomputable def T27 : Tb := (139, withInl s139 S139, F139) :: T26
theorem A27 : Ok m T27 := aci Tryz.func139 (by kernel_rfl) (by kernel_rfl) c139 (fun S h => by cases h; exact ⟨rfl, fun _ _ => rfl⟩) rfl A26
def s109 : Sum := { args := [(.ptr wk), (.val true [(.int .u8), .bool])], tup := true, res := [], pre := false }
def S109 : Smry := xK 18 15 [zY 0 17,zG 0,zG 14,zG 14,zG 0,zP 18 14 0,zG 0,zG 14,zQ 20 21,zP 22 xF xE,.c 136 [4,5,18] [23] 2 0] ([18,1,2,3,19,20]++xC 6 11) ([23]++xD 1 13)
noncomputable def F109 : Fun := S109.run (tabF T27) false
noncomputable def T28 : Tb := (109, s109, F109) :: T27
theorem A28 : Ok m T28 := ad A27 Tryz.func109 (S := S109) (by kernel_rfl)
def s140 : Sum := { args := [(.val true [(.int .u8), (.int .u8)]), (.val true [(.int .u8), .bool]), (.val true [(.int .u8), .bool])], tup := true, res := [(true, [(.int .u8), .bool]), (true, [(.int .u8), (.int .u8)])], pre := false }
def S140 : Smry := xK 4 2 [zI 1 xH,zC 4 xG,zI 0 xH,zC 5 xG,zH 3 xH xG,zE 2,zE 3,.i (.ar .add .u64 7 8),zE 6,.i (.ar .add .u64 9 10),zJ 11,zG 0,zG 1,zG 2,zG 2,zG 1,zP 8 2 1,zG 0,zP 10 9 0,zG 0,zG 1,zG 2,zQ 13 14,zQ 12 15,zP 16 xF xE,zY 2 3,zY (.c 255) 13,zY 2 12,zI 14 15,zI 16 (.c 128),zC 11 (.c 255),zG 17,zG 17,zG 17,zP 21 xF xE,zG 17,zG 17,zG 17,zP 25 xF xE,zG 18,zH 27 xG xH,zP 27 26 22,.c 171 [0,1,xH,18] [28] 2 0,zC 17 xG,zG 17,zG 17,zG 17,zP 32 xF xE,zG 17,zG 17,zG 17,zP 36 xF xE,zG 29,zH 38 xG xH,zP 38 37 33,.c 171 [19,20,(.c 64),21] [39] 2 0,.c 136 [22,23,12] [17] 2 0] [12,24,25] [17]
noncomputable def F140 : Fun := S140.run (tabF T28) false
noncomputable def T29 : Tb := (140, s140, F140) :: T28
theorem A29 : Ok m T29 := ad A28 Tryz.func140 (S := S140) (by kernel_rfl)
def s110 : Sum := { args := [(.ptr wk), (.val true [(.int .u8), .bool])], tup := true, res := [], pre := false }
def S110 : Smry := xK 18 15 [.c 140 [4,5,0,17] [0,14] 3 1] ([18,1,2,3,19,20]++xC 6 11) ([15]++xD 1 13)
noncomputable def F110 : Fun := S110.run (tabF T29) false
noncomputable def T30 : Tb := (110, s110, F110) :: T29
theorem A30 : Ok m T30 := ad A29 Tryz.func110 (S := S110) (by kernel_rfl)
def s173 : Sum := { args := [(.val true [(.int .u8), (.int .u8)]), (.val true [(.int .u8), .bool]), (.val true [(.int .u8), .bool])], tup := true, res := [(true, [(.int .u8), .bool]), (true, [(.int .u8), (.int .u8)])], pre := false }
def S173 : Smry := xK 4 2 [zZ 2 3,zG 0,zG 1,zG 1,zG 0,zP 5 1 0,zG 0,zG 1,zQ 7 8,zP 9 xF xE,zR 2 3,zG 0,zG 1,zG 1,zG 0,zP 15 1 0,zG 0,zG 1,zQ 17 18,zP 19 xF xE,zG 0,zG 1,zG 1,zG 0,zP 24 1 0,zG 0,zG 1,zQ 26 27,zP 28 xF xE,zG 11,zH 30 xG xH,zP 30 29 20,.c 171 [0,1,xH,5] [31] 2 0,.c 136 [6,7,4] [10] 2 0] [4,8,9] [10]
noncomputable def F173 : Fun := S173.run (tabF T30) false
noncomputable def T31 : Tb := (173, s173, F173) :: T30
theorem A31 : Ok m T31 := ad A30 Tryz.func173 (S := S173) (by kernel_rfl)
def s141 : Sum := { args := [(.val true [(.int .u8), (.int .u8)]), (.val true [(.int .u8), .bool]), (.val true [(.int .u8), .bool])], tup := false, res := [(true, [(.int .u8), (.int .u8)])], pre := false }
def S141 : Smry := xK 4 2 [.c 173 [0,1,2,3] [0,1] 3 1] [5,6] []
noncomputable def F141 : Fun := S141.run (tabF T31) false
noncomputable def T32 : Tb := (141, s141, F141) :: T31
theorem A32 : Ok m T32 := ad A31 Tryz.func141 (S := S141) (by kernel_rfl)
def s111 : Sum := { args := [(.ptr wk), (.val true [(.int .u8), .bool])], tup := true, res := [], pre := false }
def S111 : Smry := xK 18 15 [.c 141 [4,5,0,17] [0,14] 2 0] ([0,1,2,3,18,19]++xC 6 11) (xD 0 14)
noncomputable def F111 : Fun := S111.run (tabF T32) false
noncomputable def T33 : Tb := (111, s111, F111) :: T32
theorem A33 : Ok m T33 := ad A32 Tryz.func111 (S := S111) (by kernel_rfl)
end
section
variable {m : Int}

def s142 : Sum := { args := [(.val true [(.int .u8), (.int .u8)]), (.val true [(.int .u8), .bool]), (.val true [(.int .u8), .bool])], tup := true, res := [(true, [(.int .u8), .bool]), (true, [(.int .u8), (.int .u8)])], pre := false }
def S142 : Smry := xK 4 2 [zY 3 (.c 255),zG 1,zG 1,zP 3 xF 1,zG 1,zP 5 xF xE,.c 140 [0,1,2,4] [0,6] 3 1] [5,6,7] [7]
noncomputable def F142 : Fun := S142.run (tabF T33) false
noncomputable def T34 : Tb := (142, s142, F142) :: T33
theorem A34 : Ok m T34 := ad A33 Tryz.func142 (S := S142) (by kernel_rfl)
def s112 : Sum := { args := [(.ptr wk), (.val true [(.int .u8), .bool])], tup := true, res := [], pre := false }
def S112 : Smry := xK 18 15 [.c 142 [4,5,0,17] [0,14] 3 1] ([18,1,2,3,19,20]++xC 6 11) ([15]++xD 1 13)
noncomputable def F112 : Fun := S112.run (tabF T34) false
noncomputable def T35 : Tb := (112, s112, F112) :: T34
theorem A35 : Ok m T35 := ad A34 Tryz.func112 (S := S112) (by kernel_rfl)
def s73 : Sum := { args := [(.ptr wk), (.val true [(.int .u8), .bool])], tup := false, res := [(true, [(.int .u8), .bool])], pre := true }
def S73 : Smry := xK 18 15 [zO 13 (.c yQ5),zO 13 (.c yQ3),zO 13 (.c yQ21),zO 13 (.c yQ20),zO 13 (.c yQ14),zO 13 (.c yQ12),zO 13 (.c yQ30),zO 13 (.c yQ29),zP 22 xF xE,zP 21 xF 23,zP 20 xF 24,zP 19 xF 25,zP 18 xF 26,zP 17 xF 27,zP 16 xF 28,zP 15 xF 29,zG 30,.c 101 [4,5,17] [14] 3 1,.c 101 [4,5,17] [14] 3 1,.c 102 [4,5,17] [14] 3 1,.c 102 [4,5,17] [14] 3 1,.c 103 [4,5,17] [14] 3 1,.c 103 [4,5,17] [14] 3 1,.c 104 [4,5,17] [14] 3 1,.o [(31,true),(15,false),(16,false),(17,false),(18,false),(19,false),(20,false),(21,false)] 22,.c 104 [4,5,17] [14] 3 1,zH 21 36 39,zP 21 38 39,zH 21 37 40,zH 21 38 41,zH 20 33 42,zP 20 37 40,zH 20 34 43,zH 20 35 44,zH 19 30 45,zP 19 36 41,zH 19 31 46,zH 19 32 47,zH 18 27 48,zP 18 35 42,zH 18 28 49,zH 18 29 50,zH 17 24 51,zP 17 34 43,zH 17 25 52,zH 17 26 53,zH 16 21 54,zP 16 33 44,zH 16 22 55,zH 16 23 56,zH 15 18 57,zP 15 32 45,zH 15 19 58,zH 15 20 59,.i (.lenq 13 1),zB xG 63,.o [(31,false)] 47,.i (.get 13 xG 1 0),zO 64 (.c 68),zQ 48 15,zQ 48 16,zQ 48 17,zQ 48 18,zQ 48 19,zQ 48 20,zQ 48 21,zQ 48 22,zH 48 (.c 255) xH,zS 17 65,zG 14,zG 14,zG 14,zP 59 xF xE,.c 136 [4,5,66] [60] 2 0,zQ 31 15,zQ 31 16,zQ 31 17,zQ 31 18,zQ 31 19,zQ 31 20,zQ 31 21,zQ 31 22,zH 31 61 67,zH 31 62 68,zH 31 60 66,zP 31 46 60,zO 13 (.c yQ3),zO 13 (.c yQ12),zO 13 (.c yQ20),zO 13 (.c yQ29),zO 13 (.c yQ62),zO 13 (.c yQ71),zP 75 xF xE,zP 74 xF 76,zP 73 xF 77,zP 72 xF 78,zP 71 xF 79,zP 70 xF 80,zG 81,.c 107 ([0,1,2,3,69,70]++xC 6 11++[71]) (xD 0 14++[69]) 17 14,.c 108 ([0,1,2,3,69,70]++xC 6 11++[71]) (xD 0 14++[69]) 17 14,.c 109 ([0,1,2,3,69,70]++xC 6 11++[71]) (xD 0 14++[69]) 17 14,.c 110 ([0,1,2,3,69,70]++xC 6 11++[71]) (xD 0 14++[69]) 17 14,.c 111 ([0,1,2,3,69,70]++xC 6 11++[71]) (xD 0 14++[69]) 17 14,.o [(82,true),(70,false),(71,false),(72,false),(73,false),(74,false)] 75,.c 112 ([0,1,2,3,69,70]++xC 6 11++[71]) (xD 0 14++[69]) 17 14,zH 74 140 157,zP 74 139 153,zH 74 141 158,zP 74 140 154,zH 74 142 159,zP 74 141 155,zH 74 143 160,zP 74 142 156,zH 74 144 161,zH 74 145 162,zH 74 146 163,zP 74 143 157,zH 74 147 164,zH 74 148 165,zH 74 149 166,zP 74 144 158,zH 74 150 167,zP 74 145 159,zP 74 146 160,zH 74 151 168,zP 74 147 161,zP 74 148 162,zH 74 152 169,zP 74 149 163,zP 74 150 164,zH 74 153 170,zH 74 154 171,zH 74 155 172,zH 74 156 173,zP 74 151 165,zP 74 152 166,zH 73 123 174,zP 73 125 167,zH 73 124 175,zP 73 126 168,zH 73 125 176,zP 73 127 169,zH 73 126 177,zP 73 128 170,zH 73 127 178,zH 73 128 179,zH 73 129 180,zP 73 129 171,zH 73 130 181,zH 73 131 182,zH 73 132 183,zP 73 130 172,zH 73 133 184,zP 73 131 173,zP 73 132 174,zH 73 134 185,zP 73 133 175,zP 73 134 176,zH 73 135 186,zP 73 135 177,zP 73 136 178,zH 73 136 187,zH 73 137 188,zH 73 138 189,zH 73 139 190,zP 73 137 179,zP 73 138 180,zH 72 106 191,zP 72 111 181,zH 72 107 192,zP 72 112 182,zH 72 108 193,zP 72 113 183,zH 72 109 194,zP 72 114 184,zH 72 110 195,zH 72 111 196,zH 72 112 197,zP 72 115 185,zH 72 113 198,zH 72 114 199,zH 72 115 200,zP 72 116 186,zH 72 116 201,zP 72 117 187,zP 72 118 188,zH 72 117 202,zP 72 119 189,zP 72 120 190,zH 72 118 203,zP 72 121 191,zP 72 122 192,zH 72 119 204,zH 72 120 205,zH 72 121 206,zH 72 122 207,zP 72 123 193,zP 72 124 194,zH 71 89 208,zP 71 97 195,zH 71 90 209,zP 71 98 196,zH 71 91 210,zP 71 99 197,zH 71 92 211,zP 71 100 198,zH 71 93 212,zH 71 94 213,zH 71 95 214,zP 71 101 199,zH 71 96 215,zH 71 97 216,zH 71 98 217,zP 71 102 200,zH 71 99 218,zP 71 103 201,zP 71 104 202,zH 71 100 219,zP 71 105 203,zP 71 106 204,zH 71 101 220,zP 71 107 205,zP 71 108 206,zH 71 102 221,zH 71 103 222,zH 71 104 223,zH 71 105 224,zP 71 109 207,zP 71 110 208,zH 70 72 225,zP 70 83 209,zH 70 73 226,zP 70 84 210,zH 70 74 227,zP 70 85 211,zH 70 75 228,zP 70 86 212,zH 70 76 229,zH 70 77 230,zH 70 78 231,zP 70 87 213,zH 70 79 232,zH 70 80 233,zH 70 81 234,zP 70 88 214,zH 70 82 235,zP 70 89 215,zP 70 90 216,zH 70 83 236,zP 70 91 217,zP 70 92 218,zH 70 84 237,zP 70 93 219,zP 70 94 220,zH 70 85 238,zH 70 86 239,zH 70 87 240,zH 70 88 241,zP 70 95 221,zP 70 96 222,zQ 82 61,zQ 82 62,zQ 82 63,zQ 82 64,zQ 82 65,zQ 82 66,zQ 82 67,zQ 82 68,zQ 82 31,zQ 82 49,zQ 82 50,zQ 82 51,zQ 82 52,zQ 82 53,zQ 82 54,zQ 82 55,zQ 82 56,zQ 82 48,zQ 82 15,zQ 82 16,zQ 82 17,zQ 82 18,zQ 82 19,zQ 82 20,zQ 82 21,zQ 82 22,zQ 82 70,zQ 82 71,zQ 82 72,zQ 82 73,zQ 82 74,zQ 82 75,zH 82 242 0,zP 82 223 0,zH 82 243 1,zP 82 224 1,zH 82 244 2,zP 82 225 2,zH 82 245 3,zP 82 226 3,zH 82 246 69,zH 82 247 70,zH 82 248 6,zP 82 227 4,zH 82 249 7,zH 82 250 8,zH 82 251 9,zP 82 228 5,zH 82 252 10,zP 82 229 6,zP 82 230 7,zH 82 253 11,zP 82 231 8,zP 82 232 9,zH 82 254 12,zP 82 233 10,zP 82 234 11,zH 82 255 13,zH 82 256 14,zH 82 257 15,zH 82 258 16,zP 82 235 12,zP 82 236 13] ([71]++xC 259 17) ([69]++xD 269 14)
noncomputable def F73 : Fun := S73.run (tabF T35) true
noncomputable def T36 : Tb := (73, s73, F73) :: T35
theorem A36 : Ok m T36 := ad A35 Tryz.func73 (S := S73) (by kernel_rfl)
def s44 : Sum := { args := [(.ptr wk)], tup := false, res := [(true, [(.int .u16), .bool, (.int .u8), .bool, .bool])], pre := true }
def S44 : Smry := xK 17 14 [.c 71 (xC 0 17) (xD 0 14) 18 16,.o [] 14,zO 33 xI,zO 26 17,zQ 30 31,.c 72 (xC 18 17) (xD 16 14) 19 18,.o [(32,true)] 33,zO 33 (.c 3),xA 17 xH,zO 26 54,zQ 51 52,zO 33 (.c 3),xA 17 xI,zO 26 55,zQ 54 55,.c 73 (xC 18 17++[28]) (xD 16 14++[22]) 18 16,.o [(32,false),(53,false),(56,true)] 57,zH 56 56 xG,zQ 56 58,zD 53 56,zH 53 28 74,zP 53 22 73,zG 32,zH 76 18 37,zP 76 16 37,zH 76 19 38,zP 76 17 38,zH 76 20 39,zP 76 18 39,zH 76 21 40,zP 76 19 40,zH 76 22 41,zH 76 23 42,zH 76 24 43,zP 76 20 41,zH 76 25 44,zH 76 26 45,zH 76 27 46,zP 76 21 42,zH 76 28 47,zP 76 22 43,zP 76 23 44,zH 76 29 48,zP 76 24 45,zP 76 25 46,zH 76 30 49,zP 76 26 47,zP 76 27 48,zH 76 31 50,zH 76 32 51,zH 76 33 52,zH 76 34 53,zP 76 28 49,zP 76 29 50,zH 76 27 35,zP 76 74 34,zH 76 75 36,zP 76 75 35,zP 76 21 36] ([93,94]++xC 76 17) ([91,92,93]++xD 77 14)
noncomputable def F44 : Fun := S44.run (tabF T36) true
noncomputable def T37 : Tb := (44, s44, F44) :: T36
theorem A37 : Ok m T37 := ad A36 Tryz.func44 (S := S44) (by kernel_rfl)
def s25 : Sum := { args := [(.val true cp)], tup := false, res := [(true, [(.int .u16), .bool, (.int .u8), .bool, .bool])], pre := true }
def S25 : Smry := xK 13 12 [.c 21 (xC 0 13) (xD 0 12) 1 0,zF 13 xG,.c 35 [7] [] 4 2,zB 8 xI,zF 15 (.c 20),zQ 15 16,zO 8 xG,zD 17 18,zO 15 (.c 20),zO 15 (.c 12),zC 8 xI,zO 15 (.c 14),zB 8 (.c 5),zL 3,zM (.c 256) 18,zJ 6,zK 6 (.c 8),zJ 21,zL 3,zM (.c 256) 23,zJ 6,zK 6 (.c 8),zJ 26,zL 3,zM (.c 256) 28,.i (.ar .sub .i64 8 xI),zR 30 xG,.o [(12,false),(19,false),(20,false),(21,false),(23,true),(24,true)] 25,zB 30 (.c 3),.o [(12,false),(19,false),(20,false),(21,false),(23,true),(24,true)] 26,zO 30 xG,zO 30 xH,zH 28 24 29,zH 28 22 25,zH 27 19 31,zP 27 xF xE,zH 27 xG 32,zP 27 xF 4,zO 15 (.c 15),zB 8 (.c 5),zL 3,zM (.c 256) 35,zO 15 (.c 16),zO 15 (.c 19),zP 33 33 34,zL 3,zM (.c 256) 37,zO 15 (.c 18),zO 14 (.c yQ6),zI 4 (.c 207),zI 5 (.c 207),zN 39 (.c 32),zC 40 xG,zN 41 (.c 16),zG 37,zH 39 0 42,zP 39 0 38,zL 3,zM (.c 256) 44,zO 15 (.c 17),.c 43 (xC 0 13++[14,15,16,17]) (xD 0 12++[13,14]) 19 18,.o [(12,false),(19,false),(20,false),(21,false),(23,false),(31,false),(35,false),(36,false),(41,true)] 42,zO 15 (.c 6),zO 15 (.c 7),zO 15 (.c 8),zP 61 61 62,zP 60 60 63,zC 8 xI,.c 44 (xC 0 13++[14,15,16,17]) (xD 0 12++[13,14]) 19 18,.o [(12,false),(19,false),(20,false),(21,false),(23,false),(31,false),(35,false),(36,false),(41,false),(64,true),(65,true)] 66,zO 15 (.c 3),zO 15 (.c 4),zO 15 (.c 5),zO 15 (.c 9),zO 15 (.c 10),zP 87 87 88,zP 86 86 89,zP 85 85 90,zP 84 84 91,.c 44 (xC 0 13++[14,15,16,17]) (xD 0 12++[13,14]) 19 18,.o [(12,false),(19,false),(20,false),(21,false),(23,false),(31,false),(35,false),(36,false),(41,false),(64,false),(92,true)] 93,zG 65,zG 92,zP 64 111 112,zP 64 65 92,zH 64 65 84,zP 64 67 94,zH 64 66 85,zP 64 68 95,zP 64 69 96,zD 41 114,zH 41 46 103,zP 41 43 115,zH 41 47 104,zP 41 44 116,zP 41 45 117,zD 36 118,zH 36 45 105,zD 36 119,zH 36 43 106,zP 36 40 120,zP 36 3 121,zD 35 122,zH 35 38 107,zP 35 xF 123,zH 35 xG 108,zP 35 xF 124,zP 35 3 125,zG 32,zG 35,zG 36,zG 41,zQ 133 113,zQ 132 134,zQ 131 135,zP 31 130 136,zP 31 32 126,zH 31 36 109,zP 31 xF 127,zH 31 xG 110,zP 31 xF 128,zP 31 3 129,zG 24,zP 23 142 137,zP 23 24 138,zH 23 33 111,zP 23 29 139,zH 23 34 112,zP 23 30 140,zP 23 3 141,zG 22,zP 21 148 143,zP 21 22 144,zH 21 9 113,zP 21 xF 145,zH 21 xG 114,zP 21 xF 146,zP 21 5 147,zD 20 150,zH 20 (.c 65535) 115,zP 20 xF 151,zH 20 xG 116,zP 20 xF 152,zP 20 xF 153,zG 20,zQ 158 149,zH 159 6 117,zP 159 xF 155,zH 159 xG 118,zP 159 xF 156,zP 159 4 157,zG 19,zH 163 119 6,zQ 163 160,zH 163 120 xG,zQ 163 161,zP 163 162 4,zG 12,zH 167 121 xG,zQ 167 164,zH 167 122 xG,zQ 167 165,zQ 167 166] [123,124] [168,169,170]
noncomputable def F25 : Fun := S25.run (tabF T37) true
noncomputable def T38 : Tb := (25, s25, F25) :: T37
theorem A38 : Ok m T38 := ad A37 Tryz.func25 (S := S25) (by kernel_rfl)
def s74 : Sum := { args := [(.ptr wk), (.val true [(.int .u8), .bool])], tup := true, res := [], pre := false }
def S74 : Smry := xK 18 15 [zF 11 xG,zM 6 xH,zD 10 14,zG 15,zG 15,zH 18 18 6,zH 18 17 xG,zP 18 16 10] (xC 0 6++[19,20,8,xG,xG]++xC 11 6) (xD 0 5++[xF,xF,xF,8,9,19,11,12,13])
noncomputable def F74 : Fun := S74.run (tabF T38) false
noncomputable def T39 : Tb := (74, s74, F74) :: T38
theorem A39 : Ok m T39 := ad A38 Tryz.func74 (S := S74) (by kernel_rfl)
def s143 : Sum := { args := [(.ptr wk), (.val false [(.int .u8)]), (.val false [(.int .u8)])], tup := true, res := [], pre := false }
def S143 : Smry := xK 19 14 [.c 171 [4,5,17,18] [xF] 2 0] ([0,1,2,3,19,20]++xC 6 11) (xD 0 14)
noncomputable def F143 : Fun := S143.run (tabF T39) false
noncomputable def T40 : Tb := (143, s143, F143) :: T39
theorem A40 : Ok m T40 := ad A39 Tryz.func143 (S := S143) (by kernel_rfl)
end
section
variable {m : Int}

def s114 : Sum := { args := [(.ptr wk)], tup := true, res := [], pre := false }
def S114 : Smry := xK 17 14 [zO 13 (.c yQ54),.c 136 [4,5,0] [0] 2 0,zO 13 (.c yQ53),.c 136 [4,5,0] [0] 2 0,zO 13 (.c yQ40),.c 136 [4,5,1] [1] 2 0,zO 13 (.c yQ44),.c 136 [4,5,2] [2] 2 0,zO 13 (.c yQ58),.c 136 [4,5,3] [3] 2 0,zO 13 (.c yQ45),zO 13 (.c yQ73),zS 1 xH,zG 1,zG 1,zG 1,zP 23 xF xE,.c 136 [4,5,27] [24] 2 0,zO 13 (.c yQ64),zS 2 xH,zG 2,zG 2,zG 2,zP 28 xF xE,.c 136 [4,5,30] [29] 2 0,zO 13 (.c yQ65),zZ 1 xH,zG 1,zG 1,zG 1,zP 33 xF xE,.c 136 [4,5,33] [34] 2 0,zO 13 (.c yQ39),zZ 2 xH,zG 2,zG 2,zG 2,zP 38 xF xE,.c 136 [4,5,36] [39] 2 0,zO 13 (.c yQ9),.c 143 (xC 0 17++[xH,xG]) (xD 0 14) 17 14,zO 13 (.c yQ17),.c 143 (xC 0 17++[xH,xH]) (xD 0 14) 17 14,zO 13 (.c yQ26),.c 143 (xC 0 17++[(.c 4),xG]) (xD 0 14) 17 14,zO 13 (.c yQ34),.c 143 (xC 0 17++[(.c 4),xH]) (xD 0 14) 17 14,zO 13 (.c yQ68),.c 143 (xC 0 17++[(.c 8),xG]) (xD 0 14) 17 14,zO 13 (.c yQ75),.c 143 (xC 0 17++[(.c 8),xH]) (xD 0 14) 17 14,zO 13 (.c yQ57),.c 143 (xC 0 17++[(.c 64),xG]) (xD 0 14) 17 14,zH 130 141 0,zP 130 131 0,zH 130 142 1,zP 130 132 1,zH 130 143 2,zP 130 133 2,zH 130 144 3,zP 130 134 3,zH 130 145 4,zH 130 146 5,zH 130 147 6,zP 130 135 4,zH 130 148 7,zH 130 149 8,zH 130 150 9,zP 130 136 5,zH 130 151 10,zP 130 137 6,zP 130 138 7,zH 130 152 11,zP 130 139 8,zP 130 140 9,zH 130 153 12,zP 130 141 10,zP 130 142 11,zH 130 154 13,zH 130 155 14,zH 130 156 15,zH 130 157 16,zP 130 143 12,zP 130 144 13,zH 115 124 158,zP 115 116 145,zH 115 125 159,zP 115 117 146,zH 115 126 160,zP 115 118 147,zH 115 127 161,zP 115 119 148,zH 115 128 162,zH 115 129 163,zH 115 130 164,zP 115 120 149,zH 115 131 165,zH 115 132 166,zH 115 133 167,zP 115 121 150,zH 115 134 168,zP 115 122 151,zP 115 123 152,zH 115 135 169,zP 115 124 153,zP 115 125 154,zH 115 136 170,zP 115 126 155,zP 115 127 156,zH 115 137 171,zH 115 138 172,zH 115 139 173,zH 115 140 174,zP 115 128 157,zP 115 129 158,zH 100 107 175,zP 100 101 159,zH 100 108 176,zP 100 102 160,zH 100 109 177,zP 100 103 161,zH 100 110 178,zP 100 104 162,zH 100 111 179,zH 100 112 180,zH 100 113 181,zP 100 105 163,zH 100 114 182,zH 100 115 183,zH 100 116 184,zP 100 106 164,zH 100 117 185,zP 100 107 165,zP 100 108 166,zH 100 118 186,zP 100 109 167,zP 100 110 168,zH 100 119 187,zP 100 111 169,zP 100 112 170,zH 100 120 188,zH 100 121 189,zH 100 122 190,zH 100 123 191,zP 100 113 171,zP 100 114 172,zH 85 90 192,zP 85 86 173,zH 85 91 193,zP 85 87 174,zH 85 92 194,zP 85 88 175,zH 85 93 195,zP 85 89 176,zH 85 94 196,zH 85 95 197,zH 85 96 198,zP 85 90 177,zH 85 97 199,zH 85 98 200,zH 85 99 201,zP 85 91 178,zH 85 100 202,zP 85 92 179,zP 85 93 180,zH 85 101 203,zP 85 94 181,zP 85 95 182,zH 85 102 204,zP 85 96 183,zP 85 97 184,zH 85 103 205,zH 85 104 206,zH 85 105 207,zH 85 106 208,zP 85 98 185,zP 85 99 186,zH 70 73 209,zP 70 71 187,zH 70 74 210,zP 70 72 188,zH 70 75 211,zP 70 73 189,zH 70 76 212,zP 70 74 190,zH 70 77 213,zH 70 78 214,zH 70 79 215,zP 70 75 191,zH 70 80 216,zH 70 81 217,zH 70 82 218,zP 70 76 192,zH 70 83 219,zP 70 77 193,zP 70 78 194,zH 70 84 220,zP 70 79 195,zP 70 80 196,zH 70 85 221,zP 70 81 197,zP 70 82 198,zH 70 86 222,zH 70 87 223,zH 70 88 224,zH 70 89 225,zP 70 83 199,zP 70 84 200,zH 55 56 226,zP 55 56 201,zH 55 57 227,zP 55 57 202,zH 55 58 228,zP 55 58 203,zH 55 59 229,zP 55 59 204,zH 55 60 230,zH 55 61 231,zH 55 62 232,zP 55 60 205,zH 55 63 233,zH 55 64 234,zH 55 65 235,zP 55 61 206,zH 55 66 236,zP 55 62 207,zP 55 63 208,zH 55 67 237,zP 55 64 209,zP 55 65 210,zH 55 68 238,zP 55 66 211,zP 55 67 212,zH 55 69 239,zH 55 70 240,zH 55 71 241,zH 55 72 242,zP 55 68 213,zP 55 69 214,zH 40 39 243,zP 40 41 215,zH 40 40 244,zP 40 42 216,zH 40 41 245,zP 40 43 217,zH 40 42 246,zP 40 44 218,zH 40 43 247,zH 40 44 248,zH 40 45 249,zP 40 45 219,zH 40 46 250,zH 40 47 251,zH 40 48 252,zP 40 46 220,zH 40 49 253,zP 40 47 221,zP 40 48 222,zH 40 50 254,zP 40 49 223,zP 40 50 224,zH 40 51 255,zP 40 51 225,zP 40 52 226,zH 40 52 256,zH 40 53 257,zH 40 54 258,zH 40 55 259,zP 40 53 227,zP 40 54 228,zH 35 0 260,zP 35 0 229,zH 35 1 261,zP 35 1 230,zH 35 36 262,zP 35 39 231,zH 35 3 263,zP 35 3 232,zH 35 37 264,zH 35 38 265,zH 35 6 266,zP 35 4 233,zH 35 7 267,zH 35 8 268,zH 35 9 269,zP 35 5 234,zH 35 10 270,zP 35 6 235,zP 35 7 236,zH 35 11 271,zP 35 8 237,zP 35 9 238,zH 35 12 272,zP 35 10 239,zP 35 11 240,zH 35 13 273,zH 35 14 274,zH 35 15 275,zH 35 16 276,zP 35 12 241,zP 35 13 242,zH 30 0 277,zP 30 0 243,zH 30 33 278,zP 30 34 244,zH 30 2 279,zP 30 2 245,zH 30 3 280,zP 30 3 246,zH 30 34 281,zH 30 35 282,zH 30 6 283,zP 30 4 247,zH 30 7 284,zH 30 8 285,zH 30 9 286,zP 30 5 248,zH 30 10 287,zP 30 6 249,zP 30 7 250,zH 30 11 288,zP 30 8 251,zP 30 9 252,zH 30 12 289,zP 30 10 253,zP 30 11 254,zH 30 13 290,zH 30 14 291,zH 30 15 292,zH 30 16 293,zP 30 12 255,zP 30 13 256,zH 25 0 294,zP 25 0 257,zH 25 1 295,zP 25 1 258,zH 25 30 296,zP 25 29 259,zH 25 3 297,zP 25 3 260,zH 25 31 298,zH 25 32 299,zH 25 6 300,zP 25 4 261,zH 25 7 301,zH 25 8 302,zH 25 9 303,zP 25 5 262,zH 25 10 304,zP 25 6 263,zP 25 7 264,zH 25 11 305,zP 25 8 265,zP 25 9 266,zH 25 12 306,zP 25 10 267,zP 25 11 268,zH 25 13 307,zH 25 14 308,zH 25 15 309,zH 25 16 310,zP 25 12 269,zP 25 13 270,zH 20 0 311,zP 20 0 271,zH 20 27 312,zP 20 24 272,zH 20 2 313,zP 20 2 273,zH 20 3 314,zP 20 3 274,zH 20 28 315,zH 20 29 316,zH 20 6 317,zP 20 4 275,zH 20 7 318,zH 20 8 319,zH 20 9 320,zP 20 5 276,zH 20 10 321,zP 20 6 277,zP 20 7 278,zH 20 11 322,zP 20 8 279,zP 20 9 280,zH 20 12 323,zP 20 10 281,zP 20 11 282,zH 20 13 324,zH 20 14 325,zH 20 15 326,zH 20 16 327,zP 20 12 283,zP 20 13 284,zH 19 0 328,zP 19 0 285,zH 19 1 329,zP 19 1 286,zH 19 2 330,zP 19 2 287,zH 19 1 331,zP 19 1 288,zH 19 4 332,zH 19 5 333,zH 19 6 334,zP 19 4 289,zH 19 7 335,zH 19 8 336,zH 19 9 337,zP 19 5 290,zH 19 10 338,zP 19 6 291,zP 19 7 292,zH 19 11 339,zP 19 8 293,zP 19 9 294,zH 19 12 340,zP 19 10 295,zP 19 11 296,zH 19 13 341,zH 19 14 342,zH 19 15 343,zH 19 16 344,zP 19 12 297,zP 19 13 298,zH 18 0 345,zP 18 0 299,zH 18 3 346,zP 18 3 300,zH 18 2 347,zP 18 2 301,zH 18 3 348,zP 18 3 302,zH 18 25 349,zH 18 26 350,zH 18 6 351,zP 18 4 303,zH 18 7 352,zH 18 8 353,zH 18 9 354,zP 18 5 304,zH 18 10 355,zP 18 6 305,zP 18 7 306,zH 18 11 356,zP 18 8 307,zP 18 9 308,zH 18 12 357,zP 18 10 309,zP 18 11 310,zH 18 13 358,zH 18 14 359,zH 18 15 360,zH 18 16 361,zP 18 12 311,zP 18 13 312,zH 17 2 362,zP 17 2 313,zH 17 1 363,zP 17 1 314,zH 17 2 364,zP 17 2 315,zH 17 3 365,zP 17 3 316,zH 17 23 366,zH 17 24 367,zH 17 6 368,zP 17 4 317,zH 17 7 369,zH 17 8 370,zH 17 9 371,zP 17 5 318,zH 17 10 372,zP 17 6 319,zP 17 7 320,zH 17 11 373,zP 17 8 321,zP 17 9 322,zH 17 12 374,zP 17 10 323,zP 17 11 324,zH 17 13 375,zH 17 14 376,zH 17 15 377,zH 17 16 378,zP 17 12 325,zP 17 13 326,zH 16 1 379,zP 16 1 327,zH 16 1 380,zP 16 1 328,zH 16 2 381,zP 16 2 329,zH 16 3 382,zP 16 3 330,zH 16 21 383,zH 16 22 384,zH 16 6 385,zP 16 4 331,zH 16 7 386,zH 16 8 387,zH 16 9 388,zP 16 5 332,zH 16 10 389,zP 16 6 333,zP 16 7 334,zH 16 11 390,zP 16 8 335,zP 16 9 336,zH 16 12 391,zP 16 10 337,zP 16 11 338,zH 16 13 392,zH 16 14 393,zH 16 15 394,zH 16 16 395,zP 16 12 339,zP 16 13 340,zH 15 0 396,zP 15 0 341,zH 15 1 397,zP 15 1 342,zH 15 0 398,zP 15 0 343,zH 15 3 399,zP 15 3 344,zH 15 19 400,zH 15 20 401,zH 15 6 402,zP 15 4 345,zH 15 7 403,zH 15 8 404,zH 15 9 405,zP 15 5 346,zH 15 10 406,zP 15 6 347,zP 15 7 348,zH 15 11 407,zP 15 8 349,zP 15 9 350,zH 15 12 408,zP 15 10 351,zP 15 11 352,zH 15 13 409,zH 15 14 410,zH 15 15 411,zH 15 16 412,zP 15 12 353,zP 15 13 354,zH 14 0 413,zP 14 0 355,zH 14 0 414,zP 14 0 356,zH 14 2 415,zP 14 2 357,zH 14 3 416,zP 14 3 358,zH 14 17 417,zH 14 18 418,zH 14 6 419,zP 14 4 359,zH 14 7 420,zH 14 8 421,zH 14 9 422,zP 14 5 360,zH 14 10 423,zP 14 6 361,zP 14 7 362,zH 14 11 424,zP 14 8 363,zP 14 9 364,zH 14 12 425,zP 14 10 365,zP 14 11 366,zH 14 13 426,zH 14 14 427,zH 14 15 428,zH 14 16 429,zP 14 12 367,zP 14 13 368] (xC 430 17) (xD 369 14)
noncomputable def F114 : Fun := S114.run (tabF T40) false
noncomputable def T41 : Tb := (114, s114, F114) :: T40
theorem A41 : Ok m T41 := ad A40 Tryz.func114 (S := S114) (by kernel_rfl)
def s144 : Sum := { args := [(.ptr wk), (.val true [(.int .u8), .bool])], tup := true, res := [], pre := false }
def S144 : Smry := xK 18 15 [.c 141 [4,5,1,17] [1,14] 2 0] ([0,1,2,3,18,19]++xC 6 11) (xD 0 14)
noncomputable def F144 : Fun := S144.run (tabF T41) false
noncomputable def T42 : Tb := (144, s144, F144) :: T41
theorem A42 : Ok m T42 := ad A41 Tryz.func144 (S := S144) (by kernel_rfl)
def s145 : Sum := { args := [(.ptr wk), (.val true [(.int .u8), .bool])], tup := true, res := [], pre := false }
def S145 : Smry := xK 18 15 [.c 141 [4,5,2,17] [2,14] 2 0] ([0,1,2,3,18,19]++xC 6 11) (xD 0 14)
noncomputable def F145 : Fun := S145.run (tabF T42) false
noncomputable def T43 : Tb := (145, s145, F145) :: T42
theorem A43 : Ok m T43 := ad A42 Tryz.func145 (S := S145) (by kernel_rfl)
def s175 : Sum := { args := [(.val true [(.int .u8), (.int .u8)]), (.val true [(.int .u8), .bool]), (.val true [(.int .u8), .bool])], tup := false, res := [(true, [(.int .u8), (.int .u8)])], pre := false }
def S175 : Smry := xK 4 2 [zI 2 3,zG 0,zG 1,zG 1,zG 0,zP 5 1 0,zG 0,zG 1,zQ 7 8,zP 9 xF xE,zO 4 xG,zG 10,zG 10,zG 10,zP 14 xF xE,zG 10,zG 10,zG 10,zP 18 xF xE,zG 11,zH 20 xG xH,zP 20 19 15,.c 171 [0,1,xI,5] [21] 2 0,zG 1,zG 1,zG 1,zP 24 xF xE,zV 3 (.c 7),zI 8 xH,zG 1,zG 1,zG 1,zP 28 xF xE,.c 171 [6,7,(.c 128),9] [29] 2 0,zG 1,zG 1,zG 1,zP 32 xF xE,zV 3 (.c 6),zI 12 xH,zG 1,zG 1,zG 1,zP 36 xF xE,.c 171 [10,11,(.c 64),13] [37] 2 0] [14,15] []
noncomputable def F175 : Fun := S175.run (tabF T43) false
noncomputable def T44 : Tb := (175, s175, F175) :: T43
theorem A44 : Ok m T44 := ad A43 Tryz.func175 (S := S175) (by kernel_rfl)
def s146 : Sum := { args := [(.ptr wk), (.val true [(.int .u8), .bool])], tup := true, res := [], pre := false }
def S146 : Smry := xK 18 15 [.c 175 [4,5,0,17] [0,14] 2 0] ([0,1,2,3,18,19]++xC 6 11) (xD 0 14)
noncomputable def F146 : Fun := S146.run (tabF T44) false
noncomputable def T45 : Tb := (146, s146, F146) :: T44
theorem A45 : Ok m T45 := ad A44 Tryz.func146 (S := S146) (by kernel_rfl)
def s147 : Sum := { args := [(.ptr wk), (.val true [(.int .u8), .bool])], tup := true, res := [], pre := false }
def S147 : Smry := xK 18 15 [.c 136 [4,5,17] [14] 2 0] ([17,1,2,3,18,19]++xC 6 11) ([14]++xD 1 13)
noncomputable def F147 : Fun := S147.run (tabF T45) false
noncomputable def T46 : Tb := (147, s147, F147) :: T45
theorem A46 : Ok m T46 := ad A45 Tryz.func147 (S := S147) (by kernel_rfl)
def s148 : Sum := { args := [(.ptr wk), (.val true [(.int .u8), .bool])], tup := true, res := [], pre := false }
def S148 : Smry := xK 18 15 [.c 136 [4,5,17] [14] 2 0] ([0,17,2,3,18,19]++xC 6 11) ([0,14]++xD 2 12)
noncomputable def F148 : Fun := S148.run (tabF T46) false
noncomputable def T47 : Tb := (148, s148, F148) :: T46
theorem A47 : Ok m T47 := ad A46 Tryz.func148 (S := S148) (by kernel_rfl)
def s149 : Sum := { args := [(.ptr wk), (.val true [(.int .u8), .bool])], tup := true, res := [], pre := false }
def S149 : Smry := xK 18 15 [.c 136 [4,5,17] [14] 2 0] ([0,1,17,3,18,19]++xC 6 11) ([0,1,14]++xD 3 11)
noncomputable def F149 : Fun := S149.run (tabF T47) false
noncomputable def T48 : Tb := (149, s149, F149) :: T47
theorem A48 : Ok m T48 := ad A47 Tryz.func149 (S := S149) (by kernel_rfl)
def s150 : Sum := { args := [(.ptr wk), (.val true [(.int .u8), .bool])], tup := true, res := [], pre := false }
def S150 : Smry := xK 18 15 [.c 147 (xC 0 18) (xD 0 15) 17 14] ([18,17]++xC 20 15) ([15,14]++xD 17 12)
noncomputable def F150 : Fun := S150.run (tabF T48) false
noncomputable def T49 : Tb := (150, s150, F150) :: T48
theorem A49 : Ok m T49 := ad A48 Tryz.func150 (S := S150) (by kernel_rfl)
def s151 : Sum := { args := [(.ptr wk), (.val true [(.int .u8), .bool])], tup := true, res := [], pre := false }
def S151 : Smry := xK 18 15 [zI 17 3,zG 14,zG 3,zG 3,zG 14,zP 18 3 14,zG 14,zG 3,zQ 20 21,zP 22 xF xE,.c 150 (xC 0 17++[18]) (xD 0 14++[23]) 17 14] ([19,20,21,19]++xC 23 13) ([24,25,26,24]++xD 28 10)
noncomputable def F151 : Fun := S151.run (tabF T49) false
noncomputable def T50 : Tb := (151, s151, F151) :: T49
theorem A50 : Ok m T50 := ad A49 Tryz.func151 (S := S151) (by kernel_rfl)
def s152 : Sum := { args := [(.ptr wk), (.val true [(.int .u8), .bool])], tup := true, res := [], pre := false }
def S152 : Smry := xK 18 15 [.c 108 (xC 0 18) (xD 0 15) 17 14,zG 15,zG 15,zG 15,zP 31 xF xE,zV 18 (.c 7),zI 35 xH,zG 15,zG 15,zG 15,zP 35 xF xE,.c 171 [22,23,xH,36] [36] 2 0] ([18,19,20,21,37,38]++xC 24 11) (xD 15 14)
noncomputable def F152 : Fun := S152.run (tabF T50) false
noncomputable def T51 : Tb := (152, s152, F152) :: T50
theorem A51 : Ok m T51 := ad A50 Tryz.func152 (S := S152) (by kernel_rfl)
def s153 : Sum := { args := [(.ptr wk), (.val true [(.int .u8), .bool])], tup := true, res := [], pre := false }
def S153 : Smry := xK 18 15 [zI 0 17,zG 0,zG 14,zG 14,zG 0,zP 18 14 0,zG 0,zG 14,zQ 20 21,zP 22 xF xE,.c 102 [4,5,18] [23] 3 1] ([19,1,2,3,20,21]++xC 6 11) ([24]++xD 1 13)
noncomputable def F153 : Fun := S153.run (tabF T51) false
noncomputable def T52 : Tb := (153, s153, F153) :: T51
theorem A52 : Ok m T52 := ad A51 Tryz.func153 (S := S153) (by kernel_rfl)
def s176 : Sum := { args := [(.val true [(.int .u8), (.int .u8)]), (.val true [(.int .u8), .bool]), (.val true [(.int .u8), .bool])], tup := true, res := [(true, [(.int .u8), .bool]), (true, [(.int .u8), (.int .u8)])], pre := false }
def S176 : Smry := xK 4 2 [zI 2 3,zG 0,zG 1,zG 1,zG 0,zP 5 1 0,zG 0,zG 1,zQ 7 8,zP 9 xF xE,.c 104 [0,1,4] [10] 3 1,zG 11,zG 11,zG 11,zP 14 xF xE,zV 5 (.c 6),zI 8 xH,zG 11,zG 11,zG 11,zP 18 xF xE,.c 171 [6,7,xH,9] [19] 2 0,zG 11,zG 11,zG 11,zP 22 xF xE,zV 5 (.c 5),zI 12 xH,zG 11,zG 11,zG 11,zP 26 xF xE,zY 9 13,zG 19,zG 27,zG 27,zG 19,zP 31 27 19,zG 19,zG 27,zQ 33 34,zP 35 xF xE,.c 171 [10,11,(.c 64),14] [36] 2 0] [5,15,16] [11]
noncomputable def F176 : Fun := S176.run (tabF T52) false
noncomputable def T53 : Tb := (176, s176, F176) :: T52
theorem A53 : Ok m T53 := ad A52 Tryz.func176 (S := S176) (by kernel_rfl)
def s154 : Sum := { args := [(.ptr wk), (.val true [(.int .u8), .bool])], tup := true, res := [], pre := false }
def S154 : Smry := xK 18 15 [.c 176 [4,5,0,17] [0,14] 3 1] ([18,1,2,3,19,20]++xC 6 11) ([15]++xD 1 13)
noncomputable def F154 : Fun := S154.run (tabF T53) false
noncomputable def T54 : Tb := (154, s154, F154) :: T53
theorem A54 : Ok m T54 := ad A53 Tryz.func154 (S := S154) (by kernel_rfl)
def s155 : Sum := { args := [(.ptr wk), (.val true [(.int .u8), .bool])], tup := true, res := [], pre := false }
def S155 : Smry := xK 18 15 [zI 0 1,zG 0,zG 1,zG 1,zG 0,zP 18 1 0,zG 0,zG 1,zQ 20 21,zP 22 xF xE,.c 173 [4,5,18,17] [23,14] 3 1] ([0,19,2,3,20,21]++xC 6 11) ([0,24]++xD 2 12)
noncomputable def F155 : Fun := S155.run (tabF T54) false
noncomputable def T55 : Tb := (155, s155, F155) :: T54
theorem A55 : Ok m T55 := ad A54 Tryz.func155 (S := S155) (by kernel_rfl)
def s156 : Sum := { args := [(.ptr wk), (.val true [(.int .u8), .bool])], tup := true, res := [], pre := false }
def S156 : Smry := xK 18 15 [zN 0 (.c 238),zG 0,zG 0,zP 16 xF 0,zG 0,zP 18 xF xE,zI 18 1,zG 19,zG 1,zG 1,zG 19,zP 23 1 19,zG 19,zG 1,zQ 25 26,zP 27 xF xE,zI 19 17,zG 28,zG 14,zG 14,zG 28,zP 32 14 28,zG 28,zG 14,zQ 34 35,zP 36 xF xE,.c 147 (xC 0 17++[20]) (xD 0 14++[37]) 17 14] (xC 21 17) (xD 38 14)
noncomputable def F156 : Fun := S156.run (tabF T55) false
noncomputable def T56 : Tb := (156, s156, F156) :: T55
theorem A56 : Ok m T56 := ad A55 Tryz.func156 (S := S156) (by kernel_rfl)
def s157 : Sum := { args := [(.ptr wk), (.val true [(.int .u8), .bool])], tup := true, res := [], pre := false }
def S157 : Smry := xK 18 15 [zN 0 (.c 238),zG 0,zG 0,zP 16 xF 0,zG 0,zP 18 xF xE,zI 18 17,zG 19,zG 14,zG 14,zG 19,zP 23 14 19,zG 19,zG 14,zQ 25 26,zP 27 xF xE,.c 150 (xC 0 17++[19]) (xD 0 14++[28]) 17 14] (xC 20 17) (xD 29 14)
noncomputable def F157 : Fun := S157.run (tabF T56) false
noncomputable def T57 : Tb := (157, s157, F157) :: T56
theorem A57 : Ok m T57 := ad A56 Tryz.func157 (S := S157) (by kernel_rfl)
end
section
variable {m : Int}

def s115 : Sum := { args := [(.ptr wk), (.val true [(.int .u8), .bool])], tup := true, res := [], pre := true }
def S115 : Smry := xK 18 15 [zO 13 (.c yQ1),zO 13 (.c yQ11),zO 13 (.c yQ19),zO 13 (.c yQ28),zO 13 (.c yQ70),zO 13 (.c yQ61),zO 13 (.c yQ69),zO 13 (.c yQ60),zO 13 (.c yQ13),zO 13 (.c yQ50),zO 13 (.c yQ51),zO 13 (.c yQ49),zO 13 (.c yQ52),zO 13 (.c yQ59),zO 13 (.c yQ7),zO 13 (.c yQ23),zO 13 (.c yQ32),zO 13 (.c yQ66),zO 13 (.c yQ41),zO 13 (.c yQ55),zP 34 xF xE,zP 33 xF 35,zP 32 xF 36,zP 31 xF 37,zP 30 xF 38,zP 29 xF 39,zP 28 xF 40,zP 27 xF 41,zP 26 xF 42,zP 25 xF 43,zP 24 xF 44,zP 23 xF 45,zP 22 xF 46,zP 21 xF 47,zP 20 xF 48,zP 19 xF 49,zP 18 xF 50,zP 17 xF 51,zP 16 xF 52,zP 15 xF 53,zG 54,.c 107 (xC 0 18) (xD 0 15) 17 14,.c 108 (xC 0 18) (xD 0 15) 17 14,.c 109 (xC 0 18) (xD 0 15) 17 14,.c 110 (xC 0 18) (xD 0 15) 17 14,.c 112 (xC 0 18) (xD 0 15) 17 14,.c 111 (xC 0 18) (xD 0 15) 17 14,.c 144 (xC 0 18) (xD 0 15) 17 14,.c 145 (xC 0 18) (xD 0 15) 17 14,.c 146 (xC 0 18) (xD 0 15) 17 14,.c 147 (xC 0 18) (xD 0 15) 17 14,.c 148 (xC 0 18) (xD 0 15) 17 14,.c 149 (xC 0 18) (xD 0 15) 17 14,.c 150 (xC 0 18) (xD 0 15) 17 14,.c 151 (xC 0 18) (xD 0 15) 17 14,.c 152 (xC 0 18) (xD 0 15) 17 14,.c 153 (xC 0 18) (xD 0 15) 17 14,.c 154 (xC 0 18) (xD 0 15) 17 14,.c 155 (xC 0 18) (xD 0 15) 17 14,.c 156 (xC 0 18) (xD 0 15) 17 14,.o [(55,true),(15,false),(16,false),(17,false),(18,false),(19,false),(20,false),(21,false),(22,false),(23,false),(24,false),(25,false),(26,false),(27,false),(28,false),(29,false),(30,false),(31,false),(32,false),(33,false)] 34,.c 157 (xC 0 18) (xD 0 15) 17 14,zH 33 324 341,zP 33 308 322,zH 33 325 342,zP 33 309 323,zH 33 326 343,zP 33 310 324,zH 33 327 344,zP 33 311 325,zH 33 328 345,zH 33 329 346,zH 33 330 347,zP 33 312 326,zH 33 331 348,zH 33 332 349,zH 33 333 350,zP 33 313 327,zH 33 334 351,zP 33 314 328,zP 33 315 329,zH 33 335 352,zP 33 316 330,zP 33 317 331,zH 33 336 353,zP 33 318 332,zP 33 319 333,zH 33 337 354,zH 33 338 355,zH 33 339 356,zH 33 340 357,zP 33 320 334,zP 33 321 335,zH 32 307 358,zP 32 294 336,zH 32 308 359,zP 32 295 337,zH 32 309 360,zP 32 296 338,zH 32 310 361,zP 32 297 339,zH 32 311 362,zH 32 312 363,zH 32 313 364,zP 32 298 340,zH 32 314 365,zH 32 315 366,zH 32 316 367,zP 32 299 341,zH 32 317 368,zP 32 300 342,zP 32 301 343,zH 32 318 369,zP 32 302 344,zP 32 303 345,zH 32 319 370,zP 32 304 346,zP 32 305 347,zH 32 320 371,zH 32 321 372,zH 32 322 373,zH 32 323 374,zP 32 306 348,zP 32 307 349,zH 31 290 375,zP 31 280 350,zH 31 291 376,zP 31 281 351,zH 31 292 377,zP 31 282 352,zH 31 293 378,zP 31 283 353,zH 31 294 379,zH 31 295 380,zH 31 296 381,zP 31 284 354,zH 31 297 382,zH 31 298 383,zH 31 299 384,zP 31 285 355,zH 31 300 385,zP 31 286 356,zP 31 287 357,zH 31 301 386,zP 31 288 358,zP 31 289 359,zH 31 302 387,zP 31 290 360,zP 31 291 361,zH 31 303 388,zH 31 304 389,zH 31 305 390,zH 31 306 391,zP 31 292 362,zP 31 293 363,zH 30 273 392,zP 30 266 364,zH 30 274 393,zP 30 267 365,zH 30 275 394,zP 30 268 366,zH 30 276 395,zP 30 269 367,zH 30 277 396,zH 30 278 397,zH 30 279 398,zP 30 270 368,zH 30 280 399,zH 30 281 400,zH 30 282 401,zP 30 271 369,zH 30 283 402,zP 30 272 370,zP 30 273 371,zH 30 284 403,zP 30 274 372,zP 30 275 373,zH 30 285 404,zP 30 276 374,zP 30 277 375,zH 30 286 405,zH 30 287 406,zH 30 288 407,zH 30 289 408,zP 30 278 376,zP 30 279 377,zH 29 256 409,zP 29 252 378,zH 29 257 410,zP 29 253 379,zH 29 258 411,zP 29 254 380,zH 29 259 412,zP 29 255 381,zH 29 260 413,zH 29 261 414,zH 29 262 415,zP 29 256 382,zH 29 263 416,zH 29 264 417,zH 29 265 418,zP 29 257 383,zH 29 266 419,zP 29 258 384,zP 29 259 385,zH 29 267 420,zP 29 260 386,zP 29 261 387,zH 29 268 421,zP 29 262 388,zP 29 263 389,zH 29 269 422,zH 29 270 423,zH 29 271 424,zH 29 272 425,zP 29 264 390,zP 29 265 391,zH 28 239 426,zP 28 238 392,zH 28 240 427,zP 28 239 393,zH 28 241 428,zP 28 240 394,zH 28 242 429,zP 28 241 395,zH 28 243 430,zH 28 244 431,zH 28 245 432,zP 28 242 396,zH 28 246 433,zH 28 247 434,zH 28 248 435,zP 28 243 397,zH 28 249 436,zP 28 244 398,zP 28 245 399,zH 28 250 437,zP 28 246 400,zP 28 247 401,zH 28 251 438,zP 28 248 402,zP 28 249 403,zH 28 252 439,zH 28 253 440,zH 28 254 441,zH 28 255 442,zP 28 250 404,zP 28 251 405,zH 27 222 443,zP 27 224 406,zH 27 223 444,zP 27 225 407,zH 27 224 445,zP 27 226 408,zH 27 225 446,zP 27 227 409,zH 27 226 447,zH 27 227 448,zH 27 228 449,zP 27 228 410,zH 27 229 450,zH 27 230 451,zH 27 231 452,zP 27 229 411,zH 27 232 453,zP 27 230 412,zP 27 231 413,zH 27 233 454,zP 27 232 414,zP 27 233 415,zH 27 234 455,zP 27 234 416,zP 27 235 417,zH 27 235 456,zH 27 236 457,zH 27 237 458,zH 27 238 459,zP 27 236 418,zP 27 237 419,zH 26 205 460,zP 26 210 420,zH 26 206 461,zP 26 211 421,zH 26 207 462,zP 26 212 422,zH 26 208 463,zP 26 213 423,zH 26 209 464,zH 26 210 465,zH 26 211 466,zP 26 214 424,zH 26 212 467,zH 26 213 468,zH 26 214 469,zP 26 215 425,zH 26 215 470,zP 26 216 426,zP 26 217 427,zH 26 216 471,zP 26 218 428,zP 26 219 429,zH 26 217 472,zP 26 220 430,zP 26 221 431,zH 26 218 473,zH 26 219 474,zH 26 220 475,zH 26 221 476,zP 26 222 432,zP 26 223 433,zH 25 188 477,zP 25 196 434,zH 25 189 478,zP 25 197 435,zH 25 190 479,zP 25 198 436,zH 25 191 480,zP 25 199 437,zH 25 192 481,zH 25 193 482,zH 25 194 483,zP 25 200 438,zH 25 195 484,zH 25 196 485,zH 25 197 486,zP 25 201 439,zH 25 198 487,zP 25 202 440,zP 25 203 441,zH 25 199 488,zP 25 204 442,zP 25 205 443,zH 25 200 489,zP 25 206 444,zP 25 207 445,zH 25 201 490,zH 25 202 491,zH 25 203 492,zH 25 204 493,zP 25 208 446,zP 25 209 447,zH 24 171 494,zP 24 182 448,zH 24 172 495,zP 24 183 449,zH 24 173 496,zP 24 184 450,zH 24 174 497,zP 24 185 451,zH 24 175 498,zH 24 176 499,zH 24 177 500,zP 24 186 452,zH 24 178 501,zH 24 179 502,zH 24 180 503,zP 24 187 453,zH 24 181 504,zP 24 188 454,zP 24 189 455,zH 24 182 505,zP 24 190 456,zP 24 191 457,zH 24 183 506,zP 24 192 458,zP 24 193 459,zH 24 184 507,zH 24 185 508,zH 24 186 509,zH 24 187 510,zP 24 194 460,zP 24 195 461,zH 23 154 511,zP 23 168 462,zH 23 155 512,zP 23 169 463,zH 23 156 513,zP 23 170 464,zH 23 157 514,zP 23 171 465,zH 23 158 515,zH 23 159 516,zH 23 160 517,zP 23 172 466,zH 23 161 518,zH 23 162 519,zH 23 163 520,zP 23 173 467,zH 23 164 521,zP 23 174 468,zP 23 175 469,zH 23 165 522,zP 23 176 470,zP 23 177 471,zH 23 166 523,zP 23 178 472,zP 23 179 473,zH 23 167 524,zH 23 168 525,zH 23 169 526,zH 23 170 527,zP 23 180 474,zP 23 181 475,zH 22 137 528,zP 22 154 476,zH 22 138 529,zP 22 155 477,zH 22 139 530,zP 22 156 478,zH 22 140 531,zP 22 157 479,zH 22 141 532,zH 22 142 533,zH 22 143 534,zP 22 158 480,zH 22 144 535,zH 22 145 536,zH 22 146 537,zP 22 159 481,zH 22 147 538,zP 22 160 482,zP 22 161 483,zH 22 148 539,zP 22 162 484,zP 22 163 485,zH 22 149 540,zP 22 164 486,zP 22 165 487,zH 22 150 541,zH 22 151 542,zH 22 152 543,zH 22 153 544,zP 22 166 488,zP 22 167 489,zH 21 120 545,zP 21 140 490,zH 21 121 546,zP 21 141 491,zH 21 122 547,zP 21 142 492,zH 21 123 548,zP 21 143 493,zH 21 124 549,zH 21 125 550,zH 21 126 551,zP 21 144 494,zH 21 127 552,zH 21 128 553,zH 21 129 554,zP 21 145 495,zH 21 130 555,zP 21 146 496,zP 21 147 497,zH 21 131 556,zP 21 148 498,zP 21 149 499,zH 21 132 557,zP 21 150 500,zP 21 151 501,zH 21 133 558,zH 21 134 559,zH 21 135 560,zH 21 136 561,zP 21 152 502,zP 21 153 503,zH 20 103 562,zP 20 126 504,zH 20 104 563,zP 20 127 505,zH 20 105 564,zP 20 128 506,zH 20 106 565,zP 20 129 507,zH 20 107 566,zH 20 108 567,zH 20 109 568,zP 20 130 508,zH 20 110 569,zH 20 111 570,zH 20 112 571,zP 20 131 509,zH 20 113 572,zP 20 132 510,zP 20 133 511,zH 20 114 573,zP 20 134 512,zP 20 135 513,zH 20 115 574,zP 20 136 514,zP 20 137 515,zH 20 116 575,zH 20 117 576,zH 20 118 577,zH 20 119 578,zP 20 138 516,zP 20 139 517,zH 19 86 579,zP 19 112 518,zH 19 87 580,zP 19 113 519,zH 19 88 581,zP 19 114 520,zH 19 89 582,zP 19 115 521,zH 19 90 583,zH 19 91 584,zH 19 92 585,zP 19 116 522,zH 19 93 586,zH 19 94 587,zH 19 95 588,zP 19 117 523,zH 19 96 589,zP 19 118 524,zP 19 119 525,zH 19 97 590,zP 19 120 526,zP 19 121 527,zH 19 98 591,zP 19 122 528,zP 19 123 529,zH 19 99 592,zH 19 100 593,zH 19 101 594,zH 19 102 595,zP 19 124 530,zP 19 125 531,zH 18 69 596,zP 18 98 532,zH 18 70 597,zP 18 99 533,zH 18 71 598,zP 18 100 534,zH 18 72 599,zP 18 101 535,zH 18 73 600,zH 18 74 601,zH 18 75 602,zP 18 102 536,zH 18 76 603,zH 18 77 604,zH 18 78 605,zP 18 103 537,zH 18 79 606,zP 18 104 538,zP 18 105 539,zH 18 80 607,zP 18 106 540,zP 18 107 541,zH 18 81 608,zP 18 108 542,zP 18 109 543,zH 18 82 609,zH 18 83 610,zH 18 84 611,zH 18 85 612,zP 18 110 544,zP 18 111 545,zH 17 52 613,zP 17 84 546,zH 17 53 614,zP 17 85 547,zH 17 54 615,zP 17 86 548,zH 17 55 616,zP 17 87 549,zH 17 56 617,zH 17 57 618,zH 17 58 619,zP 17 88 550,zH 17 59 620,zH 17 60 621,zH 17 61 622,zP 17 89 551,zH 17 62 623,zP 17 90 552,zP 17 91 553,zH 17 63 624,zP 17 92 554,zP 17 93 555,zH 17 64 625,zP 17 94 556,zP 17 95 557,zH 17 65 626,zH 17 66 627,zH 17 67 628,zH 17 68 629,zP 17 96 558,zP 17 97 559,zH 16 35 630,zP 16 70 560,zH 16 36 631,zP 16 71 561,zH 16 37 632,zP 16 72 562,zH 16 38 633,zP 16 73 563,zH 16 39 634,zH 16 40 635,zH 16 41 636,zP 16 74 564,zH 16 42 637,zH 16 43 638,zH 16 44 639,zP 16 75 565,zH 16 45 640,zP 16 76 566,zP 16 77 567,zH 16 46 641,zP 16 78 568,zP 16 79 569,zH 16 47 642,zP 16 80 570,zP 16 81 571,zH 16 48 643,zH 16 49 644,zH 16 50 645,zH 16 51 646,zP 16 82 572,zP 16 83 573,zH 15 18 647,zP 15 56 574,zH 15 19 648,zP 15 57 575,zH 15 20 649,zP 15 58 576,zH 15 21 650,zP 15 59 577,zH 15 22 651,zH 15 23 652,zH 15 24 653,zP 15 60 578,zH 15 25 654,zH 15 26 655,zH 15 27 656,zP 15 61 579,zH 15 28 657,zP 15 62 580,zP 15 63 581,zH 15 29 658,zP 15 64 582,zP 15 65 583,zH 15 30 659,zP 15 66 584,zP 15 67 585,zH 15 31 660,zH 15 32 661,zH 15 33 662,zH 15 34 663,zP 15 68 586,zP 15 69 587,zQ 55 15,zQ 55 16,zQ 55 17,zQ 55 18,zQ 55 19,zQ 55 20,zQ 55 21,zQ 55 22,zQ 55 23,zQ 55 24,zQ 55 25,zQ 55 26,zQ 55 27,zQ 55 28,zQ 55 29,zQ 55 30,zQ 55 31,zQ 55 32,zQ 55 33,zQ 55 34,zH 55 664 0,zP 55 588 0,zH 55 665 1,zP 55 589 1,zH 55 666 2,zP 55 590 2,zH 55 667 3,zP 55 591 3,zH 55 668 4,zH 55 669 5,zH 55 670 6,zP 55 592 4,zH 55 671 7,zH 55 672 8,zH 55 673 9,zP 55 593 5,zH 55 674 10,zP 55 594 6,zP 55 595 7,zH 55 675 11,zP 55 596 8,zP 55 597 9,zH 55 676 12,zP 55 598 10,zP 55 599 11,zH 55 677 13,zH 55 678 14,zH 55 679 15,zH 55 680 16,zP 55 600 12,zP 55 601 13] (xC 681 17) (xD 622 14)
noncomputable def F115 : Fun := S115.run (tabF T57) true
noncomputable def T58 : Tb := (115, s115, F115) :: T57
theorem A58 : Ok m T58 := ad A57 Tryz.func115 (S := S115) (by kernel_rfl)
def s158 : Sum := { args := [(.ptr wk)], tup := false, res := [(false, [.bool])], pre := true }
def S158 : Smry := (.mk [(.di 17 (.ar .shr .u8 7 (.c 6))), (.di 18 (.cv .i64 17)), (.db 14 (.cm .geq 18 (.c 0))), (.ob [] 14), (.db 15 (.cm .lss 18 (.c 4))), (.ob [] 15), (.di 19 (.tab [128, 64, 1, 2] 18)), (.di 20 (.ar .and .u8 19 (.c 207))), (.di 21 (.ar .and .u8 5 20)), (.db 16 (.cm .gtr 21 (.c 0))), (.di 22 (.ar .and .u8 4 20)), (.db 17 (.cm .gtr 22 (.c 0))), (.di 23 (.ite 17 (.c 1) (.c 0))), (.db 18 (.or 10 16)), (.di 24 (.ar .shr .u8 7 (.c 5))), (.di 25 (.ar .and .u8 24 (.c 1))), (.db 19 (.cm .eql 23 25))] [0, 1, 2, 3, 4, 5, 6, 7, 8, 9, 10, 11, 12, 13, 14, 15, 16] [19, 0, 1, 2, 3, 4, 5, 6, 7, 8, 9, 18, 11, 12, 13])
noncomputable def F158 : Fun := S158.run (tabF T58) true
noncomputable def T59 : Tb := (158, s158, F158) :: T58
theorem A59 : Ok m T59 := ad A58 Tryz.func158 (S := S158) (by kernel_rfl)
def s116 : Sum := { args := [(.ptr wk), (.val true [(.int .u8), .bool])], tup := false, res := [(false, [.bool])], pre := true }
def S116 : Smry := xK 18 15 [zO 8 xH,zM 6 xH,.c 158 (xC 0 6++[18,7,8,9,17]++xC 11 6) (xD 0 6++[14]++xD 7 7) 17 16,.o [(15,true)] 16,zG 17,zD 22 14,zG 32,zP 34 xF xE,zP 34 33 22,zO 8 xI,zD 10 6,zD 4 6,.i (.cv .i8 10),.i (.cv .i16 36),zL 37,zM 6 38,zK 39 (.c 8),zK 6 (.c 8),zO 40 41,zT 6 (.c 65280),zT 39 (.c 255),zU 42 43,zG 40,zP 41 xF xE,zH 41 44 39,zH 41 39 9,zP 41 39 5,zD 15 37,zP 15 35 42,zH 15 19 0,zP 15 18 0,zH 15 20 1,zP 15 19 1,zH 15 21 2,zP 15 20 2,zH 15 22 3,zP 15 21 3,zH 15 23 4,zH 15 24 5,zH 15 25 45,zP 15 36 39,zH 15 26 7,zH 15 27 8,zH 15 28 46,zP 15 23 43,zH 15 29 10,zP 15 24 6,zP 15 25 7,zH 15 30 11,zP 15 26 8,zP 15 27 9,zH 15 31 12,zP 15 28 38,zP 15 29 11,zH 15 32 13,zH 15 33 14,zH 15 34 15,zH 15 35 16,zP 15 30 12,zP 15 31 13,zD 4 5,zG 15,zG 37,zQ 61 62,zD 63 45,zH 63 0 47,zP 63 0 46,zH 63 1 48,zP 63 1 47,zH 63 2 49,zP 63 2 48,zH 63 3 50,zP 63 3 49,zH 63 4 51,zH 63 5 52,zH 63 9 53,zP 63 60 50,zH 63 7 54,zH 63 8 55,zH 63 9 56,zP 63 5 51,zH 63 10 57,zP 63 6 52,zP 63 7 53,zH 63 11 58,zP 63 8 54,zP 63 9 55,zH 63 12 59,zP 63 10 56,zP 63 11 57,zH 63 13 60,zH 63 14 61,zH 63 15 62,zH 63 16 63,zP 63 12 58,zP 63 13 59] (xC 64 17) (xD 64 15)
noncomputable def F116 : Fun := S116.run (tabF T59) true
noncomputable def T60 : Tb := (116, s116, F116) :: T59
theorem A60 : Ok m T60 := ad A59 Tryz.func116 (S := S116) (by kernel_rfl)
def s160 : Sum := { args := [(.val true [(.int .u8), .bool])], tup := false, res := [(true, [(.int .u8), (.int .u8)])], pre := false }
def S160 : Smry := xK 1 0 [zI 0 (.c 207),zH 0 (.c 207) xG] [1,2] []
noncomputable def F160 : Fun := S160.run (tabF T60) false
theorem c160 : Ct m 160 s160 F160 := contract_of (hC_ok A60) Tryz.func160 (k := (ctlOf Tryz.f160 (gl m) s160)) (LoopsOk.nil rfl) (isS_eq (by kernel_rfl)) (by kernel_rfl)
noncomputable def T61 : Tb := (160, withInl s160 S160, F160) :: T60
theorem A61 : Ok m T61 := aci Tryz.func160 (by kernel_rfl) (by kernel_rfl) c160 (fun S h => by cases h; exact ⟨rfl, fun _ _ => rfl⟩) rfl A60
def s117 : Sum := { args := [(.ptr wk), (.val true [(.int .u8), .bool])], tup := false, res := [(false, [.bool])], pre := false }
def S117 : Smry := xK 18 15 [zO 8 xI,zO 14 (.c 18),zQ 15 16,zS 3 (.c 255),zO 8 xI,zS 3 xH,zO 8 (.c 3),zO 13 (.c yQ15),zQ 19 20,zI 17 (.c 207),zH 14 (.c 207) xG,zO 8 (.c 3),.c 147 (xC 0 18) (xD 0 15) 17 14,zD 21 22,zH 21 0 22,zP 21 0 23,zH 21 1 23,zP 21 1 24,zH 21 2 24,zP 21 2 25,zH 21 3 25,zP 21 3 26,zH 21 20 26,zH 21 21 27,zH 21 6 28,zP 21 4 27,zH 21 7 29,zH 21 8 30,zH 21 9 31,zP 21 5 28,zH 21 10 32,zP 21 6 29,zP 21 7 30,zH 21 11 33,zP 21 8 31,zP 21 9 32,zH 21 12 34,zP 21 10 33,zP 21 11 34,zH 21 13 35,zH 21 14 36,zH 21 15 37,zH 21 16 38,zP 21 12 35,zP 21 13 36,zG 21,zG 22,zQ 52 53,zD 18 54,zH 18 19 3,zG 18,zQ 56 37,zD 17 57,zH 17 0 39,zP 17 0 38,zH 17 1 40,zP 17 1 39,zH 17 2 41,zP 17 2 40,zH 17 18 42,zP 17 3 41,zH 17 4 43,zH 17 5 44,zH 17 6 45,zP 17 4 42,zH 17 7 46,zH 17 8 47,zH 17 9 48,zP 17 5 43,zH 17 10 49,zP 17 6 44,zP 17 7 45,zH 17 11 50,zP 17 8 46,zP 17 9 47,zH 17 12 51,zP 17 10 48,zP 17 11 49,zH 17 13 52,zH 17 14 53,zH 17 15 54,zH 17 16 55,zP 17 12 50,zP 17 13 51,zG 17,zQ 73 55,zP 74 xF xE,zH 74 0 57,zP 74 0 59,zH 74 1 58,zP 74 1 60,zH 74 2 59,zP 74 2 61,zH 74 56 60,zP 74 3 62,zH 74 4 61,zH 74 5 62,zH 74 6 63,zP 74 4 63,zH 74 7 64,zH 74 8 65,zH 74 9 66,zP 74 5 64,zH 74 10 67,zP 74 6 65,zP 74 7 66,zH 74 11 68,zP 74 8 67,zP 74 9 68,zH 74 12 69,zP 74 10 69,zP 74 11 70,zH 74 13 70,zH 74 14 71,zH 74 15 72,zH 74 16 73,zP 74 12 71,zP 74 13 72] (xC 74 17) (xD 75 15)
noncomputable def F117 : Fun := S117.run (tabF T61) false
noncomputable def T62 : Tb := (117, s117, F117) :: T61
theorem A62 : Ok m T62 := ad A61 Tryz.func117 (S := S117) (by kernel_rfl)
def s118 : Sum := { args := [(.ptr wk)], tup := false, res := [(false, [.bool])], pre := false }
def S118 : Smry := xK 0 14 [zR 14 (.c 3),xB 14 (.c 10),zQ 14 15] (xC 0 17) ([16]++xD 0 14)
noncomputable def F118 : Fun := S118.run (tabF T62) false
theorem c118 : Ct m 118 s118 F118 := contract_of (hC_ok A62) Tryz.func118 (k := (ctlOf Tryz.f118 (gl m) s118)) (LoopsOk.nil rfl) (isS_eq (by kernel_rfl)) (by kernel_rfl)
noncomputable def T63 : Tb := (118, withInl s118 S118, F118) :: T62
theorem A63 : Ok m T63 := aci Tryz.func118 (by kernel_rfl) (by kernel_rfl) c118 (fun S h => by cases h; exact ⟨rfl, fun _ _ => rfl⟩) rfl A62
def s181 : Sum := { args := [(.val true [(.int .u8), .bool]), (.val true [(.int .u8), .bool])], tup := true, res := [(false, [(.int .u16)]), (false, [.bool])], pre := false }
def S181 : Smry := xK 2 2 [zL 0,zL 1,.i (.ar .shl .u16 3 (.c 8)),zU 2 4,zG 0,zG 1,zG 1,zG 0,zP 5 1 0,zG 0,zG 1,zQ 7 8,zP 9 xF xE] [5] [10]
noncomputable def F181 : Fun := S181.run (tabF T63) false
theorem c181 : Ct m 181 s181 F181 := contract_of (hC_ok A63) Tryz.func181 (k := (ctlOf Tryz.f181 (gl m) s181)) (LoopsOk.nil rfl) (isS_eq (by kernel_rfl)) (by kernel_rfl)
noncomputable def T64 : Tb := (181, withInl s181 S181, F181) :: T63
theorem A64 : Ok m T64 := aci Tryz.func181 (by kernel_rfl) (by kernel_rfl) c181 (fun S h => by cases h; exact ⟨rfl, fun _ _ => rfl⟩) rfl A63
def s177 : Sum := { args := [(.ptr wk), (.val true [(.int .u8), .bool]), (.val true [(.int .u8), .bool])], tup := true, res := [], pre := false }
def S177 : Smry := xK 19 16 [zL 17,zL 18,.i (.ar .shl .u16 20 (.c 8)),zU 19 21,zG 14,zG 15,zG 15,zG 14,zP 19 15 14,zG 14,zG 15,zQ 21 22,zP 23 xF xE,zD 24 5] (xC 0 9++[22]++xC 10 7) (xD 0 5++[25]++xD 6 8)
noncomputable def F177 : Fun := S177.run (tabF T64) false
noncomputable def T65 : Tb := (177, s177, F177) :: T64
theorem A65 : Ok m T65 := ad A64 Tryz.func177 (S := S177) (by kernel_rfl)
def s178 : Sum := { args := [(.ptr wk), (.val true [(.int .u8), .bool]), (.val true [(.int .u8), .bool])], tup := true, res := [], pre := false }
def S178 : Smry := xK 19 16 [zO 14 (.c 5),zO 14 (.c 8),zO 14 (.c 10),zP 17 17 18,zP 16 16 19,zG 20,zH 21 1 2,zP 21 1 2,zL 17,zL 19,zM 20 21,zC 22 (.c 255),zJ 22,zG 14,zG 22,zG 22,zG 14,zP 27 22 14,zG 14,zG 22,zQ 29 30,zP 31 xF xE,.c 177 (xC 0 17++[23,18]) (xD 0 7++[23]++xD 8 6++[32,15]) 17 14] (xC 24 17) (xD 33 14)
noncomputable def F178 : Fun := S178.run (tabF T65) false
noncomputable def T66 : Tb := (178, s178, F178) :: T65
theorem A66 : Ok m T66 := ad A65 Tryz.func178 (S := S178) (by kernel_rfl)
def s179 : Sum := { args := [(.ptr wk), (.val true [(.int .u8), .bool])], tup := true, res := [], pre := false }
def S179 : Smry := xK 18 15 [zL 17,zM 9 18,zT 19 (.c 255),zD 5 14] (xC 0 9++[20]++xC 10 7) (xD 0 5++[15]++xD 6 8)
noncomputable def F179 : Fun := S179.run (tabF T66) false
noncomputable def T67 : Tb := (179, s179, F179) :: T66
theorem A67 : Ok m T67 := ad A66 Tryz.func179 (S := S179) (by kernel_rfl)
end
section
variable {m : Int}

def s161 : Sum := { args := [(.ptr wk), (.val true [(.int .u8), .bool])], tup := true, res := [], pre := false }
def S161 : Smry := xK 18 15 [zO 14 (.c 6),zO 14 (.c 7),zD 15 16,zO 14 (.c 8),zD 17 18,zO 8 xH,zQ 20 19,zM 6 xH,zO 8 xH,zM 6 xH,zL 17,zO 8 xI,zO 14 (.c 6),zQ 23 24,zM 6 xH,.c 177 (xC 0 6++[21]++xC 7 10++[10,17]) (xD 0 5++[xF]++xD 6 8++[6,14]) 17 14,zO 8 xI,zQ 40 19,zM 6 xH,.c 178 (xC 0 6++[39]++xC 7 10++[10,17]) (xD 0 5++[xF]++xD 6 8++[6,14]) 17 14,zO 8 xI,zF 14 (.c 10),zQ 56 57,zO 14 (.c 5),zO 14 (.c 8),zO 14 (.c 10),zP 60 60 61,zP 59 59 62,zG 63,zH 64 1 2,zP 64 1 2,.c 179 (xC 0 17++[57]) (xD 0 14++[65]) 17 14,zO 8 xI,zO 8 (.c 3),zO 14 (.c 9),zQ 81 82,zD 80 83,.c 179 (xC 0 10++[17]++xC 11 6++[xH]) (xD 0 6++[14]++xD 7 7++[xF]) 17 14,zO 8 (.c 3),.c 178 (xC 0 17++[10,17]) (xD 0 14++[6,14]) 17 14,.c 177 (xC 0 17++[10,17]) (xD 0 14++[6,14]) 17 14,zH 99 92 109,zP 99 100 114,zH 99 93 110,zP 99 101 115,zH 99 94 111,zP 99 102 116,zH 99 95 112,zP 99 103 117,zH 99 96 113,zH 99 97 114,zH 99 98 115,zP 99 104 118,zH 99 99 116,zH 99 100 117,zH 99 101 118,zP 99 105 119,zH 99 102 119,zP 99 106 120,zP 99 107 121,zH 99 103 120,zP 99 108 122,zP 99 109 123,zH 99 104 121,zP 99 110 124,zP 99 111 125,zH 99 105 122,zH 99 106 123,zH 99 107 124,zH 99 108 125,zP 99 112 126,zP 99 113 127,zH 84 75 126,zP 84 85 128,zH 84 76 127,zP 84 86 129,zH 84 77 128,zP 84 87 130,zH 84 78 129,zP 84 88 131,zH 84 79 130,zH 84 80 131,zH 84 81 132,zP 84 89 132,zH 84 82 133,zH 84 83 134,zH 84 84 135,zP 84 90 133,zH 84 85 136,zP 84 91 134,zP 84 92 135,zH 84 86 137,zP 84 93 136,zP 84 94 137,zH 84 87 138,zP 84 95 138,zP 84 96 139,zH 84 88 139,zH 84 89 140,zH 84 90 141,zH 84 91 142,zP 84 97 140,zP 84 98 141,zH 58 58 143,zP 58 66 142,zH 58 59 144,zP 58 67 143,zH 58 60 145,zP 58 68 144,zH 58 61 146,zP 58 69 145,zH 58 62 147,zH 58 63 148,zH 58 64 149,zP 58 70 146,zH 58 65 150,zH 58 66 151,zH 58 67 152,zP 58 71 147,zH 58 68 153,zP 58 72 148,zP 58 73 149,zH 58 69 154,zP 58 74 150,zP 58 75 151,zH 58 70 155,zP 58 76 152,zP 58 77 153,zH 58 71 156,zH 58 72 157,zH 58 73 158,zH 58 74 159,zP 58 78 154,zP 58 79 155,zH 41 40 160,zP 41 42 156,zH 41 41 161,zP 41 43 157,zH 41 42 162,zP 41 44 158,zH 41 43 163,zP 41 45 159,zH 41 44 164,zH 41 45 165,zH 41 46 166,zP 41 46 160,zH 41 47 167,zH 41 48 168,zH 41 49 169,zP 41 47 161,zH 41 50 170,zP 41 48 162,zP 41 49 163,zH 41 51 171,zP 41 50 164,zP 41 51 165,zH 41 52 172,zP 41 52 166,zP 41 53 167,zH 41 53 173,zH 41 54 174,zH 41 55 175,zH 41 56 176,zP 41 54 168,zP 41 55 169,zH 25 22 177,zP 25 26 170,zH 25 23 178,zP 25 27 171,zH 25 24 179,zP 25 28 172,zH 25 25 180,zP 25 29 173,zH 25 26 181,zH 25 27 182,zH 25 28 183,zP 25 30 174,zH 25 29 184,zH 25 30 185,zH 25 31 186,zP 25 31 175,zH 25 32 187,zP 25 32 176,zP 25 33 177,zH 25 33 188,zP 25 34 178,zP 25 35 179,zH 25 34 189,zP 25 36 180,zP 25 37 181,zH 25 35 190,zH 25 36 191,zH 25 37 192,zH 25 38 193,zP 25 38 182,zP 25 39 183,zH 22 0 194,zP 22 0 184,zH 22 1 195,zP 22 1 185,zH 22 2 196,zP 22 2 186,zH 22 3 197,zP 22 3 187,zH 22 4 198,zH 22 5 199,zH 22 19 200,zP 22 4 188,zH 22 7 201,zH 22 8 202,zH 22 20 203,zP 22 14 189,zH 22 10 204,zP 22 6 190,zP 22 7 191,zH 22 11 205,zP 22 8 192,zP 22 9 193,zH 22 12 206,zP 22 10 194,zP 22 11 195,zH 22 13 207,zH 22 14 208,zH 22 15 209,zH 22 16 210,zP 22 12 196,zP 22 13 197,zH 21 0 211,zP 21 0 198,zH 21 1 212,zP 21 1 199,zH 21 2 213,zP 21 2 200,zH 21 3 214,zP 21 3 201,zH 21 4 215,zH 21 5 216,zH 21 18 217,zP 21 4 202,zH 21 7 218,zH 21 8 219,zH 21 9 220,zP 21 5 203,zH 21 17 221,zP 21 14 204,zP 21 7 205,zH 21 11 222,zP 21 8 206,zP 21 9 207,zH 21 12 223,zP 21 10 208,zP 21 11 209,zH 21 13 224,zH 21 14 225,zH 21 15 226,zH 21 16 227,zP 21 12 210,zP 21 13 211] (xC 228 17) (xD 212 14)
noncomputable def F161 : Fun := S161.run (tabF T67) false
noncomputable def T68 : Tb := (161, s161, F161) :: T67
theorem A68 : Ok m T68 := ad A67 Tryz.func161 (S := S161) (by kernel_rfl)
def s119 : Sum := { args := [(.ptr wk), (.val true [(.int .u8), .bool])], tup := false, res := [(false, [.bool])], pre := true }
def S119 : Smry := xK 18 15 [.c 71 (xC 0 17) (xD 0 14) 18 16,.o [] 15,zF 34 xH,zQ 16 31,.i (.ar .sub .i64 18 xH),zH 32 36 18,zB 27 37,.c 161 (xC 19 17++[17]) (xD 17 14++[14]) 17 14,zB 27 18,zO 34 xH,zQ 16 49,zO 27 18,zQ 50 51,zQ 52 24,zP 48 48 53,zM 28 (.c 256),zH 24 55 28,zD 33 54,zH 33 38 19,zP 33 34 17,zH 33 39 20,zP 33 35 18,zH 33 40 21,zP 33 36 19,zH 33 41 22,zP 33 37 20,zH 33 42 23,zH 33 43 24,zH 33 44 25,zP 33 38 21,zH 33 45 26,zH 33 46 27,zH 33 47 56,zP 33 39 22,zH 33 48 29,zP 33 40 23,zP 33 41 24,zH 33 49 30,zP 33 42 25,zP 33 43 26,zH 33 50 31,zP 33 44 27,zP 33 45 28,zH 33 51 32,zH 33 52 33,zH 33 53 34,zH 33 54 35,zP 33 46 29,zP 33 47 30,zO 34 xH,.c 115 (xC 19 17++[17]) (xD 17 14++[14]) 17 15,.o [(33,false),(54,false),(70,true)] 71,zO 34 xI,zO 32 (.c yQ46),zI 19 20,zG 17,zG 18,zG 18,zG 17,zP 91 18 17,zG 17,zG 18,zQ 93 94,zP 95 xF xE,zH 87 91 22,zP 87 96 20,zD 70 86,zH 70 74 19,zP 70 72 17,zH 70 75 20,zP 70 73 18,zH 70 76 21,zP 70 74 19,zH 70 77 92,zP 70 75 97,zH 70 78 23,zH 70 79 24,zH 70 80 25,zP 70 76 21,zH 70 81 26,zH 70 82 27,zH 70 83 28,zP 70 77 22,zH 70 84 29,zP 70 78 23,zP 70 79 24,zH 70 85 30,zP 70 80 25,zP 70 81 26,zH 70 86 31,zP 70 82 27,zP 70 83 28,zH 70 87 32,zH 70 88 33,zH 70 89 34,zH 70 90 35,zP 70 84 29,zP 70 85 30,.i (.ar .sub .i64 27 18),zO 110 xG,zO 110 xI,.c 73 (xC 19 17++[29]) (xD 17 14++[23]) 18 16,.o [(33,false),(54,false),(70,false),(86,false),(113,false),(114,true)] 115,zG 114,zD 113 131,zH 113 17 29,zP 113 14 23,zP 132 xF xE,zH 132 19 112,zP 132 17 117,zH 132 20 113,zP 132 18 118,zH 132 21 114,zP 132 19 119,zH 132 22 115,zP 132 20 120,zH 132 23 116,zH 132 24 117,zH 132 25 118,zP 132 21 121,zH 132 26 119,zH 132 27 120,zH 132 28 121,zP 132 22 122,zH 132 129 122,zP 132 133 123,zP 132 24 124,zH 132 30 123,zP 132 25 125,zP 132 26 126,zH 132 31 124,zP 132 27 127,zP 132 28 128,zH 132 32 125,zH 132 33 126,zH 132 34 127,zH 132 35 128,zP 132 29 129,zP 132 30 130,zG 70,zG 86,zQ 149 150,zP 151 134 xE,zH 151 130 93,zP 151 135 99,zH 151 131 94,zP 151 136 100,zH 151 132 95,zP 151 137 101,zH 151 133 96,zP 151 138 102,zH 151 134 97,zH 151 135 98,zH 151 136 99,zP 151 139 103,zH 151 137 100,zH 151 138 101,zH 151 139 102,zP 151 140 104,zH 151 140 103,zP 151 141 105,zP 151 142 106,zH 151 141 104,zP 151 143 107,zP 151 144 108,zH 151 142 105,zP 151 145 109,zP 151 146 110,zH 151 143 106,zH 151 144 107,zH 151 145 108,zH 151 146 109,zP 151 147 111,zP 151 148 112,zG 33,zG 54,zQ 167 168,zQ 169 152,zH 169 147 57,zP 169 153 56,zH 169 148 58,zP 169 154 57,zH 169 149 59,zP 169 155 58,zH 169 150 60,zP 169 156 59,zH 169 151 61,zH 169 152 62,zH 169 153 63,zP 169 157 60,zH 169 154 64,zH 169 155 65,zH 169 156 66,zP 169 158 61,zH 169 157 67,zP 169 159 62,zP 169 160 63,zH 169 158 68,zP 169 161 64,zP 169 162 65,zH 169 159 69,zP 169 163 66,zP 169 164 67,zH 169 160 70,zH 169 161 71,zH 169 162 72,zH 169 163 73,zP 169 165 68,zP 169 166 69] (xC 164 17) (xD 170 15)
noncomputable def F119 : Fun := S119.run (tabF T68) true
noncomputable def T69 : Tb := (119, s119, F119) :: T68
theorem A69 : Ok m T69 := ad A68 Tryz.func119 (S := S119) (by kernel_rfl)
def s162 : Sum := { args := [(.ptr wk), (.val true [(.int .u8), .bool]), (.val true [(.int .u8), .bool])], tup := true, res := [], pre := false }
def S162 : Smry := xK 19 16 [zL 17,zL 18,.i (.ar .shl .u16 20 (.c 8)),zU 19 21,zG 14,zG 15,zG 15,zG 14,zP 19 15 14,zG 14,zG 15,zQ 21 22,zP 23 xF xE] (xC 0 6++[22]++xC 7 10) ([0,1,2,3,24]++xD 5 9)
noncomputable def F162 : Fun := S162.run (tabF T69) false
theorem c162 : Ct m 162 s162 F162 := contract_of (hC_ok A69) Tryz.func162 (k := (ctlOf Tryz.f162 (gl m) s162)) (LoopsOk.nil rfl) (isS_eq (by kernel_rfl)) (by kernel_rfl)
noncomputable def T70 : Tb := (162, withInl s162 S162, F162) :: T69
theorem A70 : Ok m T70 := aci Tryz.func162 (by kernel_rfl) (by kernel_rfl) c162 (fun S h => by cases h; exact ⟨rfl, fun _ _ => rfl⟩) rfl A69
def s163 : Sum := { args := [(.ptr wk), (.val true [(.int .u8), .bool])], tup := false, res := [(false, [.bool])], pre := false }
def S163 : Smry := xK 18 15 [zO 8 xH,zM 6 xH,zO 8 xI,zM 6 xH,.c 177 (xC 0 6++[19]++xC 7 10++[10,17]) (xD 0 5++[xF]++xD 6 8++[6,14]) 17 14,zO 8 (.c 3),zT 9 (.c 65280),zM 9 xH,zT 38 (.c 255),zU 37 39,zL 10,zL 17,.i (.ar .shl .u16 42 (.c 8)),zU 41 43,zG 6,zG 14,zG 14,zG 6,zP 35 14 6,zG 6,zG 14,zQ 37 38,zP 39 xF xE,zD 16 31,zH 16 20 0,zP 16 17 0,zH 16 21 1,zP 16 18 1,zH 16 22 2,zP 16 19 2,zH 16 23 3,zP 16 20 3,zH 16 24 4,zH 16 25 5,zH 16 26 6,zP 16 21 4,zH 16 27 7,zH 16 28 8,zH 16 29 40,zP 16 22 5,zH 16 30 17,zP 16 23 14,zP 16 24 7,zH 16 31 11,zP 16 25 8,zP 16 26 9,zH 16 32 12,zP 16 27 10,zP 16 28 11,zH 16 33 13,zH 16 34 14,zH 16 35 15,zH 16 36 16,zP 16 29 12,zP 16 30 13,zD 15 41,zH 15 0 45,zP 15 0 42,zH 15 1 46,zP 15 1 43,zH 15 2 47,zP 15 2 44,zH 15 3 48,zP 15 3 45,zH 15 4 49,zH 15 5 50,zH 15 18 51,zP 15 4 46,zH 15 7 52,zH 15 8 53,zH 15 9 54,zP 15 5 47,zH 15 17 55,zP 15 14 48,zP 15 7 49,zH 15 11 56,zP 15 8 50,zP 15 9 51,zH 15 12 57,zP 15 10 52,zP 15 11 53,zH 15 13 58,zH 15 14 59,zH 15 15 60,zH 15 16 61,zP 15 12 54,zP 15 13 55,zP 56 xF xE,zH 56 62 0,zP 56 57 0,zH 56 63 1,zP 56 58 1,zH 56 64 2,zP 56 59 2,zH 56 65 3,zP 56 60 3,zH 56 66 4,zH 56 67 5,zH 56 68 44,zP 56 61 40,zH 56 69 7,zH 56 70 8,zH 56 71 9,zP 56 62 5,zH 56 72 10,zP 56 63 6,zP 56 64 7,zH 56 73 11,zP 56 65 8,zP 56 66 9,zH 56 74 12,zP 56 67 10,zP 56 68 11,zH 56 75 13,zH 56 76 14,zH 56 77 15,zH 56 78 16,zP 56 69 12,zP 56 70 13] (xC 79 17) (xD 71 15)
noncomputable def F163 : Fun := S163.run (tabF T70) false
noncomputable def T71 : Tb := (163, s163, F163) :: T70
theorem A71 : Ok m T71 := ad A70 Tryz.func163 (S := S163) (by kernel_rfl)
def s164 : Sum := { args := [(.ptr wk), (.val true [(.int .u8), .bool])], tup := false, res := [(false, [.bool])], pre := false }
def S164 : Smry := xK 18 15 [zO 8 xH,zM 6 xH,zO 8 (.c 3),zO 8 (.c 4),zP 16 16 17,zS 3 (.c 255),zO 8 (.c 5),zL 10,zL 17,.i (.ar .shl .u16 21 (.c 8)),zU 20 22,zG 6,zG 14,zG 14,zG 6,zP 23 14 6,zG 6,zG 14,zQ 25 26,zP 27 xF xE,zG 19,zD 18 29,zH 18 19 3,zD 15 30,zH 15 3 24,zH 15 18 6,zH 15 17 10,zP 15 14 6,zP 31 xF xE,zH 31 25 3,zH 31 26 23,zP 31 4 28,zH 31 27 10,zP 31 32 6] ([0,1,2,28,4,5,29,7,8,9,30]++xC 11 6) ([33,0,1,2,3,34,5,35]++xD 7 7)
noncomputable def F164 : Fun := S164.run (tabF T71) false
noncomputable def T72 : Tb := (164, s164, F164) :: T71
theorem A72 : Ok m T72 := ad A71 Tryz.func164 (S := S164) (by kernel_rfl)
def s165 : Sum := { args := [(.ptr wk), (.val true [(.int .u8), .bool])], tup := false, res := [(false, [.bool])], pre := false }
def S165 : Smry := xK 18 15 [zO 8 xI,zS 3 xH,zO 8 (.c 3),zS 3 xH,zO 8 (.c 4),zL 10,zL 17,.i (.ar .shl .u16 21 (.c 8)),zU 20 22,zG 6,zG 14,zG 14,zG 6,zP 21 14 6,zG 6,zG 14,zQ 23 24,zP 25 xF xE,zO 8 (.c 5),zM 6 xH,zG 27,zD 17 28,zH 17 23 6,zP 17 26 4,zD 16 29,zH 16 19 3,zH 16 6 25,zP 16 4 30,zH 16 17 10,zP 16 14 6,zD 15 31,zH 15 18 26,zH 15 6 27,zP 15 4 32,zH 15 10 28,zP 15 6 33,zP 34 xF xE,zH 34 29 3,zH 34 30 24,zP 34 35 4,zH 34 31 10,zP 34 36 6] ([0,1,2,32,4,5,33,7,8,9,34]++xC 11 6) ([37,0,1,2,3,38,5,39]++xD 7 7)
noncomputable def F165 : Fun := S165.run (tabF T72) false
noncomputable def T73 : Tb := (165, s165, F165) :: T72
theorem A73 : Ok m T73 := ad A72 Tryz.func165 (S := S165) (by kernel_rfl)
def s166 : Sum := { args := [(.ptr wk), (.val true [(.int .u8), .bool])], tup := false, res := [(false, [.bool])], pre := false }
def S166 : Smry := xK 18 15 [zO 14 (.c 16),zO 8 xI,zQ 15 16,zS 3 xH,zO 8 (.c 3),zQ 15 18,zI 17 (.c 207),zH 14 (.c 207) xG,zS 3 xH,zO 8 (.c 4),zQ 15 20,zS 3 xH,zO 8 (.c 5),zQ 15 22,zL 10,zL 17,.i (.ar .shl .u16 24 (.c 8)),zU 23 25,zG 6,zG 14,zG 14,zG 6,zP 27 14 6,zG 6,zG 14,zQ 29 30,zP 31 xF xE,zO 8 xH,zO 11 xG,zQ 33 34,zM 6 xH,zR 8 xI,xB 8 (.c 4),zQ 36 37,zS 3 (.c 255),zO 8 (.c 5),zO 8 (.c 6),zL 10,zL 17,.i (.ar .shl .u16 30 (.c 8)),zU 29 31,zG 6,zG 14,zG 14,zG 6,zP 44 14 6,zG 6,zG 14,zQ 46 47,zP 48 xF xE,.c 143 (xC 0 6++[32]++xC 7 10++[(.c 4),xH]) ([0,1,2,3,49]++xD 5 9) 17 14,zG 40,zD 39 64,zH 39 17 10,zP 39 14 6,zD 38 65,zH 38 28 3,zH 38 10 50,zP 38 6 66,zD 35 67,zH 35 3 51,zH 35 27 6,zH 35 10 52,zP 35 6 68,zD 15 69,zH 15 3 53,zH 15 6 54,zH 15 10 55,zP 15 6 70,zG 15,zG 35,zG 38,zG 39,zQ 76 40,zQ 75 77,zQ 74 78,zQ 73 79,zD 23 80,zH 23 0 33,zP 23 0 50,zH 23 1 34,zP 23 1 51,zH 23 2 35,zP 23 2 52,zH 23 3 36,zP 23 3 53,zH 23 4 37,zH 23 5 38,zH 23 26 39,zP 23 32 54,zH 23 7 40,zH 23 8 41,zH 23 9 42,zP 23 5 55,zH 23 10 43,zP 23 6 56,zP 23 7 57,zH 23 11 44,zP 23 8 58,zP 23 9 59,zH 23 12 45,zP 23 10 60,zP 23 11 61,zH 23 13 46,zH 23 14 47,zH 23 15 48,zH 23 16 49,zP 23 12 62,zP 23 13 63,zG 23,zQ 96 71,zD 21 97,zH 21 22 56,zH 21 6 57,zH 21 17 58,zP 21 14 72,zD 19 98,zH 19 21 76,zH 19 19 4,zH 19 20 5,zH 19 6 77,zH 19 10 78,zP 19 6 99,zD 17 100,zH 17 18 79,zH 17 4 80,zH 17 5 81,zH 17 6 82,zH 17 10 83,zP 17 6 101,zP 102 xF xE,zH 102 0 59,zP 102 0 82,zH 102 1 60,zP 102 1 83,zH 102 2 61,zP 102 2 84,zH 102 84 62,zP 102 3 85,zH 102 85 63,zH 102 86 64,zH 102 87 65,zP 102 4 86,zH 102 7 66,zH 102 8 67,zH 102 9 68,zP 102 5 87,zH 102 88 69,zP 102 103 88,zP 102 7 89,zH 102 11 70,zP 102 8 90,zP 102 9 91,zH 102 12 71,zP 102 10 92,zP 102 11 93,zH 102 13 72,zH 102 14 73,zH 102 15 74,zH 102 16 75,zP 102 12 94,zP 102 13 95] (xC 89 17) (xD 104 15)
noncomputable def F166 : Fun := S166.run (tabF T73) false
noncomputable def T74 : Tb := (166, s166, F166) :: T73
theorem A74 : Ok m T74 := ad A73 Tryz.func166 (S := S166) (by kernel_rfl)
def s120 : Sum := { args := [(.ptr wk), (.val true [(.int .u8), .bool])], tup := false, res := [(false, [.bool])], pre := false }
def S120 : Smry := xK 18 15 [zO 14 (.c 13),zO 8 xH,zM 6 xH,zL 10,zL 17,.i (.ar .shl .u16 20 (.c 8)),zU 19 21,zG 6,zG 14,zG 14,zG 6,zP 20 14 6,zG 6,zG 14,zQ 22 23,zP 24 xF xE,zG 16,zH 26 22 18,zP 26 25 4,zH 26 10 17,zP 26 6 14,zO 14 (.c 12),.c 163 (xC 0 18) (xD 0 15) 17 15,zO 14 (.c 14),.c 164 (xC 0 18) (xD 0 15) 17 15,zO 14 (.c 15),.c 165 (xC 0 18) (xD 0 15) 17 15,zD 45 61,zP 45 46 62,zH 45 42 59,zP 45 47 63,zH 45 43 60,zP 45 48 64,zH 45 44 61,zP 45 49 65,zH 45 45 62,zP 45 50 66,zH 45 46 63,zH 45 47 64,zH 45 48 65,zP 45 51 67,zH 45 49 66,zH 45 50 67,zH 45 51 68,zP 45 52 68,zH 45 52 69,zP 45 53 69,zP 45 54 70,zH 45 53 70,zP 45 55 71,zP 45 56 72,zH 45 54 71,zP 45 57 73,zP 45 58 74,zH 45 55 72,zH 45 56 73,zH 45 57 74,zH 45 58 75,zP 45 59 75,zP 45 60 76,zD 29 77,zP 29 30 78,zH 29 25 76,zP 29 31 79,zH 29 26 77,zP 29 32 80,zH 29 27 78,zP 29 33 81,zH 29 28 79,zP 29 34 82,zH 29 29 80,zH 29 30 81,zH 29 31 82,zP 29 35 83,zH 29 32 83,zH 29 33 84,zH 29 34 85,zP 29 36 84,zH 29 35 86,zP 29 37 85,zP 29 38 86,zH 29 36 87,zP 29 39 87,zP 29 40 88,zH 29 37 88,zP 29 41 89,zP 29 42 90,zH 29 38 89,zH 29 39 90,zH 29 40 91,zH 29 41 92,zP 29 43 91,zP 29 44 92,zD 15 93,zP 15 26 94,zH 15 0 93,zP 15 0 95,zH 15 1 94,zP 15 1 96,zH 15 2 95,zP 15 2 97,zH 15 3 96,zP 15 3 98,zH 15 4 97,zH 15 5 98,zH 15 23 99,zP 15 27 99,zH 15 7 100,zH 15 8 101,zH 15 9 102,zP 15 5 100,zH 15 24 103,zP 15 28 101,zP 15 7 102,zH 15 11 104,zP 15 8 103,zP 15 9 104,zH 15 12 105,zP 15 10 105,zP 15 11 106,zH 15 13 106,zH 15 14 107,zH 15 15 108,zH 15 16 109,zP 15 12 107,zP 15 13 108,.c 166 (xC 0 18) (xD 0 15) 17 15,zG 15,zG 29,zG 45,zG 61,zQ 142 143,zQ 141 144,zQ 140 145,zP 146 125 110,zH 146 127 110,zP 146 126 111,zH 146 128 111,zP 146 127 112,zH 146 129 112,zP 146 128 113,zH 146 130 113,zP 146 129 114,zH 146 131 114,zH 146 132 115,zH 146 133 116,zP 146 130 115,zH 146 134 117,zH 146 135 118,zH 146 136 119,zP 146 131 116,zH 146 137 120,zP 146 132 117,zP 146 133 118,zH 146 138 121,zP 146 134 119,zP 146 135 120,zH 146 139 122,zP 146 136 121,zP 146 137 122,zH 146 140 123,zH 146 141 124,zH 146 142 125,zH 146 143 126,zP 146 138 123,zP 146 139 124] (xC 144 17) (xD 147 15)
noncomputable def F120 : Fun := S120.run (tabF T74) false
noncomputable def T75 : Tb := (120, s120, F120) :: T74
theorem A75 : Ok m T75 := ad A74 Tryz.func120 (S := S120) (by kernel_rfl)
end
end Go.Proofs.YtghlmhlamoagoaaGreat.Fl
