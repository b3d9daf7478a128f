/-
  Flat's laws, and what they stand on (merged by wip/gen2/mini.py): part Mn7. No condition.
-/
import Derived.Shelf.SlLaysE0
import Derived.Shelf.RegionOpenPlain
import Derived.WalkKit
import Derived.Deep.LoopGhost
import Derived.Lib.Walk
import Derived.Lib.SliceRun
import Derived.ProofKit
import Derived.WideKeyArgs
import Derived.LaidLaws
import Derived.Handed
import Derived.OpenShut
import Derived.Test.YtghlmhlamoagoaaGreatMn2
import Derived.Test.YtghlmhlamoagoaaGreatMn5
import Derived.Test.YtghlmhlamoagoaaGreatMn6
set_option linter.unusedVariables false
set_option linter.unusedSimpArgs false
namespace Go.Proofs.YtghlmhlamoagoaaGreat.Sx
open Go Go.Shelf Go.RowKit Go.Lib
theorem wpList_append_run {P : Program} {w : World} {ops : Array Oper} {rest : List Oper} {o : Oper} {a : Act} {Q : Exit -> Act -> World -> Prop} (hgd : o.guard = none) (s x : Operand) (t : TypeId)
  (ho : o.op = .call { callee := .builtin .append, args := #[s, x], argTypes := #[t, t] }) {v' v1 v2 : Value} {w' : World} (h1 : a.eval s = v1) (h2 : a.eval x = v2) {ty : TypeId} (hty : o.type = ty)
  (hr : (Builtin.append_ #[t, t] ty #[v1, v2]).run P w = .ok v' w') (h : wpList P ops Q rest (a.put o.dst v') w') : wpList P ops Q (o :: rest) a w := by
 subst h1 h2 hty
 refine wpList_plain hgd fun next hK => ?_
 obtain ⟨dst, op, ty, pos, after, guard⟩ := o
 simp only at ho
 subst ho
 exact OpG.value (Post := fun v u => v = v' /\ u = w') (execOp_append hr) ⟨rfl, rfl⟩ next Q fun v u hv => by
  obtain ⟨rfl, rfl⟩ := hv
  exact hK _ _ h
section
variable {P : Program} {ρ : Go.Shelf.Ren} {ks : List CK} {bytes : Nat} {i : TypeInfo} {z : Value}
theorem clone_nil (L : SlLaysE0.n41 P ρ) (n c : Nat) (w : World) : Calls P (ρ.f 41) #[.slice none n c] w fun e w' => e = .returned (.slice none 0 0) /\ w' = w := by
 have mixed := L.mixed; have t4 := L.t4; have a4 := L.a4; have z4 := L.z4; have v4 := L.v4; have t22 := L.t22; have a22 := L.a22; have z22 := L.z22; have v22 := L.v22
 have q22 : ∀ (w : World) (a : Option Addr) (n c n' c' : Nat), (binOp .eql (ρ.t 22) (.slice a n c) (.slice none n' c')).run P w = .ok (.bool a.isNone) w := fun w a n c n' c' => Lib.run_eql_slice_nil w _ _ a n c n' c' L.t22
 obtain ⟨_, _, FG⟩ := L.f41
 go_enter FG, SlBodyN.n41_ntmps ρ
 go_wp2
 go_ret
 exact ⟨rfl, rfl⟩
theorem clone_run (L : SlLaysE0.n41 P ρ) (hi : P.info? (ρ.t 23) = some i) (b : Addr) (n c : Nat) (w : World) (v' : Value) (w' : World)
  (hr : (Builtin.append_ #[ρ.t 22, ρ.t 22] (ρ.t 22) #[.slice (some ⟨w.heap.size, 0, none⟩) 0 0, .slice (some b) n c]).run P (w.alloc (.cells #[] (ρ.t 23))) = .ok v' w') :
  Calls P (ρ.f 41) #[.slice (some b) n c] w fun e u => e = .returned v' /\ u = w' := by
 have mixed := L.mixed; have t4 := L.t4; have a4 := L.a4; have z4 := L.z4; have v4 := L.v4; have t22 := L.t22; have a22 := L.a22; have z22 := L.z22; have v22 := L.v22
 have q22 : ∀ (w : World) (a : Option Addr) (n c n' c' : Nat), (binOp .eql (ρ.t 22) (.slice a n c) (.slice none n' c')).run P w = .ok (.bool a.isNone) w := fun w a n c n' c' => Lib.run_eql_slice_nil w _ _ a n c n' c' L.t22
 have u22 : ∀ w, Sem.run P (underlying (ρ.t 22)) w = .ok (TypeDesc.slice (ρ.t 23)) w := run_underlying t22
 have z23 : ∀ w, (Go.sizeOf (ρ.t 23)).run P w = .ok i.size w := fun w => by simp [sizeOf, typeInfo, hi]
 have A : Aside ((Builtin.append_ #[ρ.t 22, ρ.t 22] (ρ.t 22) #[.slice (some ⟨w.heap.size, 0, none⟩) 0 0, .slice (some b) n c]).run P (w.alloc (.cells #[] (ρ.t 23))) = .ok v' w') := hr
 clear hr
 obtain ⟨_, _, FG⟩ := L.f41
 go_enter FG, SlBodyN.n41_ntmps ρ
 go_wp2_with (at_builtin; refine wpList_append_run rfl _ _ (ρ.t 22) rfl rfl rfl rfl A.out ?_)
 go_ret
 exact ⟨rfl, rfl⟩
end
end Go.Proofs.YtghlmhlamoagoaaGreat.Sx
namespace Go.Proofs.YtghlmhlamoagoaaGreat.Sx
open Go Go.Shelf
def cloneM (P : Program) (t : TypeId) (Γ : Gd) (hp : Hp) (xs : List S) : M Res := match xs with
 | [x] => do
  let p <- lift (rowTy P t)
  let r <- sameId (do
   let r <- srcOf Γ hp p.1 x
   let b <- mkCm .leq r.2 (.c (appK p.2))
   oblige b
   pure r)
  appTo Γ hp p.1 p.2 (.one false [.emp]) r
 | _ => M.fail
def cloneH (P : Program) (f : Nat) (t : TypeId) (H : Hnd) : Hnd := fun g Γ hp xs => if g == f then cloneM P t Γ hp xs else H g Γ hp xs
theorem step_rowNew' {N : Nat} {R : List Rg} {Q : Rg -> Prop} {β : Beta} {w w1 : World} {lo hi id : Nat} (hlo : lo <= id) (hhi : id < hi) (hn : β id = none) (hb : BetaOk N R Q β w) (hN : N <= w.heap.size) (len m : Nat) (o : Obj)
  (hk : Keep [] w w1) (hs : w.heap.size <= w1.heap.size) : Step N R Q β w [id] [] lo hi (β.set id (rowRg w1.heap.size len m)) (w1.alloc o) := by
 have hk2 : Keep [] w (w1.alloc o) := hk.trans (Keep.alloc [] w1 o) (by simp)
 refine ⟨Beta.set_ext _ hn, ?_, ⟨[], by simp, hk2⟩, fun i hi' _ => Beta.set_other _ _ (by omega), by simp⟩
 exact hb.bind (W := []) (by simp) hk2 (fun j q _ hj => .inr (hb.new_apart (by simp [rowRg, hs]) hj)) (.inr (by simp [rowRg])) (.inr (.inl (by simp [rowRg]; omega))) (by simp [rowRg]) (by simp [rowRg]) (by simp [rowRg])
theorem step_rowNil' {N : Nat} {R : List Rg} {Q : Rg -> Prop} {β : Beta} {w w1 : World} {lo hi id : Nat} (hlo : lo <= id) (hhi : id < hi) (hn : β id = none) (hb : BetaOk N R Q β w) (hN : N <= w.heap.size) (hk : Keep [] w w1) :
  Step N R Q β w [id] [] lo hi (β.set id (rowRg w.heap.size 0 0)) w1 := by
 refine ⟨Beta.set_ext _ hn, ?_, ⟨[], by simp, hk⟩, fun i hi' _ => Beta.set_other _ _ (by omega), by simp⟩
 exact hb.bind (W := []) (by simp) hk (fun j q _ hj => .inr (hb.new_apart (by simp [rowRg]) hj)) (.inl rfl) (.inr (.inl (by simp [rowRg]; omega))) (by simp [rowRg]) (by simp [rowRg]) (by simp [rowRg])
section
variable {P : Program} {Φ : Funs} {gl : Gl} {H : Hnd}
theorem cloneH_ok (hH : HOk P Φ gl H) {r : Go.Shelf.Ren} (L : SlLaysE0.n41 P r) (hcl : ∀ args w, (callFunc (r.f 41) args).run P w = .ok (.enter (r.f 41) args) w) : HOk P Φ gl (cloneH P (r.f 41) (r.t 22) H) := by
 intro f Γ hp xs ρ c res c' out he hg hΓ N R Q β w vs hm hh hb hN hG hf
 unfold cloneH at he
 split at he
 case isFalse => exact hH f Γ hp xs ρ c res c' out he hg hΓ N R Q β w vs hm hh hb hN hG hf
 rename_i hfe
 have hfe : f = r.f 41 := by simpa using hfe
 subst hfe
 refine ⟨hcl, ?_⟩
 unfold cloneM at he
 split at he
 case h_2 => simp [M.fail] at he
 rename_i x
 obtain ⟨p, c1, o1, c2, o2, y, g1, g2, e1⟩ := M.bind_inv he
 simp only [zP] at e1
 obtain ⟨rfl, rfl, rfl⟩ := e1
 obtain ⟨p', hp', e1⟩ := lift_inv g1
 simp only [zP] at e1
 obtain ⟨rfl, rfl, rfl⟩ := e1
 obtain ⟨ks, bytes⟩ := p
 obtain ⟨e, i, z, T⟩ := rowTy_spec hp'
 have hee : e = r.t 23 := by
  have h1 := T.ut
  rw [L.t22] at h1
  simp only [zO, TypeDesc.slice.injEq] at h1
  exact h1.symm
 subst hee
 obtain ⟨rr, c3, o3, c4, o4, y, g3, g4, e1⟩ := M.bind_inv g2
 simp only [zP] at e1
 obtain ⟨rfl, rfl, rfl⟩ := e1
 obtain ⟨g3, hid⟩ := sameId_inv g3
 simp only [List.nil_append] at hg
 obtain ⟨hg3, hg4⟩ := Good.append.1 hg
 obtain ⟨hb0, hsrc⟩ := (show Snd Φ ρ (do
   let r <- srcOf Γ hp ks x
   let b <- mkCm .leq r.2 (.c (appK bytes))
   oblige b
   pure r : M (A × A)) (fun r => r.2.d ρ <= (appK bytes : Nat) /\ ∀ β w v, x.mt β ρ v -> heapMt β ρ hp w -> SqOk β w -> ∃ l m, r.1.d ρ = enc l /\ r.2.d ρ = ((m : Nat) : Int) /\ InR .i64 (m : Int) /\ SrcOk w ks l m v) from
  Snd.bind (srcOf_snd hΓ T.klen x) fun r hr => Snd.bind (mkCm_snd _ _ _) fun b e1 => Snd.bind (oblige_snd b) fun _ e2 => Snd.pure ⟨by rw [e1] at e2; exact of_decide_eq_true e2, hr⟩) _ _ _ _ g3 hg3
 match vs, hm with
 | [v], hm =>
 obtain ⟨lx, m, hqx, hnx, hinm, p', capx, hvx, hlx, hpx⟩ := hsrc β w v hm.1 hh hb.sq
 subst hvx
 have hmK : m <= appK bytes := by omega
 unfold appTo at g4
 simp only [slmOf, empOf, asEmp, if_true] at g4
 unfold Sx.withId at g4
 obtain ⟨x1, c5, o5, c6, o6, y1, f1, f2, e1⟩ := M.bind_inv g4
 simp only [newId, zO, zP] at f1
 obtain ⟨rfl, rfl, rfl⟩ := f1
 obtain ⟨r3, c7, o7, c8, o8, y2, f3, f4, e2⟩ := M.bind_inv f2
 have f3 := M.pure_inv f3
 simp only [zP] at f3
 obtain ⟨rfl, rfl, rfl⟩ := f3
 obtain ⟨hi, c9, o9, c10, o10, y3, f5, f6, e3⟩ := M.bind_inv f4
 simp only [getId, zO, zP] at f5
 obtain ⟨rfl, rfl, rfl⟩ := f5
 split at f6
 case isFalse => cases f6
 have e4 := M.pure_inv f6
 simp only [zP] at e4 e3 e2 e1
 obtain ⟨rfl, rfl, rfl⟩ := e4
 obtain ⟨rfl, rfl, rfl⟩ := e3
 obtain ⟨rfl, rfl, rfl⟩ := e2
 obtain ⟨rfl, rfl, rfl⟩ := e1
 have hlo : c1.id <= c3.id := by omega
 have hhi : c3.id < c3.id + 1 := by omega
 have hfr := hf c3.id hlo hhi
 obtain ⟨hK, hK2⟩ := appK_le (n := 0) (m := m) (by omega) hmK T.b0
 cases p' with
 | none =>
  have hm0 : m = 0 := hpx.resolve_right fun ⟨_, _, h, _⟩ => by cases h
  subst hm0
  have hlx0 : lx = [] := List.eq_nil_of_length_eq_zero (by simpa using hlx)
  subst hlx0
  refine Calls.mono (clone_nil L 0 capx w) fun e u h => ?_
  obtain ⟨rfl, rfl⟩ := h
  exact ⟨_, rfl, _, step_rowNil hlo hhi hfr hb hN, slm_nil _ none, rowW_mt (row_nil T.ne _ hqx (by simpa using hnx))⟩
 | some a =>
  by_cases hm0 : m = 0
  ·subst hm0
   have hlx0 : lx = [] := List.eq_nil_of_length_eq_zero (by simpa using hlx)
   subst hlx0
   refine Calls.mono (clone_run L T.info a 0 capx w _ _ (append_zero T _ _ 0 0 capx (Nat.le_refl _))) fun e u h => ?_
   obtain ⟨rfl, rfl⟩ := h
   exact ⟨_, rfl, _, step_rowNil' hlo hhi hfr hb hN (Keep.alloc [] w _), slm_nil _ _, rowW_mt (row_nil T.ne _ hqx (by simpa using hnx))⟩
  ·obtain ⟨bx, ox, hpx, hsx⟩ := hpx.resolve_left hm0
   simp only [zO] at hpx
   subst hpx
   obtain ⟨news, hn1, hn2, hn3, hn4⟩ := seqAt_vals hsx
   have hcell : ∀ j u, news[j]? = some u -> (w.alloc (.cells #[] (r.t 23))).cell? (Addr.add ⟨bx, ox, none⟩ j) = some u := fun j u hj => by
    rw [add_addr]
    exact Lib.cell?_alloc_some _ (hn2 j u hj)
   obtain ⟨cap2, hc2, _, hrun⟩ := append_new (P := P) (w := w.alloc (.cells #[] (r.t 23))) (ty := r.t 22) (p := some ⟨w.heap.size, 0, none⟩) (n := 0) (cap := 0) (m := m) (c := capx) (b := ⟨bx, ox, none⟩) T (olds := []) (news := news)
    (.inl ⟨rfl, rfl⟩) (by simp) (by rw [hn1, hlx]) hcell (by omega) hK
   have hrun := hrun.resolve_left (fun h => h.2 rfl)
   obtain ⟨a1, a2, a3⟩ := grown_arr T (olds := []) (news := news) (l := []) (lx := lx) (n := 0) (m := m) (cap := cap2) (by simp) (by simp) (by rw [hn1, hlx]) hlx hc2 (by simp) hn3 (by simp) hn4
   refine Calls.mono (clone_run L T.info ⟨bx, ox, none⟩ m capx w _ _ hrun) fun e u h => ?_
   obtain ⟨rfl, rfl⟩ := h
   have hk1 : Keep [] w (w.alloc (.cells #[] (r.t 23))).drew := (Keep.alloc [] w _).trans (Keep.drew [] _) (by simp)
   refine ⟨_, rfl, _, step_rowNew' (w1 := (w.alloc (.cells #[] (r.t 23))).drew) hlo hhi hfr hb hN (cap2 * ks.length) (0 + m) _ hk1 hk1.size, slm_new hc2, rowW_mt ?_⟩
   exact row_new (β := β) (ρ := ρ) (w := (w.alloc (.cells #[] (r.t 23))).drew) (id := c3.id) T.ne _ (r.t 23) a1 (by simpa using hlx) hc2 (by simpa using hqx) (by simpa using hnx) (by simpa using hinm) (by simpa using a2) a3
end
end Go.Proofs.YtghlmhlamoagoaaGreat.Sx
namespace Go.Proofs.YtghlmhlamoagoaaGreat.Sx
open Go

def knN (ng : Nat) (hp : Hl) (i : Nat) : Bool := Nat.blt i ng || (match hpOf hp i with | some b => b.g.isEmpty && (vecOf b.cells).isNone | none => false)
theorem knN_row {x : Cx} {ρ : Env} {β : Beta} {σ : St} {a : Act} {w : World} (hR : Rel x ρ β σ a w) {i : Nat} {r : Rg} (h : knN x.ng σ.hp i = true) (hi : β i = some r) : r.row = false := by
 unfold knN at h
 rw [Bool.or_eq_true, Nat.blt_eq] at h
 rcases h with h | h
 ·have := hR.gl i _ (List.getElem?_eq_getElem h)
  rw [hi] at this
  cases this
  rfl
 ·split at h
  ·rename_i b hb
   simp only [Bool.and_eq_true, List.isEmpty_iff, Option.isNone_iff_eq_none] at h
   obtain ⟨q, hq, hrow, _⟩ := (blkMt_cs h.2).1 (hR.hm i b hb (by rw [h.1]; rfl))
   rw [hi] at hq
   cases hq
   exact hrow
  ·cases h
theorem knN_keep {x : Cx} {ρ : Env} {β β' : Beta} {σ : St} {a : Act} {w : World} (hR : Rel x ρ β σ a w) (hE : Ext β β') : ∀ i r, knN x.ng σ.hp i = true -> β i = some r -> β' i = some r :=
 fun i r h hi => hE.at hi (knN_row hR h hi)
theorem knN_mv {x : Cx} {ρ : Env} {β β' : Beta} {σ : St} {a : Act} {w : World} (hR : Rel x ρ β σ a w) (hE : Ext β β') : Mv (knN x.ng σ.hp) β β' :=
 ⟨fun i r hi hr => hr.elim (hE.at hi) fun h => knN_keep hR hE i r h hi, (Mv.of hR.bo (ExtP.refl (fun _ => true) β)).sq⟩

def C.tj (p : Nat -> Bool) : C -> C
 | .int k (.c n) => .int k (.c n)
 | .bool (.c b) => .bool (.c b)
 | .ptr [] i o => if p i then .ptr [] i o else .junk
 | .val u => .val u
 | .emp => .emp
 | .fn [] d => if (fvIds d).all p then .fn [] d else .junk
 | _ => .junk
section
variable {p : Nat -> Bool} {β β' : Beta} {ρ ρ' : Env} (hk : ∀ i r, p i = true -> β i = some r -> β' i = some r)
include hk
theorem tj_cap : ∀ {l : List (Nat × Nat)} {vs : List Value}, (l.map (·.1)).all p = true -> capMt β l vs -> capMt β' l vs
 | [], [], _, _ => trivial
 | q :: l, v :: vs, h, ⟨⟨r, hr, hv⟩, h2⟩ => by
  simp only [List.map_cons, List.all_cons, Bool.and_eq_true] at h
  exact ⟨⟨r, hk _ _ h.1 hr, hv⟩, tj_cap h.2 h2⟩
 | [], _ :: _, _, h => h.elim
 | _ :: _, [], _, h => h.elim
theorem C.tj_mt {c : C} {v : Value} (h : c.mt β ρ v) : (c.tj p).mt β' ρ' v := by
 have ho := C.mt_oneCell h
 unfold C.tj
 split
 ·exact h
 ·exact h
 ·rename_i i o
  split
  ·rename_i hp
   obtain ⟨r, hr, hv⟩ := h
   exact ⟨r, hk _ _ hp hr, hv⟩
  ·exact ho
 ·exact h
 ·exact h
 ·rename_i d
  split
  ·rename_i hp
   have h : fvMt β d v := h
   show fvMt β' d v
   unfold fvMt at *
   cases d with
   | none => exact h
   | some q => obtain ⟨vs, h1, h2⟩ := h; exact ⟨vs, h1, tj_cap hk hp h2⟩
  ·exact ho
 ·exact ho
theorem tj_L : ∀ {l : List C} {vs : List Value}, mtL β ρ l vs -> mtL β' ρ' (l.map (C.tj p)) vs
 | [], [], _ => trivial
 | c :: l, v :: vs, ⟨h1, h2⟩ => ⟨C.tj_mt hk h1, tj_L h2⟩
 | [], _ :: _, h => h.elim
 | _ :: _, [], h => h.elim
theorem tj_1 {agg : Bool} {l : List C} {v : Value} (h : mt1 β ρ agg l v) : mt1 β' ρ' agg (l.map (C.tj p)) v := by
 unfold mt1 at *
 cases agg
 ·obtain ⟨c, rfl, h⟩ := h; exact ⟨_, rfl, C.tj_mt hk h⟩
 ·obtain ⟨vs, rfl, h⟩ := h; exact ⟨vs, rfl, tj_L hk h⟩
end
def SV.tj (p : Nat -> Bool) (v : SV) : SV := match v with
 | { g := [], s := .one agg l } => { g := [], s := .one agg (l.map (C.tj p)) }
 | _ => anySV
theorem SV.tj_mt {p : Nat -> Bool} {β β' : Beta} {ρ ρ' : Env} (hk : ∀ i r, p i = true -> β i = some r -> β' i = some r) {s : SV} {v : Value} (h : s.mt β ρ v) : (s.tj p).mt β' ρ' v := by
 unfold SV.tj
 split
 ·exact ⟨fun _ => tj_1 hk (h.1 rfl), fun h => by cases h⟩
 ·exact anySV_mt v
theorem args_slots {β : Beta} {ρ : Env} : ∀ {xs : List S} {vs : List Value} {n t : Nat} {v : SV}, mtAll β ρ xs vs -> (xs.map (fun s => ({ g := [], s := s } : SV)) ++ List.replicate n anySV)[t]? = some v -> v.mt β ρ ((vs ++ List.replicate n undef).getD t undef)
 | [], vs, n, t, v, hm, ht => by
  simp only [List.map_nil, List.nil_append, List.getElem?_replicate] at ht
  split at ht
  ·simp only [zO] at ht
   subst ht
   exact anySV_mt _
  ·cases ht
 | x :: xs, [], _, _, _, hm, _ => hm.elim
 | x :: xs, u :: vs, n, 0, v, hm, ht => by
  simp at ht
  subst ht
  exact ⟨fun _ => by simpa using hm.1, fun h => by cases h⟩
 | x :: xs, u :: vs, n, t + 1, v, hm, ht => by
  have := args_slots (n := n) (t := t) (v := v) hm.2 (by simpa using ht)
  simpa using this
def setPs : List SV -> List (Nat × SV) -> List SV
 | T, [] => T
 | T, p :: l => setPs (T.set p.1 p.2) l
theorem setPs_len : ∀ {l : List (Nat × SV)} {T : List SV}, (setPs T l).length = T.length
 | [], _ => rfl
 | p :: l, T => by unfold setPs; rw [setPs_len]; simp
theorem setPs_mt {β : Beta} {ρ : Env} : ∀ {ps : List Nat} {xs : List S} {vs : List Value} {T : List SV} {tm : Array Value}, ps.length = xs.length -> mtAll β ρ xs vs -> tm.size = T.length -> (∀ (t : Nat) v, T[t]? = some v -> v.mt β ρ (tm.getD t undef)) ->
  ((ps.zip vs).foldl (fun tm p => tm.setIfInBounds p.1 p.2) tm).size = T.length /\ ∀ (t : Nat) v, (setPs T (ps.zip (xs.map fun s => ({ g := [], s := s } : SV))))[t]? = some v -> v.mt β ρ (((ps.zip vs).foldl (fun tm p => tm.setIfInBounds p.1 p.2) tm).getD t undef)
 | [], [], vs, T, tm, _, hm, hs, h => by
  cases vs with
  | nil => exact ⟨hs, h⟩
  | cons _ _ => exact hm.elim
 | p :: ps, x :: xs, [], T, tm, _, hm, _, _ => hm.elim
 | p :: ps, x :: xs, v :: vs, T, tm, hl, ⟨h1, h2⟩, hs, h => by
  simp only [List.zip_cons_cons, List.map_cons, List.foldl_cons, setPs]
  have := setPs_mt (ps := ps) (xs := xs) (vs := vs) (T := T.set p { g := [], s := x }) (tm := tm.setIfInBounds p v) (by simpa using hl) h2 (by simpa using hs) (fun t u hu => by
   rw [List.getElem?_set] at hu
   by_cases e : p = t
   ·subst e
    rw [if_pos rfl] at hu
    split at hu
    ·rename_i hlt
     simp only [zO] at hu
     subst hu
     have hlt' : p < tm.size := by omega
     refine ⟨fun _ => ?_, fun h => by cases h⟩
     simpa [hlt'] using h1
    ·cases hu
   ·rw [if_neg e] at hu
    have := h t u hu
    simpa [Array.getElem?_setIfInBounds_ne e] using this)
  simpa using this
 | [], _ :: _, _, _, _, hl, _, _, _ => by simp at hl
 | _ :: _, [], _, _, _, hl, _, _, _ => by simp at hl
end Go.Proofs.YtghlmhlamoagoaaGreat.Sx
namespace Go.Proofs.YtghlmhlamoagoaaGreat.Sx
open Go

structure RfD where
 lid : Nat
 T : List SV
 ps : List Nat
 asg : Code
 bd : Code
 jl : List Code
def kdJ : Code -> Option Kd
 | .ret => some .r
 | .exit id => some (.x id)
 | _ => none
def idxJ (K : Kd) : List Code -> Nat -> Option Nat
 | [], _ => none
 | c :: l, j => match kdJ c with
  | some K' => if K'.eq K then some j else idxJ K l (j + 1)
  | none => idxJ K l (j + 1)
theorem idxJ_spec {K : Kd} : ∀ {l : List Code} {j i : Nat}, idxJ K l j = some i -> j <= i /\ kdJ (pickJ l (i - j)) = some K
 | [], j, i, h => by simp [idxJ] at h
 | c :: l, j, i, h => by
  have hrec : idxJ K l (j + 1) = some i -> j <= i /\ kdJ (pickJ (c :: l) (i - j)) = some K := fun h => by
   obtain ⟨h1, h2⟩ := idxJ_spec h
   refine ⟨by omega, ?_⟩
   cases l with
   | nil => simp [idxJ] at h
   | cons d l =>
    rw [show i - j = (i - (j + 1)) + 1 by omega]
    exact h2
  unfold idxJ at h
  split at h
  ·rename_i K' hK
   split at h
   ·rename_i he
    simp only [zO] at h
    subst h
    refine ⟨Nat.le_refl _, ?_⟩
    rw [Nat.sub_self]
    have : pickJ (c :: l) 0 = c := by cases l <;> rfl
    rw [this, hK, Kd.eq_sound he]
   ·exact hrec h
  ·exact hrec h
def yJs (jl : List Code) : Kd -> Option (Bool × Js)
 | .n => some (true, {})
 | K => match idxJ K jl 0 with
  | some j => some (false, { b := .c false, a := .c (Int.ofNat j) })
  | none => none
theorem kdJ_r {c : Code} (h : kdJ c = some .r) : c = .ret := by
 unfold kdJ at h
 split at h
 ·rfl
 ·cases h
 ·cases h
theorem kdJ_x {c : Code} {id : Nat} (h : kdJ c = some (.x id)) : c = .exit id := by
 unfold kdJ at h
 split at h
 ·cases h
 ·cases h; rfl
 ·cases h
theorem yJs_spec {jl : List Code} {K : Kd} {res : Bool} {js : Js} (h : yJs jl K = some (res, js)) (hne : K ≠ .n) : res = false /\ ∃ j : Nat, js = { b := .c false, a := .c (Int.ofNat j) } /\ kdJ (pickJ jl j) = some K := by
 have key : ∀ i, idxJ K jl 0 = some i -> kdJ (pickJ jl i) = some K := fun i hi => (idxJ_spec hi).2
 unfold yJs at h
 split at h
 ·exact absurd rfl hne
 ·split at h
  ·rename_i j hj
   simp only [zO, zP] at h
   exact ⟨h.1.symm, j, h.2.symm, key j hj⟩
  ·cases h
def yOne (jl : List Code) (tm : List SV) (dst : Option Tmp) (K : Kd) (s : St) : Option St :=
 match yJs jl K with
 | some (r, js) => match setT tm dst { g := [], s := .one false [.bool (.c r)] } with
  | some tm' => some { tm := tm', hp := s.hp, rb := s.rb, js := js }
  | none => none
 | none => none
def yOuts (jl : List Code) (tm : List SV) (dst : Option Tmp) : Outs -> Option (List (Gd × St))
 | [] => some []
 | (K, q, s) :: O => match yOne jl tm dst K s, yOuts jl tm dst O with
  | some s', some l => some ((q, s') :: l)
  | _, _ => none
theorem yOuts_spec {jl : List Code} {tm : List SV} {dst : Option Tmp} : ∀ {O : Outs} {l : List (Gd × St)}, yOuts jl tm dst O = some l ->
  (∀ p, p ∈ l -> ∃ K s, (K, p.1, s) ∈ O /\ yOne jl tm dst K s = some p.2) /\ ∀ K q s, (K, q, s) ∈ O -> ∃ s', (q, s') ∈ l
 | [], l, h => by
  simp only [yOuts, zO] at h
  subst h
  exact ⟨fun p hp => (by cases hp), fun K q s h => (by cases h)⟩
 | (K, q, s) :: O, l, h => by
  unfold yOuts at h
  split at h
  ·rename_i s' l' h1 h2
   simp only [zO] at h
   subst h
   obtain ⟨i1, i2⟩ := yOuts_spec h2
   refine ⟨fun p hp => ?_, fun K' q' t ht => ?_⟩
   ·rcases List.mem_cons.1 hp with rfl | hp
    ·exact ⟨K, s, by simp, h1⟩
    ·obtain ⟨K', t, e1, e2⟩ := i1 p hp
     exact ⟨K', t, by simp [e1], e2⟩
   ·rcases List.mem_cons.1 ht with e | ht
    ·cases e; exact ⟨s', by simp⟩
    ·obtain ⟨t', e⟩ := i2 K' q' t ht
     exact ⟨t', by simp [e]⟩
  ·cases h
def distO : Outs -> Bool
 | [] => true
 | (k, _, _) :: O => (O.all fun p => !(k.eq p.1)) && distO O
theorem distO_get {k : Kd} {q : Gd} {s : St} : ∀ {O : Outs}, distO O = true -> (k, q, s) ∈ O -> getK k O = some (q, s)
 | (l, q', s') :: O, h, hm => by
  simp only [distO, Bool.and_eq_true, List.all_eq_true, Bool.not_eq_true'] at h
  unfold getK
  rcases List.mem_cons.1 hm with e | hm
  ·cases e; rw [if_pos (Kd.eq_refl _)]
  ·rw [if_neg, distO_get h.2 hm]
   intro he
   have := h.1 _ hm
   rw [Kd.eq_sound he, Kd.eq_refl] at this
   cases this
theorem getK_mem {k : Kd} {q : Gd} {s : St} : ∀ {O : Outs}, getK k O = some (q, s) -> (k, q, s) ∈ O
 | [], h => by simp [getK] at h
 | (l, q', s') :: O, h => by
  unfold getK at h
  split at h
  ·rename_i he
   simp only [zO, zP] at h
   rw [Kd.eq_sound he, <- h.1, <- h.2]
   simp
  ·exact List.mem_cons.2 (.inr (getK_mem h))
def yJoin (keep : Kp) : List (Gd × St) -> M St
 | [] => M.fail
 | [(_, s)] => pure s
 | (q, s) :: p :: l => do
  let b <- gAtom q
  let r <- M.mono (yJoin keep (p :: l))
  M.mono (joinSt keep b s r)
theorem yJoin_ok {Φ : Funs} {x : Cx} {ρ : Env} {keep : Kp} (hx : GrOk x keep) : ∀ (l : List (Gd × St)) {z : St} {c c' : Ctr} {out : List Em}, yJoin keep l c = some (z, c', out) -> Good Φ ρ out -> ∀ {β : Beta} {a : Act} {w : World}, (∃ p, p ∈ l /\ Gd.d ρ p.1 = true) ->
  (∀ p, p ∈ l -> Gd.d ρ p.1 = true -> Rel x ρ β p.2 a w) -> Fresh β c -> ∃ β', Ext β β' /\ Rel x ρ β' z a w /\ Fresh β' c'
 | [], z, c, c', out, h, _, β, a, w, _, _, _ => by simp [yJoin, M.fail] at h
 | [(q, s)], z, c, c', out, h, _, β, a, w, ⟨p, hp, hq⟩, hR, hF => by
  have he := M.pure_inv h
  simp only [zP] at he
  obtain ⟨rfl, rfl, rfl⟩ := he
  rw [List.mem_singleton.1 hp] at hq
  exact ⟨β, Ext.refl β, hR (q, z) (by simp) hq, hF⟩
 | (q, s) :: p :: l, z, c, c', out, h, hg, β, a, w, hex, hR, hF => by
  unfold yJoin at h
  obtain ⟨b, c1, o1, c2, o2, y, g1, g2, he⟩ := M.bind_inv h
  simp only [zP] at he
  obtain ⟨rfl, rfl, rfl⟩ := he
  obtain ⟨r, c3, o3, c4, o4, y, g3, g4, he⟩ := M.bind_inv g2
  simp only [zP] at he
  obtain ⟨rfl, rfl, rfl⟩ := he
  simp only [Good.append] at hg
  have hb := gAtom_snd q _ _ _ _ g1 hg.1
  have hid := gAtom_id g1
  obtain ⟨g3, le3⟩ := mono_inv g3
  simp only at le3
  obtain ⟨le4, hj⟩ := joinSt_ok (Φ := Φ) (x := x) (ρ := ρ) hx g4 hg.2.2
  cases hq : Gd.d ρ q with
  | true =>
   exact hj β a w (by rw [hb, hq, if_pos rfl]; exact hR (q, s) (by simp) hq) (hF.le (by omega))
  | false =>
   obtain ⟨p', hp', hq'⟩ := hex
   rcases List.mem_cons.1 hp' with e | hp'
   ·rw [e, hq] at hq'; cases hq'
   ·obtain ⟨β1, f1, f2, f3⟩ := yJoin_ok hx (p :: l) g3 hg.2.1 ⟨p', hp', hq'⟩ (fun p'' h1 h2 => hR p'' (List.mem_cons.2 (.inr h1)) h2) (hF.le (by omega))
    obtain ⟨β2, f4, f5, f6⟩ := hj β1 a w (by rw [hb, hq]; simpa using f2) f3
    exact ⟨β2, f1.trans f4, f5, f6⟩
def onlyN (O : Outs) : Option St := match O with
 | [(.n, _, s)] => some s
 | _ => none
def knY (lid ng : Nat) (hp : Hl) (i : Nat) : Bool := i == lid || knN ng hp i
def yS (P : Program) (H : Hnd) (gl : Gl) (kb : Ctl) (keep : Kp) (D : RfD) (σ : St) (dst : Option Tmp) (args : List Operand) : M St :=
 if args.length == D.ps.length then do
  let _ <- oblige σ.js.b
  let Oa <- M.mono (exec P H (ghOf gl 0) gl.length kb D.asg { tm := setPs D.T (D.ps.zip ((args.map fun y => rs [] (ev gl.length σ y)).map fun s => ({ g := [], s := s } : SV))), hp := σ.hp, rb := σ.rb })
  let sa <- lift (onlyN Oa)
  let Ob <- M.mono (exec P H (ghOf gl 0) gl.length kb D.bd { sa with js := {} })
  let l <- lift (if distO Ob then yOuts D.jl (σ.tm.map (SV.jk (knY D.lid gl.length σ.hp))) dst Ob else none)
  M.mono (yJoin keep l)
 else M.fail
structure RcOk (x : Cx) (D : RfD) (r : LpRec) : Prop where
 lr : x.lr = some r
 fix : r.fix = none
 jl : r.jl = D.jl
 ps : r.rc.params.toList = D.ps
 asg : r.rc.assign = D.asg
 bd : r.rc.body = D.bd
 sz : r.rc.tmps.size = D.T.length
 T : ∀ (β : Beta) (ρ : Env), Ext x.b0 β -> ∀ (t : Nat) (v : SV), D.T[t]? = some v -> v.mt β ρ (r.rc.tmps.getD t undef)
 lid : ∃ q, x.b0 D.lid = some q /\ q.row = false /\ q.blk = r.l
 rl : x.rl = none
theorem Rel.into {x y : Cx} {ρ : Env} {β : Beta} {σ σ' : St} {a a' : Act} {w : World} (h : Rel x ρ β σ a w) (hy : y.w0 = x.w0 /\ y.R = x.R /\ y.gl = x.gl /\ y.gr = x.gr /\ y.Q = x.Q /\ y.gi = x.gi) (hhp : σ'.hp = σ.hp) (heb : ExtP (fun i => !σ'.rb.contains i) y.b0 β)
  (hsz : a'.tmps.size = σ'.tm.length) (hsl : ∀ (t : Nat) (v : SV), σ'.tm[t]? = some v -> v.mt β ρ (a'.tmps.getD t undef)) (hl : Lk y ρ σ'.js a'.defers w) : Rel y ρ β σ' a' w := by
 obtain ⟨y1, y2, y3, y4, y5, y7⟩ := hy
 have e : y.gh = x.gh := by unfold Cx.gh; rw [y3]
 refine ⟨hsz, hsl, hl, by rw [hhp]; exact h.hm, by rw [e]; exact h.gm, by rw [e]; exact h.gro, by rw [y1, y2, y5]; exact h.bo, by rw [y1, y2]; exact h.kp, by rw [y3]; exact h.gl, by rw [y4, y7]; exact h.ra, heb⟩
theorem getD_map_jk {p : Nat -> Bool} {β β' : Beta} {ρ : Env} (h : Mv p β β') {tm : List SV} {f : Nat -> Value} (hs : ∀ (t : Nat) (v : SV), tm[t]? = some v -> v.mt β ρ (f t)) : ∀ (t : Nat) (v : SV), (tm.map (SV.jk p))[t]? = some v -> v.mt β' ρ (f t) := fun t v hv => by
 rw [List.getElem?_map, Option.map_eq_some_iff] at hv
 obtain ⟨u, hu, rfl⟩ := hv
 exact SV.jk_mt h (hs t u hu)
end Go.Proofs.YtghlmhlamoagoaaGreat.Sx
namespace Go.Proofs.YtghlmhlamoagoaaGreat.Sx
open Go

section
variable {P : Program} {Φ : Funs} {H : Hnd} {x : Cx} {ρ : Env}
theorem yS_ok (hH : HOk P Φ x.gl H) (hG : ∀ w, Keep x.R x.w0 w -> Laid x.gl w) {kb : Ctl} (hxb : GrOk x kb.keep) (hLb : LoopsOk Φ kb) (hEb : kb.E = {}) {keep : Kp} (hx : GrOk x keep) {D : RfD} {r : LpRec} (hrc : RcOk x D r)
  {σ σ' : St} {dst : Option Tmp} {args : List Operand} {c c' : Ctr} {out : List Em} (h : yS P H x.gl kb keep D σ dst args c = some (σ', c', out)) (hg : Good Φ ρ out) {β : Beta} {a : Act} {w : World} (hR : Rel x ρ β σ a w) (hF : Fresh β c)
  (next : Act -> World -> Prop) (Q : Exit -> Act -> World -> Prop) (hn : ∀ β' a' w', Ext β β' -> Rel x ρ β' σ' a' w' -> Fresh β' c' -> next a' w') :
  (Instr.yield r.l (args.map a.eval).toArray).run P w = .ok (.round r.l r.rc.fn ((r.rc.params.zip (args.map a.eval).toArray).foldl (fun tmps (t, v) => tmps.setIfInBounds t v) r.rc.tmps) D.asg D.bd) w /\
   RoundIn Fence.wide 0 P r.l r.rc.fn ((r.rc.params.zip (args.map a.eval).toArray).foldl (fun tmps (t, v) => tmps.setIfInBounds t v) r.rc.tmps) D.asg D.bd w fun
    | .returned v, w'' => next (a.put dst v) w''
    | .panicked chain, w'' => Q (.panic chain) a w''
    | .outgrown, _ => LetsOut Q := by
 unfold yS at h
 split at h
 rotate_left
 ·simp [M.fail] at h
 rename_i hlen
 simp only [beq_iff_eq] at hlen
 obtain ⟨u0, c1, o1, c2, o2, y, g1, g2, he⟩ := M.bind_inv h
 simp only [zP] at he
 obtain ⟨rfl, rfl, rfl⟩ := he
 obtain ⟨Oa, c3, o3, c4, o4, y, g3, g4, he⟩ := M.bind_inv g2
 simp only [zP] at he
 obtain ⟨rfl, rfl, rfl⟩ := he
 obtain ⟨sa, c5, o5, c6, o6, y, g5, g6, he⟩ := M.bind_inv g4
 simp only [zP] at he
 obtain ⟨rfl, rfl, rfl⟩ := he
 obtain ⟨sa', hsa, he⟩ := lift_inv g5
 simp only [zP] at he
 obtain ⟨rfl, rfl, rfl⟩ := he
 obtain ⟨Ob, c7, o7, c8, o8, y, g7, g8, he⟩ := M.bind_inv g6
 simp only [zP] at he
 obtain ⟨rfl, rfl, rfl⟩ := he
 obtain ⟨l, c9, o9, c10, o10, y, g9, g10, he⟩ := M.bind_inv g8
 simp only [zP] at he
 obtain ⟨rfl, rfl, rfl⟩ := he
 obtain ⟨l', hl, he⟩ := lift_inv g9
 simp only [zP] at he
 obtain ⟨rfl, rfl, rfl⟩ := he
 simp only [Good.append] at hg
 obtain ⟨hg1, hg3, _, hg7, _, hg10⟩ := hg
 have hjs : σ.js.b.d ρ = true := oblige_snd _ _ _ _ _ g1 hg1
 have hid1 := oblige_id g1
 obtain ⟨g3, le3⟩ := mono_inv g3
 obtain ⟨g7, le7⟩ := mono_inv g7
 obtain ⟨g10, le10⟩ := mono_inv g10
 simp only at le3 le7 le10
 split at hl
 rotate_left
 ·cases hl
 rename_i hdist
 obtain ⟨ho1, ho2⟩ := yOuts_spec hl
 obtain ⟨hN, hrec⟩ := hR.df.rc r hrc.lr
 have hat : r.at (σ.js.b.d ρ) (σ.js.a.d ρ) = { r.rc with state := .ready, pending := none } := by
  unfold LpRec.at; rw [hrc.fix, hjs]; rfl
 rw [hat] at hrec
 have hdl : a.defers = [] := hR.df.nm (by rw [hrc.lr]; rfl)
 have hxs : mtAll β ρ (args.map fun y => rs [] (ev x.gl.length σ y)) (args.map a.eval) := mtAll_map fun y _ => rs_mt (Γ := []) rfl (ev_mt hR y)
 have hpl : r.rc.params.size = args.length := by have := congrArg List.length hrc.ps; simp at this; omega
 refine ⟨by have := run_yield (P := P) (args := (args.map a.eval).toArray) hrec (by simp [hpl]); rw [this]; rw [<- hrc.asg, <- hrc.bd], ?_⟩
 obtain ⟨tms, htms⟩ : ∃ tms, tms = (r.rc.params.zip (args.map a.eval).toArray).foldl (fun tmps (t, v) => tmps.setIfInBounds t v) r.rc.tmps := ⟨_, rfl⟩
 rw [<- htms]
 have htl : tms = (D.ps.zip (args.map a.eval)).foldl (fun tm p => tm.setIfInBounds p.1 p.2) r.rc.tmps := by
  rw [htms, <- hrc.ps, <- Array.foldl_toList]
  simp
 obtain ⟨hs1, hs2⟩ := setPs_mt (ps := D.ps) (T := D.T) (tm := r.rc.tmps) (by simpa using hlen.symm) hxs hrc.sz (hrc.T β ρ hR.eb.ext)
 rw [<- htl] at hs1 hs2
 refine roundIn_of_wpIn (F := Fence.wide) (n := 0) trivial ?_
 obtain ⟨xa, hxa⟩ : ∃ xa : Cx, xa = { x with lr := some { r with fix := some .ready }, rl := some r.l } := ⟨_, rfl⟩
 have hRa : Rel xa ρ β { tm := setPs D.T (D.ps.zip ((args.map fun y => rs [] (ev x.gl.length σ y)).map fun s => ({ g := [], s := s } : SV))), hp := σ.hp, rb := σ.rb } { tmps := tms, defers := [] } w := by
  subst hxa
  refine hR.into ⟨rfl, rfl, rfl, rfl, rfl, rfl⟩ rfl hR.eb (by rw [hs1]; exact setPs_len.symm) hs2 ⟨fun r' hr' => ?_, hR.df.ds, trivial, fun _ => rfl⟩
  simp only [zO] at hr'
  subst hr'
  exact ⟨hN, hrec⟩
 have hEa : ∀ y : Cx, EOk P Φ y kb.E := fun y => EOk.nil hEb
 have hFa : Fresh β c1 := hF.le (by omega)
 have hka : CodeOk P Φ xa ρ D.asg (exec P H xa.gh xa.ng kb D.asg) := by
  subst hxa
  exact exec_ok (x := { x with lr := some { r with fix := some .ready }, rl := some r.l }) hH hG kb hxb hLb (hEa _) D.asg ρ
 have hka2 : D.asg.wpIn (Fence.wide.inRound r.l) 0 P (Exit.then (fun a₁ w₁ => ∃ w₂, (Instr.beginRound r.l).run P w₁ = .ok () w₂ /\ D.bd.wpIn (Fence.wide.inRound r.l) 0 P (roundPost P r.l fun
    | .returned v, w'' => next (a.put dst v) w''
    | .panicked chain, w'' => Q (.panic chain) a w''
    | .outgrown, _ => LetsOut Q) a₁ w₂) (fun _ _ _ => False)) { tmps := tms, defers := [] } w := by
  have := hka _ _ _ Oa _ (by subst hxa; exact g3) hg3 β _ w hRa hFa (Exit.then (fun a₁ w₁ => ∃ w₂, (Instr.beginRound r.l).run P w₁ = .ok () w₂ /\ D.bd.wpIn (Fence.wide.inRound r.l) 0 P (roundPost P r.l fun
    | .returned v, w'' => next (a.put dst v) w''
    | .panicked chain, w'' => Q (.panic chain) a w''
    | .outgrown, _ => LetsOut Q) a₁ w₂) (fun _ _ _ => False)) (fun e a1 w1 K hk hO => ?_)
  ·subst hxa; exact this
  have hOa : ∃ q, Oa = [(.n, q, sa)] := by
   unfold onlyN at hsa
   split at hsa
   ·simp only [zO] at hsa; subst hsa; exact ⟨_, rfl⟩
   ·cases hsa
  obtain ⟨q0, rfl⟩ := hOa
  obtain ⟨_, q1, s1, β1, hK1, hE1, hR1, hF1⟩ := hO
  have hKn : K = .n /\ s1 = sa := by
   unfold getK at hK1
   split at hK1
   ·rename_i he
    simp only [zO, zP] at hK1
    exact ⟨Kd.eq_sound he, hK1.2.symm⟩
   ·simp [getK] at hK1
  obtain ⟨rfl, rfl⟩ := hKn
  have hen := kdOf_n hk
  subst hen
  have hrec1 : w1.heap[r.l]? = some (.loop { r.rc with state := .ready, pending := none }) := by
   have := (hR1.df.rc { r with fix := some .ready } (by rw [hxa])).2
   exact this
  have hbr := run_beginRound (P := P) hrec1 rfl
  refine ⟨_, hbr, ?_⟩
  obtain ⟨xb, hxbd⟩ : ∃ xb : Cx, xb = { x with lr := some { r with fix := some .busy }, rl := some r.l } := ⟨_, rfl⟩
  have hd1 : a1.defers = [] := hR1.df.nm (by rw [hxa]; rfl)
  have hlt1 := (Array.getElem?_eq_some_iff.1 hrec1).1
  have hRb : Rel xb ρ β1 { s1 with js := {} } a1 (w1.putObj r.l (.loop { r.rc with state := .busy, pending := none })) := by
   refine hR1.putObj (y := xb) (a' := a1) (by rw [hxa]; exact hN) hrec1 rfl rfl (by rw [hxa, hxbd]; exact ⟨rfl, rfl, rfl, rfl, rfl, rfl, rfl⟩) rfl ?_
   rw [hd1, hxbd]
   refine ⟨fun r' hr' => ?_, fun E hE => ?_, trivial, fun _ => rfl⟩
   ·simp only [zO] at hr'
    subst hr'
    exact ⟨hN, World.putObj_heap_same hlt1⟩
   ·obtain ⟨e1, e2⟩ := hR1.df.ds E (by rw [hxa]; exact hE)
    refine ⟨by rw [hxa] at e1; exact e1, (World.putObj_heap_other (fun e => ?_)).trans e2⟩
    subst e
    rw [hrec1] at e2
    cases e2
  have hkb : CodeOk P Φ xb ρ D.bd (exec P H xb.gh xb.ng kb D.bd) := by
   subst hxbd
   exact exec_ok (x := { x with lr := some { r with fix := some .busy }, rl := some r.l }) hH hG kb hxb hLb (hEa _) D.bd ρ
  have := hkb _ _ _ Ob _ (by subst hxbd; exact g7) hg7 β1 a1 _ hRb hF1 (roundPost P r.l fun
    | .returned v, w'' => next (a.put dst v) w''
    | .panicked chain, w'' => Q (.panic chain) a w''
    | .outgrown, _ => LetsOut Q) (fun e3 a3 w3 K3 hk3 hO3 => ?_)
  ·subst hxbd; exact this
  obtain ⟨hO3a, q3, s3, β3, hK3, hE3, hR3, hF3⟩ := hO3
  have hq3 : Gd.d ρ q3 = true := (hO3a _ _ _ hK3).2 rfl
  have hrec3 : w3.heap[r.l]? = some (.loop { r.rc with state := .busy, pending := none }) := by
   have := (hR3.df.rc { r with fix := some .busy } (by rw [hxbd])).2
   exact this
  have hlt3 := (Array.getElem?_eq_some_iff.1 hrec3).1
  have hEE : Ext β β3 := hE1.trans hE3
  have hfin : ∀ (res : Bool) (js : Js) (o' : Loop), yJs D.jl K3 = some (res, js) -> r.at (js.b.d ρ) (js.a.d ρ) = o' -> next (a.put dst (.bool res)) (w3.putObj r.l (.loop o')) := fun res js o' hyj hat' => by
   have hone : ∀ p, p ∈ l -> Gd.d ρ p.1 = true -> Rel x ρ β3 p.2 (a.put dst (.bool res)) (w3.putObj r.l (.loop o')) := fun p hp hpq => by
    obtain ⟨K', s', e1, e2⟩ := ho1 p hp
    have hget := distO_get hdist e1
    have hKK : K' = K3 := (hO3a _ _ _ hget).1 hpq
    subst hKK
    rw [hK3] at hget
    simp only [zO, zP] at hget
    obtain ⟨_, rfl⟩ := hget
    unfold yOne at e2
    rw [hyj] at e2
    simp only at e2
    split at e2
    ·rename_i tm' htm
     simp only [zO] at e2
     rw [<- e2]
     have hmv : Mv (knY D.lid x.gl.length σ.hp) β β3 := ⟨fun i r hi hr => hr.elim (hEE.at hi) fun h => by
      unfold knY at h
      rw [Bool.or_eq_true] at h
      rcases h with h | h
      ·obtain ⟨q, hq1, hq2, _⟩ := hrc.lid
       have e0 : i = D.lid := by simpa using h
       subst e0
       have e1 := hR.eb _ _ hq1 (.inl hq2)
       rw [hi] at e1
       cases e1
       exact hEE.at hi hq2
      ·exact knN_keep hR hEE i r h hi, (Mv.of hR.bo (ExtP.refl (fun _ => true) β)).sq⟩
     obtain ⟨t1, t2⟩ := slot_put (v := .bool res) (a := a) (tm := σ.tm.map (SV.jk (knY D.lid x.gl.length σ.hp))) (dst := dst) (by rw [hR.size]; simp) (getD_map_jk hmv hR.slot) htm ⟨fun _ => ⟨_, rfl, rfl⟩, fun h => by cases h⟩
     have hR4 := hR3.putObj (y := xb) (js := {}) (a' := a3) (o' := .loop { r.rc with state := .busy, pending := none }) (by rw [hxbd]; exact hN) hrec3 rfl rfl ⟨rfl, rfl, rfl, rfl, rfl, rfl, rfl⟩ rfl (by
      have hd3 : a3.defers = [] := hR3.df.nm (by rw [hxbd]; rfl)
      rw [hd3]
      refine ⟨fun r' hr' => ⟨(hR3.df.rc r' hr').1, ?_⟩, fun E hE => ⟨(hR3.df.ds E hE).1, ?_⟩, trivial, fun _ => rfl⟩
      ·rw [hxbd] at hr'
       simp only [zO] at hr'
       subst hr'
       exact World.putObj_heap_same hlt3
      ·have e2 := (hR3.df.ds E hE).2
       exact (World.putObj_heap_other (fun e => by subst e; rw [hrec3] at e2; cases e2)).trans e2)
     have hR5 : Rel x ρ β3 { tm := tm', hp := s3.hp, rb := s3.rb, js := js } (a.put dst (.bool res)) (w3.putObj r.l (.loop o')) := by
      have hR6 : Rel xb ρ β3 { s3 with js := {} } { a3 with defers := [] } (w3.putObj r.l (.loop o')) \/ True := .inr trivial
      have hc := putObj_cell (o' := .loop o') hrec3 rfl rfl
      have e : x.gh = xb.gh := by rw [hxbd]; rfl
      refine ⟨t1, t2, ⟨fun r' hr' => ?_, fun E hE => ?_, by rw [(put_tmps a _ _).1, hdl]; trivial, fun _ => by rw [(put_tmps a _ _).1, hdl]⟩, fun id b hb hbg => blkMt_cells hc (hR3.hm id b hb hbg), by rw [e]; exact fun id b hb hbg => blkMt_cells hc (hR3.gm id b hb hbg), by rw [e]; exact hR3.gro, ?_, ?_, ?_, ?_, ?_⟩
      ·rw [hrc.lr] at hr'
       simp only [zO] at hr'
       subst hr'
       exact ⟨hN, by rw [World.putObj_heap_same hlt3, hat']⟩
      ·obtain ⟨d1, d2⟩ := hR3.df.ds E (by rw [hxbd]; exact hE)
       refine ⟨by rw [hxbd] at d1; exact d1, (World.putObj_heap_other (fun e => ?_)).trans d2⟩
       subst e
       rw [hrec3] at d2
       cases d2
      ·have := hR3.bo
       rw [hxbd] at this
       exact betaOk_cells (fun a => (hc a).1) (by rw [World.putObj_size]; exact Nat.le_refl _) this
      ·have := hR3.kp
       rw [hxbd] at this
       exact putObj_keep this hN hrec3 rfl rfl
      ·have := hR3.gl; rw [hxbd] at this; exact this
      ·have := hR3.ra; rw [hxbd] at this; exact this
      ·have := hR3.eb; rw [hxbd] at this; exact this
     exact hR5
    ·cases e2
   have hF3' : Fresh β3 c9 := hF3.le (by omega)
   obtain ⟨β4, f1, f2, f3⟩ := yJoin_ok hx l g10 hg10 (by
    obtain ⟨s', hs'⟩ := ho2 _ _ _ (getK_mem hK3)
    exact ⟨(q3, s'), hs', hq3⟩) hone hF3'
   exact hn β4 _ _ (hEE.trans f1) f2 f3
  have hyn : ∀ c0 : Code, kdJ c0 = some K3 -> (K3 ≠ .n) -> ∃ js : Js, yJs D.jl K3 = some (false, js) /\ ∃ c1, kdJ c1 = some K3 /\ r.at (js.b.d ρ) (js.a.d ρ) = { r.rc with state := .done, pending := some c1 } := fun c0 hc0 hne => by
   obtain ⟨s', hs'⟩ := ho2 _ _ _ (getK_mem hK3)
   obtain ⟨K', s2, e1, e2⟩ := ho1 _ hs'
   have hget := distO_get hdist e1
   have hKK : K' = K3 := (hO3a _ _ _ hget).1 hq3
   subst hKK
   unfold yOne at e2
   cases hyj : yJs D.jl K' with
   | none => rw [hyj] at e2; cases e2
   | some y =>
    obtain ⟨res, js⟩ := y
    obtain ⟨rfl, j, rfl, hj⟩ := yJs_spec hyj hne
    exact ⟨_, rfl, pickJ D.jl j, hj, by unfold LpRec.at; rw [hrc.fix, hrc.jl]; rfl⟩
  cases e3 with
  | normal =>
   simp only [kdOf, zO] at hk3
   subst hk3
   exact ⟨_, _, run_endRound none hrec3, hfin true {} _ rfl (by unfold LpRec.at; rw [hrc.fix]; rfl)⟩
  | ret =>
   simp only [kdOf, zO] at hk3
   subst hk3
   obtain ⟨js, e1, c1, e2, e3⟩ := hyn .ret rfl (by simp)
   rw [kdJ_r e2] at e3
   exact ⟨_, _, run_endRound (some .ret) hrec3, hfin false js _ e1 e3⟩
  | exit id =>
   simp only [kdOf, zO] at hk3
   subst hk3
   obtain ⟨js, e1, c1, e2, e3⟩ := hyn (.exit id) rfl (by simp)
   rw [kdJ_x e2] at e3
   exact ⟨_, _, run_endRound (some (.exit id)) hrec3, hfin false js _ e1 e3⟩
  | goto t => simp [kdOf] at hk3
  | panic ch => simp [kdOf] at hk3
  | outgrown => simp [kdOf] at hk3
 exact hka2
end
end Go.Proofs.YtghlmhlamoagoaaGreat.Sx
namespace Go.Proofs.YtghlmhlamoagoaaGreat.Sx
open Go

def isYl (lid ng : Nat) (σ : St) (o : Oper) : Option (List Operand) :=
 match o with
 | ⟨_, .call ⟨.value (.tmp t), args, _⟩, _, _, _, none⟩ => match ev ng σ (.tmp t) with
  | { g := [], s := .one false [.fn [] (some (n, [(i, 0)]))] } => if n == yieldN && i == lid then some args.toList else none
  | _ => none
 | _ => none
theorem isYl_spec {lid ng : Nat} {σ : St} {o : Oper} {l : List Operand} (h : isYl lid ng σ o = some l) : ∃ dst t args at' ty pos after, o = ⟨dst, .call ⟨.value (.tmp t), args, at'⟩, ty, pos, after, none⟩ /\ l = args.toList /\
  ev ng σ (.tmp t) = { g := [], s := .one false [.fn [] (some (yieldN, [(lid, 0)]))] } := by
 unfold isYl at h
 split at h
 ·rename_i dst t args at' ty pos after
  split at h
  ·rename_i n i hev
   split at h
   ·rename_i hc
    simp only [Bool.and_eq_true, beq_iff_eq] at hc
    obtain ⟨rfl, rfl⟩ := hc
    simp only [zO] at h
    exact ⟨dst, t, args, at', ty, pos, after, rfl, h.symm, hev⟩
   ·cases h
  ·cases h
 ·cases h
def regY (P : Program) (H : Hnd) (gl : Gl) (kb : Ctl) (keep : Kp) (D : RfD) (ops : Array Oper) : List Oper -> St -> M St
 | [], σ => pure σ
 | o :: l, σ => match isYl D.lid gl.length σ o with
  | some args => do
   let σ' <- M.mono (yS P H gl kb keep D σ o.dst args)
   regY P H gl kb keep D ops l σ'
  | none => do
   let σ' <- opS P H (ghOf gl 0) gl.length ops o σ
   regY P H gl kb keep D ops l σ'
def callT (o : Oper) : Bool := match o.op with
 | .call ⟨.value (.tmp _), _, _⟩ => true
 | _ => false
def yE (P : Program) (H : Hnd) (gl : Gl) (kb : Ctl) (keep : Kp) (D : RfD) : XE :=
 { rg := fun ops draw s => if !draw && (ops.toList.any callT && noDef ops.toList) then some (regY P H gl kb keep D ops ops.toList s) else none }

section
variable {P : Program} {Φ : Funs} {H : Hnd} {x : Cx}
theorem yield_val {D : RfD} {r : LpRec} (hrc : RcOk x D r) {ρ : Env} {β : Beta} {σ : St} {a : Act} {w : World} (hR : Rel x ρ β σ a w) {t : Nat} (h : ev x.ng σ (.tmp t) = { g := [], s := .one false [.fn [] (some (yieldN, [(D.lid, 0)]))] }) : a.eval (.tmp t) = .func (.yield r.l) #[] #[] := by
 have hv := (ev_mt hR (.tmp t))
 rw [h] at hv
 have hm := mt_cell (s := .one false [.fn [] (some (yieldN, [(D.lid, 0)]))]) rfl (hv.1 rfl)
 have hm : fvMt β (some (yieldN, [(D.lid, 0)])) (a.eval (.tmp t)) := hm
 obtain ⟨vs, h1, h2⟩ := hm
 obtain ⟨q, hq, hrow, hb⟩ := hrc.lid
 have hq' := hR.eb.at hq hrow
 match vs, h2 with
 | [v], ⟨⟨q2, hq2, hv2⟩, _⟩ =>
  rw [hq'] at hq2
  cases hq2
  rw [h1, hv2]
  unfold fvVal
  rw [if_pos rfl]
  simp only
  rw [hb]
theorem regY_sound (hH : HOk P Φ x.gl H) (hG : ∀ w, Keep x.R x.w0 w -> Laid x.gl w) {kb : Ctl} (hxb : GrOk x kb.keep) (hLb : LoopsOk Φ kb) (hEb : kb.E = {}) {keep : Kp} (hx : GrOk x keep) {D : RfD} {r : LpRec} (hrc : RcOk x D r) {ρ : Env} {ops : Array Oper} {Q : Exit -> Act -> World -> Prop} (hQ : ¬ LetsOut Q) :
  ∀ (l : List Oper) {σ σ' : St} {c c' : Ctr} {out : List Em}, noDef l = true -> regY P H x.gl kb keep D ops l σ c = some (σ', c', out) -> Good Φ ρ out -> ∀ {β : Beta} {a : Act} {w : World}, Rel x ρ β σ a w -> Fresh β c ->
   (∀ β' a' w', Ext β β' -> Rel x ρ β' σ' a' w' -> Fresh β' c' -> Q .normal a' w') -> wpListIn (FR none) 0 P ops Q l a w
 | [], σ, σ', c, c', out, _, h, hg, β, a, w, hR, hF, hn => by
  have he := M.pure_inv h
  simp only [zP] at he
  obtain ⟨rfl, rfl, rfl⟩ := he
  exact hn β a w (Ext.refl β) hR hF
 | o :: l, σ, σ', c, c', out, hd, h, hg, β, a, w, hR, hF, hn => by
  have hd1 := noDef_spec hd (o := o) (by simp)
  have hd2 : noDef l = true := by simp only [noDef, List.all_cons, Bool.and_eq_true] at hd; exact hd.2
  unfold regY at h
  cases hy : isYl D.lid x.gl.length σ o with
  | none =>
   rw [hy] at h
   simp only at h
   obtain ⟨σ1, c1, o1, c2, o2, y, h1, h2, he⟩ := M.bind_inv h
   simp only [zP] at he
   obtain ⟨rfl, rfl, rfl⟩ := he
   rw [Good.append] at hg
   have hop := opS_sound hH hG h1 hg.1 hR hF (wpListIn (FR none) 0 P ops Q l) Q fun β' a' w' he' hR' hF' =>
    regY_sound hH hG hxb hLb hEb hx hrc hQ l hd2 h2 hg.2 hR' hF' fun β'' a'' w'' he'' hR'' hF'' => hn β'' a'' w'' (he'.trans he'') hR'' hF''
   unfold wpListIn
   split
   ·rename_i hw
    rw [if_pos hw] at hop
    exact wpIn_of_wp hd1 hop
   ·rename_i hw
    rw [if_neg hw] at hop
    exact ⟨fun f _ => FR_fn none f, hop⟩
  | some args =>
   rw [hy] at h
   simp only at h
   obtain ⟨σ1, c1, o1, c2, o2, y, h1, h2, he⟩ := M.bind_inv h
   simp only [zP] at he
   obtain ⟨rfl, rfl, rfl⟩ := he
   rw [Good.append] at hg
   obtain ⟨dst, t, args', at', ty, pos, after, rfl, rfl, hev⟩ := isYl_spec hy
   have hval := yield_val hrc hR hev
   obtain ⟨hrun, hround⟩ := yS_ok hH hG hxb hLb hEb hx hrc (mono_inv h1).1 hg.1 hR hF (wpListIn (FR none) 0 P ops Q l) Q fun β' a' w' he' hR' hF' =>
    regY_sound hH hG hxb hLb hEb hx hrc hQ l hd2 h2 hg.2 hR' hF' fun β'' a'' w'' he'' hR'' hF'' => hn β'' a'' w'' (he'.trans he'') hR'' hF''
   have hargs : (args'.toList.map a.eval).toArray = args'.map a.eval := by
    apply Array.toList_inj.1; simp
   rw [hargs] at hrun hround
   unfold wpListIn
   rw [if_pos (wanted_none rfl _)]
   refine ⟨fun f _ => FR_fn none f, ?_⟩
   rw [Oper.semAt_eq _ _ _ hd1]
   have hex : (execOp a.eval ⟨dst, .call ⟨.value (.tmp t), args', at'⟩, ty, pos, after, none⟩).run P w = .ok (.round r.l r.rc.fn ((r.rc.params.zip (args'.map a.eval)).foldl (fun tmps (t, v) => tmps.setIfInBounds t v) r.rc.tmps) D.asg D.bd) w := by
    rw [<- hrun]
    simp [execOp, resolve, hval, Deferred.ofValue, invoke]
   rw [hex, Oper.uponIn_round]
   exact ⟨fun hh => (by cases hh), hround⟩
theorem yE_ok (hH : HOk P Φ x.gl H) (hG : ∀ w, Keep x.R x.w0 w -> Laid x.gl w) {kb : Ctl} (hxb : GrOk x kb.keep) (hLb : LoopsOk Φ kb) (hEb : kb.E = {}) {keep : Kp} (hx : GrOk x keep) {D : RfD} {r : LpRec} (hrc : RcOk x D r) : EOk P Φ x (yE P H x.gl kb keep D) := by
 refine ⟨fun ρ g ps asg bd s c c' O out hm => by simp [yE, M.fail] at hm, fun ρ ops draw s m hm c c' s' out hrun hg β a w hR hF Q hQ id => ?_⟩
 unfold yE at hm
 simp only at hm
 split at hm
 ·rename_i hc
  simp only [Bool.and_eq_true, Bool.not_eq_true'] at hc
  simp only [zO] at hm
  subst hm
  obtain ⟨rfl, _, hnd⟩ := hc
  rw [hrc.rl]
  have hno : ¬ LetsOut (fun (e : Exit) (a : Act) (w : World) => e = .normal /\ Q .normal a w) := fun ⟨_, _, h⟩ => by cases h.1
  exact wpIn_mono (wpIn_region_list (regY_sound hH hG hxb hLb hEb hx hrc hno ops.toList hnd hrun hg hR hF fun β' a' w' he' hR' hF' => ⟨rfl, hQ β' a' w' he' hR' hF'⟩)) fun e a w ⟨e1, e2⟩ => by rw [e1]; exact e2
 ·cases hm
end
end Go.Proofs.YtghlmhlamoagoaaGreat.Sx
namespace Go.Proofs.YtghlmhlamoagoaaGreat.Sx
open Go

def exitIds : Code -> List Nat
 | .exit id => [id]
 | .seq a b => exitIds a ++ exitIds b
 | .cond _ a b => exitIds a ++ exitIds b
 | .block id a => (exitIds a).filter fun i => !(i == id)
 | .loop a => exitIds a
 | _ => []
def hasRet : Code -> Bool
 | .ret => true
 | .seq a b => hasRet a || hasRet b
 | .cond _ a b => hasRet a || hasRet b
 | .block _ a => hasRet a
 | .loop a => hasRet a
 | _ => false
def jumpsOf (bd : Code) : List Code := (if hasRet bd then [.ret] else []) ++ (dedup (exitIds bd)).map .exit
def kdD (c : Code) : Kd := (kdJ c).getD .n
def goJ (ja : A) (s : St) : List Code -> Nat -> Gd -> M Outs
 | [], _, _ => pure []
 | [c], _, acc => pure [(kdD c, acc, s)]
 | c :: d :: l, i, acc => do
  let e <- mkCm .leq ja (.c (Int.ofNat i))
  let r <- goJ ja s (d :: l) (i + 1) (acc ++ [(e, false)])
  pure ((kdD c, acc ++ [(e, true)], s) :: r)
def jlOk : List Code -> Bool
 | [] => true
 | c :: l => (kdJ c).isSome && (l.all fun d => !((kdD c).eq (kdD d))) && jlOk l
theorem pickJ_mem : ∀ {l : List Code} {n : Nat}, l ≠ [] -> pickJ l n ∈ l
 | [], _, h => absurd rfl h
 | [c], n, _ => by cases n <;> simp [pickJ]
 | c :: d :: l, 0, _ => by simp [pickJ]
 | c :: d :: l, n + 1, _ => by
  have := pickJ_mem (l := d :: l) (n := n) (by simp)
  simp only [pickJ]
  exact List.mem_cons.2 (.inr this)
theorem goJ_ok {Φ : Funs} {ρ : Env} {ja : A} {s : St} : ∀ {l : List Code} {i : Nat} {acc : Gd} {O : Outs} {c c' : Ctr} {out : List Em}, goJ ja s l i acc c = some (O, c', out) -> Good Φ ρ out -> l ≠ [] -> jlOk l = true -> (Gd.d ρ acc = true -> i <= (ja.d ρ).toNat \/ i = 0) ->
  (∀ k q t, getK k O = some (q, t) -> t = s /\ (Gd.d ρ q = true ↔ Gd.d ρ acc = true /\ kdD (pickJ l ((ja.d ρ).toNat - i)) = k)) /\ ∀ d, d ∈ l -> ∃ q, getK (kdD d) O = some (q, s)
 | [], _, _, _, _, _, _, _, _, hne, _, _ => absurd rfl hne
 | [d], i, acc, O, c, c', out, h, hg, _, _, _ => by
  have he := M.pure_inv h
  simp only [zP] at he
  obtain ⟨rfl, rfl, rfl⟩ := he
  have hp : ∀ m, pickJ [d] m = d := fun m => by cases m <;> rfl
  refine ⟨fun k q t hk => ?_, fun d' hd' => ?_⟩
  ·unfold getK at hk
   split at hk
   ·rename_i he
    simp only [zO, zP] at hk
    obtain ⟨rfl, rfl⟩ := hk
    rw [hp, Kd.eq_sound he]
    simp
   ·simp [getK] at hk
  ·rw [List.mem_singleton.1 hd']
   exact ⟨acc, by simp [getK, Kd.eq_refl]⟩
 | d :: d2 :: l, i, acc, O, c, c', out, h, hg, _, hj, hi => by
  unfold goJ at h
  obtain ⟨e, c1, o1, c2, o2, y, g1, g2, he⟩ := M.bind_inv h
  simp only [zP] at he
  obtain ⟨rfl, rfl, rfl⟩ := he
  obtain ⟨r, c3, o3, c4, o4, y, g3, g4, he⟩ := M.bind_inv g2
  simp only [zP] at he
  obtain ⟨rfl, rfl, rfl⟩ := he
  have he := M.pure_inv g4
  simp only [zP] at he
  obtain ⟨rfl, rfl, rfl⟩ := he
  simp only [Good.append] at hg
  have hev : e.d ρ = decide (ja.d ρ <= (i : Int)) := mkCm_snd _ _ _ _ _ _ _ g1 hg.1
  have hj' := hj
  simp only [jlOk, Bool.and_eq_true] at hj'
  obtain ⟨⟨hj1, hj2⟩, hj3⟩ := hj'
  have hj3' : jlOk (d2 :: l) = true := by simp only [jlOk, Bool.and_eq_true]; exact hj3
  obtain ⟨i1, i2⟩ := goJ_ok g3 hg.2.1 (by simp) hj3' (fun ha => by
   simp only [Gd.d_append, Gd.d_cons, Gd.d_nil, Bool.and_true, Bool.and_eq_true, beq_iff_eq] at ha
   have h2 := ha.2
   rw [hev] at h2
   simp only [decide_eq_false_iff_not] at h2
   left
   omega)
  have hdis : ∀ d', d' ∈ d2 :: l -> kdD d ≠ kdD d' := fun d' hd' e => by
   have := (List.all_eq_true.1 hj2) d' hd'
   rw [e, Kd.eq_refl] at this
   cases this
  have hpick0 : (ja.d ρ <= (i : Int)) -> kdD (pickJ (d :: d2 :: l) ((ja.d ρ).toNat - i)) = kdD d := fun h => by
   rw [show (ja.d ρ).toNat - i = 0 by omega]; rfl
  have hpick1 : ¬ (ja.d ρ <= (i : Int)) -> pickJ (d :: d2 :: l) ((ja.d ρ).toNat - i) = pickJ (d2 :: l) ((ja.d ρ).toNat - (i + 1)) := fun h => by
   rw [show (ja.d ρ).toNat - i = ((ja.d ρ).toNat - (i + 1)) + 1 by omega]; rfl
  refine ⟨fun k q t hk => ?_, fun d' hd' => ?_⟩
  ·unfold getK at hk
   split at hk
   ·rename_i he
    simp only [zO, zP] at hk
    obtain ⟨rfl, rfl⟩ := hk
    refine ⟨rfl, ?_⟩
    have hkk := Kd.eq_sound he
    subst hkk
    simp only [Gd.d_append, Gd.d_cons, Gd.d_nil, Bool.and_true, Bool.and_eq_true, beq_iff_eq, hev, decide_eq_true_eq]
    constructor
    ·rintro ⟨h1, h2⟩; exact ⟨h1, hpick0 h2⟩
    ·rintro ⟨h1, h2⟩
     refine ⟨h1, ?_⟩
     by_cases hle : ja.d ρ <= (i : Int)
     ·exact hle
     ·rw [hpick1 hle] at h2
      exact absurd h2.symm (hdis _ (pickJ_mem (by simp)))
   ·rename_i hne
    obtain ⟨e1, e2⟩ := i1 k q t hk
    refine ⟨e1, e2.trans ?_⟩
    simp only [Gd.d_append, Gd.d_cons, Gd.d_nil, Bool.and_true, Bool.and_eq_true, beq_iff_eq, hev, decide_eq_false_iff_not]
    constructor
    ·rintro ⟨⟨h1, h2⟩, h3⟩; exact ⟨h1, by rw [hpick1 h2]; exact h3⟩
    ·rintro ⟨h1, h2⟩
     by_cases hle : ja.d ρ <= (i : Int)
     ·rw [hpick0 hle] at h2
      exact absurd (by rw [h2]; exact Kd.eq_refl _) hne
     ·rw [hpick1 hle] at h2
      exact ⟨⟨h1, hle⟩, h2⟩
  ·unfold getK
   by_cases hk : (kdD d').eq (kdD d) = true
   ·rw [if_pos hk]; exact ⟨_, rfl⟩
   ·rw [if_neg hk]
    rcases List.mem_cons.1 hd' with e | hd'
    ·subst e; exact absurd (Kd.eq_refl _) hk
    ·exact i2 d' hd'
def isTt : B -> Bool
 | .c true => true
 | _ => false
def rfOuts (jl : List Code) (js : Js) (s : St) : M Outs :=
 if jl.isEmpty || isTt js.b then do
  let _ <- oblige js.b
  pure [(.n, [], s)]
 else do
  let r <- goJ js.a s jl 0 [(js.b, false)]
  pure ((.n, [(js.b, true)], s) :: r)
theorem rfOuts_ok {Φ : Funs} {ρ : Env} {jl : List Code} {js : Js} {s : St} {O : Outs} {c c' : Ctr} {out : List Em} (h : rfOuts jl js s c = some (O, c', out)) (hg : Good Φ ρ out) (hj : jlOk jl = true) {K : Kd} (hK : K = if js.b.d ρ then .n else kdD (pickJ jl (js.a.d ρ).toNat)) :
  (∀ k q t, getK k O = some (q, t) -> (Gd.d ρ q = true ↔ k = K)) /\ ∃ q, getK K O = some (q, s) := by
 unfold rfOuts at h
 split at h
 ·obtain ⟨u, c1, o1, c2, o2, y, g1, g2, he⟩ := M.bind_inv h
  simp only [zP] at he
  obtain ⟨rfl, rfl, rfl⟩ := he
  have he := M.pure_inv g2
  simp only [zP] at he
  obtain ⟨rfl, rfl, rfl⟩ := he
  rw [Good.append] at hg
  have hb : js.b.d ρ = true := oblige_snd _ _ _ _ _ g1 hg.1
  rw [hb, if_pos rfl] at hK
  subst hK
  refine ⟨fun k q t hk => ?_, [], by simp [getK, Kd.eq]⟩
  unfold getK at hk
  split at hk
  ·rename_i he
   simp only [zO, zP] at hk
   obtain ⟨rfl, rfl⟩ := hk
   simp [Kd.eq_sound he]
  ·simp [getK] at hk
 ·rename_i hc
  simp only [Bool.or_eq_true, List.isEmpty_iff, not_or] at hc
  obtain ⟨r, c1, o1, c2, o2, y, g1, g2, he⟩ := M.bind_inv h
  simp only [zP] at he
  obtain ⟨rfl, rfl, rfl⟩ := he
  have he := M.pure_inv g2
  simp only [zP] at he
  obtain ⟨rfl, rfl, rfl⟩ := he
  rw [Good.append] at hg
  obtain ⟨i1, i2⟩ := goJ_ok g1 hg.1 hc.1 hj (fun _ => .inr rfl)
  rw [Nat.sub_zero] at i1
  have hnn : ∀ d, d ∈ jl -> kdD d ≠ .n := fun d hd e => by
   have key : ∀ {l : List Code}, jlOk l = true -> d ∈ l -> (kdJ d).isSome = true := by
    intro l
    induction l with
    | nil => intro _ h; cases h
    | cons a l ih =>
     intro h hm
     simp only [jlOk, Bool.and_eq_true] at h
     rcases List.mem_cons.1 hm with rfl | hm
     ·exact h.1.1
     ·exact ih h.2 hm
   have h1 := key hj hd
   unfold kdD at e
   cases d <;> simp [kdJ] at h1 e
  have hpk := hnn _ (pickJ_mem (n := (js.a.d ρ).toNat) hc.1)
  cases hb : js.b.d ρ with
  | true =>
   rw [hb, if_pos rfl] at hK
   subst hK
   refine ⟨fun k q t hk => ?_, _, by simp [getK, Kd.eq]; rfl⟩
   unfold getK at hk
   split at hk
   ·rename_i he
    simp only [zO, zP] at hk
    obtain ⟨rfl, rfl⟩ := hk
    simp [Kd.eq_sound he, hb]
   ·rename_i hne
    obtain ⟨_, e2⟩ := i1 k q t hk
    rw [e2]
    simp only [Gd.d_cons, Gd.d_nil, Bool.and_true, hb]
    constructor
    ·rintro ⟨h, _⟩; simp at h
    ·intro e; subst e; exact absurd (Kd.eq_refl _) hne
  | false =>
   rw [hb] at hK
   simp only [Bool.false_eq_true, if_false] at hK
   subst hK
   refine ⟨fun k q t hk => ?_, ?_⟩
   ·unfold getK at hk
    split at hk
    ·rename_i he
     simp only [zO, zP] at hk
     obtain ⟨rfl, rfl⟩ := hk
     simp only [Gd.d_cons, Gd.d_nil, Bool.and_true, hb]
     constructor
     ·intro h; simp at h
     ·intro e; rw [Kd.eq_sound he] at e; exact absurd e.symm hpk
    ·obtain ⟨_, e2⟩ := i1 k q t hk
     rw [e2]
     simp only [Gd.d_cons, Gd.d_nil, Bool.and_true, hb]
     constructor
     ·rintro ⟨_, h⟩; exact h.symm
     ·intro e; exact ⟨rfl, e.symm⟩
   ·obtain ⟨q, hq⟩ := i2 _ (pickJ_mem (n := (js.a.d ρ).toNat) hc.1)
    refine ⟨q, ?_⟩
    unfold getK
    rw [if_neg (fun e => hpk (Kd.eq_sound e))]
    exact hq
end Go.Proofs.YtghlmhlamoagoaaGreat.Sx
namespace Go.Proofs.YtghlmhlamoagoaaGreat.Sx
open Go

def rfG (s : S) : Option (Nat × List (Nat × Nat)) := match fnOf s with
 | some ([], some p) => if p.1 == yieldN then none else some p
 | _ => none
def rfFn (P : Program) (f : Nat) : Option (Func × Code) := match P.funcs[f]? with
 | some fn => match fn.body with
  | some b => if fn.results.toList.isEmpty && !(fn.name == "runtime.NumGoroutine") then some (fn, b) else none
  | none => none
 | none => none
def rfCtl (P : Program) (H : Hnd) (gl : Gl) (kb : Ctl) (keep : Kp) (D : RfD) (fn : Func) (ll : List (Nat × LAnn)) (turns : Nat) : Ctl :=
 { keep := { l := keepOf fn, fz := keep.fz }, turns := turns, ret := [], base := 1000000000, loops := ll, E := yE P H gl kb keep D }
def rfIn (gl : Gl) (s : St) (fn : Func) (lid : Nat) (caps : List (Nat × Nat)) : St :=
 { tm := (S.one false [.fn [] (some (yieldN, [(lid, 0)]))] :: capS caps).map (fun s => ({ g := [], s := s } : SV)) ++ List.replicate (fn.ntmps - (caps.length + 1)) anySV, hp := s.hp }
def rfEnd (gl : Gl) (s σ : St) : St := { tm := s.tm.map (SV.jk (knN gl.length s.hp)), hp := σ.hp, rb := uniN σ.rb s.rb, js := s.js }
def rfM (P : Program) (H : Hnd) (gl : Gl) (kb : Ctl) (keep : Kp) (ll : List (Nat × LAnn)) (turns : Nat) (g : Operand) (ps : Array Tmp) (asg bd : Code) (s : St) : M Outs := do
 let fv <- lift (rfG (rs [] (ev gl.length s g)))
 let fb <- lift (rfFn P fv.1)
 let _ <- lift (if jlOk (jumpsOf bd) then some () else none)
 let lid <- newId
 let O <- M.mono (exec P H (ghOf gl 0) gl.length (rfCtl P H gl kb keep { lid := lid, T := s.tm.map (SV.tj (knN gl.length s.hp)), ps := ps.toList, asg := asg, bd := bd, jl := jumpsOf bd } fb.1 ll turns) fb.2 (rfIn gl s fb.1 lid fv.2))
 let σ <- M.mono (endSt { l := keepOf fb.1, fz := keep.fz } O)
 M.mono (rfOuts (jumpsOf bd) σ.js (rfEnd gl s σ))
def rfE (P : Program) (H : Hnd) (gl : Gl) (kb : Ctl) (keep : Kp) (ll : List (Nat × LAnn)) (turns : Nat) : XE := { rf := rfM P H gl kb keep ll turns }

theorem mtAll_len2 {β : Beta} {ρ : Env} : ∀ {xs : List S} {vs : List Value}, mtAll β ρ xs vs -> xs.length = vs.length
 | [], [], _ => rfl
 | _ :: _, _ :: _, h => by simp [mtAll_len2 h.2]
def tgts : List Deferred -> List Nat
 | [] => []
 | d :: l => match d.target with
  | .collected D => D :: tgts l
  | _ => tgts l
theorem Marks.tgts {N : Nat} {w : World} : ∀ {l : List Deferred}, Marks N w l -> ∀ D, D ∈ Sx.tgts l -> N <= D /\ w.heap[D]? = some (.deferred (some []))
 | [], _, D, h => by cases h
 | d :: l, ⟨E, e1, e2, e3, e4, e5⟩, D, h => by
  subst e1
  simp only [Sx.tgts] at h
  rcases List.mem_cons.1 h with rfl | h
  ·exact ⟨e2, e3⟩
  ·exact Marks.tgts e5 D h
theorem Marks.of {N : Nat} {w w' : World} : ∀ {l : List Deferred}, Marks N w l -> (∀ D, D ∈ Sx.tgts l -> w'.heap[D]? = some (.deferred (some []))) -> Marks N w' l
 | [], _, _ => trivial
 | d :: l, ⟨E, e1, e2, e3, e4, e5⟩, h => by
  subst e1
  refine ⟨E, rfl, e2, h E (by simp [Sx.tgts]), e4, Marks.of e5 fun D hD => h D ?_⟩
  simp only [Sx.tgts]
  exact List.mem_cons.2 (.inr hD)
theorem Marks.notin {N : Nat} {w : World} {D : Nat} : ∀ {l : List Deferred}, Marks N w l -> (∀ E, E ∈ Sx.tgts l -> E ≠ D) -> ∀ e, e ∈ l -> e.target ≠ .collected D
 | [], _, _, e, he => by cases he
 | d :: l, ⟨E, e1, e2, e3, e4, e5⟩, h, e, he => by
  subst e1
  rcases List.mem_cons.1 he with rfl | he
  ·intro hh
   simp only [Target.collected.injEq] at hh
   exact h E (by simp [Sx.tgts]) hh
  ·exact Marks.notin e5 (fun E' hE' => h E' (by simp only [Sx.tgts]; exact List.mem_cons.2 (.inr hE'))) e he

theorem pickJ_some {n : Nat} : ∀ {l : List Code}, jlOk l = true -> (kdJ (pickJ l n)).isSome = true := by
 have key : ∀ {l : List Code}, jlOk l = true -> ∀ d, d ∈ l -> (kdJ d).isSome = true := by
  intro l
  induction l with
  | nil => intro _ d h; cases h
  | cons a l ih =>
   intro h d hm
   simp only [jlOk, Bool.and_eq_true] at h
   rcases List.mem_cons.1 hm with rfl | hm
   ·exact h.1.1
   ·exact ih h.2 d hm
 intro l h
 cases l with
 | nil => rfl
 | cons c l => exact key h _ (pickJ_mem (by simp))
section
variable {P : Program} {Φ : Funs} {H : Hnd} {x : Cx}
theorem rfG_spec {s : S} {p : Nat × List (Nat × Nat)} (h : rfG s = some p) : p.1 ≠ yieldN /\ ∃ c, s = .one false [c] /\ asFn c = some ([], some p) := by
 unfold rfG at h
 split at h
 ·rename_i q hq
  split at h
  ·cases h
  ·rename_i hy
   simp only [zO] at h
   subst h
   obtain ⟨c, h1, h2⟩ := fnOf_spec hq
   exact ⟨by simpa using hy, c, h1, h2⟩
 ·cases h
theorem rfFn_spec {f : Nat} {fn : Func} {b : Code} (h : rfFn P f = some (fn, b)) : P.funcs[f]? = some fn /\ fn.body = some b /\ fn.results.toList = [] /\ (fn.name == "runtime.NumGoroutine") = false := by
 unfold rfFn at h
 split at h
 ·rename_i fn' hfn
  split at h
  ·rename_i b' hb
   split at h
   ·rename_i hc
    simp only [Bool.and_eq_true, List.isEmpty_iff, Bool.not_eq_true'] at hc
    simp only [zO, zP] at h
    obtain ⟨rfl, rfl⟩ := h
    exact ⟨hfn, hb, hc.1, hc.2⟩
   ·cases h
  ·cases h
 ·cases h
theorem rf_ok (hH : HOk P Φ x.gl H) (hG : ∀ w, Keep x.R x.w0 w -> Laid x.gl w) {kb : Ctl} (hxb : GrOk x kb.keep) (hLb : LoopsOk Φ kb) (hEb : kb.E = {}) {keep : Kp} (hx : GrOk x keep) {ll : List (Nat × LAnn)} {turns : Nat} (hLL : ∀ p, p ∈ ll -> Φ p.2.id = loopF (p.2.S.run Φ true) p.2.nI p.2.nB)
  (hrl : x.rl = none) (hlr : x.lr = none) (hds : x.ds = []) (ρ : Env) (g : Operand) (ps : Array Tmp) (asg bd : Code) :
  OkW Φ x ρ (fun Q a w => (Code.rangeFunc g ps asg bd).wpIn (FR x.rl) 0 P Q a w) (rfM P H x.gl kb keep ll turns g ps asg bd) := by
 intro s c c' O' out h hg β a w hR hF Q hQ
 unfold rfM at h
 obtain ⟨fv, c1, o1, c2, o2, y, g1, g2, he⟩ := M.bind_inv h
 simp only [zP] at he
 obtain ⟨rfl, rfl, rfl⟩ := he
 obtain ⟨fv', hfv, he⟩ := lift_inv g1
 simp only [zP] at he
 obtain ⟨rfl, rfl, rfl⟩ := he
 obtain ⟨fb, c3, o3, c4, o4, y, g3, g4, he⟩ := M.bind_inv g2
 simp only [zP] at he
 obtain ⟨rfl, rfl, rfl⟩ := he
 obtain ⟨fb', hfb, he⟩ := lift_inv g3
 simp only [zP] at he
 obtain ⟨rfl, rfl, rfl⟩ := he
 obtain ⟨u, c5, o5, c6, o6, y, g5, g6, he⟩ := M.bind_inv g4
 simp only [zP] at he
 obtain ⟨rfl, rfl, rfl⟩ := he
 obtain ⟨u', hjl, he⟩ := lift_inv g5
 simp only [zP] at he
 obtain ⟨_, rfl, rfl⟩ := he
 obtain ⟨lid, c7, o7, c8, o8, y, g7, g8, he⟩ := M.bind_inv g6
 simp only [zP] at he
 obtain ⟨rfl, rfl, rfl⟩ := he
 simp only [newId, zO, zP] at g7
 obtain ⟨hlid, hc7, rfl⟩ := g7
 obtain ⟨O, c9, o9, c10, o10, y, g9, g10, he⟩ := M.bind_inv g8
 simp only [zP] at he
 obtain ⟨rfl, rfl, rfl⟩ := he
 obtain ⟨σ, c11, o11, c12, o12, y, g11, g12, he⟩ := M.bind_inv g10
 simp only [zP] at he
 obtain ⟨rfl, rfl, rfl⟩ := he
 obtain ⟨g9, le9⟩ := mono_inv g9
 obtain ⟨g11, le11⟩ := mono_inv g11
 obtain ⟨g12, le12⟩ := mono_inv g12
 simp only at le9 le11 le12
 simp only [Good.append] at hg
 obtain ⟨_, _, _, _, hg9, hg11, hg12⟩ := hg
 split at hjl
 rotate_left
 ·cases hjl
 rename_i hjok
 obtain ⟨fn, body⟩ := fb
 obtain ⟨hfn, hbody, hres, hname⟩ := rfFn_spec hfb
 obtain ⟨hyn, cc, hcc, hcf⟩ := rfG_spec hfv
 obtain ⟨gf, caps⟩ := fv
 have hvm := asFn_mt hcf (mt_cell hcc (rs_mt (Γ := []) rfl (ev_mt hR g)))
 have hvm : fvMt β (some (gf, caps)) (a.eval g) := hvm
 obtain ⟨ws, hval, hcap⟩ := hvm
 rw [fvVal_ne hyn] at hval
 have hcall := callable_of hfn hname (by rw [hbody]; rfl)
 rw [hrl]
 refine wpIn_rangeFunc (F := Fence.wide) (n := 0) fun fnid _ => ?_
 obtain ⟨rc, hrc⟩ : ∃ rc : Loop, rc = { state := .ready, pending := none, fn := fnid, tmps := a.tmps, params := ps, assign := asg, body := bd, defers := w.heap.size } := ⟨_, rfl⟩
 obtain ⟨W1, hW1⟩ : ∃ W1, W1 = (w.alloc (.deferred (some []))).alloc (.loop rc) := ⟨_, rfl⟩
 have hsz1 : W1.heap.size = w.heap.size + 2 := by rw [hW1]; simp
 have hL1 : W1.heap[w.heap.size + 1]? = some (.loop rc) := by
  rw [hW1]; have := World.alloc_heap_new (w.alloc (.deferred (some []))) (.loop rc); rwa [World.size_alloc] at this
 have hK1 : W1.heap[w.heap.size]? = some (.deferred (some [])) := by
  rw [hW1]; exact (Go.RowKit.Below.heap_alloc _ _ _ (by simp)).trans (World.alloc_heap_new w _)
 have hkeep : Keep [] w W1 := by
  rw [hW1]
  exact (Keep.alloc [] w _).trans (Keep.alloc [] _ _) (fun r hr => by cases hr)
 have hN : x.w0.heap.size <= w.heap.size := hR.kp.size
 refine ⟨w.heap.size + 1, [{ target := .collected w.heap.size, args := #[] }], W1, { target := .fn (.func gf) ws.toArray, args := #[.func (.yield (w.heap.size + 1)) #[] #[]] }, W1, gf,
  #[.func (.yield (w.heap.size + 1)) #[] #[]] ++ ws.toArray, W1, ?_, ?_, fun _ _ => trivial, ?_, fun hh => (by cases hh), ?_⟩
 ·rw [hW1, hrc]; exact run_enterLoop_outer _ _ _ _ _
 ·simp only [resolve, hval]
  simp [go_sem]
 ·simp [invoke, hcall]
 obtain ⟨q1, hq1⟩ : ∃ q1 : Rg, q1 = { blk := w.heap.size + 1, off := 0, len := 0, ro := true } := ⟨_, rfl⟩
 obtain ⟨β1, hβ1⟩ : ∃ β1, β1 = β.set lid q1 := ⟨_, rfl⟩
 have hfree : β lid = none := by rw [<- hlid]; exact hF _ (Nat.le_refl _)
 have hext : ∀ p, ExtP p β β1 := fun p => by rw [hβ1]; exact Beta.set_ext p hfree
 have hbo1 : BetaOk x.w0.heap.size x.R x.Q β1 W1 := by
  rw [hβ1]
  refine hR.bo.bind (W := []) (by simp) hkeep (fun j q _ _ => .inr ?_) (.inl (by rw [hq1])) (.inl (by rw [hq1])) (fun ks l he => by rw [hq1] at he; cases he) (fun _ => .inl (by rw [hq1]; simp only; omega)) (fun he => by rw [hq1] at he; cases he)
  unfold Rg.apart
  rw [hq1]
  simp
 obtain ⟨r, hr⟩ : ∃ r : LpRec, r = { l := w.heap.size + 1, rc := rc, jl := jumpsOf bd } := ⟨_, rfl⟩
 obtain ⟨xc, hxc⟩ : ∃ xc : Cx, xc = { x with b0 := β1, lr := some r, ds := w.heap.size :: tgts a.defers } := ⟨_, rfl⟩
 obtain ⟨D, hD⟩ : ∃ D : RfD, D = { lid := lid, T := s.tm.map (SV.tj (knN x.gl.length s.hp)), ps := ps.toList, asg := asg, bd := bd, jl := jumpsOf bd } := ⟨_, rfl⟩
 rw [<- hD] at g9
 have hrco : RcOk xc D r := by
  refine ⟨by rw [hxc], by rw [hr], by rw [hr, hD], by rw [hr, hrc, hD], by rw [hr, hrc, hD], by rw [hr, hrc, hD], by rw [hr, hrc, hD, List.length_map]; exact hR.size, fun β' ρ' hE t v hv => ?_, ⟨q1, by rw [hxc, hD, hβ1]; exact Beta.set_same _ _ _, by rw [hq1], by rw [hq1, hr]⟩, by rw [hxc]; exact hrl⟩
  rw [hxc] at hE
  rw [hD] at hv
  simp only [List.getElem?_map, Option.map_eq_some_iff] at hv
  obtain ⟨u, hu, rfl⟩ := hv
  rw [hr, hrc]
  exact SV.tj_mt (knN_keep hR ((hext (fun _ => true)).ext.trans hE)) (hR.slot t u hu)
 have hwold : ∀ k o, w.heap[k]? = some o -> W1.heap[k]? = some o := fun k o hk => by
  rw [hkeep.blk k (Array.getElem?_eq_some_iff.1 hk).1 (fun r hr => by cases hr)]; exact hk
 have hRc : Rel xc ρ β1 (rfIn x.gl s fn lid caps) { tmps := (#[Value.func (.yield (w.heap.size + 1)) #[] #[]] ++ ws.toArray) ++ Array.replicate (fn.ntmps - (#[Value.func (.yield (w.heap.size + 1)) #[] #[]] ++ ws.toArray).size) undef, defers := [] } W1 := by
  have hcap1 : capMt β1 caps ws := tj_cap (p := fun _ => true) (fun i r _ hi => (hext (fun _ => true)) i r hi (.inr rfl)) (List.all_eq_true.2 fun _ _ => rfl) hcap
  have hms : mtAll β1 ρ (S.one false [.fn [] (some (yieldN, [(lid, 0)]))] :: capS caps) (.func (.yield (w.heap.size + 1)) #[] #[] :: ws) := by
   refine ⟨⟨_, rfl, [.pointer (some ⟨w.heap.size + 1, 0, none⟩)], ?_, ⟨q1, by rw [hβ1]; exact Beta.set_same _ _ _, by rw [hq1]; rfl⟩, trivial⟩, capS_mt hcap1⟩
   unfold fvVal
   rw [if_pos rfl]
  have hlen := mtAll_len2 hms
  have hcl : caps.length + 1 = ws.length + 1 := by simpa [capS] using hlen
  have e : (#[Value.func (.yield (w.heap.size + 1)) #[] #[]] ++ ws.toArray) ++ Array.replicate (fn.ntmps - (#[Value.func (.yield (w.heap.size + 1)) #[] #[]] ++ ws.toArray).size) undef = ((Value.func (.yield (w.heap.size + 1)) #[] #[] :: ws) ++ List.replicate (fn.ntmps - (caps.length + 1)) undef).toArray := by
   apply Array.toList_inj.1
   rw [hcl]
   simp [Nat.add_comm]
  refine ⟨?_, fun t v hv => ?_, ⟨fun r' hr' => ?_, fun E hE => ?_, trivial, fun _ => rfl⟩, fun id b hb hbg => ?_, fun id b hb hbg => ?_, ?_, ?_, ?_, ?_, ?_, ?_⟩
  ·rw [e]
   simp [rfIn, capS, hcl]
   omega
  ·rw [e]
   have := args_slots hms (show ((S.one false [.fn [] (some (yieldN, [(lid, 0)]))] :: capS caps).map (fun s => ({ g := [], s := s } : SV)) ++ List.replicate (fn.ntmps - (caps.length + 1)) anySV)[t]? = some v from hv)
   simpa using this
  ·rw [hxc] at hr'
   simp only [zO] at hr'
   subst hr'
   rw [hxc, hr]
   refine ⟨by simp only; omega, ?_⟩
   rw [hL1]
   unfold LpRec.at
   simp only [rfIn, B.d_c, if_true]
   rw [hrc]
  ·rw [hxc] at hE ⊢
   rcases List.mem_cons.1 hE with rfl | hE
   ·exact ⟨hN, hK1⟩
   ·obtain ⟨e1, e2⟩ := hR.df.ma.tgts E hE
    exact ⟨e1, hwold _ _ e2⟩
  ·exact blkMt_keep' (hext (fun _ => true)) hR.bo hkeep (fun r q hr => by cases hr) (hR.hm id b hb hbg)
  ·have e : xc.gh = x.gh := by rw [hxc]; rfl
   rw [e] at hb
   exact blkMt_keep' (hext (fun _ => true)) hR.bo hkeep (fun r q hr => by cases hr) (hR.gm id b hb hbg)
  ·have e : xc.gh = x.gh := by rw [hxc]; rfl
   rw [e]; exact hR.gro
  ·rw [hxc]; exact hbo1
  ·rw [hxc]; exact hR.kp.trans hkeep (fun r hr => by cases hr)
  ·rw [hxc]; exact fun g vs hgv => (hext (fun _ => false)).at (hR.gl g vs hgv) rfl
  ·rw [hxc]; exact fun j q hj => ⟨(hR.ra j q hj).1, (hext (fun _ => false)).at (hR.ra j q hj).2 (hR.ra j q hj).1⟩
  ·rw [hxc]; exact ExtP.refl _ _
 have hFc : Fresh β1 c7 := fun i hi => by
  rw [<- hc7] at hi
  simp only at hi
  rw [hβ1, Beta.set_other _ _ (by omega)]
  exact hF i (by omega)
 have hxcG : xc.gl = x.gl := by rw [hxc]
 have hGc : ∀ w, Keep xc.R xc.w0 w -> Laid xc.gl w := by rw [hxc]; exact hG
 have hHc : HOk P Φ xc.gl H := by rw [hxcG]; exact hH
 have hgr : ∀ kp : Kp, GrOk x kp -> GrOk xc kp := fun kp hk => by rw [hxc]; exact hk
 have hkeepc : GrOk xc { l := keepOf fn, fz := keep.fz } := by
  refine hgr _ fun hf => hx hf
 have hEc : EOk P Φ xc (yE P H x.gl kb keep D) := by
  have := yE_ok (P := P) (Φ := Φ) (x := xc) hHc hGc (hgr _ hxb) hLb hEb (hgr _ hx) hrco
  rwa [hxcG] at this
 have hLc : LoopsOk Φ (rfCtl P H x.gl kb keep D fn ll turns) := hLL
 have hex : CodeOk P Φ xc ρ body (exec P H xc.gh xc.ng (rfCtl P H x.gl kb keep D fn ll turns)  body) := exec_ok (x := xc) hHc hGc (rfCtl P H x.gl kb keep D fn ll turns) hkeepc hLc hEc body ρ
 have hrun := hex _ _ _ O _ (by rw [hxc]; exact g9) hg9 β1 _ W1 hRc hFc
  (bodyPostM Fence.wide 0 P fn (rangePost Fence.wide 0 P (w.heap.size + 1) Q { a with defers := [{ target := .collected w.heap.size, args := #[] }] ++ a.defers })) fun e a' w' K hk hO => ?_
 ·refine callsIn_of_wp_marks hfn hbody trivial ?_ rfl
  rw [hxc] at hrun
  simp only [hrl] at hrun
  exact hrun
 ·obtain ⟨hKK, β', hE, hR', hF'⟩ := endSt_ok hkeepc g11 hg11 hO
  have hfin : LeavesInM Fence.wide 0 P fn a'.tmps (rangePost Fence.wide 0 P (w.heap.size + 1) Q { a with defers := [{ target := .collected w.heap.size, args := #[] }] ++ a.defers }) a'.defers .returning w' := by
   have hd' : a'.defers = [] := hR'.df.nm (by rw [hxc]; rfl)
   rw [hd']
   refine ⟨_, results_run (vs := []) (by rw [hres]; rfl), ?_⟩
   obtain ⟨hNl, hrec⟩ := hR'.df.rc r (by rw [hxc])
   rw [hr] at hrec
   obtain ⟨lp, hlp⟩ : ∃ lp, lp = r.at (σ.js.b.d ρ) (σ.js.a.d ρ) := ⟨_, rfl⟩
   have hrec : w'.heap[w.heap.size + 1]? = some (.loop lp) := by rw [hlp, hr]; exact hrec
   have hnb : lp.state ≠ .busy := by
    rw [hlp, hr]
    unfold LpRec.at
    simp only
    split <;> simp
   have hlt := (Array.getElem?_eq_some_iff.1 hrec).1
   refine ⟨_, _, run_endLoop (P := P) hrec hnb, ?_⟩
   have hc := putObj_cell (o' := .loop { lp with state := .exhausted }) hrec rfl rfl
   have hEE : Ext β β' := (hext (fun _ => true)).ext.trans hE
   have hRel : Rel x ρ β' (rfEnd x.gl s σ) { a with defers := [{ target := .collected w.heap.size, args := #[] }] ++ a.defers } (w'.putObj (w.heap.size + 1) (.loop { lp with state := .exhausted })) := by
    have hds' := hR'.df.ds
    have hopen : ∀ E, E = w.heap.size \/ E ∈ tgts a.defers -> (w'.putObj (w.heap.size + 1) (.loop { lp with state := .exhausted })).heap[E]? = some (.deferred (some [])) := fun E hE => by
     obtain ⟨_, e2⟩ := hds' E (by rw [hxc]; simp only [List.mem_cons]; exact hE)
     exact (World.putObj_heap_other (fun e => by subst e; rw [hrec] at e2; cases e2)).trans e2
    have e : x.gh = xc.gh := by rw [hxc]; rfl
    refine ⟨by simp only [rfEnd, List.length_map]; exact hR.size, getD_map_jk (knN_mv hR hEE) hR.slot, ⟨fun r' hr' => (by rw [hlr] at hr'; cases hr'), fun E hE => (by rw [hds] at hE; cases hE), ?_, fun hh => (by rw [hlr] at hh; cases hh)⟩, fun id b hb hbg => blkMt_cells hc (hR'.hm id b hb hbg), by rw [e]; exact fun id b hb hbg => blkMt_cells hc (hR'.gm id b hb hbg), by rw [e]; exact hR'.gro, ?_, ?_, ?_, ?_, ?_⟩
    ·refine ⟨w.heap.size, rfl, hN, hopen _ (.inl rfl), hR.df.ma.notin fun E hE e => ?_, hR.df.ma.of fun E hE => hopen E (.inr hE)⟩
     have := (Array.getElem?_eq_some_iff.1 (hR.df.ma.tgts E hE).2).1
     omega
    ·have := hR'.bo
     rw [hxc] at this
     exact betaOk_cells (fun a => (hc a).1) (by rw [World.putObj_size]; exact Nat.le_refl _) this
    ·have := hR'.kp
     rw [hxc] at this
     exact putObj_keep this (by omega) hrec rfl rfl
    ·have := hR'.gl; rw [hxc] at this; exact this
    ·have := hR'.ra; rw [hxc] at this; exact this
    ·have := hR'.eb
     rw [hxc] at this
     have h1 : ExtP (pOf s.rb) x.b0 β1 := fun i q hi hp => (hext (fun _ => true)) i q (hR.eb i q hi hp) (.inr rfl)
     exact ExtP.uni h1 this
   obtain ⟨K', hK'⟩ : ∃ K', K' = if σ.js.b.d ρ then Kd.n else kdD (pickJ (jumpsOf bd) (σ.js.a.d ρ).toNat) := ⟨_, rfl⟩
   obtain ⟨j1, q, j2⟩ := rfOuts_ok g12 hg12 hjok hK'
   have hout : OutMt x ρ β c' O' K' { a with defers := [{ target := .collected w.heap.size, args := #[] }] ++ a.defers } (w'.putObj (w.heap.size + 1) (.loop { lp with state := .exhausted })) :=
    ⟨j1, q, _, β', j2, hEE, hRel, hF'.le (by omega)⟩
   have hpend : lp.pending = if σ.js.b.d ρ then none else some (pickJ (jumpsOf bd) (σ.js.a.d ρ).toNat) := by
    rw [hlp, hr]
    unfold LpRec.at
    simp only
    split <;> rfl
   generalize (w'.putObj (w.heap.size + 1) (.loop { lp with state := .exhausted })) = w4 at hout ⊢
   rw [hpend]
   cases hb : σ.js.b.d ρ with
   | true =>
    rw [hb, if_pos rfl] at hK'
    subst hK'
    exact hQ .normal _ _ .n rfl hout
   | false =>
    rw [hb] at hK'
    simp only [Bool.false_eq_true, if_false] at hK' ⊢
    obtain ⟨pc, hpc⟩ : ∃ pc, pc = pickJ (jumpsOf bd) (σ.js.a.d ρ).toNat := ⟨_, rfl⟩
    have hps : (kdJ pc).isSome = true := by rw [hpc]; exact pickJ_some hjok
    rw [<- hpc] at hK' ⊢
    cases pc with
    | ret =>
     subst hK'
     exact wpIn_ret (hQ .ret _ _ _ rfl hout)
    | exit id =>
     subst hK'
     exact wpIn_exit (hQ (.exit id) _ _ _ rfl hout)
    | _ => simp [kdJ] at hps
  rcases hKK with rfl | rfl
  ·rw [kdOf_n hk]
   exact hfin
  ·cases e <;> simp only [kdOf, zO] at hk <;> (try (cases hk; done))
   exact hfin
theorem rfE_ok (hH : HOk P Φ x.gl H) (hG : ∀ w, Keep x.R x.w0 w -> Laid x.gl w) {kb : Ctl} (hxb : GrOk x kb.keep) (hLb : LoopsOk Φ kb) (hEb : kb.E = {}) {keep : Kp} (hx : GrOk x keep) {ll : List (Nat × LAnn)} {turns : Nat} (hLL : ∀ p, p ∈ ll -> Φ p.2.id = loopF (p.2.S.run Φ true) p.2.nI p.2.nB)
  (hrl : x.rl = none) (hlr : x.lr = none) (hds : x.ds = []) : EOk P Φ x (rfE P H x.gl kb keep ll turns) :=
 ⟨fun ρ g ps asg bd => rf_ok hH hG hxb hLb hEb hx hLL hrl hlr hds ρ g ps asg bd, fun ρ ops draw s m hm => by cases hm⟩
end
def ctlB (fn : Func) (lb : List (Nat × LAnn)) : Ctl := { keep := { l := keepOf fn, fz := true }, turns := 400, ret := [], base := 1000000000, loops := lb }
def ctlR (P : Program) (H : Hnd) (gl : Gl) (fn : Func) (s : Sum) (lo lb ll : List (Nat × LAnn)) : Ctl :=
 { ctlOf fn gl s with loops := lo, E := rfE P H gl (ctlB fn lb) { l := List.replicate 1000 true, fz := true } ll 400 }
theorem EAll.rf {P : Program} {Φ : Funs} {gl : Gl} {H : Hnd} (hH : HOk P Φ gl H) {fn : Func} {s : Sum} {lo lb ll : List (Nat × LAnn)} (hlb : ∀ p, p ∈ lb -> Φ p.2.id = loopF (p.2.S.run Φ true) p.2.nI p.2.nB) (hll : ∀ p, p ∈ ll -> Φ p.2.id = loopF (p.2.S.run Φ true) p.2.nI p.2.nB) :
  EAll P Φ gl (ctlR P H gl fn s lo lb ll) := fun x h1 h2 h3 h4 h5 h6 => by
 subst h1
 have hg : ∀ kp : Kp, GrOk x kp := fun kp _ => h5 rfl
 exact rfE_ok (kb := ctlB fn lb) hH h6 (hg _) hlb rfl (hg _) hll h2 h3 h4
end Go.Proofs.YtghlmhlamoagoaaGreat.Sx
namespace Go.Proofs.YtghlmhlamoagoaaGreat.Sx
open Go

def asOf (f : Nat) : List (Nat × Int) -> Option Int
 | [] => none
 | (g, n) :: l => if g == f then some n else asOf f l
def asNum : S -> Option (IntKind × A)
 | .one false [.int k a] => some (k, a)
 | _ => none
theorem asNum_spec {s : S} {p : IntKind × A} (h : asNum s = some p) : s = .one false [.int p.1 p.2] := by
 unfold asNum at h
 split at h
 ·cases h; rfl
 ·cases h
def asM (n : Int) (r : Res) : M Res := do
 let p <- lift (asNum r.s)
 sameId (do
   let b <- mkCm .eql p.2 (.c n)
   oblige b
   pure { r with s := .one false [.int p.1 (.c n)] })
def asH (l : List (Nat × Int)) (H : Hnd) : Hnd := fun f Γ hp xs => do
 let r <- H f Γ hp xs
 match asOf f l with
 | none => pure r
 | some n => asM n r
theorem asM_spec {Φ : Funs} {ρ : Env} {n : Int} {r r' : Res} {c c' : Ctr} {o : List Em} (h : asM n r c = some (r', c', o)) (hg : Good Φ ρ o) : c'.id = c.id /\ r'.w = r.w /\ r'.rb = r.rb /\ ∀ β v, r.s.mt β ρ v -> r'.s.mt β ρ v := by
 unfold asM at h
 obtain ⟨p, c0, o0, c9, o9, y0, g0, h, e0⟩ := M.bind_inv h
 obtain ⟨p', hp', e9⟩ := lift_inv g0
 simp only [zP] at e0 e9
 obtain ⟨rfl, rfl, rfl⟩ := e0
 obtain ⟨rfl, rfl, rfl⟩ := e9
 have hs := asNum_spec hp'
 obtain ⟨k, a⟩ := p
 ·obtain ⟨h, hid⟩ := sameId_inv h
  obtain ⟨b, c1, o1, c2, o2, y, g1, g2, e1⟩ := M.bind_inv h
  simp only [zP] at e1
  obtain ⟨rfl, rfl, rfl⟩ := e1
  obtain ⟨u, c3, o3, c4, o4, y, g3, g4, e1⟩ := M.bind_inv g2
  simp only [zP] at e1
  obtain ⟨rfl, rfl, rfl⟩ := e1
  have g4 := M.pure_inv g4
  simp only [zP] at g4
  obtain ⟨rfl, rfl, rfl⟩ := g4
  simp only [List.nil_append, Good.append] at hg
  have e1 := mkCm_snd .eql a (.c n) _ _ _ _ g1 hg.1
  have e2 := oblige_snd b _ _ _ _ g3 hg.2.1
  refine ⟨hid, rfl, rfl, fun β v hv => ?_⟩
  rw [hs] at hv
  obtain ⟨c0, hc, hv⟩ := hv
  simp only [List.cons.injEq, and_true] at hc
  subst hc
  rw [e1] at e2
  have e3 : a.d ρ = n := by simpa [cmB] using e2
  refine ⟨_, rfl, ?_⟩
  obtain ⟨h1, h2⟩ := hv
  rw [e3] at h1 h2
  exact ⟨h1, h2⟩
theorem asH_ok {P : Program} {Φ : Funs} {gl : Gl} {H : Hnd} (hH : HOk P Φ gl H) (l : List (Nat × Int)) : HOk P Φ gl (asH l H) := by
 intro f Γ hp xs ρ c res c' out he hg hΓ N R Q β w vs hm hh hb hN hG hf
 unfold asH at he
 obtain ⟨r, c1, o1, c2, o2, y, g1, g2, e1⟩ := M.bind_inv he
 simp only [zP] at e1
 obtain ⟨rfl, rfl, rfl⟩ := e1
 rw [Good.append] at hg
 cases hl : asOf f l with
 | none =>
  rw [hl] at g2
  have g2 := M.pure_inv g2
  simp only [zP] at g2
  obtain ⟨rfl, rfl, rfl⟩ := g2
  exact hH f Γ hp xs ρ c _ _ _ g1 hg.1 hΓ N R Q β w vs hm hh hb hN hG hf
 | some n =>
  rw [hl] at g2
  obtain ⟨e1, e2, e3, e4⟩ := asM_spec (Φ := Φ) g2 hg.2
  have := hH f Γ hp xs ρ c _ _ _ g1 hg.1 hΓ N R Q β w vs hm hh hb hN hG (fun i h1 h2 => hf i h1 (by omega))
  refine ⟨this.1, Calls.mono this.2 fun e u ⟨v, hv, β', p1, p2, p3⟩ => ⟨v, hv, β', ?_, e4 β' v p2, ?_⟩⟩
  ·rw [e2, e3, e1]; exact p1
  ·rw [e2]; exact p3

def Ctl.fz (k : Ctl) (l : List Nat) : Ctl := { k with fzf := l }
def Fun.alt (F G : Fun) : Fun := fun is bs => if (F is bs).2.headD false then F is bs else G is bs
theorem Contract.alt {P : Program} {gl : Gl} {f : Nat} {s : Sum} {F G : Fun} (hF : Contract P gl f s F) (hG : Contract P gl f s G) (hp : s.pre = true) : Contract P gl f s (F.alt G) := by
 intro vs w is bs ps h1 h2 h3 h4 h5 h6 h7
 have h7' := h7 hp
 unfold Fun.alt at *
 by_cases hc : (F is bs).2.headD false = true
 ·simp only [hc, if_true]
  exact hF vs w is bs ps h1 h2 h3 h4 h5 h6 fun _ => hc
 ·simp only [hc, if_false] at h7' ⊢
  exact hG vs w is bs ps h1 h2 h3 h4 h5 h6 fun _ => h7'
theorem contract_preA {P : Program} {Φ : Funs} {X : Hnd} {gl : Gl} (hX : HOk P Φ gl X) {f : Nat} {fn : Func} (hf : P.funcs[f]? = some fn) {k : Ctl} (hK : LoopsOk Φ k) {s : Sum} {S : Smry} (h : fnX P X gl k fn s = some S)
  (hw : (wsEm S.em (argI s.args) (argB s.args) && shOk s && s.pre) = true) (hEA : EAll P Φ gl k) : Contract P gl f s (S.run Φ s.pre) := by
 simp only [Bool.and_eq_true] at hw
 refine contract_gen hX hf hK hEA h hw.1.1 hw.1.2 fun vs w is bs ps _ hp => ?_
 have := hp hw.2
 simpa [Smry.run, hw.2] using this
end Go.Proofs.YtghlmhlamoagoaaGreat.Sx
namespace Go.Proofs.YtghlmhlamoagoaaGreat.Sx
open Go Go.ChangeShapes Go.WideShapes Go.ChangeAt Go.RowKit

def shOf (P : Program) (t : TypeId) : Option Sh := match P.underlying t with
 | some .bool => some (.val false [.bool])
 | some (.int k) => some (.val false [.int k])
 | some (.struct _) => (ckOf P 8 t).map (.val true ·)
 | some (.array _ _) => (ckOf P 8 t).map (.val true ·)
 | some .string => some (.val false [.str])
 | some (.slice _) => (ckOf P 8 t).map (.val false ·)
 | _ => none
def shsOf (P : Program) : List TypeId -> Option (List Sh)
 | [] => some []
 | t :: ts => match shOf P t, shsOf P ts with
  | some s, some ss => some (s :: ss)
  | _, _ => none

theorem flatC_append {w : World} {ps : List Rg} : ∀ {l1 : List CK} {v1 : List Value} {l2 : List CK} {v2 : List Value} {f1 f2 : Fl}, flatC w ps l1 v1 = some f1 -> flatC w ps l2 v2 = some f2 -> ∃ f, flatC w ps (l1 ++ l2) (v1 ++ v2) = some f
 | [], [], l2, v2, f1, f2, _, h2 => ⟨f2, h2⟩
 | .int k :: l1, v :: v1, l2, v2, f1, f2, h1, h2 => by
  unfold flatC at h1
  split at h1
  ·rename_i k' n is bs hv
   split at h1
   ·rename_i hc
    obtain ⟨f, hf⟩ := flatC_append hv h2
    refine ⟨(n :: f.1, f.2), ?_⟩
    simp only [List.cons_append, flatC, hf]
    rw [if_pos hc]
   ·cases h1
  ·cases h1
 | .bool :: l1, v :: v1, l2, v2, f1, f2, h1, h2 => by
  unfold flatC at h1
  split at h1
  ·rename_i b is bs hv
   obtain ⟨f, hf⟩ := flatC_append hv h2
   exact ⟨(f.1, b :: f.2), by simp only [List.cons_append, flatC, hf]⟩
  ·cases h1
 | .pt k o :: l1, v :: v1, l2, v2, f1, f2, h1, h2 => by
  unfold flatC at h1
  split at h1
  ·rename_i a r is bs hr hv
   split at h1
   ·rename_i hc
    obtain ⟨f, hf⟩ := flatC_append hv h2
    refine ⟨(f.1, f.2), ?_⟩
    simp only [List.cons_append, flatC, hf, hr]
    rw [if_pos hc]
   ·cases h1
  ·cases h1
 | .str :: l1, v :: v1, l2, v2, f1, f2, h1, h2 => by
  unfold flatC at h1
  split at h1
  ·rename_i s is bs hv
   split at h1
   ·rename_i hc
    obtain ⟨f, hf⟩ := flatC_append hv h2
    refine ⟨(encS s :: f.1, f.2), ?_⟩
    simp only [List.cons_append, flatC, hf]
    rw [if_pos hc]
   ·cases h1
  ·cases h1
 | .sl ks :: l1, v :: v1, l2, v2, f1, f2, h1, h2 => by
  unfold flatC at h1
  split at h1
  ·rename_i q n r is bs hs hv
   obtain ⟨f, hf⟩ := flatC_append hv h2
   exact ⟨(enc q :: n :: f.1, f.2), by simp only [List.cons_append, flatC, hf, hs]⟩
  ·cases h1
 | .sl _ :: _, [], _, _, _, _, h1, _ => by simp [flatC] at h1
 | .str :: _, [], _, _, _, _, h1, _ => by simp [flatC] at h1
 | [], _ :: _, _, _, _, _, h1, _ => by simp [flatC] at h1
 | .int _ :: _, [], _, _, _, _, h1, _ => by simp [flatC] at h1
 | .bool :: _, [], _, _, _, _, h1, _ => by simp [flatC] at h1
 | .pt _ _ :: _, [], _, _, _, _, h1, _ => by simp [flatC] at h1

section
variable {H : Type} {enc : TypeId × Value -> H} {P : Program} {w : World} {base : Nat} {spare : Nat -> Bool} {held : Bool}
theorem ckFields_flat {g : TypeId -> Option (List CK)} {n : Nat} (hg : ∀ (t : TypeId) (l : List CK) (cs : List Value) (x : DataW H × List MemPlace), g t = some l -> DataW.trod enc P w base spare held n t cs = some x -> ∃ f, flatC w [] l cs = some f) {cs : List Value} : ∀ {fs : List Field} {off : Nat} {l : List CK},
  ckFields P g fs off = some l -> (∀ f, f ∈ fs -> ∃ x, DataW.trod enc P w base spare held n f.type ((cs.drop f.offset).take (P.cellsOf f.type)) = some x) -> ∃ f, flatC w [] l ((cs.drop off).take l.length) = some f
 | [], off, l, h, _ => by
  simp only [ckFields, zO] at h
  subst h
  exact ⟨_, rfl⟩
 | f :: fs, off, l, h, hx => by
  unfold ckFields at h
  split at h
  ·rename_i ho
   simp only [beq_iff_eq] at ho
   split at h
   ·rename_i l1 hl1
    split at h
    ·rename_i hlen
     simp only [beq_iff_eq] at hlen
     split at h
     ·rename_i r hr
      simp only [zO] at h
      subst h
      obtain ⟨x, hx1⟩ := hx f (by simp)
      obtain ⟨f1, hf1⟩ := hg _ _ _ _ hl1 hx1
      obtain ⟨f2, hf2⟩ := ckFields_flat hg hr (fun g hm => hx g (by simp [hm]))
      obtain ⟨f3, hf3⟩ := flatC_append hf1 hf2
      refine ⟨f3, ?_⟩
      rw [List.length_append, List.take_add, List.drop_drop, <- ho, hlen]
      rw [<- ho, hlen] at hf3
      exact hf3
     ·cases h
    ·cases h
   ·cases h
  ·cases h
theorem repCK_flat {l : List CK} {cs : List Value} : ∀ {m off : Nat}, (∀ i, i < m -> ∃ f, flatC w [] l ((cs.drop (off + i * l.length)).take l.length) = some f) -> ∃ f, flatC w [] (repCK l m) ((cs.drop off).take (m * l.length)) = some f
 | 0, off, _ => ⟨_, by simp [repCK]; rfl⟩
 | m + 1, off, h => by
  obtain ⟨f1, hf1⟩ := h 0 (by omega)
  obtain ⟨f2, hf2⟩ := repCK_flat (l := l) (cs := cs) (m := m) (off := off + l.length) (fun i hi => by
   have := h (i + 1) (by omega)
   rwa [show off + (i + 1) * l.length = off + l.length + i * l.length by rw [Nat.add_mul]; omega] at this)
  simp only [Nat.zero_mul, Nat.add_zero] at hf1
  obtain ⟨f3, hf3⟩ := flatC_append hf1 hf2
  refine ⟨f3, ?_⟩
  rw [show (m + 1) * l.length = l.length + m * l.length by rw [Nat.add_mul]; omega, List.take_add, List.drop_drop]
  exact hf3
theorem flatC_dec : ∀ {l : List CK} {vs : List Value} {f : Fl}, flatC w [] l vs = some f -> l.all ckPlain = true -> vs.length = l.length /\ ∀ (k : Nat) (ck : CK), l[k]? = some ck -> ∃ v n, vs[k]? = some v /\ decV ck v = some n
 | [], [], f, h, _ => ⟨rfl, fun k ck hk => by simp at hk⟩
 | .int kd :: l, v :: vs, f, h, hp => by
  unfold flatC at h
  split at h
  ·rename_i k' n is bs hf
   split at h
   ·rename_i hc
    obtain ⟨h1, h2⟩ := flatC_dec hf (by simpa [ckPlain] using hp)
    refine ⟨by simp [h1], fun k ck hk => ?_⟩
    cases k with
    | zero => simp at hk; subst hk; exact ⟨_, n, by simp; rfl, by simp only [decV]; rw [if_pos hc]⟩
    | succ k => simp at hk; simpa using h2 k ck hk
   ·cases h
  ·cases h
 | .bool :: l, v :: vs, f, h, hp => by
  unfold flatC at h
  split at h
  ·rename_i b is bs hf
   obtain ⟨h1, h2⟩ := flatC_dec hf (by simpa [ckPlain] using hp)
   refine ⟨by simp [h1], fun k ck hk => ?_⟩
   cases k with
   | zero => simp at hk; subst hk; exact ⟨_, _, by simp; rfl, rfl⟩
   | succ k => simp at hk; simpa using h2 k ck hk
  ·cases h
 | .pt k o :: l, v :: vs, f, h, hp => by
  unfold flatC at h
  split at h
  ·rename_i a r is bs hr hf
   simp at hr
  ·cases h
 | .str :: l, v :: vs, f, h, hp => by
  unfold flatC at h
  split at h
  ·rename_i s is bs hf
   split at h
   ·rename_i hc
    obtain ⟨h1, h2⟩ := flatC_dec hf (by simpa [ckPlain] using hp)
    refine ⟨by simp [h1], fun k ck hk => ?_⟩
    cases k with
    | zero => simp at hk; subst hk; exact ⟨_, encS s, by simp; rfl, by simp only [decV]; rw [if_pos hc]⟩
    | succ k => simp at hk; simpa using h2 k ck hk
   ·cases h
  ·cases h
 | .sl _ :: _, _, f, h, hp => by simp [ckPlain] at hp
 | .str :: _, [], f, h, _ => by simp [flatC] at h
 | [], _ :: _, f, h, _ => by simp [flatC] at h
 | .int _ :: _, [], f, h, _ => by simp [flatC] at h
 | .bool :: _, [], f, h, _ => by simp [flatC] at h
 | .pt _ _ :: _, [], f, h, _ => by simp [flatC] at h
theorem read_dec {ks : List CK} {b : Nat} {w : World} : ∀ {n o j : Nat}, (∀ i, i < n -> ∃ ck v m, ks[(j + i) % ks.length]? = some ck /\ w.cell? ⟨b, o + i, none⟩ = some v /\ decV ck v = some m) -> ∃ us l, readCells w b o n = some us /\ decVs ks j us = some l
 | 0, o, j, _ => ⟨[], [], rfl, rfl⟩
 | n + 1, o, j, h => by
  obtain ⟨ck, v, m, h1, h2, h3⟩ := h 0 (by omega)
  rw [Nat.add_zero] at h1 h2
  obtain ⟨us, l, g1, g2⟩ := read_dec (ks := ks) (b := b) (w := w) (n := n) (o := o + 1) (j := j + 1) fun i hi => by
   obtain ⟨ck, v, m, h1, h2, h3⟩ := h (i + 1) (by omega)
   exact ⟨ck, v, m, by rw [show j + 1 + i = j + (i + 1) by omega]; exact h1, by rw [show o + 1 + i = o + (i + 1) by omega]; exact h2, h3⟩
  exact ⟨v :: us, m :: l, by simp only [readCells, h2, g1], by simp only [decVs, h1, g2, h3, Option.map_some]⟩
theorem cells?_get {w : World} {base : Nat} {a : Addr} {n : Nat} {cs : List Value} (h : w.cells? base a n = some cs) : ∀ k, k < n -> ∃ v, cs[k]? = some v /\ w.cell? (a.add k) = some v := by
 unfold World.cells? at h
 split at h
 ·intro k hk
  have := mapM_some_get h k k (by simp [hk])
  have hl := mapM_some_length h
  simp at hl
  have hkl : k < cs.length := by omega
  exact ⟨cs[k], List.getElem?_eq_getElem hkl, by rw [this]; exact List.getElem?_eq_getElem hkl⟩
 ·cases h
theorem flatSl_trod {fuel : Nat} {t e : TypeId} {ks : List CK} {v : Value} {x : DataW H × List MemPlace} (ht : P.underlying t = some (.slice e)) (hk : ∀ (n : Nat) (cs : List Value) (x : DataW H × List MemPlace), DataW.trod enc P w base spare held n e cs = some x -> ∃ f, flatC w [] ks cs = some f) (hpl : ks.all ckPlain = true) (hlen : ks.length = P.cellsOf e) (hne : ks ≠ [])
  (h : DataW.trod enc P w base spare held fuel t [v] = some x) : ∃ l n r, flatSl w ks v = some (l, n, r) := by
 rcases DataW.trod_slice ht h with ⟨h1, _⟩ | ⟨a, len, cap, elems, rest, n, rfl, h1, _, _, hl, hc, hlc, hel, _⟩
 ·simp only [List.cons.injEq, and_true] at h1
  subst h1
  exact ⟨[], 0, none, flatSl_0⟩
 ·simp only [List.cons.injEq, and_true] at h1
  subst h1
  have hpos : 0 < ks.length := List.length_pos_iff.2 hne
  by_cases h0 : len = 0
  ·subst h0
   exact ⟨[], 0, none, flatSl_0⟩
  ·-- an element's cells
   have cell : ∀ i, i < len -> ∀ k, k < ks.length -> ∃ ck v m, ks[k]? = some ck /\ w.cell? ((a.add (i * P.cellsOf e)).add k) = some v /\ decV ck v = some m := by
    intro i hi k hkl
    have h2 := hel i hi
    cases hcs : w.cells? base (a.add (i * P.cellsOf e)) (P.cellsOf e) with
    | none =>
     rw [hcs] at h2
     simp only [Option.bind_none] at h2
     have : elems[i]? = none := h2.symm
     rw [List.getElem?_eq_none_iff] at this
     omega
    | some cs =>
     rw [hcs] at h2
     simp only [Option.bind_some] at h2
     have hi' : i < elems.length := by omega
     rw [List.getElem?_eq_getElem hi'] at h2
     obtain ⟨f, hf⟩ := hk _ _ _ h2
     obtain ⟨g1, g2⟩ := flatC_dec hf hpl
     obtain ⟨v, m, g3, g4⟩ := g2 k _ (List.getElem?_eq_getElem hkl)
     obtain ⟨v', g5, g6⟩ := cells?_get hcs k (by omega)
     rw [g3] at g5
     cases g5
     exact ⟨_, v, m, List.getElem?_eq_getElem hkl, g6, g4⟩
   have hspot : a.spot = none := by
    obtain ⟨ck, v, m, _, hv, _⟩ := cell 0 (by omega) 0 hpos
    simp only [Nat.zero_mul, Addr.add, if_true] at hv
    unfold World.cell? at hv
    split at hv
    ·split at hv
     ·cases hv
     ·rename_i hs; simpa using hs
    ·cases hv
   obtain ⟨b, o, sp⟩ := a
   simp only at hspot
   subst hspot
   obtain ⟨us, l, g1, g2⟩ := read_dec (ks := ks) (b := b) (w := w) (n := len * ks.length) (o := o) (j := 0) fun i hi => by
    have hdiv : i / ks.length < len := (Nat.div_lt_iff_lt_mul hpos).2 hi
    have hmod : i % ks.length < ks.length := Nat.mod_lt _ hpos
    obtain ⟨ck, v, m, k1, k2, k3⟩ := cell (i / ks.length) hdiv (i % ks.length) hmod
    refine ⟨ck, v, m, by rw [Nat.zero_add]; exact k1, ?_, k3⟩
    rw [add_lit, add_lit, <- hlen] at k2
    have := Nat.div_add_mod i ks.length
    rw [Nat.mul_comm] at this
    rwa [Nat.add_assoc, this] at k2
   have hin : inR .i64 (len : Int) = true := by
    refine inR_mk ⟨?_, ?_⟩
    ·show -9223372036854775808 <= (len : Int); omega
    ·show (len : Int) <= 9223372036854775807
     unfold maxLen at hc
     omega
   refine ⟨l, len, some { blk := b, off := o, len := len * ks.length, ro := true, sq := some (ks, l) }, ?_⟩
   unfold flatSl
   have : (len == 0) = false := by simpa using h0
   have hblt : Nat.blt cap len = false := by
    cases h : Nat.blt cap len
    ·rfl
    ·rw [Nat.blt_eq] at h; omega
   simp only [hblt, this, Bool.false_eq_true, if_false, hin, if_true, g1, Option.bind_some, g2]

theorem ckOf_flat : ∀ (m : Nat) (n : Nat) (t : TypeId) (l : List CK) (cs : List Value) (x : DataW H × List MemPlace), ckOf P m t = some l -> DataW.trod enc P w base spare held n t cs = some x -> ∃ f, flatC w [] l cs = some f
 | 0, n, t, l, cs, x, h, _ => by simp [ckOf] at h
 | m + 1, n, t, l, cs, x, h, hx => by
  unfold ckOf at h
  split at h
  ·rename_i ht
   simp only [zO] at h
   subst h
   obtain ⟨b, rfl, _⟩ := DataW.trod_bool ht hx
   exact ⟨_, rfl⟩
  ·rename_i k ht
   simp only [zO] at h
   subst h
   obtain ⟨v, rfl, _, hwf⟩ := DataW.trod_int ht hx
   refine ⟨([v], []), ?_⟩
   have : inR k v = true := by simpa [Lit.wf, inR] using hwf
   simp [flatC, this]
  ·rename_i ht
   simp only [zO] at h
   subst h
   obtain ⟨s, rfl, _, hs⟩ := DataW.trod_string ht hx
   have : inR .i64 (s.size : Int) = true := by
    refine inR_mk ⟨?_, ?_⟩
    ·show -9223372036854775808 <= (s.size : Int); omega
    ·show (s.size : Int) <= 9223372036854775807
     unfold maxLen at hs
     omega
   exact ⟨([encS s], []), by simp [flatC, this]⟩
  ·rename_i e ht
   split at h
   ·rename_i ks hks
    split at h
    ·rename_i hc
     simp only [Bool.and_eq_true, beq_iff_eq, Bool.not_eq_true', List.isEmpty_eq_false_iff] at hc
     simp only [zO] at h
     subst h
     have hcs : ∃ v, cs = [v] := by
      rcases DataW.trod_slice ht hx with ⟨h1, _⟩ | ⟨_, _, _, _, _, _, _, h1, _⟩ <;> exact ⟨_, h1⟩
     obtain ⟨v, rfl⟩ := hcs
     obtain ⟨l, m, q, hq⟩ := flatSl_trod ht (fun n' cs x hx => ckOf_flat m n' e ks cs x hks hx) hc.2 hc.1.1 hc.1.2 hx
     exact ⟨(Sx.enc l :: m :: [], []), by simp [flatC, hq]⟩
    ·cases h
   ·cases h
  ·rename_i fs ht
   split at h
   ·rename_i l' hl
    split at h
    ·rename_i hlen
     simp only [beq_iff_eq] at hlen
     simp only [zO] at h
     subst h
     obtain ⟨xs, n', rfl, _, hcs, hxl, hf⟩ := DataW.trod_struct ht hx
     have := ckFields_flat (cs := cs) (fun t l cs x h1 h2 => ckOf_flat m n' t l cs x h1 h2) hl (fun f hm => by
      obtain ⟨i, hi⟩ := List.getElem?_of_mem hm
      have hi' : fs[i]? = some f := by simpa using hi
      have := hf i f hi'
      have hlt : i < xs.length := by rw [hxl]; exact (Array.getElem?_eq_some_iff.1 hi').1
      exact ⟨xs[i], by rw [this]; exact List.getElem?_eq_getElem hlt⟩)
     simpa [hlen, <- hcs] using this
    ·cases h
   ·cases h
  ·rename_i k e ht
   split at h
   ·rename_i l' hl
    split at h
    ·rename_i hc
     simp only [Bool.and_eq_true, beq_iff_eq] at hc
     simp only [zO] at h
     subst h
     obtain ⟨xs, n', rfl, _, hcs, hxl, hf⟩ := DataW.trod_array ht hx
     have := repCK_flat (l := l') (cs := cs) (m := k) (off := 0) (fun i hi => by
      have h1 := hf i hi
      have hlt : i < xs.length := by omega
      rw [List.getElem?_eq_getElem hlt] at h1
      rw [Nat.zero_add, hc.1]
      exact ckOf_flat m n' e l' _ _ hl h1)
     rw [hc.2, <- hcs] at this
     simpa using this
    ·cases h
   ·cases h
  ·cases h

theorem shOf_flat {r : Reach} {b0 : Nat} {t : TypeId} {s : Sh} {v : Value} {d : DataW H} {p : List MemPlace} (h : shOf P t = some s) (hv : Value.okWide P w r b0 t v) (hd : DataW.Trod enc P w base spare held t v d p) : ∃ agg l f, s = .val agg l /\ flat1 w [] agg l v = some f := by
 obtain ⟨n, hn⟩ := hd
 unfold shOf at h
 split at h
 ·rename_i ht
  simp only [zO] at h
  subst h
  obtain ⟨b, rfl⟩ := okWide_bool ht hv
  exact ⟨_, _, _, rfl, rfl⟩
 ·rename_i k ht
  simp only [zO] at h
  subst h
  obtain ⟨m, rfl⟩ := okWide_int ht hv
  obtain ⟨m', hm, _, hwf⟩ := DataW.trod_int ht hn
  have e : m = m' := by simpa [Value.cells] using hm
  subst e
  have : inR k m = true := by simpa [Lit.wf, inR] using hwf
  exact ⟨_, _, ([m], []), rfl, by simp [flat1, flatC, this]⟩
 ·rename_i fs ht
  cases hc : ckOf P 8 t with
  | none => rw [hc] at h; cases h
  | some l =>
   rw [hc] at h
   simp only [Option.map_some, zO] at h
   subst h
   obtain ⟨cs, rfl, _⟩ := okWide_struct ht hv
   obtain ⟨f, hf⟩ := ckOf_flat 8 _ _ _ _ _ hc hn
   exact ⟨_, _, f, rfl, hf⟩
 ·rename_i k e ht
  cases hc : ckOf P 8 t with
  | none => rw [hc] at h; cases h
  | some l =>
   rw [hc] at h
   simp only [Option.map_some, zO] at h
   subst h
   obtain ⟨f, hf⟩ := ckOf_flat 8 _ _ _ _ _ hc hn
   obtain ⟨_, _, _, _, hcs, _⟩ := DataW.trod_array ht hn
   have hagg : ∃ cs, v = .agg cs := by
    simp only [Value.okWide, ht] at hv
    obtain ⟨cs, h1, _⟩ := hv
    exact ⟨cs, h1⟩
   obtain ⟨cs, rfl⟩ := hagg
   exact ⟨_, _, f, rfl, hf⟩
 ·rename_i ht
  simp only [zO] at h
  subst h
  obtain ⟨s, hs, _, hm⟩ := DataW.trod_string ht hn
  have hv' : ∃ s, v = .string s := by
   cases v <;> simp_all [Value.okWide, Value.cells, Cell.okWide, Cell.ok]
  obtain ⟨s', rfl⟩ := hv'
  have e : s' = s := by simpa [Value.cells] using hs
  subst e
  have : inR .i64 (s'.size : Int) = true := by
   refine inR_mk ⟨?_, ?_⟩
   ·show -9223372036854775808 <= (s'.size : Int); omega
   ·show (s'.size : Int) <= 9223372036854775807
    unfold maxLen at hm
    omega
  exact ⟨_, _, ([encS s'], []), rfl, by simp [flat1, flatC, this]⟩
 ·rename_i e ht
  cases hc : ckOf P 8 t with
  | none => rw [hc] at h; cases h
  | some l =>
   rw [hc] at h
   simp only [Option.map_some, zO] at h
   subst h
   obtain ⟨a, len, cap, rfl⟩ := okWide_slice ht hv
   obtain ⟨f, hf⟩ := ckOf_flat 8 _ _ _ _ _ hc hn
   refine ⟨_, _, f, rfl, ?_⟩
   have hl : ∃ ck, l = [ck] := by
    unfold ckOf at hc
    simp only [ht] at hc
    split at hc
    ·split at hc
     ·simp only [zO] at hc; exact ⟨_, hc.symm⟩
     ·cases hc
    ·cases hc
   obtain ⟨ck, rfl⟩ := hl
   simpa [flat1, Value.cells] using hf
 ·cases h

theorem flat_of_trod {r : Reach} {b0 : Nat} : ∀ {ts : List TypeId} {ss : List Sh} {vs : List Value} {ds : List (DataW H)} {p : List MemPlace}, shsOf P ts = some ss -> (∀ (j : Nat) t v, ts[j]? = some t -> vs[j]? = some v -> Value.okWide P w r b0 t v) ->
  DataW.TrodAll enc P w base spare held ts vs ds p -> ∃ is bs, flatArgs ss vs w = some (is, bs, []) /\ ptrShapes ss = []
 | [], ss, vs, ds, p, h, _, hA => by
  simp only [shsOf, zO] at h
  subst h
  obtain ⟨rfl, _, _⟩ := trodAll_nil hA
  exact ⟨[], [], rfl, rfl⟩
 | t :: ts, ss, vs, ds, p, h, hv, hA => by
  unfold shsOf at h
  split at h
  ·rename_i s ss' hs hss
   simp only [zO] at h
   subst h
   obtain ⟨v, vs', d, ds', p', q, rfl, rfl, rfl, h1, h2⟩ := trodAll_cons hA
   obtain ⟨is, bs, hr, hp⟩ := flat_of_trod hss (fun j t v hj hvj => hv (j + 1) t v (by simpa using hj) (by simpa using hvj)) h2
   obtain ⟨agg, l, f, rfl, hf⟩ := shOf_flat hs (hv 0 t v (by simp) (by simp)) h1
   refine ⟨f.1 ++ is, f.2 ++ bs, ?_, hp⟩
   simp only [flatArgs, hf, hr]
  ·cases h

theorem trodAll_len : ∀ {ts : List TypeId} {vs : List Value} {ds : List (DataW H)} {p : List MemPlace}, DataW.TrodAll enc P w base spare held ts vs ds p -> vs.length = ts.length /\ ds.length = ts.length
 | [], vs, ds, p, h => by obtain ⟨rfl, rfl, _⟩ := trodAll_nil h; exact ⟨rfl, rfl⟩
 | t :: ts, vs, ds, p, h => by
  obtain ⟨v, vs', d, ds', p', q, rfl, rfl, rfl, _, h2⟩ := trodAll_cons h
  have := trodAll_len h2
  simp [this.1, this.2]
theorem trodAll_stays (hl : laidOutB P = true) {W W' : World} {sp' : Nat -> Bool} : ∀ {ts : List TypeId} {vs : List Value} {ds : List (DataW H)} {ps : List MemPlace}, (∀ t, t ∈ ts -> P.readableRec t = true /\ t < P.types.size) ->
  DataW.TrodAll enc P W base (fun _ => true) true ts vs ds ps -> (∀ p ∈ ps, W.sameAt W' p) -> (∀ p ∈ ps, sp' p.block = true) -> DataW.TrodAll enc P W' base sp' true ts vs ds ps
 | [], vs, ds, ps, _, h, _, _ => by obtain ⟨rfl, rfl, rfl⟩ := trodAll_nil h; exact trodAll_mk0
 | t :: ts, vs, ds, ps, hr, h, hs, hp => by
  obtain ⟨v, vs', d, ds', p', q, rfl, rfl, rfl, h1, h2⟩ := trodAll_cons h
  obtain ⟨hr1, hr2⟩ := hr t (by simp)
  exact trodAll_cons_mk (WideElems.Trod_stays hl hr1 hr2 h1 (fun p hm => hs p (by simp [hm])) (fun p hm => hp p (by simp [hm])))
   (trodAll_stays hl (fun t hm => hr t (by simp [hm])) h2 (fun p hm => hs p (by simp [hm])) (fun p hm => hp p (by simp [hm])))
end

def inCK : CK -> Int -> Prop
 | .int k, m => InR k m
 | .bool, m => m = 0 \/ m = 1
 | .pt _ _, _ => False
 | .str, m => ∃ s : ByteArray, m = encS s /\ InR .i64 s.size
 | .sl _, _ => False
def slRng (ks : List CK) (q n : Int) : Prop := 0 <= n /\ n <= 9223372036854775807 /\ ∃ l, q = enc l /\ l.length = n.toNat * ks.length /\ ∀ (j : Nat) (m : Int), l[j]? = some m -> ∃ ck, ks[j % ks.length]? = some ck /\ inCK ck m
def rngC : List CK -> List Int -> Prop
 | [], [] => True
 | .int k :: l, n :: is => (k.min <= n /\ n <= k.max) /\ rngC l is
 | .bool :: l, is => rngC l is
 | .pt _ _ :: l, is => rngC l is
 | .str :: l, n :: is => (∃ s : ByteArray, n = encS s /\ InR .i64 s.size) /\ rngC l is
 | .sl ks :: l, q :: n :: is => slRng ks q n /\ rngC l is
 | _, _ => False
def rngK : List CK -> (List Int -> Prop) -> List Int -> Prop
 | [], k, is => k is
 | .int kd :: l, k, n :: is => (kd.min <= n /\ n <= kd.max) /\ rngK l k is
 | .int _ :: _, _, [] => False
 | .bool :: l, k, is => rngK l k is
 | .pt _ _ :: l, k, is => rngK l k is
 | .str :: l, k, n :: is => (∃ s : ByteArray, n = encS s /\ InR .i64 s.size) /\ rngK l k is
 | .str :: _, _, [] => False
 | .sl ks :: l, k, q :: n :: is => slRng ks q n /\ rngK l k is
 | .sl _ :: _, _, [] => False
 | .sl _ :: _, _, [_] => False
def rngA : List Sh -> List Int -> Prop
 | [], is => is = []
 | .val _ l :: ss, is => rngK l (rngA ss) is
 | .ptr l :: ss, is => rngK l (rngA ss) is
theorem rngK_of {k : List Int -> Prop} : ∀ {l : List CK} {i1 i2 : List Int}, rngC l i1 -> k i2 -> rngK l k (i1 ++ i2)
 | [], [], i2, _, h => h
 | .int kd :: l, n :: i1, i2, h1, h2 => ⟨h1.1, rngK_of h1.2 h2⟩
 | .bool :: l, i1, i2, h1, h2 => rngK_of (l := l) (by cases i1 <;> exact h1) h2
 | .pt _ _ :: l, i1, i2, h1, h2 => rngK_of (l := l) (by cases i1 <;> exact h1) h2
 | .str :: l, n :: i1, i2, h1, h2 => ⟨h1.1, rngK_of h1.2 h2⟩
 | .sl ks :: l, q :: n :: i1, i2, h1, h2 => ⟨h1.1, rngK_of h1.2 h2⟩
 | .sl _ :: _, [], _, h, _ => h.elim
 | .sl _ :: _, [_], _, h, _ => h.elim
 | .str :: _, [], _, h, _ => h.elim
 | [], _ :: _, _, h, _ => h.elim
 | .int _ :: _, [], _, h, _ => h.elim
theorem flatSl_rng {w : World} {ks : List CK} {v : Value} {l : List Int} {n : Int} {r : Option Rg} (h : flatSl w ks v = some (l, n, r)) : slRng ks (enc l) n := by
 unfold flatSl at h
 split at h
 ·rename_i p len cap
  split at h
  ·cases h
  split at h
  ·simp only [zO, zP] at h
   obtain ⟨rfl, rfl, rfl⟩ := h
   exact ⟨by omega, by omega, [], rfl, by simp, fun j m hj => by simp at hj⟩
  ·split at h
   ·rename_i b o
    split at h
    ·rename_i hin
     split at h
     ·rename_i l' hl
      simp only [zO, zP] at h
      obtain ⟨rfl, rfl, rfl⟩ := h
      cases hrd : readCells w b o (len * ks.length) with
      | none => rw [hrd] at hl; simp at hl
      | some us =>
       rw [hrd] at hl
       simp only [Option.bind_some] at hl
       obtain ⟨g1, g2⟩ := readCells_get hrd
       obtain ⟨g3, g4⟩ := seq_of_read (b := b) (o := o) (w := w) hl g2
       refine ⟨by omega, (inR_spec hin).2, l', rfl, by rw [Int.toNat_natCast]; omega, fun j m hj => ?_⟩
       obtain ⟨ck, v, k1, k2, k3⟩ := g4 j m hj
       refine ⟨ck, by simpa using k1, ?_⟩
       cases ck with
       | int k => exact k3.2
       | bool => exact k3.1
       | str => obtain ⟨s, _, k4, k5⟩ := k3; exact ⟨s, k4, k5⟩
       | pt _ _ => exact k3
       | sl _ => exact k3
     ·cases h
    ·cases h
   ·cases h
 ·cases h
theorem flatC_rng {w : World} {ps : List Rg} : ∀ {l : List CK} {vs : List Value} {f : Fl}, flatC w ps l vs = some f -> rngC l f.1
 | [], [], f, h => by simp only [flatC, zO] at h; subst h; trivial
 | .int k :: l, v :: vs, f, h => by
  unfold flatC at h
  split at h
  ·rename_i k' n is bs hv
   split at h
   ·rename_i hc
    simp only [zO] at h
    subst h
    simp only [Bool.and_eq_true, beq_iff_eq] at hc
    have h2 := hc.2
    simp only [inR, Bool.and_eq_true, decide_eq_true_eq] at h2
    exact ⟨h2, flatC_rng hv⟩
   ·cases h
  ·cases h
 | .bool :: l, v :: vs, f, h => by
  unfold flatC at h
  split at h
  ·rename_i b is bs hv
   simp only [zO] at h
   subst h
   have := flatC_rng hv
   cases is <;> exact this
  ·cases h
 | .pt k o :: l, v :: vs, f, h => by
  unfold flatC at h
  split at h
  ·rename_i a r is bs hr hv
   split at h
   ·simp only [zO] at h
    subst h
    have := flatC_rng hv
    cases is <;> exact this
   ·cases h
  ·cases h
 | .str :: l, v :: vs, f, h => by
  unfold flatC at h
  split at h
  ·rename_i s is bs hv
   split at h
   ·rename_i hc
    simp only [zO] at h
    subst h
    exact ⟨⟨s, rfl, inR_spec hc⟩, flatC_rng hv⟩
   ·cases h
  ·cases h
 | .sl ks :: l, v :: vs, f, h => by
  unfold flatC at h
  split at h
  ·rename_i q n r is bs hs hv
   simp only [zO] at h
   subst h
   exact ⟨flatSl_rng hs, flatC_rng hv⟩
  ·cases h
 | .sl _ :: _, [], _, h => by simp [flatC] at h
 | .str :: _, [], _, h => by simp [flatC] at h
 | [], _ :: _, _, h => by simp [flatC] at h
 | .int _ :: _, [], _, h => by simp [flatC] at h
 | .bool :: _, [], _, h => by simp [flatC] at h
 | .pt _ _ :: _, [], _, h => by simp [flatC] at h
theorem flatArgs_rng {w : World} : ∀ {ss : List Sh} {vs : List Value} {is : List Int} {bs : List Bool} {ps : List Rg}, flatArgs ss vs w = some (is, bs, ps) -> rngA ss is
 | [], [], is, bs, ps, h => by
  simp only [flatArgs, zO, zP] at h
  exact h.1.symm
 | .val agg l :: ss, v :: vs, is, bs, ps, h => by
  unfold flatArgs at h
  split at h
  ·rename_i i b is' bs' ps' h1 h2
   simp only [zO, zP] at h
   obtain ⟨rfl, _⟩ := h
   obtain ⟨us, hf, _⟩ := flat1_inv h1
   exact rngK_of (flatC_rng hf) (flatArgs_rng h2)
  ·cases h
 | .ptr l :: ss, v :: vs, is, bs, ps, h => by
  unfold flatArgs at h
  split at h
  ·rename_i b o is' bs' ps' h2
   split at h
   ·rename_i i bb h1
    simp only [zO, zP] at h
    obtain ⟨rfl, _⟩ := h
    cases hr : readCells w b o l.length with
    | none => rw [hr] at h1; simp at h1
    | some us =>
     rw [hr] at h1
     simp only [Option.bind_some] at h1
     exact rngK_of (flatC_rng h1) (flatArgs_rng h2)
   ·cases h
  ·cases h
 | [], _ :: _, _, _, _, h => by simp [flatArgs] at h
 | .val _ _ :: _, [], _, _, _, h => by simp [flatArgs] at h
 | .ptr _ :: _, [], _, _, _, h => by simp [flatArgs] at h
theorem len_cons {α : Type} {l : List α} {n : Nat} (h : l.length = n + 1) : ∃ a t, l = a :: t /\ t.length = n := by
 cases l with
 | nil => simp at h
 | cons a t => exact ⟨a, t, rfl, by simpa using h⟩
theorem len_nil {α : Type} {l : List α} (h : l.length = 0) : l = [] := List.eq_nil_of_length_eq_zero h
theorem Keep.sameAt {w w' : World} (h : Keep [] w w') {p : MemPlace} (hp : p.block < w.heap.size) : w.sameAt w' p := by
 cases p with
 | cell b off => exact h.cell ⟨b, off, none⟩ hp fun r hr => by cases hr
 | map b => exact h.blk b hp fun r hr => by cases hr
theorem Keep.keptBut {w w' : World} (h : Keep [] w w') (may : MemPlace -> Prop) : w.keptBut w' may := by
 refine ⟨h.os, h.output, fun i hi => ?_⟩
 rw [h.blk i hi fun r hr => by cases hr]
 cases hw : w.heap[i]? with
 | none => trivial
 | some o =>
  cases o <;> simp

theorem law_post {P : Program} {fn : Func} {s : ChangeSpec} {H : Type} {enc : TypeId × Value -> H} {W W' : World} {args : Array Value} {ds gs : List (DataW H)} {before p : List MemPlace} (hl : laidOutB P = true) (hpar : ∀ t, t ∈ fn.params.toList -> P.readableRec t = true /\ t < P.types.size)
  {tb : TypeId} (hres : fn.resultTypes = #[tb]) (hb : P.underlying tb = some .bool) (hvars : s.vars = []) (hW : DataW.Whole enc P fn.params.toList s.vars false W args.toList ds gs before) (hA : DataW.TrodAll enc P W 0 (fun _ => true) true fn.params.toList args.toList ds p) (hbe : before = p) (hgs : gs = [])
  (hfn : s.fn H (ds ++ []) = { results := [.lit (.bool true)], args := ds }) (hk : Keep [] W W') : s.post enc P fn false true false false W args (.bool true) W' := by
 subst hbe hgs
 have hlt : ∀ x ∈ before, x.block < W.heap.size := fun x hx => hW.lt x hx
 have hsame : ∀ x ∈ before, W.sameAt W' x := fun x hx => hk.sameAt (hlt x hx)
 refine ⟨ds, [], before, [], before, [], hW, ?_, ?_, ?_, ?_, fun h => by cases h⟩
 ·rw [hfn, hres]
  exact trodAll_mk1 (shut_bool hb true)
 ·rw [hfn]
  exact trodAll_stays hl hpar hA hsame (fun x hx => by simpa using hlt x hx)
 ·rw [hvars, hfn]
  rfl
 ·exact hk.keptBut _
end Go.Proofs.YtghlmhlamoagoaaGreat.Sx
namespace Go.Proofs.YtghlmhlamoagoaaGreat.Fl
open Go Go.Proofs Go.Proofs.YtghlmhlamoagoaaGreat.Sx
instance (n : Nat) : OfNat A n := ⟨.v n⟩
instance (n : Nat) : OfNat B n := ⟨.v n⟩
def cp : List CK := [(.int .u8), .bool, (.int .u8), .bool, (.int .u8), .bool, (.int .u8), .bool, (.int .u8), (.int .u8), (.int .u16), .bool, (.int .u8), (.int .i64), (.int .u16), .bool, (.int .u8), .bool, .bool, (.int .i64), .bool, .bool, (.int .i64), .bool, .bool]
def wk : List CK := [(.int .u8), .bool, (.int .u8), .bool, (.int .u8), .bool, (.int .u8), .bool, (.int .u8), (.int .u8), (.int .u16), .bool, (.int .u8), (.int .i64), (.int .u16), .bool, (.int .u8), .bool, .bool, (.int .i64), .bool, .bool, (.int .i64), .bool, .bool, .str, (.int .i64), (.int .i64), (.int .i64), .bool, .bool]
abbrev Tb := List (Nat × Sum × Fun)
abbrev Ct (m : Int) (f : Nat) (s : Sum) (F : Fun) := Contract Tryz.prog (gl m) f s F
abbrev Ok (m : Int) (T : Tb) := AllOk Tryz.prog (tabF T) (gl m) (tabS T)
theorem ac {m : Int} {f : Nat} {fn : Func} {s : Sum} {F : Fun} {T : Tb} (hf : Tryz.prog.funcs[f]? = some fn) (h1 : (fn.name == "runtime.NumGoroutine") = false) (h2 : fn.body.isNone = false) (hc : Ct m f s F) (hs : s.sl = none /\ s.inl = none) (hA : Ok m T) : Ok m ((f, s, F) :: T) :=
 AllOk.cons (s := s) (by rw [hs.1]; exact hc) (callable_of hf h1 h2) (fun S h => by rw [hs.2] at h; cases h) hA
theorem aci {m : Int} {f : Nat} {fn : Func} {s : Sum} {F : Fun} {T : Tb} (hf : Tryz.prog.funcs[f]? = some fn) (h1 : (fn.name == "runtime.NumGoroutine") = false) (h2 : fn.body.isNone = false) (hc : Ct m f s F) (hi : ∀ S, s.inl = some S -> s.pre = false /\ ∀ is bs, F is bs = S.run Fun0 false is bs) (hs : s.sl = none) (hA : Ok m T) : Ok m ((f, s, F) :: T) :=
 AllOk.cons (s := s) (by rw [hs]; exact hc) (callable_of hf h1 h2) hi hA
variable {m : Int}

def sh41r : Go.Shelf.Ren := ⟨fun | 41 => 45 | n => n, fun | 4 => 4 | 22 => 29 | 23 => 23 | 3 => 3 | n => n, fun | n => n⟩
theorem sh41 : SlLaysE0.n41 Tryz.prog sh41r := {
 mixed := by kernel_rfl
 f41 := ⟨Tryz.f45.name, by decide, Tryz.func45.trans (congrArg some (by kernel_rfl))⟩
 t4 := Tryz.underlying4
 a4 := Tryz.isAgg4
 z4 := Tryz.sizeOf4
 v4 := Tryz.zeroValue4
 t22 := Tryz.underlying29
 a22 := Tryz.isAgg29
 z22 := Tryz.sizeOf29
 v22 := Tryz.zeroValue29 }
def inl : List Nat := [137, 106, 172, 183, 105, 174, 37, 38, 39, 41, 113, 159, 180, 26, 27, 28, 46]
theorem inl_ok : nameOk Tryz.prog inl = true := by kernel_rfl
theorem call45 : ∀ args w, (callFunc 45 args).run Tryz.prog w = .ok (.enter 45 args) w := callable_of Tryz.func45 (by kernel_rfl) (by kernel_rfl)
noncomputable def hC (m : Int) (X : Sums) : Hnd := hndI Tryz.prog (gl m) inl (cloneH Tryz.prog 45 29 (hnd0 X)) 12
theorem hC_ok {Φ : Funs} {X : Sums} (hX : AllOk Tryz.prog Φ (gl m) X) : HOk Tryz.prog Φ (gl m) (hC m X) := hndI_ok (cloneH_ok (r := sh41r) (hnd0_ok hX) sh41 call45) inl_ok 12
noncomputable def hCv (m : Int) (l : List (Nat × Int)) (X : Sums) : Hnd := hndI Tryz.prog (gl m) inl (asH l (cloneH Tryz.prog 45 29 (hnd0 X))) 12
theorem hCv_ok (l : List (Nat × Int)) {Φ : Funs} {X : Sums} (hX : AllOk Tryz.prog Φ (gl m) X) : HOk Tryz.prog Φ (gl m) (hCv m l X) := hndI_ok (asH_ok (cloneH_ok (r := sh41r) (hnd0_ok hX) sh41 call45) l) inl_ok 12
noncomputable def T0 : List (Nat × Sum × Fun) := []
theorem A0 : AllOk Tryz.prog (tabF T0) (gl m) (tabS T0) := AllOk.nil
def s49 : Sum := { args := [(.val false [(.int .u64)])], tup := false, res := [(false, [(.int .i64)])], pre := false }
def S49 : Smry := (.mk [(.di 1 (.ar .shr .u64 0 (.c 1))), (.di 2 (.ar .and .u64 1 (.c 6148914691236517205))), (.di 3 (.ar .and .u64 0 (.c 6148914691236517205))), (.di 4 (.ar .add .u64 2 3)), (.di 5 (.ar .shr .u64 4 (.c 2))), (.di 6 (.ar .and .u64 5 (.c 3689348814741910323))), (.di 7 (.ar .and .u64 4 (.c 3689348814741910323))), (.di 8 (.ar .add .u64 6 7)), (.di 9 (.ar .shr .u64 8 (.c 4))), (.di 10 (.ar .add .u64 9 8)), (.di 11 (.ar .and .u64 10 (.c 1085102592571150095))), (.di 12 (.ar .shr .u64 11 (.c 8))), (.di 13 (.ar .add .u64 11 12)), (.di 14 (.ar .shr .u64 13 (.c 16))), (.di 15 (.ar .add .u64 13 14)), (.di 16 (.ar .shr .u64 15 (.c 32))), (.di 17 (.ar .add .u64 15 16)), (.di 18 (.cv .i64 17)), (.di 19 (.ar .and .i64 18 (.c 127)))] [19] [])
noncomputable def F49 : Fun := S49.run (tabF T0) false
theorem c49 : Ct m 49 s49 F49 := contract_of (hC_ok A0) Tryz.func49 (k := (ctlOf Tryz.f49 (gl m) s49)) (LoopsOk.nil rfl) (by kernel_rfl) (by kernel_rfl)
noncomputable def T1 : Tb := (49, withInl s49 S49, F49) :: T0
theorem A1 : Ok m T1 := aci Tryz.func49 (by kernel_rfl) (by kernel_rfl) c49 (fun S h => by cases h; exact ⟨rfl, fun _ _ => rfl⟩) rfl A0
def s29 : Sum := { args := [(.val false [(.int .u64)])], tup := false, res := [(false, [(.int .i64)])], pre := false }
def S29 : Smry := (.mk [(.di 1 (.ar .shr .u64 0 (.c 1))), (.di 2 (.ar .and .u64 1 (.c 6148914691236517205))), (.di 3 (.ar .and .u64 0 (.c 6148914691236517205))), (.di 4 (.ar .add .u64 2 3)), (.di 5 (.ar .shr .u64 4 (.c 2))), (.di 6 (.ar .and .u64 5 (.c 3689348814741910323))), (.di 7 (.ar .and .u64 4 (.c 3689348814741910323))), (.di 8 (.ar .add .u64 6 7)), (.di 9 (.ar .shr .u64 8 (.c 4))), (.di 10 (.ar .add .u64 9 8)), (.di 11 (.ar .and .u64 10 (.c 1085102592571150095))), (.di 12 (.ar .shr .u64 11 (.c 8))), (.di 13 (.ar .add .u64 11 12)), (.di 14 (.ar .shr .u64 13 (.c 16))), (.di 15 (.ar .add .u64 13 14)), (.di 16 (.ar .shr .u64 15 (.c 32))), (.di 17 (.ar .add .u64 15 16)), (.di 18 (.cv .i64 17)), (.di 19 (.ar .and .i64 18 (.c 127)))] [19] [])
noncomputable def F29 : Fun := S29.run (tabF T1) false
theorem c29 : Ct m 29 s29 F29 := contract_of (hC_ok A1) Tryz.func29 (k := (ctlOf Tryz.f29 (gl m) s29)) (LoopsOk.nil rfl) (by kernel_rfl) (by kernel_rfl)
noncomputable def T2 : Tb := (29, withInl s29 S29, F29) :: T1
theorem A2 : Ok m T2 := aci Tryz.func29 (by kernel_rfl) (by kernel_rfl) c29 (fun S h => by cases h; exact ⟨rfl, fun _ _ => rfl⟩) rfl A1
def s16 : Sum := { args := [(.val false [(.sl [(.int .u8), .bool])])], tup := false, res := [(false, [(.int .i64)])], pre := false }
def S16 : Smry := (.mk [(.db 0 (.cm .lss 1 (.c 256))), (.db 1 (.cm .gtr 1 (.c 65536))), (.db 2 (.or 0 1)), (.di 2 (.cv .u64 1)), (.di 3 (.ar .shr .u64 2 (.c 1))), (.di 4 (.ar .and .u64 3 (.c 6148914691236517205))), (.di 5 (.ar .and .u64 2 (.c 6148914691236517205))), (.di 6 (.ar .add .u64 4 5)), (.di 7 (.ar .shr .u64 6 (.c 2))), (.di 8 (.ar .and .u64 7 (.c 3689348814741910323))), (.di 9 (.ar .and .u64 6 (.c 3689348814741910323))), (.di 10 (.ar .add .u64 8 9)), (.di 11 (.ar .shr .u64 10 (.c 4))), (.di 12 (.ar .add .u64 11 10)), (.di 13 (.ar .and .u64 12 (.c 1085102592571150095))), (.di 14 (.ar .shr .u64 13 (.c 8))), (.di 15 (.ar .add .u64 13 14)), (.di 16 (.ar .shr .u64 15 (.c 16))), (.di 17 (.ar .add .u64 15 16)), (.di 18 (.ar .shr .u64 17 (.c 32))), (.di 19 (.ar .add .u64 17 18)), (.di 20 (.cv .i64 19)), (.di 21 (.ar .and .i64 20 (.c 127))), (.db 3 (.cm .neq 21 (.c 1))), (.db 4 (.or 2 3)), (.db 5 (.not 4)), (.di 22 (.ite 5 (.c 0) (.c 1)))] [22] [])
noncomputable def F16 : Fun := S16.run (tabF T2) false
theorem c16 : Ct m 16 s16 F16 := contract_of (hC_ok A2) Tryz.func16 (k := (ctlOf Tryz.f16 (gl m) s16)) (LoopsOk.nil rfl) (by kernel_rfl) (by kernel_rfl)
noncomputable def T3 : Tb := (16, s16, F16) :: T2
theorem A3 : Ok m T3 := ac Tryz.func16 (by kernel_rfl) (by kernel_rfl) c16 ⟨rfl, rfl⟩ A2
noncomputable def T4 : Tb := (35, s35, F35) :: T3
theorem A4 : Ok m T4 := ac Tryz.func35 (by kernel_rfl) (by kernel_rfl) c35 ⟨rfl, rfl⟩ A3
def s36 : Sum := { args := [(.val true [(.int .u8), (.int .u8)])], tup := false, res := [(true, [(.int .u8), (.int .u8)])], pre := false }
def S36 : Smry := (.mk [(.di 2 (.ar .and .u8 0 (.c 207))), (.di 3 (.ar .and .u8 1 (.c 207)))] [2, 3] [])
noncomputable def F36 : Fun := S36.run (tabF T4) false
theorem c36 : Ct m 36 s36 F36 := contract_of (hC_ok A4) Tryz.func36 (k := (ctlOf Tryz.f36 (gl m) s36)) (LoopsOk.nil rfl) (by kernel_rfl) (by kernel_rfl)
noncomputable def T5 : Tb := (36, withInl s36 S36, F36) :: T4
theorem A5 : Ok m T5 := aci Tryz.func36 (by kernel_rfl) (by kernel_rfl) c36 (fun S h => by cases h; exact ⟨rfl, fun _ _ => rfl⟩) rfl A4
def s21 : Sum := { args := [(.val true cp)], tup := false, res := [(false, [(.int .i64)])], pre := false }
def S21 : Smry := (.mk [(.call 35 [(.v 7)] [] 13 4 12 2), (.db 14 (.cm .eql (.v 14) (.c 11))), (.di 17 (.ar .add .i64 (.v 16) (.c 2))), (.di 18 (.ar .add .i64 (.v 16) (.c 1))), (.db 15 (.cm .eql (.v 14) (.c 20))), (.di 19 (.ite (.v 15) (.c 2) (.v 16))), (.di 20 (.ite (.v 12) (.v 18) (.v 19))), (.di 21 (.ite (.v 14) (.v 17) (.v 20))), (.db 16 (.cm .lss (.v 8) (.c 0))), (.db 17 (.cm .gtr (.v 8) (.c 0))), (.db 18 (.cm .geq (.v 8) (.v 21))), (.db 19 (.and (.v 17) (.v 18))), (.db 20 (.or (.v 16) (.v 19))), (.db 21 (.cm .lss (.v 11) (.c 0))), (.db 22 (.or (.v 20) (.v 21))), (.db 23 (.cm .gtr (.v 11) (.c 3))), (.db 24 (.or (.v 22) (.v 23))), (.db 25 (.cm .lss (.v 12) (.c 0))), (.db 26 (.or (.v 24) (.v 25))), (.db 27 (.cm .gtr (.v 12) (.c 2))), (.db 28 (.or (.v 26) (.v 27))), (.di 22 (.ar .and .u8 (.v 4) (.c 207))), (.di 23 (.ar .and .u8 (.v 5) (.c 207))), (.db 29 (.cm .eql (.v 22) (.v 4))), (.db 30 (.cm .eql (.v 23) (.v 5))), (.db 31 (.and (.v 29) (.v 30))), (.db 32 (.not (.v 31))), (.db 33 (.or (.v 28) (.v 32))), (.db 34 (.not (.v 33))), (.di 24 (.ite (.v 34) (.c 0) (.c 1)))] [(.v 24)] [])
noncomputable def F21 : Fun := S21.run (tabF T5) false
theorem c21 : Ct m 21 s21 F21 := contract_of (hC_ok A5) Tryz.func21 (k := (ctlOf Tryz.f21 (gl m) s21)) (LoopsOk.nil rfl) (by kernel_rfl) (by kernel_rfl)
noncomputable def T6 : Tb := (21, s21, F21) :: T5
theorem A6 : Ok m T6 := ac Tryz.func21 (by kernel_rfl) (by kernel_rfl) c21 ⟨rfl, rfl⟩ A5
def s69 : Sum := { args := [(.val false [(.int .u16)]), (.val false [.bool])], tup := true, res := [(true, [(.int .u8), .bool]), (true, [(.int .u8), .bool])], pre := false }
def S69 : Smry := (.mk [(.di 1 (.cv .u8 0)), (.di 2 (.ar .shr .u16 0 (.c 8))), (.di 3 (.cv .u8 2))] [1, 3] [0, 0])
noncomputable def F69 : Fun := S69.run (tabF T6) false
theorem c69 : Ct m 69 s69 F69 := contract_of (hC_ok A6) Tryz.func69 (k := (ctlOf Tryz.f69 (gl m) s69)) (LoopsOk.nil rfl) (by kernel_rfl) (by kernel_rfl)
noncomputable def T7 : Tb := (69, withInl s69 S69, F69) :: T6
theorem A7 : Ok m T7 := aci Tryz.func69 (by kernel_rfl) (by kernel_rfl) c69 (fun S h => by cases h; exact ⟨rfl, fun _ _ => rfl⟩) rfl A6
def s40 : Sum := { args := [(.ptr wk), (.val true [(.int .u8), .bool])], tup := false, res := [(true, [(.int .u16), .bool, (.int .u8), .bool, .bool])], pre := false }
def S40 : Smry := (.mk [(.di 18 (.cv .u16 3)), (.di 19 (.ar .add .u16 (.c 256) 18))] [19, 17, 0, 1, 2, 3, 4, 5, 6, 7, 8, 9, 10, 11, 12, 13, 14, 15, 16] [(.c true), 14, 3, 0, 1, 2, 3, 4, 5, 6, 7, 8, 9, 10, 11, 12, 13])
noncomputable def F40 : Fun := S40.run (tabF T7) false
theorem c40 : Ct m 40 s40 F40 := contract_of (hC_ok A7) Tryz.func40 (k := (ctlOf Tryz.f40 (gl m) s40)) (LoopsOk.nil rfl) (by kernel_rfl) (by kernel_rfl)
noncomputable def T8 : Tb := (40, withInl s40 S40, F40) :: T7
theorem A8 : Ok m T8 := aci Tryz.func40 (by kernel_rfl) (by kernel_rfl) c40 (fun S h => by cases h; exact ⟨rfl, fun _ _ => rfl⟩) rfl A7
def s70 : Sum := { args := [(.val true [(.int .u8), (.int .u8)]), (.val false [.bool])], tup := false, res := [(true, [(.int .u8), .bool])], pre := false }
def S70 : Smry := (.mk [(.di 2 (.ar .and .u8 0 (.c 207))), (.di 3 (.ar .and .u8 1 (.c 207))), (.di 4 (.ar .or .u8 2 (.c 32))), (.db 1 (.cm .gtr 3 (.c 0))), (.di 5 (.ar .or .u8 4 (.c 16))), (.di 6 (.ite 0 5 4))] [6] [1])
noncomputable def F70 : Fun := S70.run (tabF T8) false
theorem c70 : Ct m 70 s70 F70 := contract_of (hC_ok A8) Tryz.func70 (k := (ctlOf Tryz.f70 (gl m) s70)) (LoopsOk.nil rfl) (by kernel_rfl) (by kernel_rfl)
noncomputable def T9 : Tb := (70, withInl s70 S70, F70) :: T8
theorem A9 : Ok m T9 := aci Tryz.func70 (by kernel_rfl) (by kernel_rfl) c70 (fun S h => by cases h; exact ⟨rfl, fun _ _ => rfl⟩) rfl A8
def s42 : Sum := { args := [(.ptr wk)], tup := false, res := [(true, [(.int .u8), .bool])], pre := false }
def S42 : Smry := (.mk [(.db 14 (.cm .eql 13 (.c 190536410541747572716161940294993060653600960856081490745673670328770095805227685313574673788367647727711789876536065982517204403585361641472))), (.di 17 (.ar .and .u8 4 (.c 207))), (.di 18 (.ar .and .u8 5 (.c 207))), (.di 19 (.ar .or .u8 17 (.c 32))), (.db 15 (.cm .gtr 18 (.c 0))), (.di 20 (.ar .or .u8 19 (.c 16))), (.db 16 (.not 14)), (.di 21 (.ite 16 0 20)), (.db 17 (.ite 16 0 15))] [21, 0, 1, 2, 3, 4, 5, 6, 7, 8, 9, 10, 11, 12, 13, 14, 15, 16] [17, 0, 1, 2, 3, 4, 5, 6, 7, 8, 9, 10, 11, 12, 13])
noncomputable def F42 : Fun := S42.run (tabF T9) false
theorem c42 : Ct m 42 s42 F42 := contract_of (hC_ok A9) Tryz.func42 (k := (ctlOf Tryz.f42 (gl m) s42)) (LoopsOk.nil rfl) (by kernel_rfl) (by kernel_rfl)
noncomputable def T10 : Tb := (42, withInl s42 S42, F42) :: T9
theorem A10 : Ok m T10 := aci Tryz.func42 (by kernel_rfl) (by kernel_rfl) c42 (fun S h => by cases h; exact ⟨rfl, fun _ _ => rfl⟩) rfl A9
def s43 : Sum := { args := [(.ptr wk)], tup := false, res := [(true, [(.int .u16), .bool, (.int .u8), .bool, .bool])], pre := true }
def S43 : Smry := (.mk [(.db 14 (.cm .eql 11 (.c 2))), (.db 15 (.cm .eql 11 (.c 3))), (.di 17 (.ite 15 (.c 65532) (.c 65534))), (.di 18 (.ite 14 (.c 65530) 17)), (.db 16 (.cm .eql 8 (.c 1))), (.db 17 (.cm .eql 8 (.c 5))), (.db 18 (.cm .eql 8 (.c 6))), (.di 19 (.ar .add .u16 18 (.c 1))), (.db 19 (.or 17 18)), (.di 20 (.ite 17 18 19)), (.db 20 (.or 16 19)), (.di 21 (.ite 16 6 20)), (.db 21 (.and 16 4)), (.db 22 (.cm .eql 11 (.c 3))), (.di 22 (.cv .u16 3)), (.di 23 (.ar .add .u16 (.c 256) 22)), (.di 24 (.cv .u8 6)), (.di 25 (.ar .shr .u16 6 (.c 8))), (.di 26 (.cv .u8 25)), (.di 27 (.cv .u8 6)), (.di 28 (.ar .shr .u16 6 (.c 8))), (.di 29 (.cv .u8 28)), (.db 23 (.cm .eql 11 (.c 0))), (.di 30 (.ar .and .u8 4 (.c 207))), (.di 31 (.ar .and .u8 5 (.c 207))), (.di 32 (.ar .or .u8 30 (.c 32))), (.db 24 (.cm .gtr 31 (.c 0))), (.di 33 (.ar .or .u8 32 (.c 16))), (.di 34 (.ite 23 33 32)), (.di 35 (.ar .sub .i64 8 (.c 2))), (.db 25 (.cm .geq 35 (.c 0))), (.ob [(16, false), (17, false), (18, false), (22, false)] 25), (.db 26 (.cm .lss 35 (.c 3))), (.ob [(16, false), (17, false), (18, false), (22, false)] 26), (.db 27 (.cm .eql 35 (.c 0))), (.db 28 (.cm .eql 35 (.c 1))), (.di 36 (.ite 28 27 34)), (.db 29 (.ite 28 4 24)), (.di 37 (.ite 27 26 36)), (.db 30 (.ite 27 4 29)), (.di 38 (.cv .u16 3)), (.di 39 (.ar .add .u16 (.c 256) 38)), (.db 31 (.not 22)), (.di 40 (.ite 31 39 23)), (.di 41 (.ite 31 37 (.c 0))), (.db 32 (.and 31 30)), (.db 33 (.not 16)), (.db 34 (.not 17)), (.db 35 (.not 18)), (.db 36 (.and 34 35)), (.db 37 (.and 33 36)), (.di 42 (.ite 37 40 21)), (.db 38 (.and 37 31)), (.di 43 (.ite 37 41 (.c 0))), (.db 39 (.and 37 32)), (.db 40 (.ite 37 3 21))] [42, 43, 0, 1, 2, 3, 4, 5, 6, 7, 8, 9, 10, 11, 12, 13, 14, 15, 16] [38, 39, 40, 0, 1, 2, 3, 4, 5, 6, 7, 8, 9, 10, 11, 12, 13])
noncomputable def F43 : Fun := S43.run (tabF T10) true
theorem c43 : Ct m 43 s43 F43 := contract_pre (hC_ok A10) Tryz.func43 (k := (ctlOf Tryz.f43 (gl m) s43)) (LoopsOk.nil rfl) (by kernel_rfl) (by kernel_rfl)
noncomputable def T11 : Tb := (43, s43, F43) :: T10
theorem A11 : Ok m T11 := ac Tryz.func43 (by kernel_rfl) (by kernel_rfl) c43 ⟨rfl, rfl⟩ A10
def s71 : Sum := { args := [(.ptr wk)], tup := true, res := [(false, [(.int .i64)]), (false, [.bool])], pre := true }
def S71 : Smry := (.mk [(.db 14 (.cm .geq 14 (.c 0))), (.ob [] 14), (.db 15 (.cm .lss 14 (.c 11))), (.ob [] 15), (.di 17 (.tab [0, 0, 0, 2, 3, 3, 3, 3, 3, 5, 4] 14)), (.db 16 (.cm .eql 14 (.c 7))), (.db 17 (.cm .eql 14 (.c 8))), (.db 18 (.or 16 17)), (.db 19 (.cm .eql 14 (.c 10))), (.db 20 (.or 18 19)), (.db 21 (.cm .neq 15 (.c 1))), (.db 22 (.and 20 21)), (.di 18 (.ar .add .i64 17 (.c 1))), (.di 19 (.ite 22 18 17))] [19, 0, 1, 2, 3, 4, 5, 6, 7, 8, 9, 10, 11, 12, 13, 14, 15, 16] [20, 0, 1, 2, 3, 4, 5, 6, 7, 8, 9, 10, 11, 12, 13])
noncomputable def F71 : Fun := S71.run (tabF T11) true
theorem c71 : Ct m 71 s71 F71 := contract_pre (hC_ok A11) Tryz.func71 (k := (ctlOf Tryz.f71 (gl m) s71)) (LoopsOk.nil rfl) (by kernel_rfl) (by kernel_rfl)
noncomputable def T12 : Tb := (71, s71, F71) :: T11
theorem A12 : Ok m T12 := ac Tryz.func71 (by kernel_rfl) (by kernel_rfl) c71 ⟨rfl, rfl⟩ A11
def s100 : Sum := { args := [(.val true [(.int .u8), .bool]), (.val true [(.int .u8), .bool])], tup := false, res := [(true, [(.int .u8), .bool])], pre := false }
def S100 : Smry := (.mk [(.di 2 (.ar .and .u8 0 1)), (.db 2 (.not 0)), (.db 3 (.not 1)), (.db 4 (.not 1)), (.db 5 (.not 0)), (.db 6 (.ite 5 1 0)), (.db 7 (.not 0)), (.db 8 (.not 1)), (.db 9 (.and 7 8)), (.db 10 (.ite 9 (.c false) (.c true)))] [2] [10])
noncomputable def F100 : Fun := S100.run (tabF T12) false
theorem c100 : Ct m 100 s100 F100 := contract_of (hC_ok A12) Tryz.func100 (k := (ctlOf Tryz.f100 (gl m) s100)) (LoopsOk.nil rfl) (by kernel_rfl) (by kernel_rfl)
noncomputable def T13 : Tb := (100, withInl s100 S100, F100) :: T12
theorem A13 : Ok m T13 := aci Tryz.func100 (by kernel_rfl) (by kernel_rfl) c100 (fun S h => by cases h; exact ⟨rfl, fun _ _ => rfl⟩) rfl A12
def s72 : Sum := { args := [(.ptr wk)], tup := false, res := [(true, [(.int .u16), .bool, (.int .u8), .bool, .bool])], pre := true }
def S72 : Smry := (.mk [(.di 17 (.ar .and .u8 0 1)), (.db 14 (.not 0)), (.db 15 (.not 1)), (.db 16 (.not 1)), (.db 17 (.not 0)), (.db 18 (.ite 17 1 0)), (.db 19 (.not 0)), (.db 20 (.not 1)), (.db 21 (.and 19 20)), (.db 22 (.ite 21 (.c false) (.c true))), (.db 23 (.cm .eql 13 (.c 190536410541747572716161940294993060653670952879209361976010886845277269426889886634209609689810565578943435724963250271593760288975980855296))), (.db 24 (.cm .eql 13 (.c 13407807929942597099574024998205846127479365820592393447715584636778145609993618244565757989468325216272923359915934633759014893021269955212113293426556928))), (.db 25 (.cm .eql 13 (.c 53631231719770388398296099992823384509917463282369573580886268967943437700214259174971380883969035499343018934475392786320276541457109665051414240444809216))), (.db 26 (.cm .eql 13 (.c 48777321098687378615337456715518223527321845979140174486803824535957194202614548865552052991894147362403504915054570481332879203663947413585920))), (.db 27 (.cm .eql 13 (.c 799167628880894011233688890827050574271641124522232618791793861197122669815636768613204836217661308380857924847682500774836877531324633281690861568))), (.db 28 (.cm .eql 13 (.c 3196670515523576044934755563308202297086564498088930462651626406189408165229216764865599923370423142231605007948922787158540922853018036396921716736))), (.db 29 (.cm .eql 13 (.c 11356855067118857664833184498250070849279818110418877719402962138967351283245675959335499109633036314292228002293666457043721431023616))), (.db 30 (.cm .eql 13 (.c 190536410541747572716161940294993060653600960856017324112419134017052639766042789901501552906650088255196995594321035314226829309603383083008))), (.di 18 (.ite 30 17 (.c 0))), (.db 31 (.and 30 22)), (.di 19 (.ite 29 17 18)), (.db 32 (.ite 29 22 31)), (.di 20 (.ite 28 2 19)), (.db 33 (.ite 28 2 32)), (.di 21 (.ite 27 1 20)), (.db 34 (.ite 27 1 33)), (.di 22 (.ite 26 17 21)), (.db 35 (.ite 26 22 34)), (.di 23 (.ite 25 2 22)), (.db 36 (.ite 25 2 35)), (.di 24 (.ite 24 1 23)), (.db 37 (.ite 24 1 36)), (.di 25 (.ite 23 0 24)), (.db 38 (.ite 23 0 37)), (.di 26 (.lenq 13 1)), (.db 39 (.cm .lss (.c 1) 26)), (.ob [] 39), (.di 27 (.get 13 (.c 1) 1 0)), (.db 40 (.cm .eql 27 (.c 72))), (.db 41 (.cm .eql 13 (.c 190536410541747572716161940294993060653600960856017324112419134017052639766042789901501552906650088255196995594321035314226829309603383083008))), (.db 42 (.or 40 41)), (.db 43 (.not 42)), (.di 28 (.cv .u8 9)), (.di 29 (.ar .shr .u16 9 (.c 8))), (.di 30 (.cv .u8 29)), (.db 44 (.not 7)), (.di 31 (.ar .add .u8 30 (.c 1))), (.di 32 (.ite 44 31 30)), (.di 33 (.ar .and .u8 25 32)), (.db 45 (.not 38)), (.db 46 (.not 5)), (.db 47 (.not 5)), (.db 48 (.not 38)), (.db 49 (.ite 48 5 38)), (.db 50 (.not 38)), (.db 51 (.not 5)), (.db 52 (.and 50 51)), (.db 53 (.ite 52 (.c false) (.c true))), (.di 34 (.ar .and .u16 9 (.c 255))), (.di 35 (.cv .u16 33)), (.di 36 (.ar .shl .u16 35 (.c 8))), (.di 37 (.ar .or .u16 34 36)), (.di 38 (.ite 7 37 9)), (.db 54 (.ite 7 53 5)), (.db 55 (.not 43)), (.di 39 (.ite 55 38 9)), (.di 40 (.ite 55 33 25)), (.db 56 (.ite 55 53 38)), (.db 57 (.ite 55 54 5))] [39, 40, 0, 1, 2, 3, 4, 5, 6, 7, 8, 9, 10, 11, 12, 13, 14, 15, 16] [(.c true), 56, 57, 0, 1, 2, 3, 4, 5, 6, 7, 8, 9, 10, 11, 12, 13])
noncomputable def F72 : Fun := S72.run (tabF T13) true
theorem c72 : Ct m 72 s72 F72 := contract_pre (hC_ok A13) Tryz.func72 (k := (ctlOf Tryz.f72 (gl m) s72)) (LoopsOk.nil rfl) (by kernel_rfl) (by kernel_rfl)
noncomputable def T14 : Tb := (72, s72, F72) :: T13
theorem A14 : Ok m T14 := ac Tryz.func72 (by kernel_rfl) (by kernel_rfl) c72 ⟨rfl, rfl⟩ A13
def s134 : Sum := { args := [(.val true [(.int .u8), .bool]), (.val false [(.int .i64)])], tup := false, res := [(true, [(.int .u8), .bool])], pre := false }
def S134 : Smry := (.mk [(.db 1 (.cm .lss 1 (.c 0))), (.db 2 (.cm .gtr 1 (.c 7))), (.db 3 (.or 1 2)), (.db 4 (.not 0)), (.db 5 (.not 0)), (.db 6 (.not 0)), (.db 7 (.ite 6 (.c false) (.c true))), (.db 8 (.cm .geq 1 (.c 0))), (.ob [(3, false)] 8), (.di 2 (.ar .shr .u8 0 1)), (.di 3 (.ar .and .u8 2 (.c 1))), (.db 9 (.not 0)), (.db 10 (.not 0)), (.db 11 (.not 0)), (.db 12 (.ite 11 (.c false) (.c true))), (.db 13 (.not 3)), (.di 4 (.ite 13 3 (.c 0))), (.db 14 (.ite 13 12 7))] [4] [14])
noncomputable def F134 : Fun := S134.run (tabF T14) false
theorem c134 : Ct m 134 s134 F134 := contract_self (hC_ok A14) Tryz.func134 (k := (ctlOf Tryz.f134 (gl m) s134)) (LoopsOk.nil rfl) (by kernel_rfl) (by kernel_rfl) (EAll.nil rfl)
noncomputable def T15 : Tb := (134, withInl s134 S134, F134) :: T14
theorem A15 : Ok m T15 := aci Tryz.func134 (by kernel_rfl) (by kernel_rfl) c134 (fun S h => by cases h; exact ⟨rfl, fun _ _ => rfl⟩) rfl A14
def s171 : Sum := { args := [(.val true [(.int .u8), (.int .u8)]), (.val false [(.int .u8)]), (.val true [(.int .u8), .bool])], tup := false, res := [(true, [(.int .u8), (.int .u8)])], pre := false }
def S171 : Smry := (.mk [(.di 4 (.ar .and .u8 0 (.c 207))), (.di 5 (.ar .and .u8 1 (.c 207))), (.db 1 (.cm .neq 3 (.c 0))), (.di 6 (.ar .and .u8 2 (.c 207))), (.di 7 (.ar .andNot .u8 4 6)), (.di 8 (.ar .and .u8 2 (.c 207))), (.di 9 (.ar .or .u8 7 8)), (.di 10 (.ite 1 9 7)), (.di 11 (.ar .and .u8 2 (.c 207))), (.di 12 (.ar .andNot .u8 5 11)), (.di 13 (.ar .and .u8 2 (.c 207))), (.di 14 (.ar .or .u8 12 13)), (.di 15 (.ite 0 14 12))] [10, 15] [])
noncomputable def F171 : Fun := S171.run (tabF T15) false
theorem c171 : Ct m 171 s171 F171 := contract_of (hC_ok A15) Tryz.func171 (k := (ctlOf Tryz.f171 (gl m) s171)) (LoopsOk.nil rfl) (by kernel_rfl) (by kernel_rfl)
noncomputable def T16 : Tb := (171, s171, F171) :: T15
theorem A16 : Ok m T16 := ac Tryz.func171 (by kernel_rfl) (by kernel_rfl) c171 ⟨rfl, rfl⟩ A15
def s136 : Sum := { args := [(.val true [(.int .u8), (.int .u8)]), (.val true [(.int .u8), .bool])], tup := false, res := [(true, [(.int .u8), (.int .u8)])], pre := false }
def S136 : Smry := (.mk [(.db 1 (.cm .gtr 2 (.c 127))), (.db 2 (.not 0)), (.db 3 (.not 0)), (.db 4 (.not 0)), (.db 5 (.ite 4 (.c false) (.c true))), (.db 6 (.not 0)), (.db 7 (.not 0)), (.db 8 (.not 0)), (.db 9 (.ite 8 (.c false) (.c true))), (.db 10 (.not 1)), (.di 3 (.ite 10 (.c 0) (.c 1))), (.db 11 (.ite 10 9 5)), (.call 171 [0, 1, (.c 128), 3] [11] 4 2 12 0), (.db 12 (.cm .eql 2 (.c 0))), (.db 13 (.not 0)), (.db 14 (.not 0)), (.db 15 (.not 0)), (.db 16 (.ite 15 (.c false) (.c true))), (.db 17 (.not 0)), (.db 18 (.not 0)), (.db 19 (.not 0)), (.db 20 (.ite 19 (.c false) (.c true))), (.db 21 (.not 12)), (.di 6 (.ite 21 (.c 0) (.c 1))), (.db 22 (.ite 21 20 16)), (.call 171 [4, 5, (.c 2), 6] [22] 7 2 23 0)] [7, 8] [])
noncomputable def F136 : Fun := S136.run (tabF T16) false
theorem c136 : Ct m 136 s136 F136 := contract_of (hC_ok A16) Tryz.func136 (k := (ctlOf Tryz.f136 (gl m) s136)) (LoopsOk.nil rfl) (by kernel_rfl) (by kernel_rfl)
noncomputable def T17 : Tb := (136, s136, F136) :: T16
theorem A17 : Ok m T17 := ac Tryz.func136 (by kernel_rfl) (by kernel_rfl) c136 ⟨rfl, rfl⟩ A16
def s133 : Sum := { args := [(.val true [(.int .u8), (.int .u8)]), (.val true [(.int .u8), .bool]), (.val true [(.int .u8), .bool])], tup := true, res := [(true, [(.int .u8), .bool]), (true, [(.int .u8), (.int .u8)])], pre := false }
def S133 : Smry := (.mk [(.call 171 [0, 1, (.c 1), 3] [1] 4 2 2 0), (.call 136 [4, 5, 2] [0] 6 2 2 0)] [2, 6, 7] [0])
noncomputable def F133 : Fun := S133.run (tabF T17) false
theorem c133 : Ct m 133 s133 F133 := contract_of (hC_ok A17) Tryz.func133 (k := (ctlOf Tryz.f133 (gl m) s133)) (LoopsOk.nil rfl) (by kernel_rfl) (by kernel_rfl)
noncomputable def T18 : Tb := (133, s133, F133) :: T17
theorem A18 : Ok m T18 := ac Tryz.func133 (by kernel_rfl) (by kernel_rfl) c133 ⟨rfl, rfl⟩ A17
def s101 : Sum := { args := [(.val true [(.int .u8), (.int .u8)]), (.val true [(.int .u8), .bool])], tup := true, res := [(true, [(.int .u8), .bool]), (true, [(.int .u8), (.int .u8)])], pre := false }
def S101 : Smry := (.mk [(.di 3 (.ar .shl .u8 2 (.c 1))), (.db 1 (.not 0)), (.db 2 (.not 0)), (.db 3 (.not 0)), (.db 4 (.ite 3 (.c false) (.c true))), (.db 5 (.not 0)), (.db 6 (.not 0)), (.db 7 (.not 0)), (.db 8 (.ite 7 (.c false) (.c true))), (.di 4 (.ar .shr .u8 2 (.c 7))), (.di 5 (.ar .and .u8 4 (.c 1))), (.db 9 (.not 0)), (.db 10 (.not 0)), (.db 11 (.not 0)), (.db 12 (.ite 11 (.c false) (.c true))), (.call 133 [0, 1, 3, 5] [4, 12] 6 3 13 1)] [6, 7, 8] [13])
noncomputable def F101 : Fun := S101.run (tabF T18) false
theorem c101 : Ct m 101 s101 F101 := contract_of (hC_ok A18) Tryz.func101 (k := (ctlOf Tryz.f101 (gl m) s101)) (LoopsOk.nil rfl) (by kernel_rfl) (by kernel_rfl)
noncomputable def T19 : Tb := (101, s101, F101) :: T18
theorem A19 : Ok m T19 := ac Tryz.func101 (by kernel_rfl) (by kernel_rfl) c101 ⟨rfl, rfl⟩ A18
def s102 : Sum := { args := [(.val true [(.int .u8), (.int .u8)]), (.val true [(.int .u8), .bool])], tup := true, res := [(true, [(.int .u8), .bool]), (true, [(.int .u8), (.int .u8)])], pre := false }
def S102 : Smry := (.mk [(.di 3 (.ar .shr .u8 2 (.c 1))), (.db 1 (.not 0)), (.db 2 (.not 0)), (.db 3 (.not 0)), (.db 4 (.ite 3 (.c false) (.c true))), (.db 5 (.not 0)), (.db 6 (.not 0)), (.db 7 (.not 0)), (.db 8 (.ite 7 (.c false) (.c true))), (.di 4 (.ar .shr .u8 2 (.c 0))), (.di 5 (.ar .and .u8 4 (.c 1))), (.db 9 (.not 0)), (.db 10 (.not 0)), (.db 11 (.not 0)), (.db 12 (.ite 11 (.c false) (.c true))), (.call 133 [0, 1, 3, 5] [4, 12] 6 3 13 1)] [6, 7, 8] [13])
noncomputable def F102 : Fun := S102.run (tabF T19) false
theorem c102 : Ct m 102 s102 F102 := contract_of (hC_ok A19) Tryz.func102 (k := (ctlOf Tryz.f102 (gl m) s102)) (LoopsOk.nil rfl) (by kernel_rfl) (by kernel_rfl)
noncomputable def T20 : Tb := (102, s102, F102) :: T19
theorem A20 : Ok m T20 := ac Tryz.func102 (by kernel_rfl) (by kernel_rfl) c102 ⟨rfl, rfl⟩ A19
def s135 : Sum := { args := [(.val true [(.int .u8), (.int .u8)]), (.val false [(.int .u8)])], tup := false, res := [(true, [(.int .u8), .bool])], pre := false }
def S135 : Smry := (.mk [(.di 3 (.ar .and .u8 2 (.c 207))), (.di 4 (.ar .and .u8 1 3)), (.db 0 (.cm .gtr 4 (.c 0))), (.di 5 (.ar .and .u8 0 3)), (.db 1 (.cm .gtr 5 (.c 0))), (.di 6 (.ite 1 (.c 1) (.c 0)))] [6] [0])
noncomputable def F135 : Fun := S135.run (tabF T20) false
theorem c135 : Ct m 135 s135 F135 := contract_of (hC_ok A20) Tryz.func135 (k := (ctlOf Tryz.f135 (gl m) s135)) (LoopsOk.nil rfl) (by kernel_rfl) (by kernel_rfl)
noncomputable def T21 : Tb := (135, withInl s135 S135, F135) :: T20
theorem A21 : Ok m T21 := aci Tryz.func135 (by kernel_rfl) (by kernel_rfl) c135 (fun S h => by cases h; exact ⟨rfl, fun _ _ => rfl⟩) rfl A20
def s103 : Sum := { args := [(.val true [(.int .u8), (.int .u8)]), (.val true [(.int .u8), .bool])], tup := true, res := [(true, [(.int .u8), .bool]), (true, [(.int .u8), (.int .u8)])], pre := false }
def S103 : Smry := (.mk [(.di 3 (.ar .and .u8 1 (.c 1))), (.db 1 (.cm .gtr 3 (.c 0))), (.di 4 (.ar .and .u8 0 (.c 1))), (.db 2 (.cm .gtr 4 (.c 0))), (.di 5 (.ite 2 (.c 1) (.c 0))), (.di 6 (.ar .shl .u8 2 (.c 1))), (.di 7 (.ar .or .u8 6 5)), (.db 3 (.not 0)), (.db 4 (.not 1)), (.db 5 (.not 1)), (.db 6 (.not 0)), (.db 7 (.ite 6 1 0)), (.db 8 (.not 0)), (.db 9 (.not 1)), (.db 10 (.and 8 9)), (.db 11 (.ite 10 (.c false) (.c true))), (.db 12 (.not 0)), (.db 13 (.not 0)), (.db 14 (.not 0)), (.db 15 (.ite 14 (.c false) (.c true))), (.di 8 (.ar .shr .u8 2 (.c 7))), (.di 9 (.ar .and .u8 8 (.c 1))), (.db 16 (.not 0)), (.db 17 (.not 0)), (.db 18 (.not 0)), (.db 19 (.ite 18 (.c false) (.c true))), (.call 133 [0, 1, 7, 9] [11, 19] 10 3 20 1)] [10, 11, 12] [20])
noncomputable def F103 : Fun := S103.run (tabF T21) false
theorem c103 : Ct m 103 s103 F103 := contract_of (hC_ok A21) Tryz.func103 (k := (ctlOf Tryz.f103 (gl m) s103)) (LoopsOk.nil rfl) (by kernel_rfl) (by kernel_rfl)
noncomputable def T22 : Tb := (103, s103, F103) :: T21
theorem A22 : Ok m T22 := ac Tryz.func103 (by kernel_rfl) (by kernel_rfl) c103 ⟨rfl, rfl⟩ A21
def s104 : Sum := { args := [(.val true [(.int .u8), (.int .u8)]), (.val true [(.int .u8), .bool])], tup := true, res := [(true, [(.int .u8), .bool]), (true, [(.int .u8), (.int .u8)])], pre := false }
def S104 : Smry := (.mk [(.di 3 (.ar .and .u8 1 (.c 1))), (.db 1 (.cm .gtr 3 (.c 0))), (.di 4 (.ar .and .u8 0 (.c 1))), (.db 2 (.cm .gtr 4 (.c 0))), (.di 5 (.ite 2 (.c 1) (.c 0))), (.di 6 (.ar .shr .u8 2 (.c 1))), (.di 7 (.ar .shl .u8 5 (.c 7))), (.di 8 (.ar .or .u8 6 7)), (.db 3 (.not 0)), (.db 4 (.not 1)), (.db 5 (.not 1)), (.db 6 (.not 0)), (.db 7 (.ite 6 1 0)), (.db 8 (.not 0)), (.db 9 (.not 1)), (.db 10 (.and 8 9)), (.db 11 (.ite 10 (.c false) (.c true))), (.db 12 (.not 0)), (.db 13 (.not 0)), (.db 14 (.not 0)), (.db 15 (.ite 14 (.c false) (.c true))), (.di 9 (.ar .shr .u8 2 (.c 0))), (.di 10 (.ar .and .u8 9 (.c 1))), (.db 16 (.not 0)), (.db 17 (.not 0)), (.db 18 (.not 0)), (.db 19 (.ite 18 (.c false) (.c true))), (.call 133 [0, 1, 8, 10] [11, 19] 11 3 20 1)] [11, 12, 13] [20])
noncomputable def F104 : Fun := S104.run (tabF T22) false
theorem c104 : Ct m 104 s104 F104 := contract_of (hC_ok A22) Tryz.func104 (k := (ctlOf Tryz.f104 (gl m) s104)) (LoopsOk.nil rfl) (by kernel_rfl) (by kernel_rfl)
noncomputable def T23 : Tb := (104, s104, F104) :: T22
theorem A23 : Ok m T23 := ac Tryz.func104 (by kernel_rfl) (by kernel_rfl) c104 ⟨rfl, rfl⟩ A22
def s138 : Sum := { args := [(.val true [(.int .u8), .bool]), (.val true [(.int .u8), .bool])], tup := false, res := [(true, [(.int .u8), .bool])], pre := false }
def S138 : Smry := (.mk [(.di 2 (.ar .or .u8 0 1)), (.db 2 (.not 0)), (.db 3 (.not 1)), (.db 4 (.not 1)), (.db 5 (.not 0)), (.db 6 (.ite 5 1 0)), (.db 7 (.not 0)), (.db 8 (.not 1)), (.db 9 (.and 7 8)), (.db 10 (.ite 9 (.c false) (.c true)))] [2] [10])
noncomputable def F138 : Fun := S138.run (tabF T23) false
theorem c138 : Ct m 138 s138 F138 := contract_of (hC_ok A23) Tryz.func138 (k := (ctlOf Tryz.f138 (gl m) s138)) (LoopsOk.nil rfl) (by kernel_rfl) (by kernel_rfl)
noncomputable def T24 : Tb := (138, withInl s138 S138, F138) :: T23
theorem A24 : Ok m T24 := aci Tryz.func138 (by kernel_rfl) (by kernel_rfl) c138 (fun S h => by cases h; exact ⟨rfl, fun _ _ => rfl⟩) rfl A23
def s107 : Sum := { args := [(.ptr wk), (.val true [(.int .u8), .bool])], tup := true, res := [], pre := false }
def S107 : Smry := (.mk [(.di 18 (.ar .or .u8 0 17)), (.db 15 (.not 0)), (.db 16 (.not 14)), (.db 17 (.not 14)), (.db 18 (.not 0)), (.db 19 (.ite 18 14 0)), (.db 20 (.not 0)), (.db 21 (.not 14)), (.db 22 (.and 20 21)), (.db 23 (.ite 22 (.c false) (.c true))), (.call 136 [4, 5, 18] [23] 19 2 24 0)] [18, 1, 2, 3, 19, 20, 6, 7, 8, 9, 10, 11, 12, 13, 14, 15, 16] [23, 1, 2, 3, 4, 5, 6, 7, 8, 9, 10, 11, 12, 13])
noncomputable def F107 : Fun := S107.run (tabF T24) false
theorem c107 : Ct m 107 s107 F107 := contract_of (hC_ok A24) Tryz.func107 (k := (ctlOf Tryz.f107 (gl m) s107)) (LoopsOk.nil rfl) (by kernel_rfl) (by kernel_rfl)
noncomputable def T25 : Tb := (107, s107, F107) :: T24
theorem A25 : Ok m T25 := ac Tryz.func107 (by kernel_rfl) (by kernel_rfl) c107 ⟨rfl, rfl⟩ A24
def s108 : Sum := { args := [(.ptr wk), (.val true [(.int .u8), .bool])], tup := true, res := [], pre := false }
def S108 : Smry := (.mk [(.di 18 (.ar .and .u8 0 17)), (.db 15 (.not 0)), (.db 16 (.not 14)), (.db 17 (.not 14)), (.db 18 (.not 0)), (.db 19 (.ite 18 14 0)), (.db 20 (.not 0)), (.db 21 (.not 14)), (.db 22 (.and 20 21)), (.db 23 (.ite 22 (.c false) (.c true))), (.call 136 [4, 5, 18] [23] 19 2 24 0)] [18, 1, 2, 3, 19, 20, 6, 7, 8, 9, 10, 11, 12, 13, 14, 15, 16] [23, 1, 2, 3, 4, 5, 6, 7, 8, 9, 10, 11, 12, 13])
noncomputable def F108 : Fun := S108.run (tabF T25) false
theorem c108 : Ct m 108 s108 F108 := contract_of (hC_ok A25) Tryz.func108 (k := (ctlOf Tryz.f108 (gl m) s108)) (LoopsOk.nil rfl) (by kernel_rfl) (by kernel_rfl)
noncomputable def T26 : Tb := (108, s108, F108) :: T25
theorem A26 : Ok m T26 := ac Tryz.func108 (by kernel_rfl) (by kernel_rfl) c108 ⟨rfl, rfl⟩ A25
def s139 : Sum := { args := [(.val true [(.int .u8), .bool]), (.val true [(.int .u8), .bool])], tup := false, res := [(true, [(.int .u8), .bool])], pre := false }
def S139 : Smry := (.mk [(.di 2 (.ar .xor .u8 0 1)), (.db 2 (.not 0)), (.db 3 (.not 1)), (.db 4 (.not 1)), (.db 5 (.not 0)), (.db 6 (.ite 5 1 0)), (.db 7 (.not 0)), (.db 8 (.not 1)), (.db 9 (.and 7 8)), (.db 10 (.ite 9 (.c false) (.c true)))] [2] [10])
noncomputable def F139 : Fun := S139.run (tabF T26) false
theorem c139 : Ct m 139 s139 F139 := contract_of (hC_ok A26) Tryz.func139 (k := (ctlOf Tryz.f139 (gl m) s139)) (LoopsOk.nil rfl) (by kernel_rfl) (by kernel_rfl)
noncomputable def T27 : Tb := (139, withInl s139 S139, F139) :: T26
theorem A27 : Ok m T27 := aci Tryz.func139 (by kernel_rfl) (by kernel_rfl) c139 (fun S h => by cases h; exact ⟨rfl, fun _ _ => rfl⟩) rfl A26
def s109 : Sum := { args := [(.ptr wk), (.val true [(.int .u8), .bool])], tup := true, res := [], pre := false }
def S109 : Smry := (.mk [(.di 18 (.ar .xor .u8 0 17)), (.db 15 (.not 0)), (.db 16 (.not 14)), (.db 17 (.not 14)), (.db 18 (.not 0)), (.db 19 (.ite 18 14 0)), (.db 20 (.not 0)), (.db 21 (.not 14)), (.db 22 (.and 20 21)), (.db 23 (.ite 22 (.c false) (.c true))), (.call 136 [4, 5, 18] [23] 19 2 24 0)] [18, 1, 2, 3, 19, 20, 6, 7, 8, 9, 10, 11, 12, 13, 14, 15, 16] [23, 1, 2, 3, 4, 5, 6, 7, 8, 9, 10, 11, 12, 13])
noncomputable def F109 : Fun := S109.run (tabF T27) false
theorem c109 : Ct m 109 s109 F109 := contract_of (hC_ok A27) Tryz.func109 (k := (ctlOf Tryz.f109 (gl m) s109)) (LoopsOk.nil rfl) (by kernel_rfl) (by kernel_rfl)
noncomputable def T28 : Tb := (109, s109, F109) :: T27
theorem A28 : Ok m T28 := ac Tryz.func109 (by kernel_rfl) (by kernel_rfl) c109 ⟨rfl, rfl⟩ A27
def s140 : Sum := { args := [(.val true [(.int .u8), (.int .u8)]), (.val true [(.int .u8), .bool]), (.val true [(.int .u8), .bool])], tup := true, res := [(true, [(.int .u8), .bool]), (true, [(.int .u8), (.int .u8)])], pre := false }
def S140 : Smry := (.mk [(.di 4 (.ar .and .u8 1 (.c 1))), (.db 2 (.cm .gtr 4 (.c 0))), (.di 5 (.ar .and .u8 0 (.c 1))), (.db 3 (.cm .gtr 5 (.c 0))), (.di 6 (.ite 3 (.c 1) (.c 0))), (.di 7 (.cv .u64 2)), (.di 8 (.cv .u64 3)), (.di 9 (.ar .add .u64 7 8)), (.di 10 (.cv .u64 6)), (.di 11 (.ar .add .u64 9 10)), (.di 12 (.cv .u8 11)), (.db 4 (.not 0)), (.db 5 (.not 1)), (.db 6 (.not 2)), (.db 7 (.not 2)), (.db 8 (.not 1)), (.db 9 (.ite 8 2 1)), (.db 10 (.not 0)), (.db 11 (.ite 10 9 0)), (.db 12 (.not 0)), (.db 13 (.not 1)), (.db 14 (.not 2)), (.db 15 (.and 13 14)), (.db 16 (.and 12 15)), (.db 17 (.ite 16 (.c false) (.c true))), (.di 13 (.ar .xor .u8 2 3)), (.di 14 (.ar .xor .u8 (.c 255) 13)), (.di 15 (.ar .xor .u8 2 12)), (.di 16 (.ar .and .u8 14 15)), (.di 17 (.ar .and .u8 16 (.c 128))), (.db 18 (.cm .gtr 11 (.c 255))), (.db 19 (.not 17)), (.db 20 (.not 17)), (.db 21 (.not 17)), (.db 22 (.ite 21 (.c false) (.c true))), (.db 23 (.not 17)), (.db 24 (.not 17)), (.db 25 (.not 17)), (.db 26 (.ite 25 (.c false) (.c true))), (.db 27 (.not 18)), (.di 18 (.ite 27 (.c 0) (.c 1))), (.db 28 (.ite 27 26 22)), (.call 171 [0, 1, (.c 1), 18] [28] 19 2 29 0), (.db 29 (.cm .gtr 17 (.c 0))), (.db 30 (.not 17)), (.db 31 (.not 17)), (.db 32 (.not 17)), (.db 33 (.ite 32 (.c false) (.c true))), (.db 34 (.not 17)), (.db 35 (.not 17)), (.db 36 (.not 17)), (.db 37 (.ite 36 (.c false) (.c true))), (.db 38 (.not 29)), (.di 21 (.ite 38 (.c 0) (.c 1))), (.db 39 (.ite 38 37 33)), (.call 171 [19, 20, (.c 64), 21] [39] 22 2 40 0), (.call 136 [22, 23, 12] [17] 24 2 40 0)] [12, 24, 25] [17])
noncomputable def F140 : Fun := S140.run (tabF T28) false
theorem c140 : Ct m 140 s140 F140 := contract_of (hC_ok A28) Tryz.func140 (k := (ctlOf Tryz.f140 (gl m) s140)) (LoopsOk.nil rfl) (by kernel_rfl) (by kernel_rfl)
noncomputable def T29 : Tb := (140, s140, F140) :: T28
theorem A29 : Ok m T29 := ac Tryz.func140 (by kernel_rfl) (by kernel_rfl) c140 ⟨rfl, rfl⟩ A28
def s110 : Sum := { args := [(.ptr wk), (.val true [(.int .u8), .bool])], tup := true, res := [], pre := false }
def S110 : Smry := (.mk [(.call 140 [4, 5, 0, 17] [0, 14] 18 3 15 1)] [18, 1, 2, 3, 19, 20, 6, 7, 8, 9, 10, 11, 12, 13, 14, 15, 16] [15, 1, 2, 3, 4, 5, 6, 7, 8, 9, 10, 11, 12, 13])
noncomputable def F110 : Fun := S110.run (tabF T29) false
theorem c110 : Ct m 110 s110 F110 := contract_of (hC_ok A29) Tryz.func110 (k := (ctlOf Tryz.f110 (gl m) s110)) (LoopsOk.nil rfl) (by kernel_rfl) (by kernel_rfl)
noncomputable def T30 : Tb := (110, s110, F110) :: T29
theorem A30 : Ok m T30 := ac Tryz.func110 (by kernel_rfl) (by kernel_rfl) c110 ⟨rfl, rfl⟩ A29
def s173 : Sum := { args := [(.val true [(.int .u8), (.int .u8)]), (.val true [(.int .u8), .bool]), (.val true [(.int .u8), .bool])], tup := true, res := [(true, [(.int .u8), .bool]), (true, [(.int .u8), (.int .u8)])], pre := false }
def S173 : Smry := (.mk [(.di 4 (.ar .sub .u8 2 3)), (.db 2 (.not 0)), (.db 3 (.not 1)), (.db 4 (.not 1)), (.db 5 (.not 0)), (.db 6 (.ite 5 1 0)), (.db 7 (.not 0)), (.db 8 (.not 1)), (.db 9 (.and 7 8)), (.db 10 (.ite 9 (.c false) (.c true))), (.db 11 (.cm .geq 2 3)), (.db 12 (.not 0)), (.db 13 (.not 1)), (.db 14 (.not 1)), (.db 15 (.not 0)), (.db 16 (.ite 15 1 0)), (.db 17 (.not 0)), (.db 18 (.not 1)), (.db 19 (.and 17 18)), (.db 20 (.ite 19 (.c false) (.c true))), (.db 21 (.not 0)), (.db 22 (.not 1)), (.db 23 (.not 1)), (.db 24 (.not 0)), (.db 25 (.ite 24 1 0)), (.db 26 (.not 0)), (.db 27 (.not 1)), (.db 28 (.and 26 27)), (.db 29 (.ite 28 (.c false) (.c true))), (.db 30 (.not 11)), (.di 5 (.ite 30 (.c 0) (.c 1))), (.db 31 (.ite 30 29 20)), (.call 171 [0, 1, (.c 1), 5] [31] 6 2 32 0), (.call 136 [6, 7, 4] [10] 8 2 32 0)] [4, 8, 9] [10])
noncomputable def F173 : Fun := S173.run (tabF T30) false
theorem c173 : Ct m 173 s173 F173 := contract_of (hC_ok A30) Tryz.func173 (k := (ctlOf Tryz.f173 (gl m) s173)) (LoopsOk.nil rfl) (by kernel_rfl) (by kernel_rfl)
noncomputable def T31 : Tb := (173, s173, F173) :: T30
theorem A31 : Ok m T31 := ac Tryz.func173 (by kernel_rfl) (by kernel_rfl) c173 ⟨rfl, rfl⟩ A30
def s141 : Sum := { args := [(.val true [(.int .u8), (.int .u8)]), (.val true [(.int .u8), .bool]), (.val true [(.int .u8), .bool])], tup := false, res := [(true, [(.int .u8), (.int .u8)])], pre := false }
def S141 : Smry := (.mk [(.call 173 [0, 1, 2, 3] [0, 1] 4 3 2 1)] [5, 6] [])
noncomputable def F141 : Fun := S141.run (tabF T31) false
theorem c141 : Ct m 141 s141 F141 := contract_of (hC_ok A31) Tryz.func141 (k := (ctlOf Tryz.f141 (gl m) s141)) (LoopsOk.nil rfl) (by kernel_rfl) (by kernel_rfl)
noncomputable def T32 : Tb := (141, s141, F141) :: T31
theorem A32 : Ok m T32 := ac Tryz.func141 (by kernel_rfl) (by kernel_rfl) c141 ⟨rfl, rfl⟩ A31
def s111 : Sum := { args := [(.ptr wk), (.val true [(.int .u8), .bool])], tup := true, res := [], pre := false }
def S111 : Smry := (.mk [(.call 141 [4, 5, 0, 17] [0, 14] 18 2 15 0)] [0, 1, 2, 3, 18, 19, 6, 7, 8, 9, 10, 11, 12, 13, 14, 15, 16] [0, 1, 2, 3, 4, 5, 6, 7, 8, 9, 10, 11, 12, 13])
noncomputable def F111 : Fun := S111.run (tabF T32) false
theorem c111 : Ct m 111 s111 F111 := contract_of (hC_ok A32) Tryz.func111 (k := (ctlOf Tryz.f111 (gl m) s111)) (LoopsOk.nil rfl) (by kernel_rfl) (by kernel_rfl)
noncomputable def T33 : Tb := (111, s111, F111) :: T32
theorem A33 : Ok m T33 := ac Tryz.func111 (by kernel_rfl) (by kernel_rfl) c111 ⟨rfl, rfl⟩ A32
end Go.Proofs.YtghlmhlamoagoaaGreat.Fl
namespace Go.Proofs.YtghlmhlamoagoaaGreat.Fl
open Go Go.Proofs Go.Proofs.YtghlmhlamoagoaaGreat.Sx
variable {m : Int}

def s142 : Sum := { args := [(.val true [(.int .u8), (.int .u8)]), (.val true [(.int .u8), .bool]), (.val true [(.int .u8), .bool])], tup := true, res := [(true, [(.int .u8), .bool]), (true, [(.int .u8), (.int .u8)])], pre := false }
def S142 : Smry := (.mk [(.di 4 (.ar .xor .u8 3 (.c 255))), (.db 2 (.not 1)), (.db 3 (.not 1)), (.db 4 (.ite 3 (.c false) 1)), (.db 5 (.not 1)), (.db 6 (.ite 5 (.c false) (.c true))), (.call 140 [0, 1, 2, 4] [0, 6] 5 3 7 1)] [5, 6, 7] [7])
noncomputable def F142 : Fun := S142.run (tabF T33) false
theorem c142 : Ct m 142 s142 F142 := contract_of (hC_ok A33) Tryz.func142 (k := (ctlOf Tryz.f142 (gl m) s142)) (LoopsOk.nil rfl) (by kernel_rfl) (by kernel_rfl)
noncomputable def T34 : Tb := (142, s142, F142) :: T33
theorem A34 : Ok m T34 := ac Tryz.func142 (by kernel_rfl) (by kernel_rfl) c142 ⟨rfl, rfl⟩ A33
def s112 : Sum := { args := [(.ptr wk), (.val true [(.int .u8), .bool])], tup := true, res := [], pre := false }
def S112 : Smry := (.mk [(.call 142 [4, 5, 0, 17] [0, 14] 18 3 15 1)] [18, 1, 2, 3, 19, 20, 6, 7, 8, 9, 10, 11, 12, 13, 14, 15, 16] [15, 1, 2, 3, 4, 5, 6, 7, 8, 9, 10, 11, 12, 13])
noncomputable def F112 : Fun := S112.run (tabF T34) false
theorem c112 : Ct m 112 s112 F112 := contract_of (hC_ok A34) Tryz.func112 (k := (ctlOf Tryz.f112 (gl m) s112)) (LoopsOk.nil rfl) (by kernel_rfl) (by kernel_rfl)
noncomputable def T35 : Tb := (112, s112, F112) :: T34
theorem A35 : Ok m T35 := ac Tryz.func112 (by kernel_rfl) (by kernel_rfl) c112 ⟨rfl, rfl⟩ A34
def s73 : Sum := { args := [(.ptr wk), (.val true [(.int .u8), .bool])], tup := false, res := [(true, [(.int .u8), .bool])], pre := true }
def S73 : Smry := (.mk [(.db 15 (.cm .eql 13 (.c 2907354897182427562197295231552018137414565443003901738167771557506112863504763963436197752063297654702035326348216227702985221860229120))), (.db 16 (.cm .eql 13 (.c 780437137578998057845399307448291576437149535667310781232749694947540445558026181087377878027144855279719431371027801416046156308091532052791296))), (.db 17 (.cm .eql 13 (.c 49947976805055875702105555676690660891977570282640606407264471809047145331969334697982199001277049870651195189570256600423201808941604591475097600))), (.db 18 (.cm .eql 13 (.c 3048582568667961163458591044719888970457619748197710455534744213388606323933908069737598215291350334416159094094282883217024474033638694977536))), (.db 19 (.cm .eql 13 (.c 195109284394749514461349826862072894109287383933648593216064590635745907325591768174340767620344854383262810504356930694534083408453709447823360))), (.db 20 (.cm .eql 13 (.c 726838724295606890549323807888004534353908359066808174041789576893910482127723261391509016336204240208431558029312218530601966810169344))), (.db 21 (.cm .eql 13 (.c 799167628880894011233688890827050574271641124522249702516231548944754325311509355167715184020432821223101467994389364477998250358826299230026465280))), (.db 22 (.cm .eql 13 (.c 2977131414714805823690030317109266572713608638737646280875170106957457334795154478659525173325814647134534956257823276237897799354237845504))), (.db 23 (.ite 22 (.c false) (.c true))), (.db 24 (.ite 21 (.c false) 23)), (.db 25 (.ite 20 (.c false) 24)), (.db 26 (.ite 19 (.c false) 25)), (.db 27 (.ite 18 (.c false) 26)), (.db 28 (.ite 17 (.c false) 27)), (.db 29 (.ite 16 (.c false) 28)), (.db 30 (.ite 15 (.c false) 29)), (.db 31 (.not 30)), (.call 101 [4, 5, 17] [14] 18 3 32 1), (.call 101 [4, 5, 17] [14] 21 3 33 1), (.call 102 [4, 5, 17] [14] 24 3 34 1), (.call 102 [4, 5, 17] [14] 27 3 35 1), (.call 103 [4, 5, 17] [14] 30 3 36 1), (.call 103 [4, 5, 17] [14] 33 3 37 1), (.call 104 [4, 5, 17] [14] 36 3 38 1), (.ob [(31, true), (15, false), (16, false), (17, false), (18, false), (19, false), (20, false), (21, false)] 22), (.call 104 [4, 5, 17] [14] 39 3 39 1), (.di 42 (.ite 21 36 39)), (.db 40 (.ite 21 38 39)), (.di 43 (.ite 21 37 40)), (.di 44 (.ite 21 38 41)), (.di 45 (.ite 20 33 42)), (.db 41 (.ite 20 37 40)), (.di 46 (.ite 20 34 43)), (.di 47 (.ite 20 35 44)), (.di 48 (.ite 19 30 45)), (.db 42 (.ite 19 36 41)), (.di 49 (.ite 19 31 46)), (.di 50 (.ite 19 32 47)), (.di 51 (.ite 18 27 48)), (.db 43 (.ite 18 35 42)), (.di 52 (.ite 18 28 49)), (.di 53 (.ite 18 29 50)), (.di 54 (.ite 17 24 51)), (.db 44 (.ite 17 34 43)), (.di 55 (.ite 17 25 52)), (.di 56 (.ite 17 26 53)), (.di 57 (.ite 16 21 54)), (.db 45 (.ite 16 33 44)), (.di 58 (.ite 16 22 55)), (.di 59 (.ite 16 23 56)), (.di 60 (.ite 15 18 57)), (.db 46 (.ite 15 32 45)), (.di 61 (.ite 15 19 58)), (.di 62 (.ite 15 20 59)), (.di 63 (.lenq 13 1)), (.db 47 (.cm .lss (.c 0) 63)), (.ob [(31, false)] 47), (.di 64 (.get 13 (.c 0) 1 0)), (.db 48 (.cm .eql 64 (.c 68))), (.db 49 (.and 48 15)), (.db 50 (.and 48 16)), (.db 51 (.and 48 17)), (.db 52 (.and 48 18)), (.db 53 (.and 48 19)), (.db 54 (.and 48 20)), (.db 55 (.and 48 21)), (.db 56 (.and 48 22)), (.di 65 (.ite 48 (.c 255) (.c 1))), (.di 66 (.ar .add .u8 17 65)), (.db 57 (.not 14)), (.db 58 (.not 14)), (.db 59 (.not 14)), (.db 60 (.ite 59 (.c false) (.c true))), (.call 136 [4, 5, 66] [60] 67 2 61 0), (.db 61 (.and 31 15)), (.db 62 (.and 31 16)), (.db 63 (.and 31 17)), (.db 64 (.and 31 18)), (.db 65 (.and 31 19)), (.db 66 (.and 31 20)), (.db 67 (.and 31 21)), (.db 68 (.and 31 22)), (.di 69 (.ite 31 61 67)), (.di 70 (.ite 31 62 68)), (.di 71 (.ite 31 60 66)), (.db 69 (.ite 31 46 60)), (.db 70 (.cm .eql 13 (.c 780437137578998057845399307448291576437149535667310781232749694947540445558026181087377878027144855279719431371027801416046156308091532052791296))), (.db 71 (.cm .eql 13 (.c 726838724295606890549323807888004534353908359066808174041789576893910482127723261391509016336204240208431558029312218530601966810169344))), (.db 72 (.cm .eql 13 (.c 3048582568667961163458591044719888970457619748197710455534744213388606323933908069737598215291350334416159094094282883217024474033638694977536))), (.db 73 (.cm .eql 13 (.c 2977131414714805823690030317109266572713608638737646280875170106957457334795154478659525173325814647134534956257823276237897799354237845504))), (.db 74 (.cm .eql 13 (.c 11090678776483259438313656736572334813745748301507060575862046699550124805259267177524433662386367954152256436582285087280600186880))), (.db 75 (.cm .eql 13 (.c 726838724295606890549323807888004534353658048086036192391508910287718737739293256955271962152731757617446125264016712278425102043840512))), (.db 76 (.ite 75 (.c false) (.c true))), (.db 77 (.ite 74 (.c false) 76)), (.db 78 (.ite 73 (.c false) 77)), (.db 79 (.ite 72 (.c false) 78)), (.db 80 (.ite 71 (.c false) 79)), (.db 81 (.ite 70 (.c false) 80)), (.db 82 (.not 81)), (.call 107 [0, 1, 2, 3, 69, 70, 6, 7, 8, 9, 10, 11, 12, 13, 14, 15, 16, 71] [0, 1, 2, 3, 4, 5, 6, 7, 8, 9, 10, 11, 12, 13, 69] 72 17 83 14), (.call 108 [0, 1, 2, 3, 69, 70, 6, 7, 8, 9, 10, 11, 12, 13, 14, 15, 16, 71] [0, 1, 2, 3, 4, 5, 6, 7, 8, 9, 10, 11, 12, 13, 69] 89 17 97 14), (.call 109 [0, 1, 2, 3, 69, 70, 6, 7, 8, 9, 10, 11, 12, 13, 14, 15, 16, 71] [0, 1, 2, 3, 4, 5, 6, 7, 8, 9, 10, 11, 12, 13, 69] 106 17 111 14), (.call 110 [0, 1, 2, 3, 69, 70, 6, 7, 8, 9, 10, 11, 12, 13, 14, 15, 16, 71] [0, 1, 2, 3, 4, 5, 6, 7, 8, 9, 10, 11, 12, 13, 69] 123 17 125 14), (.call 111 [0, 1, 2, 3, 69, 70, 6, 7, 8, 9, 10, 11, 12, 13, 14, 15, 16, 71] [0, 1, 2, 3, 4, 5, 6, 7, 8, 9, 10, 11, 12, 13, 69] 140 17 139 14), (.ob [(82, true), (70, false), (71, false), (72, false), (73, false), (74, false)] 75), (.call 112 [0, 1, 2, 3, 69, 70, 6, 7, 8, 9, 10, 11, 12, 13, 14, 15, 16, 71] [0, 1, 2, 3, 4, 5, 6, 7, 8, 9, 10, 11, 12, 13, 69] 157 17 153 14), (.di 174 (.ite 74 140 157)), (.db 167 (.ite 74 139 153)), (.di 175 (.ite 74 141 158)), (.db 168 (.ite 74 140 154)), (.di 176 (.ite 74 142 159)), (.db 169 (.ite 74 141 155)), (.di 177 (.ite 74 143 160)), (.db 170 (.ite 74 142 156)), (.di 178 (.ite 74 144 161)), (.di 179 (.ite 74 145 162)), (.di 180 (.ite 74 146 163)), (.db 171 (.ite 74 143 157)), (.di 181 (.ite 74 147 164)), (.di 182 (.ite 74 148 165)), (.di 183 (.ite 74 149 166)), (.db 172 (.ite 74 144 158)), (.di 184 (.ite 74 150 167)), (.db 173 (.ite 74 145 159)), (.db 174 (.ite 74 146 160)), (.di 185 (.ite 74 151 168)), (.db 175 (.ite 74 147 161)), (.db 176 (.ite 74 148 162)), (.di 186 (.ite 74 152 169)), (.db 177 (.ite 74 149 163)), (.db 178 (.ite 74 150 164)), (.di 187 (.ite 74 153 170)), (.di 188 (.ite 74 154 171)), (.di 189 (.ite 74 155 172)), (.di 190 (.ite 74 156 173)), (.db 179 (.ite 74 151 165)), (.db 180 (.ite 74 152 166)), (.di 191 (.ite 73 123 174)), (.db 181 (.ite 73 125 167)), (.di 192 (.ite 73 124 175)), (.db 182 (.ite 73 126 168)), (.di 193 (.ite 73 125 176)), (.db 183 (.ite 73 127 169)), (.di 194 (.ite 73 126 177)), (.db 184 (.ite 73 128 170)), (.di 195 (.ite 73 127 178)), (.di 196 (.ite 73 128 179)), (.di 197 (.ite 73 129 180)), (.db 185 (.ite 73 129 171)), (.di 198 (.ite 73 130 181)), (.di 199 (.ite 73 131 182)), (.di 200 (.ite 73 132 183)), (.db 186 (.ite 73 130 172)), (.di 201 (.ite 73 133 184)), (.db 187 (.ite 73 131 173)), (.db 188 (.ite 73 132 174)), (.di 202 (.ite 73 134 185)), (.db 189 (.ite 73 133 175)), (.db 190 (.ite 73 134 176)), (.di 203 (.ite 73 135 186)), (.db 191 (.ite 73 135 177)), (.db 192 (.ite 73 136 178)), (.di 204 (.ite 73 136 187)), (.di 205 (.ite 73 137 188)), (.di 206 (.ite 73 138 189)), (.di 207 (.ite 73 139 190)), (.db 193 (.ite 73 137 179)), (.db 194 (.ite 73 138 180)), (.di 208 (.ite 72 106 191)), (.db 195 (.ite 72 111 181)), (.di 209 (.ite 72 107 192)), (.db 196 (.ite 72 112 182)), (.di 210 (.ite 72 108 193)), (.db 197 (.ite 72 113 183)), (.di 211 (.ite 72 109 194)), (.db 198 (.ite 72 114 184)), (.di 212 (.ite 72 110 195)), (.di 213 (.ite 72 111 196)), (.di 214 (.ite 72 112 197)), (.db 199 (.ite 72 115 185)), (.di 215 (.ite 72 113 198)), (.di 216 (.ite 72 114 199)), (.di 217 (.ite 72 115 200)), (.db 200 (.ite 72 116 186)), (.di 218 (.ite 72 116 201)), (.db 201 (.ite 72 117 187)), (.db 202 (.ite 72 118 188)), (.di 219 (.ite 72 117 202)), (.db 203 (.ite 72 119 189)), (.db 204 (.ite 72 120 190)), (.di 220 (.ite 72 118 203)), (.db 205 (.ite 72 121 191)), (.db 206 (.ite 72 122 192)), (.di 221 (.ite 72 119 204)), (.di 222 (.ite 72 120 205)), (.di 223 (.ite 72 121 206)), (.di 224 (.ite 72 122 207)), (.db 207 (.ite 72 123 193)), (.db 208 (.ite 72 124 194)), (.di 225 (.ite 71 89 208)), (.db 209 (.ite 71 97 195)), (.di 226 (.ite 71 90 209)), (.db 210 (.ite 71 98 196)), (.di 227 (.ite 71 91 210)), (.db 211 (.ite 71 99 197)), (.di 228 (.ite 71 92 211)), (.db 212 (.ite 71 100 198)), (.di 229 (.ite 71 93 212)), (.di 230 (.ite 71 94 213)), (.di 231 (.ite 71 95 214)), (.db 213 (.ite 71 101 199)), (.di 232 (.ite 71 96 215)), (.di 233 (.ite 71 97 216)), (.di 234 (.ite 71 98 217)), (.db 214 (.ite 71 102 200)), (.di 235 (.ite 71 99 218)), (.db 215 (.ite 71 103 201)), (.db 216 (.ite 71 104 202)), (.di 236 (.ite 71 100 219)), (.db 217 (.ite 71 105 203)), (.db 218 (.ite 71 106 204)), (.di 237 (.ite 71 101 220)), (.db 219 (.ite 71 107 205)), (.db 220 (.ite 71 108 206)), (.di 238 (.ite 71 102 221)), (.di 239 (.ite 71 103 222)), (.di 240 (.ite 71 104 223)), (.di 241 (.ite 71 105 224)), (.db 221 (.ite 71 109 207)), (.db 222 (.ite 71 110 208)), (.di 242 (.ite 70 72 225)), (.db 223 (.ite 70 83 209)), (.di 243 (.ite 70 73 226)), (.db 224 (.ite 70 84 210)), (.di 244 (.ite 70 74 227)), (.db 225 (.ite 70 85 211)), (.di 245 (.ite 70 75 228)), (.db 226 (.ite 70 86 212)), (.di 246 (.ite 70 76 229)), (.di 247 (.ite 70 77 230)), (.di 248 (.ite 70 78 231)), (.db 227 (.ite 70 87 213)), (.di 249 (.ite 70 79 232)), (.di 250 (.ite 70 80 233)), (.di 251 (.ite 70 81 234)), (.db 228 (.ite 70 88 214)), (.di 252 (.ite 70 82 235)), (.db 229 (.ite 70 89 215)), (.db 230 (.ite 70 90 216)), (.di 253 (.ite 70 83 236)), (.db 231 (.ite 70 91 217)), (.db 232 (.ite 70 92 218)), (.di 254 (.ite 70 84 237)), (.db 233 (.ite 70 93 219)), (.db 234 (.ite 70 94 220)), (.di 255 (.ite 70 85 238)), (.di 256 (.ite 70 86 239)), (.di 257 (.ite 70 87 240)), (.di 258 (.ite 70 88 241)), (.db 235 (.ite 70 95 221)), (.db 236 (.ite 70 96 222)), (.db 237 (.and 82 61)), (.db 238 (.and 82 62)), (.db 239 (.and 82 63)), (.db 240 (.and 82 64)), (.db 241 (.and 82 65)), (.db 242 (.and 82 66)), (.db 243 (.and 82 67)), (.db 244 (.and 82 68)), (.db 245 (.and 82 31)), (.db 246 (.and 82 49)), (.db 247 (.and 82 50)), (.db 248 (.and 82 51)), (.db 249 (.and 82 52)), (.db 250 (.and 82 53)), (.db 251 (.and 82 54)), (.db 252 (.and 82 55)), (.db 253 (.and 82 56)), (.db 254 (.and 82 48)), (.db 255 (.and 82 15)), (.db 256 (.and 82 16)), (.db 257 (.and 82 17)), (.db 258 (.and 82 18)), (.db 259 (.and 82 19)), (.db 260 (.and 82 20)), (.db 261 (.and 82 21)), (.db 262 (.and 82 22)), (.db 263 (.and 82 70)), (.db 264 (.and 82 71)), (.db 265 (.and 82 72)), (.db 266 (.and 82 73)), (.db 267 (.and 82 74)), (.db 268 (.and 82 75)), (.di 259 (.ite 82 242 0)), (.db 269 (.ite 82 223 0)), (.di 260 (.ite 82 243 1)), (.db 270 (.ite 82 224 1)), (.di 261 (.ite 82 244 2)), (.db 271 (.ite 82 225 2)), (.di 262 (.ite 82 245 3)), (.db 272 (.ite 82 226 3)), (.di 263 (.ite 82 246 69)), (.di 264 (.ite 82 247 70)), (.di 265 (.ite 82 248 6)), (.db 273 (.ite 82 227 4)), (.di 266 (.ite 82 249 7)), (.di 267 (.ite 82 250 8)), (.di 268 (.ite 82 251 9)), (.db 274 (.ite 82 228 5)), (.di 269 (.ite 82 252 10)), (.db 275 (.ite 82 229 6)), (.db 276 (.ite 82 230 7)), (.di 270 (.ite 82 253 11)), (.db 277 (.ite 82 231 8)), (.db 278 (.ite 82 232 9)), (.di 271 (.ite 82 254 12)), (.db 279 (.ite 82 233 10)), (.db 280 (.ite 82 234 11)), (.di 272 (.ite 82 255 13)), (.di 273 (.ite 82 256 14)), (.di 274 (.ite 82 257 15)), (.di 275 (.ite 82 258 16)), (.db 281 (.ite 82 235 12)), (.db 282 (.ite 82 236 13))] [71, 259, 260, 261, 262, 263, 264, 265, 266, 267, 268, 269, 270, 271, 272, 273, 274, 275] [69, 269, 270, 271, 272, 273, 274, 275, 276, 277, 278, 279, 280, 281, 282])
noncomputable def F73 : Fun := S73.run (tabF T35) true
theorem c73 : Ct m 73 s73 F73 := contract_pre (hC_ok A35) Tryz.func73 (k := (ctlOf Tryz.f73 (gl m) s73)) (LoopsOk.nil rfl) (by kernel_rfl) (by kernel_rfl)
noncomputable def T36 : Tb := (73, s73, F73) :: T35
theorem A36 : Ok m T36 := ac Tryz.func73 (by kernel_rfl) (by kernel_rfl) c73 ⟨rfl, rfl⟩ A35
def s44 : Sum := { args := [(.ptr wk)], tup := false, res := [(true, [(.int .u16), .bool, (.int .u8), .bool, .bool])], pre := true }
def S44 : Smry := (.mk [(.call 71 [0, 1, 2, 3, 4, 5, 6, 7, 8, 9, 10, 11, 12, 13, 14, 15, 16] [0, 1, 2, 3, 4, 5, 6, 7, 8, 9, 10, 11, 12, 13] 17 18 14 16), (.ob [] 14), (.db 30 (.cm .eql 33 (.c 2))), (.db 31 (.cm .eql 26 17)), (.db 32 (.and 30 31)), (.call 72 [18, 19, 20, 21, 22, 23, 24, 25, 26, 27, 28, 29, 30, 31, 32, 33, 34] [16, 17, 18, 19, 20, 21, 22, 23, 24, 25, 26, 27, 28, 29] 35 19 33 18), (.ob [(32, true)] 33), (.db 51 (.cm .eql 33 (.c 3))), (.di 54 (.ar .add .i64 17 (.c 1))), (.db 52 (.cm .eql 26 54)), (.db 53 (.and 51 52)), (.db 54 (.cm .eql 33 (.c 3))), (.di 55 (.ar .add .i64 17 (.c 2))), (.db 55 (.cm .eql 26 55)), (.db 56 (.and 54 55)), (.call 73 [18, 19, 20, 21, 22, 23, 24, 25, 26, 27, 28, 29, 30, 31, 32, 33, 34, 28] [16, 17, 18, 19, 20, 21, 22, 23, 24, 25, 26, 27, 28, 29, 22] 56 18 57 16), (.ob [(32, false), (53, false), (56, true)] 57), (.di 74 (.ite 56 56 (.c 0))), (.db 73 (.and 56 58)), (.db 74 (.or 53 56)), (.di 75 (.ite 53 28 74)), (.db 75 (.ite 53 22 73)), (.db 76 (.not 32)), (.di 76 (.ite 76 18 37)), (.db 77 (.ite 76 16 37)), (.di 77 (.ite 76 19 38)), (.db 78 (.ite 76 17 38)), (.di 78 (.ite 76 20 39)), (.db 79 (.ite 76 18 39)), (.di 79 (.ite 76 21 40)), (.db 80 (.ite 76 19 40)), (.di 80 (.ite 76 22 41)), (.di 81 (.ite 76 23 42)), (.di 82 (.ite 76 24 43)), (.db 81 (.ite 76 20 41)), (.di 83 (.ite 76 25 44)), (.di 84 (.ite 76 26 45)), (.di 85 (.ite 76 27 46)), (.db 82 (.ite 76 21 42)), (.di 86 (.ite 76 28 47)), (.db 83 (.ite 76 22 43)), (.db 84 (.ite 76 23 44)), (.di 87 (.ite 76 29 48)), (.db 85 (.ite 76 24 45)), (.db 86 (.ite 76 25 46)), (.di 88 (.ite 76 30 49)), (.db 87 (.ite 76 26 47)), (.db 88 (.ite 76 27 48)), (.di 89 (.ite 76 31 50)), (.di 90 (.ite 76 32 51)), (.di 91 (.ite 76 33 52)), (.di 92 (.ite 76 34 53)), (.db 89 (.ite 76 28 49)), (.db 90 (.ite 76 29 50)), (.di 93 (.ite 76 27 35)), (.db 91 (.ite 76 74 34)), (.di 94 (.ite 76 75 36)), (.db 92 (.ite 76 75 35)), (.db 93 (.ite 76 21 36))] [93, 94, 76, 77, 78, 79, 80, 81, 82, 83, 84, 85, 86, 87, 88, 89, 90, 91, 92] [91, 92, 93, 77, 78, 79, 80, 81, 82, 83, 84, 85, 86, 87, 88, 89, 90])
noncomputable def F44 : Fun := S44.run (tabF T36) true
theorem c44 : Ct m 44 s44 F44 := contract_pre (hC_ok A36) Tryz.func44 (k := (ctlOf Tryz.f44 (gl m) s44)) (LoopsOk.nil rfl) (by kernel_rfl) (by kernel_rfl)
noncomputable def T37 : Tb := (44, s44, F44) :: T36
theorem A37 : Ok m T37 := ac Tryz.func44 (by kernel_rfl) (by kernel_rfl) c44 ⟨rfl, rfl⟩ A36
def s25 : Sum := { args := [(.val true cp)], tup := false, res := [(true, [(.int .u16), .bool, (.int .u8), .bool, .bool])], pre := true }
def S25 : Smry := (.mk [(.call 21 [0, 1, 2, 3, 4, 5, 6, 7, 8, 9, 10, 11, 12] [0, 1, 2, 3, 4, 5, 6, 7, 8, 9, 10, 11] 13 1 12 0), (.db 12 (.cm .neq 13 (.c 0))), (.call 35 [7] [] 14 4 13 2), (.db 15 (.cm .lss 8 (.c 2))), (.db 16 (.cm .neq 15 (.c 20))), (.db 17 (.and 15 16)), (.db 18 (.cm .eql 8 (.c 0))), (.db 19 (.or 17 18)), (.db 20 (.cm .eql 15 (.c 20))), (.db 21 (.cm .eql 15 (.c 12))), (.db 22 (.cm .gtr 8 (.c 2))), (.db 23 (.cm .eql 15 (.c 14))), (.db 24 (.cm .lss 8 (.c 5))), (.di 18 (.cv .u16 3)), (.di 19 (.ar .add .u16 (.c 256) 18)), (.di 20 (.cv .u8 6)), (.di 21 (.ar .shr .u16 6 (.c 8))), (.di 22 (.cv .u8 21)), (.di 23 (.cv .u16 3)), (.di 24 (.ar .add .u16 (.c 256) 23)), (.di 25 (.cv .u8 6)), (.di 26 (.ar .shr .u16 6 (.c 8))), (.di 27 (.cv .u8 26)), (.di 28 (.cv .u16 3)), (.di 29 (.ar .add .u16 (.c 256) 28)), (.di 30 (.ar .sub .i64 8 (.c 2))), (.db 25 (.cm .geq 30 (.c 0))), (.ob [(12, false), (19, false), (20, false), (21, false), (23, true), (24, true)] 25), (.db 26 (.cm .lss 30 (.c 3))), (.ob [(12, false), (19, false), (20, false), (21, false), (23, true), (24, true)] 26), (.db 27 (.cm .eql 30 (.c 0))), (.db 28 (.cm .eql 30 (.c 1))), (.di 31 (.ite 28 24 29)), (.di 32 (.ite 28 22 25)), (.di 33 (.ite 27 19 31)), (.db 29 (.ite 27 (.c false) (.c true))), (.di 34 (.ite 27 (.c 0) 32)), (.db 30 (.ite 27 (.c false) 4)), (.db 31 (.cm .eql 15 (.c 15))), (.db 32 (.cm .lss 8 (.c 5))), (.di 35 (.cv .u16 3)), (.di 36 (.ar .add .u16 (.c 256) 35)), (.db 33 (.cm .eql 15 (.c 16))), (.db 34 (.cm .eql 15 (.c 19))), (.db 35 (.ite 33 33 34)), (.di 37 (.cv .u16 3)), (.di 38 (.ar .add .u16 (.c 256) 37)), (.db 36 (.cm .eql 15 (.c 18))), (.db 37 (.cm .eql 14 (.c 190536410541747572716161940294993060653600960856081490745673670328770095805227685313574673788367647727711789876536065982517204403585361641472))), (.di 39 (.ar .and .u8 4 (.c 207))), (.di 40 (.ar .and .u8 5 (.c 207))), (.di 41 (.ar .or .u8 39 (.c 32))), (.db 38 (.cm .gtr 40 (.c 0))), (.di 42 (.ar .or .u8 41 (.c 16))), (.db 39 (.not 37)), (.di 43 (.ite 39 0 42)), (.db 40 (.ite 39 0 38)), (.di 44 (.cv .u16 3)), (.di 45 (.ar .add .u16 (.c 256) 44)), (.db 41 (.cm .eql 15 (.c 17))), (.call 43 [0, 1, 2, 3, 4, 5, 6, 7, 8, 9, 10, 11, 12, 14, 15, 16, 17] [0, 1, 2, 3, 4, 5, 6, 7, 8, 9, 10, 11, 13, 14] 46 19 42 18), (.ob [(12, false), (19, false), (20, false), (21, false), (23, false), (31, false), (35, false), (36, false), (41, true)] 42), (.db 60 (.cm .eql 15 (.c 6))), (.db 61 (.cm .eql 15 (.c 7))), (.db 62 (.cm .eql 15 (.c 8))), (.db 63 (.ite 61 61 62)), (.db 64 (.ite 60 60 63)), (.db 65 (.cm .gtr 8 (.c 2))), (.call 44 [0, 1, 2, 3, 4, 5, 6, 7, 8, 9, 10, 11, 12, 14, 15, 16, 17] [0, 1, 2, 3, 4, 5, 6, 7, 8, 9, 10, 11, 13, 14] 65 19 66 18), (.ob [(12, false), (19, false), (20, false), (21, false), (23, false), (31, false), (35, false), (36, false), (41, false), (64, true), (65, true)] 66), (.db 84 (.cm .eql 15 (.c 3))), (.db 85 (.cm .eql 15 (.c 4))), (.db 86 (.cm .eql 15 (.c 5))), (.db 87 (.cm .eql 15 (.c 9))), (.db 88 (.cm .eql 15 (.c 10))), (.db 89 (.ite 87 87 88)), (.db 90 (.ite 86 86 89)), (.db 91 (.ite 85 85 90)), (.db 92 (.ite 84 84 91)), (.call 44 [0, 1, 2, 3, 4, 5, 6, 7, 8, 9, 10, 11, 12, 14, 15, 16, 17] [0, 1, 2, 3, 4, 5, 6, 7, 8, 9, 10, 11, 13, 14] 84 19 93 18), (.ob [(12, false), (19, false), (20, false), (21, false), (23, false), (31, false), (35, false), (36, false), (41, false), (64, false), (92, true)] 93), (.db 111 (.not 65)), (.db 112 (.not 92)), (.db 113 (.ite 64 111 112)), (.db 114 (.ite 64 65 92)), (.di 103 (.ite 64 65 84)), (.db 115 (.ite 64 67 94)), (.di 104 (.ite 64 66 85)), (.db 116 (.ite 64 68 95)), (.db 117 (.ite 64 69 96)), (.db 118 (.or 41 114)), (.di 105 (.ite 41 46 103)), (.db 119 (.ite 41 43 115)), (.di 106 (.ite 41 47 104)), (.db 120 (.ite 41 44 116)), (.db 121 (.ite 41 45 117)), (.db 122 (.or 36 118)), (.di 107 (.ite 36 45 105)), (.db 123 (.or 36 119)), (.di 108 (.ite 36 43 106)), (.db 124 (.ite 36 40 120)), (.db 125 (.ite 36 3 121)), (.db 126 (.or 35 122)), (.di 109 (.ite 35 38 107)), (.db 127 (.ite 35 (.c false) 123)), (.di 110 (.ite 35 (.c 0) 108)), (.db 128 (.ite 35 (.c false) 124)), (.db 129 (.ite 35 3 125)), (.db 130 (.not 32)), (.db 131 (.not 35)), (.db 132 (.not 36)), (.db 133 (.not 41)), (.db 134 (.and 133 113)), (.db 135 (.and 132 134)), (.db 136 (.and 131 135)), (.db 137 (.ite 31 130 136)), (.db 138 (.ite 31 32 126)), (.di 111 (.ite 31 36 109)), (.db 139 (.ite 31 (.c false) 127)), (.di 112 (.ite 31 (.c 0) 110)), (.db 140 (.ite 31 (.c false) 128)), (.db 141 (.ite 31 3 129)), (.db 142 (.not 24)), (.db 143 (.ite 23 142 137)), (.db 144 (.ite 23 24 138)), (.di 113 (.ite 23 33 111)), (.db 145 (.ite 23 29 139)), (.di 114 (.ite 23 34 112)), (.db 146 (.ite 23 30 140)), (.db 147 (.ite 23 3 141)), (.db 148 (.not 22)), (.db 149 (.ite 21 148 143)), (.db 150 (.ite 21 22 144)), (.di 115 (.ite 21 9 113)), (.db 151 (.ite 21 (.c false) 145)), (.di 116 (.ite 21 (.c 0) 114)), (.db 152 (.ite 21 (.c false) 146)), (.db 153 (.ite 21 5 147)), (.db 154 (.or 20 150)), (.di 117 (.ite 20 (.c 65535) 115)), (.db 155 (.ite 20 (.c false) 151)), (.di 118 (.ite 20 (.c 0) 116)), (.db 156 (.ite 20 (.c false) 152)), (.db 157 (.ite 20 (.c false) 153)), (.db 158 (.not 20)), (.db 159 (.and 158 149)), (.di 119 (.ite 159 6 117)), (.db 160 (.ite 159 (.c false) 155)), (.di 120 (.ite 159 (.c 0) 118)), (.db 161 (.ite 159 (.c false) 156)), (.db 162 (.ite 159 4 157)), (.db 163 (.not 19)), (.di 121 (.ite 163 119 6)), (.db 164 (.and 163 160)), (.di 122 (.ite 163 120 (.c 0))), (.db 165 (.and 163 161)), (.db 166 (.ite 163 162 4)), (.db 167 (.not 12)), (.di 123 (.ite 167 121 (.c 0))), (.db 168 (.and 167 164)), (.di 124 (.ite 167 122 (.c 0))), (.db 169 (.and 167 165)), (.db 170 (.and 167 166))] [123, 124] [168, 169, 170])
noncomputable def F25 : Fun := S25.run (tabF T37) true
theorem c25 : Ct m 25 s25 F25 := contract_pre (hC_ok A37) Tryz.func25 (k := (ctlOf Tryz.f25 (gl m) s25)) (LoopsOk.nil rfl) (by kernel_rfl) (by kernel_rfl)
noncomputable def T38 : Tb := (25, s25, F25) :: T37
theorem A38 : Ok m T38 := ac Tryz.func25 (by kernel_rfl) (by kernel_rfl) c25 ⟨rfl, rfl⟩ A37
def s74 : Sum := { args := [(.ptr wk), (.val true [(.int .u8), .bool])], tup := true, res := [], pre := false }
def S74 : Smry := (.mk [(.db 15 (.cm .neq 11 (.c 0))), (.di 18 (.ar .add .u16 6 (.c 1))), (.db 16 (.or 10 14)), (.db 17 (.not 15)), (.db 18 (.not 15)), (.di 19 (.ite 18 18 6)), (.di 20 (.ite 18 17 (.c 0))), (.db 19 (.ite 18 16 10))] [0, 1, 2, 3, 4, 5, 19, 20, 8, (.c 0), (.c 0), 11, 12, 13, 14, 15, 16] [0, 1, 2, 3, 4, (.c false), (.c false), (.c false), 8, 9, 19, 11, 12, 13])
noncomputable def F74 : Fun := S74.run (tabF T38) false
theorem c74 : Ct m 74 s74 F74 := contract_of (hC_ok A38) Tryz.func74 (k := (ctlOf Tryz.f74 (gl m) s74)) (LoopsOk.nil rfl) (by kernel_rfl) (by kernel_rfl)
noncomputable def T39 : Tb := (74, s74, F74) :: T38
theorem A39 : Ok m T39 := ac Tryz.func74 (by kernel_rfl) (by kernel_rfl) c74 ⟨rfl, rfl⟩ A38
def s143 : Sum := { args := [(.ptr wk), (.val false [(.int .u8)]), (.val false [(.int .u8)])], tup := true, res := [], pre := false }
def S143 : Smry := (.mk [(.call 171 [4, 5, 17, 18] [(.c false)] 19 2 14 0)] [0, 1, 2, 3, 19, 20, 6, 7, 8, 9, 10, 11, 12, 13, 14, 15, 16] [0, 1, 2, 3, 4, 5, 6, 7, 8, 9, 10, 11, 12, 13])
noncomputable def F143 : Fun := S143.run (tabF T39) false
theorem c143 : Ct m 143 s143 F143 := contract_of (hC_ok A39) Tryz.func143 (k := (ctlOf Tryz.f143 (gl m) s143)) (LoopsOk.nil rfl) (by kernel_rfl) (by kernel_rfl)
noncomputable def T40 : Tb := (143, s143, F143) :: T39
theorem A40 : Ok m T40 := ac Tryz.func143 (by kernel_rfl) (by kernel_rfl) c143 ⟨rfl, rfl⟩ A39
end Go.Proofs.YtghlmhlamoagoaaGreat.Fl
