/-
  Merged texts (SxHl, SxAs, PoB, PoS1, PoP, PoD). No condition.
-/
import Derived.Test.YtfgbfdlacnihkaaDoorChecked
import Derived.Shelf.SlicesG.Cmp
import Derived.Deep.Quiet
import Derived.Test.YtfgbfdlacnihkaaDoorPj7
import Derived.Test.YtfgbfdlacnihkaaDoorPj8
set_option linter.unusedVariables false
set_option linter.unusedSimpArgs false
namespace Go.Proofs.YtfgbfdlacnihkaaDoor.Sx
open Go

structure InlI where
 f : Nat
 lo : List (Nat × LAnn) := []
 lb : List (Nat × LAnn) := []
 ll : List (Nat × LAnn) := []
 rf : Bool := false
def findI (f : Nat) : List InlI -> Option InlI
 | [] => none
 | i :: l => if Nat.beq i.f f then some i else findI f l
theorem findI_mem {f : Nat} : ∀ {l : List InlI} {i : InlI}, findI f l = some i -> i ∈ l
 | [], _, h => by cases h
 | j :: l, i, h => by
  unfold findI at h
  split at h
  ·cases h; exact List.mem_cons_self
  ·exact List.mem_cons_of_mem _ (findI_mem h)
def kpL : Kp := { l := List.replicate 1000 true, fz := false }
def ctlBL (fn : Func) (lb : List (Nat × LAnn)) : Ctl := { keep := { l := keepOf fn, fz := false }, turns := 400, ret := [], base := 1000000000, loops := lb }
def ctlIL (P : Program) (H : Hnd) (gl : Gl) (i : InlI) (fn : Func) : Ctl := { ctlI fn with loops := i.lo, E := if i.rf then rfE P H gl (ctlBL fn i.lb) kpL i.ll 400 else {} }
def hndL (P : Program) (gl : Gl) (I : List InlI) (H : Hnd) : Nat -> Hnd
 | 0 => H
 | n + 1 => fun f Γ hp xs => match findI f I with
  | some i => (match P.funcs[f]? with
   | some fn => inlM P (hndL P gl I H n) gl (ctlIL P (hndL P gl I H n) gl i fn) fn Γ hp xs
   | none => M.fail)
  | none => H f Γ hp xs
def nameOkL (P : Program) (I : List InlI) : Bool := I.all fun i => match P.funcs[i.f]? with
 | some fn => !(fn.name == "runtime.NumGoroutine")
 | none => true
def LsOk (Φ : Funs) (l : List (Nat × LAnn)) : Prop := ∀ p, p ∈ l -> Φ p.2.id = loopF (p.2.S.run Φ true) p.2.nI p.2.nB
def InlOk (Φ : Funs) (I : List InlI) : Prop := ∀ i, i ∈ I -> LsOk Φ i.lo /\ LsOk Φ i.lb /\ LsOk Φ i.ll
theorem findI_f {f : Nat} : ∀ {l : List InlI} {i : InlI}, findI f l = some i -> i.f = f
 | [], _, h => by cases h
 | j :: l, i, h => by
  unfold findI at h
  split at h
  ·rename_i e; cases h; exact Nat.eq_of_beq_eq_true e
  ·exact findI_f h
theorem ctlIL_E {P : Program} {Φ : Funs} {gl : Gl} {H : Hnd} (hH : HOk P Φ gl H) {i : InlI} (hb : LsOk Φ i.lb) (hl : LsOk Φ i.ll) (fn : Func) : ∀ x : Cx, x.gl = gl -> x.rl = none -> x.lr = none -> x.ds = [] -> (∀ w, Keep x.R x.w0 w -> Laid gl w) -> EOk P Φ x (ctlIL P H gl i fn).E := fun x h1 h2 h3 h4 h6 => by
 subst h1
 show EOk P Φ x (if i.rf then rfE P H x.gl (ctlBL fn i.lb) kpL i.ll 400 else {})
 split
 ·exact rfE_ok (kb := ctlBL fn i.lb) hH h6 (fun h => by cases h) hb rfl (fun h => by cases h) hl h2 h3 h4
 ·exact EOk.nil rfl
theorem hndL_ok {P : Program} {Φ : Funs} {gl : Gl} {I : List InlI} {H : Hnd} (hH : HOk P Φ gl H) (hI : nameOkL P I = true) (hL : InlOk Φ I) : ∀ n, HOk P Φ gl (hndL P gl I H n)
 | 0 => hH
 | n + 1 => by
  intro f Γ hp xs ρ c res c' out he hg hΓ N R Q β w vs hm hh hb hN hG hf
  unfold hndL at he
  cases hc : findI f I with
  | some i =>
   rw [hc] at he
   simp only at he
   have hif := findI_f hc
   cases hfn : P.funcs[f]? with
   | none => rw [hfn] at he; simp [M.fail] at he
   | some fn =>
    rw [hfn] at he
    have hn : (fn.name == "runtime.NumGoroutine") = false := by
     unfold nameOkL at hI
     rw [List.all_eq_true] at hI
     have := hI i (findI_mem hc)
     rw [hif, hfn] at this
     simpa using this
    obtain ⟨l1, l2, l3⟩ := hL i (findI_mem hc)
    exact inl_ok (hndL_ok hH hI hL n) hfn hn (k := ctlIL P (hndL P gl I H n) gl i fn) l1 (ctlIL_E (hndL_ok hH hI hL n) l2 l3 fn) he hg hΓ hm hh hb hN hG hf
  | none =>
   rw [hc] at he
   exact hH f Γ hp xs ρ c res c' out he hg hΓ N R Q β w vs hm hh hb hN hG hf
def sel (l : List (Nat × LAnn)) (a : List Nat) : List (Nat × LAnn) := a.filterMap fun i => l[i]?
theorem sel_mem {l : List (Nat × LAnn)} {a : List Nat} {p : Nat × LAnn} (h : p ∈ sel l a) : p ∈ l := by
 unfold sel at h
 obtain ⟨i, _, hi⟩ := List.mem_filterMap.1 h
 exact List.mem_of_getElem? hi
def mkIs (l : List (Nat × LAnn)) : List (Nat × List Nat × List Nat × List Nat × Bool) -> List InlI
 | [] => []
 | q :: r => { f := q.1, lo := sel l q.2.1, lb := sel l q.2.2.1, ll := sel l q.2.2.2.1, rf := q.2.2.2.2 } :: mkIs l r
theorem mkIs_ok {Φ : Funs} {l : List (Nat × LAnn)} (h : LsOk Φ l) : ∀ {sp : List (Nat × List Nat × List Nat × List Nat × Bool)}, InlOk Φ (mkIs l sp)
 | [] => fun i hi => by cases hi
 | q :: r => fun i hi => by
  rcases List.mem_cons.1 hi with rfl | hi
  ·exact ⟨fun p hp => h p (sel_mem hp), fun p hp => h p (sel_mem hp), fun p hp => h p (sel_mem hp)⟩
  ·exact mkIs_ok h i hi
theorem lsOk_sel {Φ : Funs} {l : List (Nat × LAnn)} (h : LsOk Φ l) (a : List Nat) : LsOk Φ (sel l a) := fun p hp => h p (sel_mem hp)
end Go.Proofs.YtfgbfdlacnihkaaDoor.Sx
namespace Go.Proofs.YtfgbfdlacnihkaaDoor.Sx
open Go

def asOf (f : Nat) : List (Nat × Int) -> Option Int
 | [] => none
 | (g, n) :: l => if g == f then some n else asOf f l
def asNum : S -> Option (IntKind × A)
 | .one false [.int k a] => some (k, a)
 | _ => none
theorem asNum_spec {s : S} {p : IntKind × A} (h : asNum s = some p) : s = .one false [.int p.1 p.2] := by
 unfold asNum at h
 split at h
 ·cases h; rfl
 ·cases h
def asM (n : Int) (r : Res) : M Res := do
 let p <- lift (asNum r.s)
 sameId (do
   let b <- mkCm .eql p.2 (.c n)
   oblige b
   pure { r with s := .one false [.int p.1 (.c n)] })
def asH (l : List (Nat × Int)) (H : Hnd) : Hnd := fun f Γ hp xs => do
 let r <- H f Γ hp xs
 match asOf f l with
 | none => pure r
 | some n => asM n r
theorem asM_spec {Φ : Funs} {ρ : Env} {n : Int} {r r' : Res} {c c' : Ctr} {o : List Em} (h : asM n r c = some (r', c', o)) (hg : Good Φ ρ o) : c'.id = c.id /\ r'.w = r.w /\ r'.rb = r.rb /\ ∀ β v, r.s.mt β ρ v -> r'.s.mt β ρ v := by
 unfold asM at h
 obtain ⟨p, c0, o0, c9, o9, y0, g0, h, e0⟩ := M.bind_inv h
 obtain ⟨p', hp', e9⟩ := lift_inv g0
 simp only [Prod.mk.injEq] at e0 e9
 obtain ⟨rfl, rfl, rfl⟩ := e0
 obtain ⟨rfl, rfl, rfl⟩ := e9
 have hs := asNum_spec hp'
 obtain ⟨k, a⟩ := p
 ·obtain ⟨h, hid⟩ := sameId_inv h
  obtain ⟨b, c1, o1, c2, o2, y, g1, g2, e1⟩ := M.bind_inv h
  simp only [Prod.mk.injEq] at e1
  obtain ⟨rfl, rfl, rfl⟩ := e1
  obtain ⟨u, c3, o3, c4, o4, y, g3, g4, e1⟩ := M.bind_inv g2
  simp only [Prod.mk.injEq] at e1
  obtain ⟨rfl, rfl, rfl⟩ := e1
  have g4 := M.pure_inv g4
  simp only [Prod.mk.injEq] at g4
  obtain ⟨rfl, rfl, rfl⟩ := g4
  simp only [List.nil_append, Good.append] at hg
  have e1 := mkCm_snd .eql a (.c n) _ _ _ _ g1 hg.1
  have e2 := oblige_snd b _ _ _ _ g3 hg.2.1
  refine ⟨hid, rfl, rfl, fun β v hv => ?_⟩
  rw [hs] at hv
  obtain ⟨c0, hc, hv⟩ := hv
  simp only [List.cons.injEq, and_true] at hc
  subst hc
  rw [e1] at e2
  have e3 : a.d ρ = n := by simpa [cmB] using e2
  refine ⟨_, rfl, ?_⟩
  obtain ⟨h1, h2⟩ := hv
  rw [e3] at h1 h2
  exact ⟨h1, h2⟩
theorem asH_ok {P : Program} {Φ : Funs} {gl : Gl} {H : Hnd} (hH : HOk P Φ gl H) (l : List (Nat × Int)) : HOk P Φ gl (asH l H) := by
 intro f Γ hp xs ρ c res c' out he hg hΓ N R Q β w vs hm hh hb hN hG hf
 unfold asH at he
 obtain ⟨r, c1, o1, c2, o2, y, g1, g2, e1⟩ := M.bind_inv he
 simp only [Prod.mk.injEq] at e1
 obtain ⟨rfl, rfl, rfl⟩ := e1
 rw [Good.append] at hg
 cases hl : asOf f l with
 | none =>
  rw [hl] at g2
  have g2 := M.pure_inv g2
  simp only [Prod.mk.injEq] at g2
  obtain ⟨rfl, rfl, rfl⟩ := g2
  exact hH f Γ hp xs ρ c _ _ _ g1 hg.1 hΓ N R Q β w vs hm hh hb hN hG hf
 | some n =>
  rw [hl] at g2
  obtain ⟨e1, e2, e3, e4⟩ := asM_spec (Φ := Φ) g2 hg.2
  have := hH f Γ hp xs ρ c _ _ _ g1 hg.1 hΓ N R Q β w vs hm hh hb hN hG (fun i h1 h2 => hf i h1 (by omega))
  refine ⟨this.1, Calls.mono this.2 fun e u ⟨v, hv, β', p1, p2, p3⟩ => ⟨v, hv, β', ?_, e4 β' v p2, ?_⟩⟩
  ·rw [e2, e3, e1]; exact p1
  ·rw [e2]; exact p3

def Ctl.fz (k : Ctl) (l : List Nat) : Ctl := { k with fzf := l }
theorem contract_preA {P : Program} {Φ : Funs} {X : Hnd} {gl : Gl} (hX : HOk P Φ gl X) {f : Nat} {fn : Func} (hf : P.funcs[f]? = some fn) {k : Ctl} (hK : LoopsOk Φ k) {s : Sum} {S : Smry} (h : fnX P X gl k fn s = some S)
  (hw : (wsEm S.em (argI s.args) (argB s.args) && shOk s && s.pre) = true) (hEA : EAll P Φ gl k) : Contract P gl f s (S.run Φ s.pre) := by
 simp only [Bool.and_eq_true] at hw
 refine contract_gen hX hf hK hEA h hw.1.1 hw.1.2 fun vs w is bs ps _ hp => ?_
 have := hp hw.2
 simpa [Smry.run, hw.2] using this
end Go.Proofs.YtfgbfdlacnihkaaDoor.Sx
namespace Go.Proofs
open Go.Shelf Go.RowKit Go.Lib Go.Sort
def Tryd.sortIv_ren : Go.Shelf.Ren := ⟨fun | 6 => 69 | 15 => 83 | 14 => 82 | 28 => 100 | 29 => 101 | 20 => 92 | 21 => 93 | 22 => 94 | 23 => 95 | 24 => 96 | 25 => 97 | 26 => 98 | 27 => 99 | 46 => 107 | 47 => 108 | 48 => 109 | 49 => 110 | 50 => 111 | 57 => 114 | n => n, fun | 22 => 23 | 24 => 52 | 25 => 98 | 3 => 3 | 39 => 37 | 0 => 0 | 53 => 123 | 55 => 102 | 4 => 4 | 46 => 139 | 45 => 138 | 50 => 66 | 5 => 5 | 9 => 9 | 66 => 149 | 70 => 153 | 76 => 155 | 77 => 99 | n => n, fun | n => n⟩
theorem Tryd.sortIv : Go.Proofs.SlLaysF0.n6 Tryd.prog Tryd.sortIv_ren := {
 mixed := by kernel_rfl
 f6 := ⟨Tryd.f69.name, by decide, Tryd.func69.trans (congrArg some (by kernel_rfl))⟩
 f14 := ⟨Tryd.f82.name, by decide, Tryd.func82.trans (congrArg some (by kernel_rfl))⟩
 f15 := Tryd.func83.trans (congrArg some (by kernel_rfl))
 f20 := ⟨Tryd.f92.name, by decide, Tryd.func92.trans (congrArg some (by kernel_rfl))⟩
 f21 := ⟨Tryd.f93.name, by decide, Tryd.func93.trans (congrArg some (by kernel_rfl))⟩
 f22 := ⟨Tryd.f94.name, by decide, Tryd.func94.trans (congrArg some (by kernel_rfl))⟩
 f23 := ⟨Tryd.f95.name, by decide, Tryd.func95.trans (congrArg some (by kernel_rfl))⟩
 f24 := ⟨Tryd.f96.name, by decide, Tryd.func96.trans (congrArg some (by kernel_rfl))⟩
 f25 := ⟨Tryd.f97.name, by decide, Tryd.func97.trans (congrArg some (by kernel_rfl))⟩
 f26 := ⟨Tryd.f98.name, by decide, Tryd.func98.trans (congrArg some (by kernel_rfl))⟩
 f27 := ⟨Tryd.f99.name, by decide, Tryd.func99.trans (congrArg some (by kernel_rfl))⟩
 f28 := Tryd.func100.trans (congrArg some (by kernel_rfl))
 f29 := Tryd.func101.trans (congrArg some (by kernel_rfl))
 f46 := ⟨Tryd.f107.name, by decide, Tryd.func107.trans (congrArg some (by kernel_rfl))⟩
 f47 := Tryd.func108.trans (congrArg some (by kernel_rfl))
 f48 := Tryd.func109.trans (congrArg some (by kernel_rfl))
 f49 := ⟨Tryd.f110.name, by decide, Tryd.func110.trans (congrArg some (by kernel_rfl))⟩
 f50 := ⟨Tryd.f111.name, by decide, Tryd.func111.trans (congrArg some (by kernel_rfl))⟩
 f57 := ⟨Tryd.f114.name, by decide, Tryd.func114.trans (congrArg some (by kernel_rfl))⟩
 t0 := Tryd.underlying0
 a0 := Tryd.isAgg0
 z0 := Tryd.sizeOf0
 v0 := Tryd.zeroValue0
 t3 := Tryd.underlying3
 a3 := Tryd.isAgg3
 z3 := Tryd.sizeOf3
 v3 := Tryd.zeroValue3
 t4 := Tryd.underlying4
 a4 := Tryd.isAgg4
 z4 := Tryd.sizeOf4
 v4 := Tryd.zeroValue4
 t5 := Tryd.underlying5
 a5 := Tryd.isAgg5
 z5 := Tryd.sizeOf5
 v5 := Tryd.zeroValue5
 t9 := Tryd.underlying9
 a9 := Tryd.isAgg9
 z9 := Tryd.sizeOf9
 v9 := Tryd.zeroValue9
 t22 := Tryd.underlying23
 a22 := Tryd.isAgg23
 z22 := Tryd.sizeOf23
 v22 := Tryd.zeroValue23
 t25 := Tryd.underlying98
 a25 := Tryd.isAgg98
 z25 := Tryd.sizeOf98
 v25 := Tryd.zeroValue98
 t39 := Tryd.underlying37
 a39 := Tryd.isAgg37
 z39 := Tryd.sizeOf37
 v39 := Tryd.zeroValue37
 t45 := Tryd.underlying138
 a45 := Tryd.isAgg138
 z45 := Tryd.sizeOf138
 v45 := Tryd.zeroValue138
 t46 := Tryd.underlying139
 a46 := Tryd.isAgg139
 z46 := Tryd.sizeOf139
 v46 := Tryd.zeroValue139
 t50 := Tryd.underlying66
 a50 := Tryd.isAgg66
 z50 := Tryd.sizeOf66
 v50 := Tryd.zeroValue66
 t53 := Tryd.underlying123
 a53 := Tryd.isAgg123
 z53 := Tryd.sizeOf123
 v53 := Tryd.zeroValue123
 t55 := Tryd.underlying102
 a55 := Tryd.isAgg102
 z55 := Tryd.sizeOf102
 v55 := Tryd.zeroValue102
 t66 := Tryd.underlying149
 a66 := Tryd.isAgg149
 z66 := Tryd.sizeOf149
 v66 := Tryd.zeroValue149
 t70 := Tryd.underlying153
 a70 := Tryd.isAgg153
 z70 := Tryd.sizeOf153
 v70 := Tryd.zeroValue153
 t76 := Tryd.underlying155
 a76 := Tryd.isAgg155
 z76 := Tryd.sizeOf155
 v76 := Tryd.zeroValue155
 t77 := Tryd.underlying99
 a77 := Tryd.isAgg99
 z77 := Tryd.sizeOf99
 v77 := Tryd.zeroValue99 }
def Tryd.cmpInt_ren : Go.Shelf.Ren := ⟨fun | 5 => 55 | 7 => 71 | n => n, fun | 22 => 3 | 3 => 3 | 4 => 4 | n => n, fun | n => n⟩
theorem Tryd.cmpInt : Go.Proofs.SlLaysC2.n5 Tryd.prog Tryd.cmpInt_ren := {
 mixed := by kernel_rfl
 f5 := ⟨Tryd.f55.name, by decide, Tryd.func55.trans (congrArg some (by kernel_rfl))⟩
 f7 := ⟨Tryd.f71.name, by decide, Tryd.func71.trans (congrArg some (by kernel_rfl))⟩
 t3 := Tryd.underlying3
 a3 := Tryd.isAgg3
 z3 := Tryd.sizeOf3
 v3 := Tryd.zeroValue3
 t4 := Tryd.underlying4
 a4 := Tryd.isAgg4
 z4 := Tryd.sizeOf4
 v4 := Tryd.zeroValue4
 t22 := Tryd.underlying3
 a22 := Tryd.isAgg3
 z22 := Tryd.sizeOf3
 v22 := Tryd.zeroValue3 }

set_option maxHeartbeats 1000000 in
theorem Tryd.closure54 (x y : Int × Int) (W : World) : Calls Tryd.prog 54 #[.agg #[.int .i64 x.1, .int .i64 x.2], .agg #[.int .i64 y.1, .int .i64 y.2]] W fun e w' => e = .returned (.int .i64 (Lib.compareInt x.1 y.1)) /\ ∃ q os', w' = grow (W.drewN q) os' := by
 have hcon := fun W' => AnyG.cmp_Compare_int Tryd.cmpInt x.1 y.1 W'
 change ∀ W', Calls Tryd.prog 55 _ _ _ at hcon
 generalize Lib.compareInt x.1 y.1 = r at hcon ⊢
 go_enter Tryd.func54, Tryd.ntmps54
 go_wp2_with (go_at_call 55; refine (hcon _).mono ?_; rintro e w' ⟨rfl, rfl⟩)
 go_ret
 exact ⟨rfl, 0, _, by rw [alloc_eq_grow, alloc_eq_grow, grow_grow]; rfl⟩
theorem Tryd.cmpEq (x y : Int × Int) : Lib.compareInt x.1 y.1 = YtfgbfdlacnihkaaDoor.Sx.cfR x y := by
 unfold Lib.compareInt YtfgbfdlacnihkaaDoor.Sx.cfR
 by_cases h1 : x.1 < y.1
 ·simp [h1]
 ·by_cases h2 : y.1 < x.1
  ·simp [h1, h2]; omega
  ·simp [h1, h2]; omega
theorem Tryd.cmpLays54 (blk off size : Nat) (w : World) : CmpLays Tryd.prog 54 #[] YtfgbfdlacnihkaaDoor.Sx.encR 2 YtfgbfdlacnihkaaDoor.Sx.cfR blk off size w :=
 fun _ _ _ _ x y => (Tryd.closure54 x y _).mono fun e w' ⟨he, hw⟩ => ⟨by rw [he, Tryd.cmpEq], hw⟩
end Go.Proofs
namespace Go.Proofs.YtfgbfdlacnihkaaDoor.Po
open Go Go.Proofs Go.Proofs.YtfgbfdlacnihkaaDoor.Sx
variable {m : Int}
theorem call69 : ∀ args w, (callFunc 69 args).run Tryd.prog w = .ok (.enter 69 args) w := callable_of Tryd.func69 (by kernel_rfl) (by kernel_rfl)
theorem call54' : ∀ args w, (callFunc 54 args).run Tryd.prog w = .ok (.enter 54 args) w := callable_of Tryd.func54 (by kernel_rfl) (by kernel_rfl)
theorem call47 : ∀ args w, (callFunc 47 args).run Tryd.prog w = .ok (.enter 47 args) w := callable_of Tryd.func47 (by kernel_rfl) (by kernel_rfl)
theorem call17 : ∀ args w, (callFunc 17 args).run Tryd.prog w = .ok (.enter 17 args) w := callable_of Tryd.func17 (by kernel_rfl) (by kernel_rfl)
theorem call32 : ∀ args w, (callFunc 32 args).run Tryd.prog w = .ok (.enter 32 args) w := callable_of Tryd.func32 (by kernel_rfl) (by kernel_rfl)
theorem call38 : ∀ args w, (callFunc 38 args).run Tryd.prog w = .ok (.enter 38 args) w := callable_of Tryd.func38 (by kernel_rfl) (by kernel_rfl)
noncomputable def hC (m : Int) (I : List InlI) (X : Sums) : Hnd := hndL Tryd.prog (gl m) I (asH [] (sortH 69 54 (concatH Tryd.prog 26 23 (hnd0 X)))) 12
theorem hC_ok {Φ : Funs} {X : Sums} {I : List InlI} (hX : AllOk Tryd.prog Φ (gl m) X) (hΦ : Φ 69 = sortF) (hI : nameOkL Tryd.prog I = true) (hL : InlOk Φ I) : HOk Tryd.prog Φ (gl m) (hC m I X) :=
 hndL_ok (asH_ok (sortH_ok (concatH_ok (hnd0_ok hX)) Tryd.sortIv call69 Tryd.isAgg52 Tryd.sizeOf52 (g := 54) (by decide) call54' (fun blk off size w => Tryd.cmpLays54 blk off size w) hΦ) []) hI hL 12
def s69 : Sum := { args := [], tup := false, res := [], pre := true }
noncomputable def T0 : List (Nat × Sum × Fun) := [(69, s69, sortF), (47, s47, F47), (17, s17, F17), (32, s32, F32), (38, s38, F38)]
theorem c69 : Contract Tryd.prog (gl m) 69 s69 sortF := fun vs w is bs ps h1 h2 h3 h4 h5 h6 hp => by
 have := hp rfl
 simp [sortF] at this
theorem A0 : AllOk Tryd.prog (tabF T0) (gl m) (tabS T0) :=
 AllOk.cons (s := s69) c69 call69 (fun S h => by cases h) (AllOk.cons (s := s47) c47 call47 (fun S h => by cases h) (AllOk.cons (s := s17) c17 call17 (fun S h => by cases h)
  (AllOk.cons (s := s32) c32 call32 (fun S h => by cases h) (AllOk.cons (s := s38) c38 call38 (fun S h => by cases h) AllOk.nil))))
def sp0 : List (Nat × List Nat × List Nat × List Nat × Bool) := [(40, [], [], [], false), (60, [], [], [], false), (50, [], [], [], false), (41, [], [], [], false), (52, [], [], [], false), (53, [], [], [], false), (70, [], [], [], false), (68, [], [], [], false), (81, [], [], [], true), (16, [], [], [], false), (30, [], [], [], false), (45, [], [], [], false)]
end Go.Proofs.YtfgbfdlacnihkaaDoor.Po
namespace Go.Proofs.YtfgbfdlacnihkaaDoor.Po
open Go Go.Proofs Go.Proofs.YtfgbfdlacnihkaaDoor.Sx
variable {m : Int}
def s51 : Sum := { args := [(.val true [(.int .i64), (.int .i64)])], tup := false, res := [(false, [.bool])], pre := false }
def S51 : Smry := (.mk [(.db 0 (.cm .geq (.v 0) (.c 0))), (.db 1 (.cm .geq (.v 1) (.v 0))), (.db 2 (.and (.v 0) (.v 1))), (.db 3 (.cm .lss (.v 1) (.c 65536))), (.db 4 (.and (.v 2) (.v 3)))] [] [(.v 4)])
def i51 : List (Nat × List Nat × List Nat × List Nat × Bool) := sp0
theorem x51 : AllOk Tryd.prog (tabF T0) (gl m) (tabS T0) := A0
theorem y51l : LsOk (tabF T0) [] := fun p hp => by cases hp
theorem h51 : HOk Tryd.prog (tabF T0) (gl m) (hC m (mkIs [] i51) (tabS T0)) := hC_ok x51 (by kernel_rfl) (by kernel_rfl) (mkIs_ok y51l)
theorem k51 : fnX Tryd.prog (hC m (mkIs [] i51) (tabS T0)) (gl m) (ctlL Tryd.f51 (gl m) s51 []) Tryd.f51 s51 = some S51 := by kernel_rfl
noncomputable def F51 : Fun := S51.run (tabF T0) false
theorem y51 : LoopsOk (tabF T0) (ctlL Tryd.f51 (gl m) s51 []) := fun p hp => by cases hp
theorem z51 : (wsEm S51.em (argI s51.args) (argB s51.args) && shOk s51 && noOb S51.em) = true := by kernel_rfl
theorem d51 : Contract Tryd.prog (gl m) 51 s51 F51 := contract_of h51 Tryd.func51 y51 k51 z51
theorem c51 : Contract Tryd.prog (gl m) 51 s51 F51 := d51
theorem call51 : ∀ args w, (callFunc 51 args).run Tryd.prog w = .ok (.enter 51 args) w := callable_of Tryd.func51 (by kernel_rfl) (by kernel_rfl)
noncomputable def e51 : Nat × Sum × Fun := (51, withInl s51 S51, F51)
noncomputable def T1 : List (Nat × Sum × Fun) := e51 :: T0
theorem A1 : AllOk Tryd.prog (tabF T1) (gl m) (tabS T1) := AllOk.cons (s := e51.2.1) c51 call51 (fun S h => by cases h; exact ⟨rfl, fun _ _ => rfl⟩) A0
def s43 : Sum := { args := [(.val false [(.sl [(.int .i64), (.int .i64)])])], tup := false, res := [(false, [(.int .i64)])], pre := true }
def S43 : Smry := (.mk [(.call 104300 [(.v 0), (.v 1), (.c 0)] [] 2 0 0 3), (.ob [] (.v 0)), (.di 2 (.ite (.v 2) (.c 0) (.c 1)))] [(.v 2)] [])
def L104300 : LAnn := { id := 104300, ga := [0, 1], gb := [], hv := [7], dr := [1, 9, 10, 11, 12, 13, 14, 15, 16, 17, 18, 19, 20, 21, 22, 23, 24, 25, 26, 27, 28, 29, 31], hb := [], db := [], xs := [2], xb := [], nI := 3, nB := 0, S := (.mk [(.db 0 (.cm .lss (.v 2) (.v 1))), (.db 1 (.cm .geq (.v 2) (.c 0))), (.ob [((.v 0), true)] (.v 1)), (.db 2 (.cm .lss (.v 2) (.v 1))), (.ob [((.v 0), true)] (.v 2)), (.di 3 (.get (.v 0) (.v 2) 2 0)), (.di 4 (.get (.v 0) (.v 2) 2 1)), (.db 3 (.cm .geq (.v 3) (.c 0))), (.db 4 (.cm .geq (.v 4) (.v 3))), (.db 5 (.and (.v 3) (.v 4))), (.db 6 (.cm .lss (.v 4) (.c 65536))), (.db 7 (.and (.v 5) (.v 6))), (.db 8 (.not (.v 7))), (.db 9 (.cm .gtr (.v 2) (.c 0))), (.di 5 (.ar .sub .i64 (.v 2) (.c 1))), (.db 10 (.cm .geq (.v 5) (.c 0))), (.ob [((.v 0), true), ((.v 8), false), ((.v 9), true)] (.v 10)), (.db 11 (.cm .lss (.v 5) (.v 1))), (.ob [((.v 0), true), ((.v 8), false), ((.v 9), true)] (.v 11)), (.di 6 (.get (.v 0) (.v 5) 2 1)), (.di 7 (.ar .add .i64 (.v 6) (.c 2))), (.db 12 (.cm .lss (.v 3) (.v 7))), (.db 13 (.and (.v 9) (.v 12))), (.db 14 (.or (.v 8) (.v 13))), (.di 8 (.ar .add .i64 (.v 2) (.c 1))), (.db 15 (.not (.v 14))), (.db 16 (.not (.v 14))), (.db 17 (.and (.v 0) (.v 16))), (.db 18 (.and (.v 0) (.v 14))), (.db 19 (.not (.v 0)))] [(.v 0), (.v 1), (.v 8)] [(.v 17), (.v 18), (.v 19)]) }
def l43 : List (Nat × LAnn) := [(3, L104300)]
def i43 : List (Nat × List Nat × List Nat × List Nat × Bool) := [(40, [], [], [], false), (60, [], [], [], false), (50, [], [], [], false), (41, [], [], [], false), (52, [], [], [], false), (53, [], [], [], false), (70, [], [], [], false), (68, [], [], [], false), (81, [], [], [], true), (16, [], [], [], false), (30, [], [], [], false), (45, [], [], [], false)]
theorem x43 : AllOk Tryd.prog (lpF (l43.map (·.2)) (tabF T1)) (gl m) (tabS T1) := (AllOk.loops (l := l43.map (·.2)) A1 (by kernel_rfl))
theorem y43l : LsOk (lpF (l43.map (·.2)) (tabF T1)) l43 := LoopsOk.of (fn := Tryd.f43) (gl := (gl 0)) (s := s43) (l := l43) (by kernel_rfl)
theorem h43 : HOk Tryd.prog (lpF (l43.map (·.2)) (tabF T1)) (gl m) (hC m (mkIs l43 i43) (tabS T1)) := hC_ok x43 (by kernel_rfl) (by kernel_rfl) (mkIs_ok y43l)
theorem k43 : fnX Tryd.prog (hC m (mkIs l43 i43) (tabS T1)) (gl m) (ctlL Tryd.f43 (gl m) s43 (sel l43 [0])) Tryd.f43 s43 = some S43 := by kernel_rfl
noncomputable def F43 : Fun := S43.run (lpF (l43.map (·.2)) (tabF T1)) true
theorem y43 : LoopsOk (lpF (l43.map (·.2)) (tabF T1)) (ctlL Tryd.f43 (gl m) s43 (sel l43 [0])) := fun p hp => y43l p (sel_mem hp)
theorem z43 : (wsEm S43.em (argI s43.args) (argB s43.args) && shOk s43 && s43.pre) = true := by kernel_rfl
theorem d43 : Contract Tryd.prog (gl m) 43 s43 F43 := contract_pre h43 Tryd.func43 y43 k43 z43
theorem c43 : Contract Tryd.prog (gl m) 43 s43 F43 := d43
theorem call43 : ∀ args w, (callFunc 43 args).run Tryd.prog w = .ok (.enter 43 args) w := callable_of Tryd.func43 (by kernel_rfl) (by kernel_rfl)
noncomputable def e43 : Nat × Sum × Fun := (43, s43, F43)
noncomputable def T2 : List (Nat × Sum × Fun) := e43 :: T1
theorem A2 : AllOk Tryd.prog (tabF T2) (gl m) (tabS T2) := AllOk.cons (s := e43.2.1) c43 call43 (fun S h => by cases h) A1
def s28 : Sum := { args := [(.val false [(.sl [(.int .i64), (.int .i64)])]), (.val false [(.int .i64)])], tup := false, res := [(false, [.bool])], pre := true }
def S28 : Smry := (.mk [(.call 43 [(.v 0), (.v 1)] [] 3 1 0 1), (.ob [] (.v 0)), (.db 1 (.cm .eql (.v 3) (.c 0))), (.db 2 (.cm .eql (.v 1) (.c 0))), (.di 4 (.ar .sub .i64 (.v 1) (.c 1))), (.db 3 (.cm .geq (.v 4) (.c 0))), (.ob [((.v 1), true), ((.v 2), false)] (.v 3)), (.db 4 (.cm .lss (.v 4) (.v 1))), (.ob [((.v 1), true), ((.v 2), false)] (.v 4)), (.di 5 (.get (.v 0) (.v 4) 2 1)), (.db 5 (.cm .lss (.v 5) (.v 2))), (.db 6 (.or (.v 2) (.v 5))), (.db 7 (.and (.v 1) (.v 6)))] [] [(.v 7)])
def i28 : List (Nat × List Nat × List Nat × List Nat × Bool) := sp0
theorem x28 : AllOk Tryd.prog (tabF T2) (gl m) (tabS T2) := A2
theorem y28l : LsOk (tabF T2) [] := fun p hp => by cases hp
theorem h28 : HOk Tryd.prog (tabF T2) (gl m) (hC m (mkIs [] i28) (tabS T2)) := hC_ok x28 (by kernel_rfl) (by kernel_rfl) (mkIs_ok y28l)
theorem k28 : fnX Tryd.prog (hC m (mkIs [] i28) (tabS T2)) (gl m) (ctlL Tryd.f28 (gl m) s28 []) Tryd.f28 s28 = some S28 := by kernel_rfl
noncomputable def F28 : Fun := S28.run (tabF T2) true
theorem y28 : LoopsOk (tabF T2) (ctlL Tryd.f28 (gl m) s28 []) := fun p hp => by cases hp
theorem z28 : (wsEm S28.em (argI s28.args) (argB s28.args) && shOk s28 && s28.pre) = true := by kernel_rfl
theorem d28 : Contract Tryd.prog (gl m) 28 s28 F28 := contract_pre h28 Tryd.func28 y28 k28 z28
theorem c28 : Contract Tryd.prog (gl m) 28 s28 F28 := d28
theorem call28 : ∀ args w, (callFunc 28 args).run Tryd.prog w = .ok (.enter 28 args) w := callable_of Tryd.func28 (by kernel_rfl) (by kernel_rfl)
noncomputable def e28 : Nat × Sum × Fun := (28, s28, F28)
noncomputable def T3 : List (Nat × Sum × Fun) := e28 :: T2
theorem A3 : AllOk Tryd.prog (tabF T3) (gl m) (tabS T3) := AllOk.cons (s := e28.2.1) c28 call28 (fun S h => by cases h) A2
def s14 : Sum := { args := [(.val true [.bool, .bool, (.sl [(.int .i64), (.int .i64)]), (.sl [(.int .i64), (.int .i64)])])], tup := false, res := [(false, [(.int .i64)])], pre := true }
def S14 : Smry := (.mk [(.call 28 [(.v 0), (.v 1), (.c 2048)] [] 4 0 2 2), (.ob [] (.v 2)), (.db 4 (.not (.v 3))), (.call 28 [(.v 2), (.v 3), (.c 8192)] [] 4 0 5 2), (.ob [((.v 4), false)] (.v 5)), (.db 7 (.not (.v 6))), (.db 8 (.or (.v 4) (.v 7))), (.db 9 (.not (.v 8))), (.di 4 (.ite (.v 9) (.c 0) (.c 1)))] [(.v 4)] [])
def i14 : List (Nat × List Nat × List Nat × List Nat × Bool) := sp0
theorem x14 : AllOk Tryd.prog (tabF T3) (gl m) (tabS T3) := A3
theorem y14l : LsOk (tabF T3) [] := fun p hp => by cases hp
theorem h14 : HOk Tryd.prog (tabF T3) (gl m) (hC m (mkIs [] i14) (tabS T3)) := hC_ok x14 (by kernel_rfl) (by kernel_rfl) (mkIs_ok y14l)
theorem k14 : fnX Tryd.prog (hC m (mkIs [] i14) (tabS T3)) (gl m) (ctlL Tryd.f14 (gl m) s14 []) Tryd.f14 s14 = some S14 := by kernel_rfl
noncomputable def F14 : Fun := S14.run (tabF T3) true
theorem y14 : LoopsOk (tabF T3) (ctlL Tryd.f14 (gl m) s14 []) := fun p hp => by cases hp
theorem z14 : (wsEm S14.em (argI s14.args) (argB s14.args) && shOk s14 && s14.pre) = true := by kernel_rfl
theorem d14 : Contract Tryd.prog (gl m) 14 s14 F14 := contract_pre h14 Tryd.func14 y14 k14 z14
theorem c14 : Contract Tryd.prog (gl m) 14 s14 F14 := d14
theorem call14 : ∀ args w, (callFunc 14 args).run Tryd.prog w = .ok (.enter 14 args) w := callable_of Tryd.func14 (by kernel_rfl) (by kernel_rfl)
noncomputable def e14 : Nat × Sum × Fun := (14, s14, F14)
noncomputable def T4 : List (Nat × Sum × Fun) := e14 :: T3
theorem A4 : AllOk Tryd.prog (tabF T4) (gl m) (tabS T4) := AllOk.cons (s := e14.2.1) c14 call14 (fun S h => by cases h) A3
end Go.Proofs.YtfgbfdlacnihkaaDoor.Po
namespace Go.Proofs
open Go.Shelf Go.RowKit Go.Lib
theorem Tryd.lays166b : Lays.n166 Tryd.prog Tryd.lays105_ren := { Tryd.lays105 with }
theorem Tryd.lays169b : Lays.n169 Tryd.prog Tryd.lays105_ren := { Tryd.lays105 with }
theorem Tryd.wrS (B b : Nat) (bs : List Value) (s : ByteArray) (w : World) (h : Lib.IsBuilderF 76 5 B b bs w) (hlen : bs.length + s.size <= 140737488355328) (hBw : B <= w.heap.size) :
  Calls Tryd.prog 37 #[.pointer (some ⟨b, 0, none⟩), .string s] w fun e w' => e = .returned (.tuple #[.int .i64 s.size, .nilIface]) /\ (Lib.BuilderAtF 76 5 B b (.pointer (some ⟨b, 0, none⟩)) (bs ++ Lib.strCells s) w' /\ Below B w w' /\ Lib.OthersKept 5 (some b) w w') :=
 Any.Builder_WriteString_k Tryd.lays166b Tryd.extra105 B b bs s w h hlen hBw
theorem Tryd.toS (B b : Nat) (l : List UInt8) (w : World) (h : Lib.IsBuilderF 76 5 B b (Lib.byteCells l) w) (hBw : B <= w.heap.size) :
  Calls Tryd.prog 39 #[.pointer (some ⟨b, 0, none⟩)] w fun e w' => e = .returned (.string ⟨l.toArray⟩) /\ (Lib.IsBuilderF 76 5 B b (Lib.byteCells l) w' /\ Below B w w' /\ Lib.OthersKept 5 (some b) w w') :=
 Any.Builder_String_any_k Tryd.lays169b Tryd.extra105 B b l w h hBw
def Tryd.pw1 : List UInt8 := [112, 111, 114, 116, 32, 49, 10]
def Tryd.pw2 : List UInt8 := [112, 111, 114, 116, 32, 50, 10]
def Tryd.portsL (p0 p1 : Bool) : Nat -> List UInt8
 | 0 => []
 | 1 => if p0 then Tryd.pw1 else []
 | _ => (if p0 then Tryd.pw1 else []) ++ (if p1 then Tryd.pw2 else [])
def Tryd.rowL (word : List UInt8) (p : Nat × Nat) : List UInt8 := word ++ Tryd.hex4 p.1 ++ [45] ++ Tryd.hex4 p.2 ++ [10]
def Tryd.rowsL (word : List UInt8) (L : List (Nat × Nat)) : List UInt8 := (L.map (Tryd.rowL word)).flatten
theorem Tryd.bld_below {T e : TypeId} {B b : Nat} {bs : List Value} {w w' : World} (h : Lib.IsBuilderF T e B b bs w) (hb : Below w.heap.size w w') : Lib.IsBuilderF T e B b bs w' := by
 have key : ∀ p, Lib.BuilderAtF T e B b p bs w -> Lib.BuilderAtF T e B b p bs w' := by
  rintro p ⟨hB, v, hbk, hown, hne⟩
  have hlt : ∀ k o, w.heap[k]? = some o -> w'.heap[k]? = some o := fun k o hk => (hb.block k (Array.getElem?_eq_some_iff.1 hk).1).trans hk
  refine ⟨hB, v, hlt _ _ hbk, ⟨hown.1, ?_⟩, hne⟩
  rcases hown.2 with hn | ⟨g, cap, cur, fz, hv, hbg, hg, rest⟩
  ·exact .inl hn
  ·exact .inr ⟨g, cap, cur, fz, hv, hbg, hlt _ _ hg, rest⟩
 exact h.elim (fun x => .inl (key _ x)) (fun x => .inr (key _ x))
structure Tryd.PS (v : World) (B k : Nat) (acc : List UInt8) (p : Nat × Nat) (W : World) : Prop where
 hB : Below B v W
 hI : Lib.IsBuilderF 76 5 B B (Lib.byteCells acc) W
 c0 : W.cell? ⟨k, 0, none⟩ = some (.int .i64 p.1)
 c1 : W.cell? ⟨k, 1, none⟩ = some (.int .i64 p.2)
theorem Tryd.PS.drew {v : World} {B k : Nat} {acc : List UInt8} {p : Nat × Nat} {W : World} (h : Tryd.PS v B k acc p W) : Tryd.PS v B k acc p W.drew := ⟨h.hB.drew, h.hI, h.c0, h.c1⟩
theorem Tryd.PS.four {v : World} {B k : Nat} {acc : List UInt8} {p : Nat × Nat} (hg : v.cell? ⟨5, 15, none⟩ = some (.int .u8 4)) (h5 : 5 < B) (n : Nat) (hn : n < 65536) (W : World) (h : Tryd.PS v B k acc p W) :
  Calls Tryd.prog 38 #[.int .i64 n] W fun e W1 => e = .returned (.string ⟨(Tryd.hex4 n).toArray⟩) /\ Tryd.PS v B k acc p W1 /\ W1.cell? ⟨k, 0, none⟩ = some (.int .i64 p.1) /\ W1.cell? ⟨k, 1, none⟩ = some (.int .i64 p.2) := by
 refine (Tryd.four n W (by rw [h.hB.cell h5]; exact hg) hn).mono ?_
 rintro e W1 ⟨rfl, hb⟩
 have d0 : W1.cell? ⟨k, 0, none⟩ = some (.int .i64 p.1) := by rw [hb.cell (World.block_lt_of_cell? W _ h.c0)]; exact h.c0
 have d1 : W1.cell? ⟨k, 1, none⟩ = some (.int .i64 p.2) := by rw [hb.cell (World.block_lt_of_cell? W _ h.c1)]; exact h.c1
 exact ⟨rfl, ⟨h.hB.trans (hb.mono (h.hI.elim (fun x => Nat.le_of_lt x.lt) fun x => Nat.le_of_lt x.lt)), Tryd.bld_below h.hI hb, d0, d1⟩, d0, d1⟩
theorem Tryd.lineW (word : List UInt8) (p : Nat × Nat) (hw : word.length <= 10) : ∃ X1 X2 X3 X4 : ByteArray, X4 = ⟨(Tryd.rowL word p).toArray⟩ /\
  (∀ w, (Op.stringOp .add ⟨word.toArray⟩ ⟨(Tryd.hex4 p.1).toArray⟩).run Tryd.prog w = .ok (.string X1) w) /\ (∀ w, (Op.stringOp .add X1 ⟨#[45]⟩).run Tryd.prog w = .ok (.string X2) w) /\
  (∀ w, (Op.stringOp .add X2 ⟨(Tryd.hex4 p.2).toArray⟩).run Tryd.prog w = .ok (.string X3) w) /\ (∀ w, (Op.stringOp .add X3 ⟨#[10]⟩).run Tryd.prog w = .ok (.string X4) w) := by
 have h1 : (Tryd.hex4 p.1).length = 4 := YtfgbfdlacnihkaaDoor.Po.hex4_len _
 have h2 : (Tryd.hex4 p.2).length = 4 := YtfgbfdlacnihkaaDoor.Po.hex4_len _
 unfold Tryd.rowL
 generalize Tryd.hex4 p.1 = H1 at h1
 generalize Tryd.hex4 p.2 = H2 at h2
 refine ⟨⟨word.toArray⟩ ++ ⟨H1.toArray⟩, ⟨word.toArray⟩ ++ ⟨H1.toArray⟩ ++ ⟨#[45]⟩, ⟨word.toArray⟩ ++ ⟨H1.toArray⟩ ++ ⟨#[45]⟩ ++ ⟨H2.toArray⟩, ⟨word.toArray⟩ ++ ⟨H1.toArray⟩ ++ ⟨#[45]⟩ ++ ⟨H2.toArray⟩ ++ ⟨#[10]⟩, ?_, fun w => run_string_add w _ _ ?_ ?_, fun w => run_string_add w _ _ ?_ ?_, fun w => run_string_add w _ _ ?_ ?_, fun w => run_string_add w _ _ ?_ ?_⟩
 ·apply ByteArray.ext
  simp [ByteArray.data_append]
 all_goals (simp [ByteArray.size_append, ByteArray.size_mk', h1, h2] <;> omega)
theorem Tryd.strB (acc l : List UInt8) : Lib.byteCells acc ++ Lib.strCells ⟨l.toArray⟩ = Lib.byteCells (acc ++ l) := by
 rw [Lib.byteCells_append]; rfl
theorem Tryd.PS.wr {v : World} {B k : Nat} {acc : List UInt8} {p : Nat × Nat} (l : List UInt8) (hl : acc.length + l.length <= 140737488355328) (W : World) (h : Tryd.PS v B k acc p W) :
  Calls Tryd.prog 37 #[.pointer (some ⟨B, 0, none⟩), .string ⟨l.toArray⟩] W fun e W1 => e = .returned (.tuple #[.int .i64 l.length, .nilIface]) /\ Lib.IsBuilderF 76 5 B B (Lib.byteCells (acc ++ l)) W1 /\ Below B v W1 := by
 have hBW : B <= W.heap.size := h.hI.elim (fun x => Nat.le_of_lt x.lt) fun x => Nat.le_of_lt x.lt
 refine (Tryd.wrS B B _ ⟨l.toArray⟩ W h.hI (by rw [Lib.byteCells_length]; simpa [ByteArray.size_mk'] using hl) hBW).mono ?_
 rintro e W1 ⟨rfl, h1, hb, _⟩
 rw [Tryd.strB] at h1
 exact ⟨by simp [ByteArray.size_mk'], .inr h1, h.hB.trans hb⟩
def Tryd.printL (p0 p1 : Bool) (L1 L2 : List (Nat × Nat)) : List UInt8 := Tryd.portsL p0 p1 2 ++ (Tryd.rowsL [114, 97, 109, 32] L1 ++ Tryd.rowsL [115, 97, 118, 101, 32] L2)
theorem Tryd.rowsL_succ (word : List UInt8) {L : List (Nat × Nat)} {i : Nat} {p : Nat × Nat} (h : L[i]? = some p) : Tryd.rowsL word (L.take (i + 1)) = Tryd.rowsL word (L.take i) ++ Tryd.rowL word p := by
 unfold Tryd.rowsL
 rw [List.take_add_one, h]
 simp
theorem Tryd.rowsL_len (word : List UInt8) : ∀ L : List (Nat × Nat), (Tryd.rowsL word L).length = (word.length + 10) * L.length
 | [] => rfl
 | p :: L => by
  have h1 : (Tryd.hex4 p.1).length = 4 := YtfgbfdlacnihkaaDoor.Po.hex4_len _
  have h2 : (Tryd.hex4 p.2).length = 4 := YtfgbfdlacnihkaaDoor.Po.hex4_len _
  have := Tryd.rowsL_len word L
  unfold Tryd.rowsL at this ⊢
  simp only [List.map_cons, List.flatten_cons, List.length_append, this, Tryd.rowL, h1, h2, List.length_cons, List.length_nil, Nat.mul_add]
  omega
theorem Tryd.portsL_len (p0 p1 : Bool) : (Tryd.portsL p0 p1 2).length <= 14 := by cases p0 <;> cases p1 <;> decide
set_option maxHeartbeats 4000000 in
set_option maxRecDepth 1000000 in
theorem Tryd.print0 (p0 p1 : Bool) (a1 a2 : Option Addr) (n1 n2 c1 c2 : Nat) (w : World) (hs1 : n1 <= 100) (hs2 : n2 <= 100) (L1 L2 : List (Nat × Nat)) (hl1 : L1.length = n1) (hl2 : L2.length = n2)
  (hR1 : ∀ (i : Nat) (p : Nat × Nat), L1[i]? = some p -> p.1 < 65536 /\ p.2 < 65536 /\ ∃ b o, a1 = some ⟨b, o, none⟩ /\ b < w.heap.size /\ w.cell? ⟨b, o + i * 2, none⟩ = some (.int .i64 p.1) /\ w.cell? ⟨b, o + i * 2 + 1, none⟩ = some (.int .i64 p.2))
  (hR2 : ∀ (i : Nat) (p : Nat × Nat), L2[i]? = some p -> p.1 < 65536 /\ p.2 < 65536 /\ ∃ b o, a2 = some ⟨b, o, none⟩ /\ b < w.heap.size /\ w.cell? ⟨b, o + i * 2, none⟩ = some (.int .i64 p.1) /\ w.cell? ⟨b, o + i * 2 + 1, none⟩ = some (.int .i64 p.2))
  (hg : w.cell? ⟨5, 15, none⟩ = some (.int .u8 4))
  (hC : ∀ W, Below w.heap.size w W -> Calls Tryd.prog 14 #[.agg #[.bool p0, .bool p1, .slice a1 n1 c1, .slice a2 n2 c2]] W fun e w' => e = .returned (.int .i64 0) /\ YtfgbfdlacnihkaaDoor.Sx.Keep [] W w') :
  Calls Tryd.prog 23 #[.agg #[.bool p0, .bool p1, .slice a1 n1 c1, .slice a2 n2 c2]] w fun e w' => e = .returned (.tuple #[.string ⟨(Tryd.printL p0 p1 L1 L2).toArray⟩, .int .i64 0]) /\ Below w.heap.size w w' := by
 go_enter Tryd.func23, Tryd.ntmps23
 go_wp2_with (go_at_call 14; refine (hC _ ((Below.refl w.heap.size w).alloc (Nat.le_refl _) _)).mono ?_; rintro e w' ⟨rfl, hk⟩)
 have hsz : w.heap.size < w'.heap.size := by have := hk.size; simp at this; omega
 have hcb : ∀ (i : Nat) (x : Value), (#[Value.bool p0, .bool p1, .slice a1 n1 c1, .slice a2 n2 c2] : Array Value)[i]? = some x -> w'.cell? ⟨w.heap.size, i, none⟩ = some x := fun i x hx => by
  rw [hk.cell _ (by simp) (by simp), Tryd.cell_new, hx]
 have hcw : ∀ a : Addr, a.block < w.heap.size -> w'.cell? a = w.cell? a := fun a ha => by
  rw [hk.cell _ (by simp; omega) (by simp)]
  exact (((Below.refl w.heap.size w).alloc (Nat.le_refl _) _).cell ha)
 have ix0 : ∀ w, (Instr.index 77 (.agg #[.string ⟨#[112, 111, 114, 116, 32, 49, 10]⟩, .string ⟨#[112, 111, 114, 116, 32, 50, 10]⟩]) (.int .i64 0)).run Tryd.prog w = .ok (.string ⟨#[112, 111, 114, 116, 32, 49, 10]⟩) w := fun w => by kernel_rfl
 have ix1 : ∀ w, (Instr.index 77 (.agg #[.string ⟨#[112, 111, 114, 116, 32, 49, 10]⟩, .string ⟨#[112, 111, 114, 116, 32, 50, 10]⟩]) (.int .i64 1)).run Tryd.prog w = .ok (.string ⟨#[112, 111, 114, 116, 32, 50, 10]⟩) w := fun w => by kernel_rfl
 have hg' : w'.cell? ⟨5, 15, none⟩ = some (.int .u8 4) := by rw [hcw _ (World.block_lt_of_cell? w _ hg)]; exact hg
 have h5 : 5 < w'.heap.size := World.block_lt_of_cell? w' _ hg'
 go_loopw [18] (fun s wr => ∃ i : Nat, s = .int .i64 i /\ i <= 2 /\ Lib.IsBuilderF 76 5 w'.heap.size w'.heap.size (Lib.byteCells (Tryd.portsL p0 p1 i)) wr /\ Below w'.heap.size w' wr) (fun s wr => 2 - (RowKit.intOf s).toNat)
 case atStart =>
  exact ⟨0, rfl, by omega, Lib.IsBuilderF.of (Lib.fresh_isBuilder 76 5 w'), (Below.refl _ w').alloc (Nat.le_refl _) _⟩
 case round =>
  obtain ⟨i, rfl, hi, hI, hb⟩ := hrel
  have hBw := hb.size
  have d0 : wr.cell? ⟨w.heap.size, 0, none⟩ = some (.bool p0) := by rw [hb.cell hsz]; exact hcb 0 _ rfl
  have d1 : wr.cell? ⟨w.heap.size, 1, none⟩ = some (.bool p1) := by rw [hb.cell hsz]; exact hcb 1 _ rfl
  match i, hi with
  | 0, _ =>
   cases p0 with
   | true =>
    have hc := Tryd.wrS w'.heap.size w'.heap.size _ ⟨#[112, 111, 114, 116, 32, 49, 10]⟩ wr hI (by cases p1 <;> decide) hBw
    go_wp2_with (go_at_call 37; refine hc.mono ?_)
    rintro e w1 ⟨rfl, h1, hb1, k1⟩
    go_wp2
    go_roundw
    case rel => exact ⟨1, rfl, by omega, Or.inr h1, hb.trans hb1⟩
    case measure => decide
   | false =>
    go_wp2
    go_roundw
    case rel => exact ⟨1, rfl, by omega, hI, hb⟩
    case measure => decide
  | 1, _ =>
   cases p1 with
   | true =>
    have hc := Tryd.wrS w'.heap.size w'.heap.size _ ⟨#[112, 111, 114, 116, 32, 50, 10]⟩ wr hI (by cases p0 <;> decide) hBw
    go_wp2_with (go_at_call 37; refine hc.mono ?_)
    rintro e w1 ⟨rfl, h1, hb1, k1⟩
    go_wp2
    go_roundw
    case rel => exact ⟨2, rfl, by omega, by cases p0 <;> exact Or.inr h1, hb.trans hb1⟩
    case measure => decide
   | false =>
    go_wp2
    go_roundw
    case rel => exact ⟨2, rfl, by omega, by cases p0 <;> exact hI, hb⟩
    case measure => decide
  | 2, _ =>
   have d2 : wr.cell? ⟨w.heap.size, 2, none⟩ = some (.slice a1 n1 c1) := by rw [hb.cell hsz]; exact hcb 2 _ rfl
   go_wp2
   go_loopw [32] (fun s wr2 => ∃ i : Nat, s = .int .i64 i /\ i <= n1 /\ Lib.IsBuilderF 76 5 w'.heap.size w'.heap.size (Lib.byteCells (Tryd.portsL p0 p1 2 ++ Tryd.rowsL [114, 97, 109, 32] (L1.take i))) wr2 /\ Below w'.heap.size w' wr2) (fun s wr2 => n1 - (RowKit.intOf s).toNat)
   case atStart => exact ⟨0, rfl, by omega, by simpa [Tryd.rowsL] using hI, hb⟩
   case round =>
    clear hI hBw hb d0 d1 d2
    obtain ⟨i, rfl, hi, hI, hb⟩ := hrel
    have hBw := hb.size
    by_cases hlt : i < n1
    ·skip
     obtain ⟨p, hp⟩ : ∃ p, L1[i]? = some p := ⟨_, List.getElem?_eq_getElem (by omega)⟩
     obtain ⟨hp1, hp2, b, o, rfl, hbl, e1, e2⟩ := hR1 i p hp
     rw [<- hcw _ (by simpa using hbl), <- hb.cell (by show b < _; omega)] at e1 e2
     have hS0 : Tryd.PS w' w'.heap.size wr.heap.size _ p (wr.alloc (.cells #[.int .i64 p.1, .int .i64 p.2] 52)) := ⟨hb.alloc hBw _, hI.alloc _, Tryd.cell_new _ _ _ _, Tryd.cell_new _ _ _ _⟩
     have hf1 := fun W h => Tryd.PS.four (p := p) (k := wr.heap.size) (acc := Tryd.portsL p0 p1 2 ++ Tryd.rowsL [114, 97, 109, 32] (L1.take i)) hg' h5 p.1 hp1 W h
     have hf2 := fun W h => Tryd.PS.four (p := p) (k := wr.heap.size) (acc := Tryd.portsL p0 p1 2 ++ Tryd.rowsL [114, 97, 109, 32] (L1.take i)) hg' h5 p.2 hp2 W h
     have hll : (Tryd.portsL p0 p1 2 ++ Tryd.rowsL [114, 97, 109, 32] (L1.take i)).length + (Tryd.rowL [114, 97, 109, 32] p).length <= 140737488355328 := by
      have q1 := Tryd.portsL_len p0 p1
      have q2 := Tryd.rowsL_len [114, 97, 109, 32] (L1.take (i + 1))
      have q3 := Tryd.rowsL_len [114, 97, 109, 32] L1
      have q5 : (L1.take (i + 1)).length <= 100 := by rw [List.length_take]; omega
      rw [Tryd.rowsL_succ _ hp] at q2
      simp only [List.length_append, List.length_cons, List.length_nil] at q2 q3 ⊢
      omega
     have hwr := fun W h => Tryd.PS.wr (v := w') (B := w'.heap.size) (k := wr.heap.size) (p := p) (Tryd.rowL [114, 97, 109, 32] p) hll W h
     clear hll
     obtain ⟨X1, X2, X3, X4, rfl, x1, x2, x3, x4⟩ := Tryd.lineW [114, 97, 109, 32] p (by decide)
     go_wp2
     go_region_with (first
      | (go_at_call 38; first
       | (refine (hf2 _ hS1).mono ?_; rintro e W2 ⟨rfl, hS2, k20, k21⟩)
       | (refine (hf1 _ hS0.drew).mono ?_; rintro e W1 ⟨rfl, hS1, k10, k11⟩))
      | (go_at_call 37; refine (hwr _ hS2).mono ?_; rintro e W3 ⟨rfl, hI3, hb3⟩))
     all_goals (
      go_wp2
      go_roundw
      case rel =>
       (repeat apply Exists.intro)
       exact ⟨⟨i + 1, by go_num, by omega, by rw [Tryd.rowsL_succ _ hp, <- List.append_assoc]; exact hI3, hb3⟩, rfl⟩
      case measure => simp [RowKit.intOf]; omega)
    ·have d3 : wr.cell? ⟨w.heap.size, 3, none⟩ = some (.slice a2 n2 c2) := by rw [hb.cell hsz]; exact hcb 3 _ rfl
     obtain rfl : i = n1 := by omega
     have hT1 : L1.take i = L1 := List.take_of_length_le (by omega)
     rw [hT1] at hI
     go_wp2
     go_loopw [51] (fun s wr2 => ∃ j : Nat, s = .int .i64 j /\ j <= n2 /\ Lib.IsBuilderF 76 5 w'.heap.size w'.heap.size (Lib.byteCells (Tryd.portsL p0 p1 2 ++ Tryd.rowsL [114, 97, 109, 32] L1 ++ Tryd.rowsL [115, 97, 118, 101, 32] (L2.take j))) wr2 /\ Below w'.heap.size w' wr2) (fun s wr2 => n2 - (RowKit.intOf s).toNat)
     case atStart => exact ⟨0, rfl, by omega, by simpa [Tryd.rowsL] using hI, hb⟩
     case round =>
      clear hI hBw hb d3 hlt hi hT1
      rename_i n1 _
      obtain ⟨i, rfl, hi, hI, hb⟩ := hrel
      have hBw := hb.size
      by_cases hlt : i < n2
      ·skip
       obtain ⟨p, hp⟩ : ∃ p, L2[i]? = some p := ⟨_, List.getElem?_eq_getElem (by omega)⟩
       obtain ⟨hp1, hp2, b, o, rfl, hbl, e1, e2⟩ := hR2 i p hp
       rw [<- hcw _ (by simpa using hbl), <- hb.cell (by show b < _; omega)] at e1 e2
       have hS0 : Tryd.PS w' w'.heap.size wr.heap.size _ p (wr.alloc (.cells #[.int .i64 p.1, .int .i64 p.2] 52)) := ⟨hb.alloc hBw _, hI.alloc _, Tryd.cell_new _ _ _ _, Tryd.cell_new _ _ _ _⟩
       have hf1 := fun W h => Tryd.PS.four (p := p) (k := wr.heap.size) (acc := Tryd.portsL p0 p1 2 ++ Tryd.rowsL [114, 97, 109, 32] L1 ++ Tryd.rowsL [115, 97, 118, 101, 32] (L2.take i)) hg' h5 p.1 hp1 W h
       have hf2 := fun W h => Tryd.PS.four (p := p) (k := wr.heap.size) (acc := Tryd.portsL p0 p1 2 ++ Tryd.rowsL [114, 97, 109, 32] L1 ++ Tryd.rowsL [115, 97, 118, 101, 32] (L2.take i)) hg' h5 p.2 hp2 W h
       have hll : (Tryd.portsL p0 p1 2 ++ Tryd.rowsL [114, 97, 109, 32] L1 ++ Tryd.rowsL [115, 97, 118, 101, 32] (L2.take i)).length + (Tryd.rowL [115, 97, 118, 101, 32] p).length <= 140737488355328 := by
        have q1 := Tryd.portsL_len p0 p1
        have q2 := Tryd.rowsL_len [115, 97, 118, 101, 32] (L2.take (i + 1))
        have q3 := Tryd.rowsL_len [114, 97, 109, 32] L1
        have q5 : (L2.take (i + 1)).length <= 100 := by rw [List.length_take]; omega
        rw [Tryd.rowsL_succ _ hp] at q2
        simp only [List.length_append, List.length_cons, List.length_nil] at q2 q3 ⊢
        omega
       have hwr := fun W h => Tryd.PS.wr (v := w') (B := w'.heap.size) (k := wr.heap.size) (p := p) (Tryd.rowL [115, 97, 118, 101, 32] p) hll W h
       clear hll
       obtain ⟨X1, X2, X3, X4, rfl, x1, x2, x3, x4⟩ := Tryd.lineW [115, 97, 118, 101, 32] p (by decide)
       go_wp2
       go_region_with (first
        | (go_at_call 38; first
         | (refine (hf2 _ hS1).mono ?_; rintro e W2 ⟨rfl, hS2, k20, k21⟩)
         | (refine (hf1 _ hS0.drew).mono ?_; rintro e W1 ⟨rfl, hS1, k10, k11⟩))
        | (go_at_call 37; refine (hwr _ hS2).mono ?_; rintro e W3 ⟨rfl, hI3, hb3⟩))
       all_goals (
        go_wp2
        go_roundw
        case rel =>
         (repeat apply Exists.intro)
         exact ⟨⟨i + 1, by go_num, by omega, by rw [Tryd.rowsL_succ _ hp, <- List.append_assoc]; exact hI3, hb3⟩, rfl⟩
        case measure => simp [RowKit.intOf]; omega)
      ·obtain rfl : i = n2 := by omega
       have hT2 : L2.take i = L2 := List.take_of_length_le (by omega)
       rw [hT2] at hI
       have hc := Tryd.toS w'.heap.size w'.heap.size _ wr hI hBw
       go_wp2_with (go_at_call 39; refine hc.mono ?_)
       rintro e w1 ⟨rfl, _, hb1, _⟩
       go_wp2
       go_ret2
       refine ⟨rfl, Below.trans ?_ ((hb.trans hb1).mono (Nat.le_of_lt hsz))⟩
       exact ((Below.refl w.heap.size w).alloc (Nat.le_refl _) _).trans ⟨hk.os, hk.tape, hk.output, hk.size, fun k hk' => hk.blk k (by simp; omega) (by simp)⟩
set_option maxHeartbeats 4000000 in
theorem Tryd.print1 (k : Int) (hk0 : k ≠ 0) (p0 p1 : Bool) (a1 a2 : Option Addr) (n1 n2 c1 c2 : Nat) (w : World)
  (hC : ∀ W, Below w.heap.size w W -> Calls Tryd.prog 14 #[.agg #[.bool p0, .bool p1, .slice a1 n1 c1, .slice a2 n2 c2]] W fun e w' => e = .returned (.int .i64 k) /\ YtfgbfdlacnihkaaDoor.Sx.Keep [] W w') :
  Calls Tryd.prog 23 #[.agg #[.bool p0, .bool p1, .slice a1 n1 c1, .slice a2 n2 c2]] w fun e w' => e = .returned (.tuple #[.string ⟨#[]⟩, .int .i64 k]) /\ Below w.heap.size w w' := by
 go_enter Tryd.func23, Tryd.ntmps23
 go_wp2_with (go_at_call 14; refine (hC _ ((Below.refl w.heap.size w).alloc (Nat.le_refl _) _)).mono ?_; rintro e w' ⟨rfl, hk⟩)
 go_wp2
 go_ret2
 refine ⟨rfl, ?_⟩
 have hsz : w.heap.size < w'.heap.size := by have := hk.size; simp at this; omega
 exact ((Below.refl w.heap.size w).alloc (Nat.le_refl _) _).trans ⟨hk.os, hk.tape, hk.output, hk.size, fun k hk' => hk.blk k (by simp; omega) (by simp)⟩
end Go.Proofs
namespace Go.Proofs.YtfgbfdlacnihkaaDoor.Po
open Go Go.Proofs Go.RowKit Go.Proofs.YtfgbfdlacnihkaaDoor.Sx
variable {m : Int}
theorem sl_inv {w : World} {v : Value} {l : List Int} {n : Int} {r : Option Rg} (h : flatSl w ks2 v = some (l, n, r)) :
  ∃ a k c, v = .slice a k c /\ n = ((k : Nat) : Int) /\ k <= c /\ l.length = k * 2 /\ InR .i64 ((k : Nat) : Int) /\ (k = 0 \/ ∃ b o, a = some ⟨b, o, none⟩ /\ seqAt w b o ks2 l) := by
 have h0 := h
 unfold flatSl at h
 split at h
 ·rename_i p len cap
  split at h
  ·cases h
  ·rename_i hbl
   have hle : len <= cap := by
    rw [Bool.not_eq_true, Bool.eq_false_iff, ne_eq, Nat.blt_eq] at hbl
    omega
   split at h
   ·rename_i hz
    rw [beq_iff_eq] at hz
    subst hz
    simp only [Option.some.injEq, Prod.mk.injEq] at h
    obtain ⟨rfl, rfl, rfl⟩ := h
    exact ⟨p, 0, cap, rfl, rfl, hle, rfl, ⟨by decide, by decide⟩, .inl rfl⟩
   ·split at h
    ·rename_i b o
     split at h
     ·rename_i hin
      split at h
      ·rename_i l' hb
       simp only [Option.some.injEq, Prod.mk.injEq] at h
       obtain ⟨rfl, rfl, rfl⟩ := h
       obtain ⟨_, _, g3, g4, _⟩ := flatSl_sq h0
       exact ⟨_, len, cap, rfl, rfl, hle, g3, inR_spec hin, .inr ⟨b, o, rfl, g4⟩⟩
      ·cases h
     ·cases h
    ·cases h
 ·cases h
theorem sl_keep {w w' : World} {B : Nat} (hB : w.heap.size <= B) (hb : Below B w w') {v : Value} {l : List Int} {n : Int} {r : Option Rg} (h : flatSl w ks2 v = some (l, n, r)) : ∃ r', flatSl w' ks2 v = some (l, n, r') := by
 obtain ⟨a, k, c, rfl, rfl, hk, hl, hin, hs⟩ := sl_inv h
 rcases hs with rfl | ⟨b, o, rfl, hs⟩
 ·obtain rfl : l = [] := List.eq_nil_of_length_eq_zero (by simpa using hl)
  exact ⟨none, flatSl_0⟩
 ·by_cases hk0 : k = 0
  ·subst hk0
   obtain rfl : l = [] := List.eq_nil_of_length_eq_zero (by simpa using hl)
   exact ⟨none, flatSl_0⟩
  ·exact ⟨_, flatSl_mk (fun j x hj => by
    obtain ⟨ck, u, e1, e2, e3⟩ := hs j x hj
    refine ⟨ck, u, e1, ?_, e3⟩
    rw [hb.cell (by have := World.block_lt_of_cell? w _ e2; simp only at this ⊢; omega)]
    exact e2) hl hk hin hk0⟩
def polSh : List CK := [.bool, .bool, .sl ks2, .sl ks2]
theorem flatC_nil' {w : World} {ps : List Rg} {vs : List Value} {f : Fl} (h : flatC w ps [] vs = some f) : vs = [] /\ f = ([], []) := by
 cases vs with
 | nil => simp [flatC] at h; exact ⟨rfl, h.symm⟩
 | cons v vs => simp [flatC] at h
theorem flatC_bool' {w : World} {ps : List Rg} {l : List CK} {vs : List Value} {f : Fl} (h : flatC w ps (.bool :: l) vs = some f) : ∃ b us is bs, vs = .bool b :: us /\ flatC w ps l us = some (is, bs) /\ f = (is, b :: bs) := by
 cases vs with
 | nil => simp [flatC] at h
 | cons v vs =>
  unfold flatC at h
  split at h
  ·rename_i b is bs h1
   cases h
   exact ⟨b, vs, is, bs, rfl, h1, rfl⟩
  ·cases h
theorem flatC_sl' {w : World} {ps : List Rg} {ks : List CK} {l : List CK} {vs : List Value} {f : Fl} (h : flatC w ps (.sl ks :: l) vs = some f) :
  ∃ v us q n r is bs, vs = v :: us /\ flatSl w ks v = some (q, n, r) /\ flatC w ps l us = some (is, bs) /\ f = (enc q :: n :: is, bs) := by
 cases vs with
 | nil => simp [flatC] at h
 | cons v vs =>
  unfold flatC at h
  split at h
  ·rename_i q n r is bs h1 h2
   cases h
   exact ⟨v, vs, q, n, r, is, bs, rfl, h1, h2, rfl⟩
  ·cases h
theorem flat_pol {vs : List Value} {w : World} {is : List Int} {bs : List Bool} {ps : List Rg} (h : flatArgs [.val true polSh] vs w = some (is, bs, ps)) :
  ∃ (p0 p1 : Bool) (v1 v2 : Value) (l1 l2 : List Int) (n1 n2 : Int) (r1 r2 : Option Rg), vs = [.agg #[.bool p0, .bool p1, v1, v2]] /\ is = [enc l1, n1, enc l2, n2] /\ bs = [p0, p1] /\ ps = [] /\
   flatSl w ks2 v1 = some (l1, n1, r1) /\ flatSl w ks2 v2 = some (l2, n2, r2) := by
 cases vs with
 | nil => simp [flatArgs] at h
 | cons v us =>
  unfold flatArgs at h
  split at h
  ·rename_i i b is' bs' ps' h1 h2
   simp only [Option.some.injEq, Prod.mk.injEq] at h
   obtain ⟨rfl, rfl, rfl⟩ := h
   obtain ⟨rfl, rfl, rfl, rfl⟩ := flat_nil h2
   unfold flat1 at h1
   rw [if_pos rfl] at h1
   split at h1
   ·rename_i cs
    obtain ⟨p0, u1, _, _, e1, h1, e2⟩ := flatC_bool' h1
    obtain ⟨p1, u2, _, _, e3, h1, e4⟩ := flatC_bool' h1
    obtain ⟨v1, u3, l1, n1, r1, _, _, e5, s1, h1, e6⟩ := flatC_sl' h1
    obtain ⟨v2, u4, l2, n2, r2, _, _, e7, s2, h1, e8⟩ := flatC_sl' h1
    obtain ⟨e9, e10⟩ := flatC_nil' h1
    cases e10; cases e8; cases e6; cases e4; cases e2
    subst e9 e7 e5 e3
    obtain ⟨cs⟩ := cs
    simp only at e1
    subst e1
    exact ⟨p0, p1, v1, v2, l1, l2, n1, n2, r1, r2, rfl, rfl, rfl, rfl, s1, s2⟩
   ·cases h1
  ·cases h
theorem Laid.below {gl : Gl} {w w' : World} {B : Nat} (h : Laid gl w) (hB : w.heap.size <= B) (hb : Below B w w') : Laid gl w' := fun g vs hg => by
 obtain ⟨h1, h2⟩ := h g vs hg
 refine ⟨Nat.lt_of_lt_of_le h1 hb.size, fun j v hj => ?_⟩
 obtain ⟨h3, h4⟩ := h2 j v hj
 exact ⟨by rw [hb.cell (by simp only; omega)]; exact h3, h4⟩
theorem check_at {w : World} {p0 p1 : Bool} {v1 v2 : Value} {l1 l2 : List Int} {n1 n2 : Int} {r1 r2 : Option Rg} (hL : Laid (gl m) w) (s1 : flatSl w ks2 v1 = some (l1, n1, r1)) (s2 : flatSl w ks2 v2 = some (l2, n2, r2))
  (hp : (F14 [enc l1, n1, enc l2, n2] [p0, p1]).2.headD false = true) (W : World) (hb : Below w.heap.size w W) :
  Calls Tryd.prog 14 #[.agg #[.bool p0, .bool p1, v1, v2]] W fun e w' => e = .returned (.int .i64 ((F14 [enc l1, n1, enc l2, n2] [p0, p1]).1.getD 0 0)) /\ Keep [] W w' := by
 obtain ⟨q1, t1⟩ := sl_keep (Nat.le_refl _) hb s1
 obtain ⟨q2, t2⟩ := sl_keep (Nat.le_refl _) hb s2
 have hfl : flatArgs s14.args [.agg #[.bool p0, .bool p1, v1, v2]] W = some ([enc l1, n1, enc l2, n2], [p0, p1], []) := by
  have t1 : flatSl W [.int .i64, .int .i64] v1 = some (l1, n1, q1) := t1
  have t2 : flatSl W [.int .i64, .int .i64] v2 = some (l2, n2, q2) := t2
  simp [s14, flatArgs, flat1, flatC, t1, t2]
 refine (c14 (m := m) [.agg #[.bool p0, .bool p1, v1, v2]] W _ _ _ (Laid.below hL (Nat.le_refl _) hb) hfl trivial (fun r hr => by cases hr) (fun q hq => by cases hq) (fun q hq => by cases hq) (fun _ => hp)).mono ?_
 rintro e w' ⟨v, rfl, hk, ⟨r, p, hr, hps, ho, hx⟩, hy⟩
 clear hx hy
 refine ⟨?_, hk⟩
 have hps : some (([], []) : Fl) = some p := hps
 cases hps
 simp only [flatRes, s14, Bool.false_eq_true, if_false, flat1] at hr
 unfold flatC at hr
 split at hr
 ·rename_i k' n is bs hnil
  split at hr
  ·rename_i hc
   rw [Bool.and_eq_true, beq_iff_eq] at hc
   obtain ⟨rfl, _⟩ := hc
   cases hr
   cases hnil
   rw [ho]
   rfl
  ·cases hr
 ·cases hr
def toNN (q : Int) : List (Nat × Nat) := (pairs (dec q)).map fun p => (p.1.toNat, p.2.toNat)
def okNN (q : Int) : Bool := (pairs (dec q)).all fun p => decide (0 <= p.1) && decide (p.1 < 65536) && decide (0 <= p.2) && decide (p.2 < 65536)
def s23 : Sum := { args := [.val true polSh], tup := true, res := [(false, [.str]), (false, [.int .i64])], pre := true }
def preP (is : List Int) : Bool := decide (is.getD 1 0 <= 100) && decide (is.getD 3 0 <= 100) && (okNN (is.getD 0 0) && okNN (is.getD 2 0))
def txtP (is : List Int) (bs : List Bool) : List UInt8 := Tryd.printL (bs.getD 0 false) (bs.getD 1 false) (toNN (is.getD 0 0)) (toNN (is.getD 2 0))
noncomputable def F23 : Fun := fun is bs =>
 if (F14 is bs).1.getD 0 0 = 0 then ([enc (ubyt (txtP is bs)), 0], [(F14 is bs).2.headD false && preP is]) else ([enc (ubyt []), (F14 is bs).1.getD 0 0], [(F14 is bs).2.headD false])
theorem rows_at {w : World} {a : Option Addr} {k : Nat} {l : List Int} (hl : l.length = k * 2) (hs : k = 0 \/ ∃ b o, a = some ⟨b, o, none⟩ /\ seqAt w b o ks2 l) (hok : okNN (enc l) = true) :
  (toNN (enc l)).length = k /\ ∀ (i : Nat) (p : Nat × Nat), (toNN (enc l))[i]? = some p -> p.1 < 65536 /\ p.2 < 65536 /\ ∃ b o, a = some ⟨b, o, none⟩ /\ b < w.heap.size /\ w.cell? ⟨b, o + i * 2, none⟩ = some (.int .i64 p.1) /\ w.cell? ⟨b, o + i * 2 + 1, none⟩ = some (.int .i64 p.2) := by
 unfold toNN
 rw [dec_enc, List.length_map]
 refine ⟨pairs_len hl, fun i p hp => ?_⟩
 rw [List.getElem?_map, Option.map_eq_some_iff] at hp
 obtain ⟨x, hx, rfl⟩ := hp
 unfold okNN at hok
 rw [dec_enc, List.all_eq_true] at hok
 have := hok x (List.mem_of_getElem? hx)
 simp only [Bool.and_eq_true, decide_eq_true_eq] at this
 obtain ⟨h1, h2⟩ := pairs_get hl hx
 have hi : i < k := by rw [<- pairs_len hl]; exact (List.getElem?_eq_some_iff.1 hx).1
 obtain ⟨b, o, rfl, hq⟩ := hs.resolve_left (by omega)
 obtain ⟨ck, u, e1, e2, e3⟩ := hq _ _ h1
 obtain ⟨ck', u', e1', e2', e3'⟩ := hq _ _ h2
 rw [ks2_get] at e1 e1'
 cases e1; cases e1'
 obtain ⟨rfl, _⟩ := e3
 obtain ⟨rfl, _⟩ := e3'
 refine ⟨by omega, by omega, b, o, rfl, World.block_lt_of_cell? w _ e2, ?_, ?_⟩
 ·rw [e2]; simp only [Option.some.injEq, Value.int.injEq, true_and]; omega
 ·rw [show o + i * 2 + 1 = o + (i * 2 + 1) by omega, e2']; simp only [Option.some.injEq, Value.int.injEq, true_and]; omega
theorem printL_len (p0 p1 : Bool) (L1 L2 : List (Nat × Nat)) : (Tryd.printL p0 p1 L1 L2).length <= 14 + 14 * L1.length + 15 * L2.length := by
 have h1 := Tryd.portsL_len p0 p1
 have h2 := Tryd.rowsL_len [114, 97, 109, 32] L1
 have h3 := Tryd.rowsL_len [115, 97, 118, 101, 32] L2
 unfold Tryd.printL
 rw [List.length_append, List.length_append, h2, h3]
 simp only [List.length_cons, List.length_nil]
 omega
theorem c23 : Contract Tryd.prog (gl m) 23 s23 F23 := by
 intro vs w is bs ps hL hfl ha hz h1 h2 hpre
 obtain ⟨p0, p1, v1, v2, l1, l2, n1, n2, r1, r2, rfl, rfl, rfl, rfl, s1, s2⟩ := flat_pol hfl
 have hp := hpre rfl
 obtain ⟨a1, k1, c1, rfl, rfl, hk1, hl1, hin1, hs1⟩ := sl_inv s1
 obtain ⟨a2, k2, c2, rfl, rfl, hk2, hl2, hin2, hs2⟩ := sl_inv s2
 have fin : ∀ (l : List UInt8) (e : Int) (b : Bool) (w' : World), l.length <= 10000 -> InR .i64 e -> Below w.heap.size w w' -> F23 [enc l1, (k1 : Int), enc l2, (k2 : Int)] [p0, p1] = ([enc (ubyt l), e], [b]) ->
   ∃ v, Ending.returned (.tuple #[.string ⟨l.toArray⟩, .int .i64 e]) = .returned v /\ Keep [] w w' /\ OutOk s23 [] v w' (F23 [enc l1, (k1 : Int), enc l2, (k2 : Int)] [p0, p1]) /\
    ∀ r, r ∈ resRgs w' s23 v -> w.heap.size <= r.blk \/ ∃ q, (q ∈ argRgs s23.args [.agg #[.bool p0, .bool p1, .slice a1 k1 c1, .slice a2 k2 c2]] w \/ ∃ (g : Nat) (us : List Value), (gl m)[g]? = some us /\ q = gRg g us) /\ r.within q := by
  intro l e b w' hl he hb hF
  have hr : inR .i64 ((⟨l.toArray⟩ : ByteArray).size : Int) = true := inR_mk (by
   show InR .i64 ((l.toArray.size : Nat) : Int)
   rw [List.size_toArray]
   exact ⟨by show (-9223372036854775808 : Int) <= _; omega, by show _ <= (9223372036854775807 : Int); omega⟩)
  refine ⟨_, rfl, below_keep hb, ⟨([enc (ubyt l), e], []), ([], []), ?_, rfl, by rw [hF]; simp, by rw [hF]; simp [s23]⟩, fun r hr => ?_⟩
  ·simp [flatRes, s23, flatTup, flat1, flatC, hr, encS_mk, inR_mk he]
  ·simp [resRgs, s23, rgTup, rg1, rgC] at hr
 by_cases hc : (F14 [enc l1, (k1 : Int), enc l2, (k2 : Int)] [p0, p1]).1.getD 0 0 = 0
 ·have hF : F23 [enc l1, (k1 : Int), enc l2, (k2 : Int)] [p0, p1] = ([enc (ubyt (txtP [enc l1, (k1 : Int), enc l2, (k2 : Int)] [p0, p1])), 0], [(F14 [enc l1, (k1 : Int), enc l2, (k2 : Int)] [p0, p1]).2.headD false && preP [enc l1, (k1 : Int), enc l2, (k2 : Int)]]) := by
   unfold F23; rw [if_pos hc]
  rw [hF] at hp
  simp only [List.headD_cons, Bool.and_eq_true] at hp
  obtain ⟨hp0, hp1⟩ := hp
  unfold preP at hp1
  simp only [List.getD_cons_zero, List.getD_cons_succ, Bool.and_eq_true, decide_eq_true_eq] at hp1
  obtain ⟨⟨hb1, hb2⟩, ho1, ho2⟩ := hp1
  obtain ⟨g1, g2⟩ := rows_at hl1 hs1 ho1
  obtain ⟨g3, g4⟩ := rows_at hl2 hs2 ho2
  have hC := check_at (m := m) hL s1 s2 hp0
  rw [hc] at hC
  refine (Tryd.print0 p0 p1 a1 a2 k1 k2 c1 c2 w (by omega) (by omega) _ _ g1 g3 g2 g4 ((hL 5 _ rfl).2 15 (.int .u8 4) rfl).1 hC).mono ?_
  rintro e w' ⟨rfl, hb⟩
  refine fin _ 0 _ w' ?_ ⟨by decide, by decide⟩ hb hF
  have := printL_len p0 p1 (toNN (enc l1)) (toNN (enc l2))
  rw [g1, g3] at this
  omega
 ·have hF : F23 [enc l1, (k1 : Int), enc l2, (k2 : Int)] [p0, p1] = ([enc (ubyt []), (F14 [enc l1, (k1 : Int), enc l2, (k2 : Int)] [p0, p1]).1.getD 0 0], [(F14 [enc l1, (k1 : Int), enc l2, (k2 : Int)] [p0, p1]).2.headD false]) := by
   unfold F23; rw [if_neg hc]
  rw [hF] at hp
  have hC := check_at (m := m) hL s1 s2 hp
  have hi : InR .i64 ((F14 [enc l1, (k1 : Int), enc l2, (k2 : Int)] [p0, p1]).1.getD 0 0) := by
   have : (F14 [enc l1, (k1 : Int), enc l2, (k2 : Int)] [p0, p1]).1.getD 0 0 = 0 \/ (F14 [enc l1, (k1 : Int), enc l2, (k2 : Int)] [p0, p1]).1.getD 0 0 = 1 := by
    show (S14.run (tabF T3) true [enc l1, (k1 : Int), enc l2, (k2 : Int)] [p0, p1]).1.getD 0 0 = 0 \/ (S14.run (tabF T3) true [enc l1, (k1 : Int), enc l2, (k2 : Int)] [p0, p1]).1.getD 0 0 = 1
    obtain ⟨ρ, e1, e2, e3, e4⟩ := Smry.run_specT (Φ := tabF T3) (S := S14) (is := [enc l1, (k1 : Int), enc l2, (k2 : Int)]) (bs := [p0, p1]) rfl
    rw [e1]
    clear e1 e2 e3
    simp only [S14, eqns, Em.eqn, RI.d, A.d, B.d, and_true] at e4
    show ρ.i 4 = 0 \/ ρ.i 4 = 1
    have := e4.2.2.2.2
    by_cases hb : ρ.b 9 = true
    ·exact .inl (this.2.2.2.2.trans (if_pos hb))
    ·exact .inr (this.2.2.2.2.trans (if_neg hb))
   rcases this with h | h <;> rw [h] <;> exact ⟨by decide, by decide⟩
  refine (Tryd.print1 _ hc p0 p1 a1 a2 k1 k2 c1 c2 w hC).mono ?_
  rintro e w' ⟨rfl, hb⟩
  exact fin [] _ _ w' (by simp) hi hb hF
theorem call23 : ∀ args w, (callFunc 23 args).run Tryd.prog w = .ok (.enter 23 args) w := callable_of Tryd.func23 (by kernel_rfl) (by kernel_rfl)
end Go.Proofs.YtfgbfdlacnihkaaDoor.Po
