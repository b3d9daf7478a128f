/-
  Merged texts (SxQ, SxT, SxU, SxY, SxZ, PoL, PoR, PoN, PoF, PoG, PoC, SxSo, SxRf, SxRg, SxRh, SxRi, SxRj). No condition.
-/
import Derived.KernelRfl
import Derived.ProofKit
import Derived.WideKeyArgs
import Derived.LaidLaws
import Derived.Handed
import Derived.OpenShut
import Derived.Shelf.Strings.Search3
import Derived.Shelf.Strings.Cut
import Derived.Shelf.Strings.Runes
import Derived.Shelf.Strings.BuilderK
import Derived.Shelf.Strings.Repeat
import Derived.Test.YtfgbfdlacnihkaaGreatDoorChecked
import Derived.WalkKit
import Derived.BigCall
import Derived.Deep.Draws
import Derived.Laws.Runes
import Derived.WalkMore
import Derived.Deep.RegionWith
import Derived.LoopN
import Derived.Laws.BytesString
import Derived.Laws.IdiomStrings
import Derived.Lib.IndexBytes
import Derived.Shelf.SlSortCmp.NoneTotal
import Derived.Test.YtfgbfdlacnihkaaGreatDoorPz3
import Derived.Test.YtfgbfdlacnihkaaGreatDoorPz6
set_option linter.unusedVariables false
set_option linter.unusedSimpArgs false
namespace Go.Proofs.YtfgbfdlacnihkaaGreatDoor.Sx
open Go

def rdOps:List Oper -> List Nat -> List Nat -> List Nat
 | [],_,acc=>acc
 | o :: l,wr,acc =>
  let acc':=o.op.operands.toList.foldl (fun a x=>match x with | .tmp t=>if wr.contains t || a.contains t then a else t :: a | _=>a) acc
  rdOps l (match o.dst with | some d=>d :: wr | none=>wr) acc'
def rdCode:Code -> List Nat -> List Nat
 | .region _ ops _,acc=>rdOps ops.toList [] acc
 | .seq a b,acc=>rdCode b (rdCode a acc)
 | .cond c a b,acc=>rdCode b (rdCode a (match c with | .tmp t=>if acc.contains t then acc else t :: acc | _=>acc))
 | .block _ a,acc=>rdCode a acc
 | .scope a,acc=>rdCode a acc
 | .loop a,acc=>rdCode a acc
 | .rangeFunc g _ aS bd,acc=>rdCode bd (rdCode aS (match g with | .tmp t=>if acc.contains t then acc else t :: acc | _=>acc))
 | _,acc=>acc
def keepOf (fn:Func):List Bool :=
 let r:=rdCode (fn.body.getD .skip) (fn.results.toList.map fun | .tmp t=>t | .cell a _=>a)
 (List.range fn.ntmps).map fun t=>r.contains t
def retOf (fn:Func):List Bool :=
 let r:=fn.results.toList.map fun | .tmp t=>t | .cell a _=>a
 (List.range fn.ntmps).map fun t=>r.contains t
def ctlOf (fn:Func) (gl:Gl) (s:Sum):Ctl:={ keep:={ l:=keepOf fn,fz:=true },turns:=400,ret:=retOf fn,base:=gl.length + (ptrShapes s.args).length + argS s.args }

def tabS:List (Nat × Sum × Fun) -> Sums
 | [],_=>none
 | (f,s,_) :: l,n=>if n == f then some s else tabS l n
def tabF:List (Nat × Sum × Fun) -> Funs
 | [],_=>fun _ _=>([],[])
 | (f,_,F) :: l,n=>if n == f then F else tabF l n
theorem AllOk.nil {P:Program} {gl:Gl}:AllOk P (tabF []) gl (tabS []):=fun _ _ h=>by cases h
theorem AllOk.cons {P:Program} {gl:Gl} {l:List (Nat × Sum × Fun)} {f:Nat} {s:Sum} {F:Fun} (hc:match s.sl with | none=>Contract P gl f s F | some p=>TabContract P gl f p) (hcall:∀ args w,(callFunc f args).run P w = .ok (.enter f args) w)
  (hin:∀ S,s.inl = some S -> s.pre = false /\ ∀ is bs,F is bs = S.run Fun0 false is bs) (h:AllOk P (tabF l) gl (tabS l)):AllOk P (tabF ((f,s,F) :: l)) gl (tabS ((f,s,F) :: l)):=by
 intro n t ht
 unfold tabS at ht
 unfold tabF
 by_cases e:(n == f) = true
 ·rw [if_pos e] at ht ⊢
  simp only [Option.some.injEq] at ht
  simp only [beq_iff_eq] at e
  subst e
  subst ht
  exact ⟨hc,hcall,hin⟩
 ·rw [if_neg e] at ht ⊢
  exact h n t ht
def withInl (s:Sum) (S:Smry):Sum:={ s with inl:=some S }
def ctlL (fn:Func) (gl:Gl) (s:Sum) (l:List (Nat × LAnn)):Ctl:={ ctlOf fn gl s with loops:=l }

def callsOf:List Em -> List Nat
 | []=>[]
 | .call f _ _ _ _ _ _ :: l=>f :: callsOf l
 | _ :: l=>callsOf l
theorem evEm_congr {Φ Φ':Funs}:∀ {l:List Em} {is:List Int} {bs:List Bool},(∀ f,f ∈ callsOf l -> Φ f = Φ' f) -> evEm Φ l is bs = evEm Φ' l is bs
 | [],_,_,_=>rfl
 | .di _ _ :: l,is,bs,h=>by unfold evEm; exact evEm_congr h
 | .db _ _ :: l,is,bs,h=>by unfold evEm; exact evEm_congr h
 | .ob _ _ :: l,is,bs,h=>by unfold evEm; exact evEm_congr h
 | .call f ai ab i ni b nb :: l,is,bs,h=>by
  unfold evEm
  simp only
  rw [h f (by simp [callsOf])]
  exact evEm_congr fun g hg=>h g (by simp [callsOf,hg])
theorem run_congr {Φ Φ':Funs} {S:Smry} {pre:Bool} (h:∀ f,f ∈ callsOf S.em -> Φ f = Φ' f):S.run Φ pre = S.run Φ' pre:=by
 funext is bs
 unfold Smry.run
 rw [evEm_congr h]
noncomputable def lpF:List LAnn -> Funs -> Funs
 | [],Φ=>Φ
 | L :: l,Φ=>fun n=>if n == L.id then loopF (L.S.run (lpF l Φ) true) L.nI L.nB else lpF l Φ n
def notIn (n:Nat) (l:List Nat):Bool:=l.all fun m=>!(m == n)
theorem notIn_spec {n:Nat} {l:List Nat} (h:notIn n l = true) {m:Nat} (hm:m ∈ l):m ≠ n:=by
 unfold notIn at h
 rw [List.all_eq_true] at h
 have:=h m hm
 simpa using this
def lpOk:List LAnn -> Bool
 | []=>true
 | L :: l=>notIn L.id (callsOf L.S.em) && (l.all fun M=>!(M.id == L.id) && notIn L.id (callsOf M.S.em)) && lpOk l
theorem lpF_ok {Φ:Funs}:∀ {l:List LAnn},lpOk l = true -> ∀ L,L ∈ l -> lpF l Φ L.id = loopF (L.S.run (lpF l Φ) true) L.nI L.nB
 | [],_,L,h=>by cases h
 | M :: l,hk,L,h=>by
  simp only [lpOk,Bool.and_eq_true,List.all_eq_true] at hk
  obtain ⟨⟨h1,h2⟩,h3⟩:=hk
  rcases List.mem_cons.1 h with rfl | h
  ·have:lpF (L :: l) Φ L.id = loopF (L.S.run (lpF l Φ) true) L.nI L.nB:=by simp [lpF]
   rw [this]
   congr 1
   refine run_congr fun f hf=>?_
   have:=notIn_spec h1 hf
   simp [lpF,this]
  ·have h4:=h2 L h
   simp only [Bool.not_eq_true',beq_eq_false_iff_ne,ne_eq] at h4
   have:lpF (M :: l) Φ L.id = lpF l Φ L.id:=by simp [lpF,h4.1]
   rw [this,lpF_ok h3 L h]
   congr 1
   refine run_congr fun f hf=>?_
   have:=notIn_spec h4.2 hf
   simp [lpF,this]
theorem lpF_else {Φ:Funs} {n:Nat}:∀ {l:List LAnn},(l.all fun L=>!(L.id == n)) = true -> lpF l Φ n = Φ n
 | [],_=>rfl
 | L :: l,h=>by
  simp only [List.all_cons,Bool.and_eq_true] at h
  have h1:¬ L.id = n:=by simpa using h.1
  have h1':(n == L.id) = false:=by simpa using fun e=>h1 (Eq.symm e)
  unfold lpF
  rw [h1']
  simp only [Bool.false_eq_true,if_false]
  exact lpF_else h.2
def apartT (l:List LAnn) (T:List (Nat × Sum × Fun)):Bool:=T.all fun e=>l.all fun L=>!(L.id == e.1)
theorem tabS_mem {n:Nat} {s:Sum}:∀ {T:List (Nat × Sum × Fun)},tabS T n = some s -> ∃ e,e ∈ T /\ e.1 = n
 | [],h=>by cases h
 | (f,t,F) :: T,h=>by
  unfold tabS at h
  split at h
  ·rename_i e
   simp only [beq_iff_eq] at e
   exact ⟨_,List.mem_cons.2 (.inl rfl),e.symm⟩
  ·obtain ⟨e,he,h2⟩:=tabS_mem h
   exact ⟨e,by simp [he],h2⟩
theorem AllOk.loops {P:Program} {gl:Gl} {T:List (Nat × Sum × Fun)} (h:AllOk P (tabF T) gl (tabS T)) {l:List LAnn} (ha:apartT l T = true):AllOk P (lpF l (tabF T)) gl (tabS T):=by
 intro f s hs
 obtain ⟨e,he,rfl⟩:=tabS_mem hs
 unfold apartT at ha
 rw [List.all_eq_true] at ha
 rw [lpF_else (ha e he)]
 exact h _ _ hs
theorem LoopsOk.of {Φ:Funs} {fn:Func} {gl:Gl} {s:Sum} {l:List (Nat × LAnn)} (h:lpOk (l.map (·.2)) = true):LoopsOk (lpF (l.map (·.2)) Φ) (ctlL fn gl s l) :=
 fun p hp=>lpF_ok h p.2 (List.mem_map.2 ⟨p,hp,rfl⟩)
end Go.Proofs.YtfgbfdlacnihkaaGreatDoor.Sx
namespace Go.Proofs.YtfgbfdlacnihkaaGreatDoor.Sx
open Go

def Em.eqn (Φ:Funs) (ρ:Env):Em -> Prop
 | .di n r=>ρ.i n = r.d ρ
 | .db n r=>ρ.b n = r.d ρ
 | .call f ai ab i0 ni b0 nb =>
  (∀ j,j < ni -> ρ.i (i0 + j) = (Φ f (ai.map (A.d ρ)) (ab.map (B.d ρ))).1.getD j 0) /\
  (∀ j,j < nb -> ρ.b (b0 + j) = (Φ f (ai.map (A.d ρ)) (ab.map (B.d ρ))).2.getD j false)
 | .ob _ _=>True
def eqns (Φ:Funs) (ρ:Env):List Em -> Prop
 | []=>True
 | e :: l=>e.eqn Φ ρ /\ eqns Φ ρ l
theorem eqns_of {Φ:Funs} {ρ:Env}:∀ {l:List Em},(∀ e,e ∈ l -> match e with | .ob _ _=>True | e=>e.ok Φ ρ) -> eqns Φ ρ l
 | [],_=>trivial
 | e :: l,h=>by
  refine ⟨?_,eqns_of fun e he=>h e (by simp [he])⟩
  have:=h e (by simp)
  cases e with
  | di n r=>exact this
  | db n r=>exact this
  | call f ai ab i0 ni b0 nb=>exact this
  | ob g b=>trivial
def headsI (ρ:Env):List Int -> Nat -> Prop
 | [],_=>True
 | x :: l,n=>ρ.i n = x /\ headsI ρ l (n + 1)
def headsB (ρ:Env):List Bool -> Nat -> Prop
 | [],_=>True
 | x :: l,n=>ρ.b n = x /\ headsB ρ l (n + 1)
theorem headsI_of {ρ:Env}:∀ {l:List Int} {k:Nat},(∀ n,n < l.length -> ρ.i (k + n) = l.getD n 0) -> headsI ρ l k
 | [],_,_=>trivial
 | x :: l,k,h=>⟨by simpa using h 0 (by simp),headsI_of fun n hn=>by have:=h (n + 1) (by simpa using hn); rw [show k + 1 + n = k + (n + 1) by omega,this]; simp⟩
theorem headsB_of {ρ:Env}:∀ {l:List Bool} {k:Nat},(∀ n,n < l.length -> ρ.b (k + n) = l.getD n false) -> headsB ρ l k
 | [],_,_=>trivial
 | x :: l,k,h=>⟨by simpa using h 0 (by simp),headsB_of fun n hn=>by have:=h (n + 1) (by simpa using hn); rw [show k + 1 + n = k + (n + 1) by omega,this]; simp⟩
theorem wrap_i64 (n:Int):IntKind.wrap .i64 n = if n % 18446744073709551616 >= 9223372036854775808 then n % 18446744073709551616 - 18446744073709551616 else n % 18446744073709551616:=by simp [IntKind.wrap,IntKind.signed,IntKind.bits]
def allR (f:Nat -> Bool):Nat -> Nat -> Bool
 | 0,lo=>f lo
 | k + 1,lo=>allR f k lo && allR f k (lo + 2 ^ k)
theorem wrap_i64_in {n:Int} (h1:-9223372036854775808 <= n) (h2:n < 9223372036854775808):IntKind.wrap .i64 n = n:=by
 rw [wrap_i64]
 split <;> omega
end Go.Proofs.YtfgbfdlacnihkaaGreatDoor.Sx
namespace Go.Proofs.YtfgbfdlacnihkaaGreatDoor.Sx
open Go Go.ChangeShapes Go.WideShapes Go.ChangeAt Go.RowKit

def shOf (P:Program) (t:TypeId):Option Sh:=match P.underlying t with
 | some .bool=>some (.val false [.bool])
 | some (.int k)=>some (.val false [.int k])
 | some (.struct _)=>(ckOf P 8 t).map (.val true ·)
 | some (.array _ _)=>(ckOf P 8 t).map (.val true ·)
 | some .string=>some (.val false [.str])
 | some (.slice _)=>(ckOf P 8 t).map (.val false ·)
 | _=>none
def shsOf (P:Program):List TypeId -> Option (List Sh)
 | []=>some []
 | t :: ts=>match shOf P t,shsOf P ts with
  | some s,some ss=>some (s :: ss)
  | _,_=>none

theorem flatC_append {w:World} {ps:List Rg}:∀ {l1:List CK} {v1:List Value} {l2:List CK} {v2:List Value} {f1 f2:Fl},flatC w ps l1 v1 = some f1 -> flatC w ps l2 v2 = some f2 -> ∃ f,flatC w ps (l1 ++ l2) (v1 ++ v2) = some f
 | [],[],l2,v2,f1,f2,_,h2=>⟨f2,h2⟩
 | .int k :: l1,v :: v1,l2,v2,f1,f2,h1,h2=>by
  unfold flatC at h1
  split at h1
  ·rename_i k' n is bs hv
   split at h1
   ·rename_i hc
    obtain ⟨f,hf⟩:=flatC_append hv h2
    refine ⟨(n :: f.1,f.2),?_⟩
    simp only [List.cons_append,flatC,hf]
    rw [if_pos hc]
   ·cases h1
  ·cases h1
 | .bool :: l1,v :: v1,l2,v2,f1,f2,h1,h2=>by
  unfold flatC at h1
  split at h1
  ·rename_i b is bs hv
   obtain ⟨f,hf⟩:=flatC_append hv h2
   exact ⟨(f.1,b :: f.2),by simp only [List.cons_append,flatC,hf]⟩
  ·cases h1
 | .pt k o :: l1,v :: v1,l2,v2,f1,f2,h1,h2=>by
  unfold flatC at h1
  split at h1
  ·rename_i a r is bs hr hv
   split at h1
   ·rename_i hc
    obtain ⟨f,hf⟩:=flatC_append hv h2
    refine ⟨(f.1,f.2),?_⟩
    simp only [List.cons_append,flatC,hf,hr]
    rw [if_pos hc]
   ·cases h1
  ·cases h1
 | .str :: l1,v :: v1,l2,v2,f1,f2,h1,h2=>by
  unfold flatC at h1
  split at h1
  ·rename_i s is bs hv
   split at h1
   ·rename_i hc
    obtain ⟨f,hf⟩:=flatC_append hv h2
    refine ⟨(encS s :: f.1,f.2),?_⟩
    simp only [List.cons_append,flatC,hf]
    rw [if_pos hc]
   ·cases h1
  ·cases h1
 | .sl ks :: l1,v :: v1,l2,v2,f1,f2,h1,h2=>by
  unfold flatC at h1
  split at h1
  ·rename_i q n r is bs hs hv
   obtain ⟨f,hf⟩:=flatC_append hv h2
   exact ⟨(enc q :: n :: f.1,f.2),by simp only [List.cons_append,flatC,hf,hs]⟩
  ·cases h1
 | .sl _ :: _,[],_,_,_,_,h1,_=>by simp [flatC] at h1
 | .str :: _,[],_,_,_,_,h1,_=>by simp [flatC] at h1
 | [],_ :: _,_,_,_,_,h1,_=>by simp [flatC] at h1
 | .int _ :: _,[],_,_,_,_,h1,_=>by simp [flatC] at h1
 | .bool :: _,[],_,_,_,_,h1,_=>by simp [flatC] at h1
 | .pt _ _ :: _,[],_,_,_,_,h1,_=>by simp [flatC] at h1

section
variable {H:Type} {enc:TypeId × Value -> H} {P:Program} {w:World} {base:Nat} {spare:Nat -> Bool} {held:Bool}
theorem ckFields_flat {g:TypeId -> Option (List CK)} {n:Nat} (hg:∀ (t:TypeId) (l:List CK) (cs:List Value) (x:DataW H × List MemPlace),g t = some l -> DataW.trod enc P w base spare held n t cs = some x -> ∃ f,flatC w [] l cs = some f) {cs:List Value}:∀ {fs:List Field} {off:Nat} {l:List CK},
  ckFields P g fs off = some l -> (∀ f,f ∈ fs -> ∃ x,DataW.trod enc P w base spare held n f.type ((cs.drop f.offset).take (P.cellsOf f.type)) = some x) -> ∃ f,flatC w [] l ((cs.drop off).take l.length) = some f
 | [],off,l,h,_=>by
  simp only [ckFields,Option.some.injEq] at h
  subst h
  exact ⟨_,rfl⟩
 | f :: fs,off,l,h,hx=>by
  unfold ckFields at h
  split at h
  ·rename_i ho
   simp only [beq_iff_eq] at ho
   split at h
   ·rename_i l1 hl1
    split at h
    ·rename_i hlen
     simp only [beq_iff_eq] at hlen
     split at h
     ·rename_i r hr
      simp only [Option.some.injEq] at h
      subst h
      obtain ⟨x,hx1⟩:=hx f (by simp)
      obtain ⟨f1,hf1⟩:=hg _ _ _ _ hl1 hx1
      obtain ⟨f2,hf2⟩:=ckFields_flat hg hr (fun g hm=>hx g (by simp [hm]))
      obtain ⟨f3,hf3⟩:=flatC_append hf1 hf2
      refine ⟨f3,?_⟩
      rw [List.length_append,List.take_add,List.drop_drop,<- ho,hlen]
      rw [<- ho,hlen] at hf3
      exact hf3
     ·cases h
    ·cases h
   ·cases h
  ·cases h
theorem repCK_flat {l:List CK} {cs:List Value}:∀ {m off:Nat},(∀ i,i < m -> ∃ f,flatC w [] l ((cs.drop (off + i * l.length)).take l.length) = some f) -> ∃ f,flatC w [] (repCK l m) ((cs.drop off).take (m * l.length)) = some f
 | 0,off,_=>⟨_,by simp [repCK]; rfl⟩
 | m + 1,off,h=>by
  obtain ⟨f1,hf1⟩:=h 0 (by omega)
  obtain ⟨f2,hf2⟩:=repCK_flat (l:=l) (cs:=cs) (m:=m) (off:=off + l.length) (fun i hi=>by
   have:=h (i + 1) (by omega)
   rwa [show off + (i + 1) * l.length = off + l.length + i * l.length by rw [Nat.add_mul]; omega] at this)
  simp only [Nat.zero_mul,Nat.add_zero] at hf1
  obtain ⟨f3,hf3⟩:=flatC_append hf1 hf2
  refine ⟨f3,?_⟩
  rw [show (m + 1) * l.length = l.length + m * l.length by rw [Nat.add_mul]; omega,List.take_add,List.drop_drop]
  exact hf3
theorem flatC_dec:∀ {l:List CK} {vs:List Value} {f:Fl},flatC w [] l vs = some f -> l.all ckPlain = true -> vs.length = l.length /\ ∀ (k:Nat) (ck:CK),l[k]? = some ck -> ∃ v n,vs[k]? = some v /\ decV ck v = some n
 | [],[],f,h,_=>⟨rfl,fun k ck hk=>by simp at hk⟩
 | .int kd :: l,v :: vs,f,h,hp=>by
  unfold flatC at h
  split at h
  ·rename_i k' n is bs hf
   split at h
   ·rename_i hc
    obtain ⟨h1,h2⟩:=flatC_dec hf (by simpa [ckPlain] using hp)
    refine ⟨by simp [h1],fun k ck hk=>?_⟩
    cases k with
    | zero=>simp at hk; subst hk; exact ⟨_,n,by simp; rfl,by simp only [decV]; rw [if_pos hc]⟩
    | succ k=>simp at hk; simpa using h2 k ck hk
   ·cases h
  ·cases h
 | .bool :: l,v :: vs,f,h,hp=>by
  unfold flatC at h
  split at h
  ·rename_i b is bs hf
   obtain ⟨h1,h2⟩:=flatC_dec hf (by simpa [ckPlain] using hp)
   refine ⟨by simp [h1],fun k ck hk=>?_⟩
   cases k with
   | zero=>simp at hk; subst hk; exact ⟨_,_,by simp; rfl,rfl⟩
   | succ k=>simp at hk; simpa using h2 k ck hk
  ·cases h
 | .pt k o :: l,v :: vs,f,h,hp=>by
  unfold flatC at h
  split at h
  ·rename_i a r is bs hr hf
   simp at hr
  ·cases h
 | .str :: l,v :: vs,f,h,hp=>by
  unfold flatC at h
  split at h
  ·rename_i s is bs hf
   split at h
   ·rename_i hc
    obtain ⟨h1,h2⟩:=flatC_dec hf (by simpa [ckPlain] using hp)
    refine ⟨by simp [h1],fun k ck hk=>?_⟩
    cases k with
    | zero=>simp at hk; subst hk; exact ⟨_,encS s,by simp; rfl,by simp only [decV]; rw [if_pos hc]⟩
    | succ k=>simp at hk; simpa using h2 k ck hk
   ·cases h
  ·cases h
 | .sl _ :: _,_,f,h,hp=>by simp [ckPlain] at hp
 | .str :: _,[],f,h,_=>by simp [flatC] at h
 | [],_ :: _,f,h,_=>by simp [flatC] at h
 | .int _ :: _,[],f,h,_=>by simp [flatC] at h
 | .bool :: _,[],f,h,_=>by simp [flatC] at h
 | .pt _ _ :: _,[],f,h,_=>by simp [flatC] at h
theorem read_dec {ks:List CK} {b:Nat} {w:World}:∀ {n o j:Nat},(∀ i,i < n -> ∃ ck v m,ks[(j + i) % ks.length]? = some ck /\ w.cell? ⟨b,o + i,none⟩ = some v /\ decV ck v = some m) -> ∃ us l,readCells w b o n = some us /\ decVs ks j us = some l
 | 0,o,j,_=>⟨[],[],rfl,rfl⟩
 | n + 1,o,j,h=>by
  obtain ⟨ck,v,m,h1,h2,h3⟩:=h 0 (by omega)
  rw [Nat.add_zero] at h1 h2
  obtain ⟨us,l,g1,g2⟩:=read_dec (ks:=ks) (b:=b) (w:=w) (n:=n) (o:=o + 1) (j:=j + 1) fun i hi=>by
   obtain ⟨ck,v,m,h1,h2,h3⟩:=h (i + 1) (by omega)
   exact ⟨ck,v,m,by rw [show j + 1 + i = j + (i + 1) by omega]; exact h1,by rw [show o + 1 + i = o + (i + 1) by omega]; exact h2,h3⟩
  exact ⟨v :: us,m :: l,by simp only [readCells,h2,g1],by simp only [decVs,h1,g2,h3,Option.map_some]⟩
theorem cells?_get {w:World} {base:Nat} {a:Addr} {n:Nat} {cs:List Value} (h:w.cells? base a n = some cs):∀ k,k < n -> ∃ v,cs[k]? = some v /\ w.cell? (a.add k) = some v:=by
 unfold World.cells? at h
 split at h
 ·intro k hk
  have:=mapM_some_get h k k (by simp [hk])
  have hl:=mapM_some_length h
  simp at hl
  have hkl:k < cs.length:=by omega
  exact ⟨cs[k],List.getElem?_eq_getElem hkl,by rw [this]; exact List.getElem?_eq_getElem hkl⟩
 ·cases h
theorem flatSl_trod {fuel:Nat} {t e:TypeId} {ks:List CK} {v:Value} {x:DataW H × List MemPlace} (ht:P.underlying t = some (.slice e)) (hk:∀ (n:Nat) (cs:List Value) (x:DataW H × List MemPlace),DataW.trod enc P w base spare held n e cs = some x -> ∃ f,flatC w [] ks cs = some f) (hpl:ks.all ckPlain = true) (hlen:ks.length = P.cellsOf e) (hne:ks ≠ [])
  (h:DataW.trod enc P w base spare held fuel t [v] = some x):∃ l n r,flatSl w ks v = some (l,n,r):=by
 rcases DataW.trod_slice ht h with ⟨h1,_⟩ | ⟨a,len,cap,elems,rest,n,rfl,h1,_,_,hl,hc,hlc,hel,_⟩
 ·simp only [List.cons.injEq,and_true] at h1
  subst h1
  exact ⟨[],0,none,flatSl_0⟩
 ·simp only [List.cons.injEq,and_true] at h1
  subst h1
  have hpos:0 < ks.length:=List.length_pos_iff.2 hne
  by_cases h0:len = 0
  ·subst h0
   exact ⟨[],0,none,flatSl_0⟩
  ·-- an element's cells
   have cell:∀ i,i < len -> ∀ k,k < ks.length -> ∃ ck v m,ks[k]? = some ck /\ w.cell? ((a.add (i * P.cellsOf e)).add k) = some v /\ decV ck v = some m:=by
    intro i hi k hkl
    have h2:=hel i hi
    cases hcs:w.cells? base (a.add (i * P.cellsOf e)) (P.cellsOf e) with
    | none =>
     rw [hcs] at h2
     simp only [Option.bind_none] at h2
     have:elems[i]? = none:=h2.symm
     rw [List.getElem?_eq_none_iff] at this
     omega
    | some cs =>
     rw [hcs] at h2
     simp only [Option.bind_some] at h2
     have hi':i < elems.length:=by omega
     rw [List.getElem?_eq_getElem hi'] at h2
     obtain ⟨f,hf⟩:=hk _ _ _ h2
     obtain ⟨g1,g2⟩:=flatC_dec hf hpl
     obtain ⟨v,m,g3,g4⟩:=g2 k _ (List.getElem?_eq_getElem hkl)
     obtain ⟨v',g5,g6⟩:=cells?_get hcs k (by omega)
     rw [g3] at g5
     cases g5
     exact ⟨_,v,m,List.getElem?_eq_getElem hkl,g6,g4⟩
   have hspot:a.spot = none:=by
    obtain ⟨ck,v,m,_,hv,_⟩:=cell 0 (by omega) 0 hpos
    simp only [Nat.zero_mul,Addr.add,if_true] at hv
    unfold World.cell? at hv
    split at hv
    ·split at hv
     ·cases hv
     ·rename_i hs; simpa using hs
    ·cases hv
   obtain ⟨b,o,sp⟩:=a
   simp only at hspot
   subst hspot
   obtain ⟨us,l,g1,g2⟩:=read_dec (ks:=ks) (b:=b) (w:=w) (n:=len * ks.length) (o:=o) (j:=0) fun i hi=>by
    have hdiv:i / ks.length < len:=(Nat.div_lt_iff_lt_mul hpos).2 hi
    have hmod:i % ks.length < ks.length:=Nat.mod_lt _ hpos
    obtain ⟨ck,v,m,k1,k2,k3⟩:=cell (i / ks.length) hdiv (i % ks.length) hmod
    refine ⟨ck,v,m,by rw [Nat.zero_add]; exact k1,?_,k3⟩
    rw [add_lit,add_lit,<- hlen] at k2
    have:=Nat.div_add_mod i ks.length
    rw [Nat.mul_comm] at this
    rwa [Nat.add_assoc,this] at k2
   have hin:inR .i64 (len:Int) = true:=by
    refine inR_mk ⟨?_,?_⟩
    ·show -9223372036854775808 <= (len:Int); omega
    ·show (len:Int) <= 9223372036854775807
     unfold maxLen at hc
     omega
   refine ⟨l,len,some { blk:=b,off:=o,len:=len * ks.length,ro:=true,sq:=some (ks,l) },?_⟩
   unfold flatSl
   have:(len == 0) = false:=by simpa using h0
   have hblt:Nat.blt cap len = false:=by
    cases h:Nat.blt cap len
    ·rfl
    ·rw [Nat.blt_eq] at h; omega
   simp only [hblt,this,Bool.false_eq_true,if_false,hin,if_true,g1,Option.bind_some,g2]

theorem ckOf_flat:∀ (m:Nat) (n:Nat) (t:TypeId) (l:List CK) (cs:List Value) (x:DataW H × List MemPlace),ckOf P m t = some l -> DataW.trod enc P w base spare held n t cs = some x -> ∃ f,flatC w [] l cs = some f
 | 0,n,t,l,cs,x,h,_=>by simp [ckOf] at h
 | m + 1,n,t,l,cs,x,h,hx=>by
  unfold ckOf at h
  split at h
  ·rename_i ht
   simp only [Option.some.injEq] at h
   subst h
   obtain ⟨b,rfl,_⟩:=DataW.trod_bool ht hx
   exact ⟨_,rfl⟩
  ·rename_i k ht
   simp only [Option.some.injEq] at h
   subst h
   obtain ⟨v,rfl,_,hwf⟩:=DataW.trod_int ht hx
   refine ⟨([v],[]),?_⟩
   have:inR k v = true:=by simpa [Lit.wf,inR] using hwf
   simp [flatC,this]
  ·rename_i ht
   simp only [Option.some.injEq] at h
   subst h
   obtain ⟨s,rfl,_,hs⟩:=DataW.trod_string ht hx
   have:inR .i64 (s.size:Int) = true:=by
    refine inR_mk ⟨?_,?_⟩
    ·show -9223372036854775808 <= (s.size:Int); omega
    ·show (s.size:Int) <= 9223372036854775807
     unfold maxLen at hs
     omega
   exact ⟨([encS s],[]),by simp [flatC,this]⟩
  ·rename_i e ht
   split at h
   ·rename_i ks hks
    split at h
    ·rename_i hc
     simp only [Bool.and_eq_true,beq_iff_eq,Bool.not_eq_true',List.isEmpty_eq_false_iff] at hc
     simp only [Option.some.injEq] at h
     subst h
     have hcs:∃ v,cs = [v]:=by
      rcases DataW.trod_slice ht hx with ⟨h1,_⟩ | ⟨_,_,_,_,_,_,_,h1,_⟩ <;> exact ⟨_,h1⟩
     obtain ⟨v,rfl⟩:=hcs
     obtain ⟨l,m,q,hq⟩:=flatSl_trod ht (fun n' cs x hx=>ckOf_flat m n' e ks cs x hks hx) hc.2 hc.1.1 hc.1.2 hx
     exact ⟨(Sx.enc l :: m :: [],[]),by simp [flatC,hq]⟩
    ·cases h
   ·cases h
  ·rename_i fs ht
   split at h
   ·rename_i l' hl
    split at h
    ·rename_i hlen
     simp only [beq_iff_eq] at hlen
     simp only [Option.some.injEq] at h
     subst h
     obtain ⟨xs,n',rfl,_,hcs,hxl,hf⟩:=DataW.trod_struct ht hx
     have:=ckFields_flat (cs:=cs) (fun t l cs x h1 h2=>ckOf_flat m n' t l cs x h1 h2) hl (fun f hm=>by
      obtain ⟨i,hi⟩:=List.getElem?_of_mem hm
      have hi':fs[i]? = some f:=by simpa using hi
      have:=hf i f hi'
      have hlt:i < xs.length:=by rw [hxl]; exact (Array.getElem?_eq_some_iff.1 hi').1
      exact ⟨xs[i],by rw [this]; exact List.getElem?_eq_getElem hlt⟩)
     simpa [hlen,<- hcs] using this
    ·cases h
   ·cases h
  ·rename_i k e ht
   split at h
   ·rename_i l' hl
    split at h
    ·rename_i hc
     simp only [Bool.and_eq_true,beq_iff_eq] at hc
     simp only [Option.some.injEq] at h
     subst h
     obtain ⟨xs,n',rfl,_,hcs,hxl,hf⟩:=DataW.trod_array ht hx
     have:=repCK_flat (l:=l') (cs:=cs) (m:=k) (off:=0) (fun i hi=>by
      have h1:=hf i hi
      have hlt:i < xs.length:=by omega
      rw [List.getElem?_eq_getElem hlt] at h1
      rw [Nat.zero_add,hc.1]
      exact ckOf_flat m n' e l' _ _ hl h1)
     rw [hc.2,<- hcs] at this
     simpa using this
    ·cases h
   ·cases h
  ·cases h

theorem shOf_flat {r:Reach} {b0:Nat} {t:TypeId} {s:Sh} {v:Value} {d:DataW H} {p:List MemPlace} (h:shOf P t = some s) (hv:Value.okWide P w r b0 t v) (hd:DataW.Trod enc P w base spare held t v d p):∃ agg l f,s = .val agg l /\ flat1 w [] agg l v = some f:=by
 obtain ⟨n,hn⟩:=hd
 unfold shOf at h
 split at h
 ·rename_i ht
  simp only [Option.some.injEq] at h
  subst h
  obtain ⟨b,rfl⟩:=okWide_bool ht hv
  exact ⟨_,_,_,rfl,rfl⟩
 ·rename_i k ht
  simp only [Option.some.injEq] at h
  subst h
  obtain ⟨m,rfl⟩:=okWide_int ht hv
  obtain ⟨m',hm,_,hwf⟩:=DataW.trod_int ht hn
  have e:m = m':=by simpa [Value.cells] using hm
  subst e
  have:inR k m = true:=by simpa [Lit.wf,inR] using hwf
  exact ⟨_,_,([m],[]),rfl,by simp [flat1,flatC,this]⟩
 ·rename_i fs ht
  cases hc:ckOf P 8 t with
  | none=>rw [hc] at h; cases h
  | some l =>
   rw [hc] at h
   simp only [Option.map_some,Option.some.injEq] at h
   subst h
   obtain ⟨cs,rfl,_⟩:=okWide_struct ht hv
   obtain ⟨f,hf⟩:=ckOf_flat 8 _ _ _ _ _ hc hn
   exact ⟨_,_,f,rfl,hf⟩
 ·rename_i k e ht
  cases hc:ckOf P 8 t with
  | none=>rw [hc] at h; cases h
  | some l =>
   rw [hc] at h
   simp only [Option.map_some,Option.some.injEq] at h
   subst h
   obtain ⟨f,hf⟩:=ckOf_flat 8 _ _ _ _ _ hc hn
   obtain ⟨_,_,_,_,hcs,_⟩:=DataW.trod_array ht hn
   have hagg:∃ cs,v = .agg cs:=by
    simp only [Value.okWide,ht] at hv
    obtain ⟨cs,h1,_⟩:=hv
    exact ⟨cs,h1⟩
   obtain ⟨cs,rfl⟩:=hagg
   exact ⟨_,_,f,rfl,hf⟩
 ·rename_i ht
  simp only [Option.some.injEq] at h
  subst h
  obtain ⟨s,hs,_,hm⟩:=DataW.trod_string ht hn
  have hv':∃ s,v = .string s:=by
   cases v <;> simp_all [Value.okWide,Value.cells,Cell.okWide,Cell.ok]
  obtain ⟨s',rfl⟩:=hv'
  have e:s' = s:=by simpa [Value.cells] using hs
  subst e
  have:inR .i64 (s'.size:Int) = true:=by
   refine inR_mk ⟨?_,?_⟩
   ·show -9223372036854775808 <= (s'.size:Int); omega
   ·show (s'.size:Int) <= 9223372036854775807
    unfold maxLen at hm
    omega
  exact ⟨_,_,([encS s'],[]),rfl,by simp [flat1,flatC,this]⟩
 ·rename_i e ht
  cases hc:ckOf P 8 t with
  | none=>rw [hc] at h; cases h
  | some l =>
   rw [hc] at h
   simp only [Option.map_some,Option.some.injEq] at h
   subst h
   obtain ⟨a,len,cap,rfl⟩:=okWide_slice ht hv
   obtain ⟨f,hf⟩:=ckOf_flat 8 _ _ _ _ _ hc hn
   refine ⟨_,_,f,rfl,?_⟩
   have hl:∃ ck,l = [ck]:=by
    unfold ckOf at hc
    simp only [ht] at hc
    split at hc
    ·split at hc
     ·simp only [Option.some.injEq] at hc; exact ⟨_,hc.symm⟩
     ·cases hc
    ·cases hc
   obtain ⟨ck,rfl⟩:=hl
   simpa [flat1,Value.cells] using hf
 ·cases h

theorem flat_of_trod {r:Reach} {b0:Nat}:∀ {ts:List TypeId} {ss:List Sh} {vs:List Value} {ds:List (DataW H)} {p:List MemPlace},shsOf P ts = some ss -> (∀ (j:Nat) t v,ts[j]? = some t -> vs[j]? = some v -> Value.okWide P w r b0 t v) ->
  DataW.TrodAll enc P w base spare held ts vs ds p -> ∃ is bs,flatArgs ss vs w = some (is,bs,[]) /\ ptrShapes ss = []
 | [],ss,vs,ds,p,h,_,hA=>by
  simp only [shsOf,Option.some.injEq] at h
  subst h
  obtain ⟨rfl,_,_⟩:=trodAll_nil hA
  exact ⟨[],[],rfl,rfl⟩
 | t :: ts,ss,vs,ds,p,h,hv,hA=>by
  unfold shsOf at h
  split at h
  ·rename_i s ss' hs hss
   simp only [Option.some.injEq] at h
   subst h
   obtain ⟨v,vs',d,ds',p',q,rfl,rfl,rfl,h1,h2⟩:=trodAll_cons hA
   obtain ⟨is,bs,hr,hp⟩:=flat_of_trod hss (fun j t v hj hvj=>hv (j + 1) t v (by simpa using hj) (by simpa using hvj)) h2
   obtain ⟨agg,l,f,rfl,hf⟩:=shOf_flat hs (hv 0 t v (by simp) (by simp)) h1
   refine ⟨f.1 ++ is,f.2 ++ bs,?_,hp⟩
   simp only [flatArgs,hf,hr]
  ·cases h

theorem trodAll_len:∀ {ts:List TypeId} {vs:List Value} {ds:List (DataW H)} {p:List MemPlace},DataW.TrodAll enc P w base spare held ts vs ds p -> vs.length = ts.length /\ ds.length = ts.length
 | [],vs,ds,p,h=>by obtain ⟨rfl,rfl,_⟩:=trodAll_nil h; exact ⟨rfl,rfl⟩
 | t :: ts,vs,ds,p,h=>by
  obtain ⟨v,vs',d,ds',p',q,rfl,rfl,rfl,_,h2⟩:=trodAll_cons h
  have:=trodAll_len h2
  simp [this.1,this.2]
theorem trodAll_stays (hl:laidOutB P = true) {W W':World} {sp':Nat -> Bool}:∀ {ts:List TypeId} {vs:List Value} {ds:List (DataW H)} {ps:List MemPlace},(∀ t,t ∈ ts -> P.readableRec t = true /\ t < P.types.size) ->
  DataW.TrodAll enc P W base (fun _=>true) true ts vs ds ps -> (∀ p ∈ ps,W.sameAt W' p) -> (∀ p ∈ ps,sp' p.block = true) -> DataW.TrodAll enc P W' base sp' true ts vs ds ps
 | [],vs,ds,ps,_,h,_,_=>by obtain ⟨rfl,rfl,rfl⟩:=trodAll_nil h; exact trodAll_mk0
 | t :: ts,vs,ds,ps,hr,h,hs,hp=>by
  obtain ⟨v,vs',d,ds',p',q,rfl,rfl,rfl,h1,h2⟩:=trodAll_cons h
  obtain ⟨hr1,hr2⟩:=hr t (by simp)
  exact trodAll_cons_mk (WideElems.Trod_stays hl hr1 hr2 h1 (fun p hm=>hs p (by simp [hm])) (fun p hm=>hp p (by simp [hm])))
   (trodAll_stays hl (fun t hm=>hr t (by simp [hm])) h2 (fun p hm=>hs p (by simp [hm])) (fun p hm=>hp p (by simp [hm])))
end

def inCK:CK -> Int -> Prop
 | .int k,m=>InR k m
 | .bool,m=>m = 0 \/ m = 1
 | .pt _ _,_=>False
 | .str,m=>∃ s:ByteArray,m = encS s /\ InR .i64 s.size
 | .sl _,_=>False
def slRng (ks:List CK) (q n:Int):Prop:=0 <= n /\ n <= 9223372036854775807 /\ ∃ l,q = enc l /\ l.length = n.toNat * ks.length /\ ∀ (j:Nat) (m:Int),l[j]? = some m -> ∃ ck,ks[j % ks.length]? = some ck /\ inCK ck m
def rngC:List CK -> List Int -> Prop
 | [],[]=>True
 | .int k :: l,n :: is=>(k.min <= n /\ n <= k.max) /\ rngC l is
 | .bool :: l,is=>rngC l is
 | .pt _ _ :: l,is=>rngC l is
 | .str :: l,n :: is=>(∃ s:ByteArray,n = encS s /\ InR .i64 s.size) /\ rngC l is
 | .sl ks :: l,q :: n :: is=>slRng ks q n /\ rngC l is
 | _,_=>False
def rngK:List CK -> (List Int -> Prop) -> List Int -> Prop
 | [],k,is=>k is
 | .int kd :: l,k,n :: is=>(kd.min <= n /\ n <= kd.max) /\ rngK l k is
 | .int _ :: _,_,[]=>False
 | .bool :: l,k,is=>rngK l k is
 | .pt _ _ :: l,k,is=>rngK l k is
 | .str :: l,k,n :: is=>(∃ s:ByteArray,n = encS s /\ InR .i64 s.size) /\ rngK l k is
 | .str :: _,_,[]=>False
 | .sl ks :: l,k,q :: n :: is=>slRng ks q n /\ rngK l k is
 | .sl _ :: _,_,[]=>False
 | .sl _ :: _,_,[_]=>False
def rngA:List Sh -> List Int -> Prop
 | [],is=>is = []
 | .val _ l :: ss,is=>rngK l (rngA ss) is
 | .ptr l :: ss,is=>rngK l (rngA ss) is
theorem rngK_of {k:List Int -> Prop}:∀ {l:List CK} {i1 i2:List Int},rngC l i1 -> k i2 -> rngK l k (i1 ++ i2)
 | [],[],i2,_,h=>h
 | .int kd :: l,n :: i1,i2,h1,h2=>⟨h1.1,rngK_of h1.2 h2⟩
 | .bool :: l,i1,i2,h1,h2=>rngK_of (l:=l) (by cases i1 <;> exact h1) h2
 | .pt _ _ :: l,i1,i2,h1,h2=>rngK_of (l:=l) (by cases i1 <;> exact h1) h2
 | .str :: l,n :: i1,i2,h1,h2=>⟨h1.1,rngK_of h1.2 h2⟩
 | .sl ks :: l,q :: n :: i1,i2,h1,h2=>⟨h1.1,rngK_of h1.2 h2⟩
 | .sl _ :: _,[],_,h,_=>h.elim
 | .sl _ :: _,[_],_,h,_=>h.elim
 | .str :: _,[],_,h,_=>h.elim
 | [],_ :: _,_,h,_=>h.elim
 | .int _ :: _,[],_,h,_=>h.elim
theorem flatSl_rng {w:World} {ks:List CK} {v:Value} {l:List Int} {n:Int} {r:Option Rg} (h:flatSl w ks v = some (l,n,r)):slRng ks (enc l) n:=by
 unfold flatSl at h
 split at h
 ·rename_i p len cap
  split at h
  ·cases h
  split at h
  ·simp only [Option.some.injEq,Prod.mk.injEq] at h
   obtain ⟨rfl,rfl,rfl⟩:=h
   exact ⟨by omega,by omega,[],rfl,by simp,fun j m hj=>by simp at hj⟩
  ·split at h
   ·rename_i b o
    split at h
    ·rename_i hin
     split at h
     ·rename_i l' hl
      simp only [Option.some.injEq,Prod.mk.injEq] at h
      obtain ⟨rfl,rfl,rfl⟩:=h
      cases hrd:readCells w b o (len * ks.length) with
      | none=>rw [hrd] at hl; simp at hl
      | some us =>
       rw [hrd] at hl
       simp only [Option.bind_some] at hl
       obtain ⟨g1,g2⟩:=readCells_get hrd
       obtain ⟨g3,g4⟩:=seq_of_read (b:=b) (o:=o) (w:=w) hl g2
       refine ⟨by omega,(inR_spec hin).2,l',rfl,by rw [Int.toNat_natCast]; omega,fun j m hj=>?_⟩
       obtain ⟨ck,v,k1,k2,k3⟩:=g4 j m hj
       refine ⟨ck,by simpa using k1,?_⟩
       cases ck with
       | int k=>exact k3.2
       | bool=>exact k3.1
       | str=>obtain ⟨s,_,k4,k5⟩:=k3; exact ⟨s,k4,k5⟩
       | pt _ _=>exact k3
       | sl _=>exact k3
     ·cases h
    ·cases h
   ·cases h
 ·cases h
theorem flatC_rng {w:World} {ps:List Rg}:∀ {l:List CK} {vs:List Value} {f:Fl},flatC w ps l vs = some f -> rngC l f.1
 | [],[],f,h=>by simp only [flatC,Option.some.injEq] at h; subst h; trivial
 | .int k :: l,v :: vs,f,h=>by
  unfold flatC at h
  split at h
  ·rename_i k' n is bs hv
   split at h
   ·rename_i hc
    simp only [Option.some.injEq] at h
    subst h
    simp only [Bool.and_eq_true,beq_iff_eq] at hc
    have h2:=hc.2
    simp only [inR,Bool.and_eq_true,decide_eq_true_eq] at h2
    exact ⟨h2,flatC_rng hv⟩
   ·cases h
  ·cases h
 | .bool :: l,v :: vs,f,h=>by
  unfold flatC at h
  split at h
  ·rename_i b is bs hv
   simp only [Option.some.injEq] at h
   subst h
   have:=flatC_rng hv
   cases is <;> exact this
  ·cases h
 | .pt k o :: l,v :: vs,f,h=>by
  unfold flatC at h
  split at h
  ·rename_i a r is bs hr hv
   split at h
   ·simp only [Option.some.injEq] at h
    subst h
    have:=flatC_rng hv
    cases is <;> exact this
   ·cases h
  ·cases h
 | .str :: l,v :: vs,f,h=>by
  unfold flatC at h
  split at h
  ·rename_i s is bs hv
   split at h
   ·rename_i hc
    simp only [Option.some.injEq] at h
    subst h
    exact ⟨⟨s,rfl,inR_spec hc⟩,flatC_rng hv⟩
   ·cases h
  ·cases h
 | .sl ks :: l,v :: vs,f,h=>by
  unfold flatC at h
  split at h
  ·rename_i q n r is bs hs hv
   simp only [Option.some.injEq] at h
   subst h
   exact ⟨flatSl_rng hs,flatC_rng hv⟩
  ·cases h
 | .sl _ :: _,[],_,h=>by simp [flatC] at h
 | .str :: _,[],_,h=>by simp [flatC] at h
 | [],_ :: _,_,h=>by simp [flatC] at h
 | .int _ :: _,[],_,h=>by simp [flatC] at h
 | .bool :: _,[],_,h=>by simp [flatC] at h
 | .pt _ _ :: _,[],_,h=>by simp [flatC] at h
theorem flatArgs_rng {w:World}:∀ {ss:List Sh} {vs:List Value} {is:List Int} {bs:List Bool} {ps:List Rg},flatArgs ss vs w = some (is,bs,ps) -> rngA ss is
 | [],[],is,bs,ps,h=>by
  simp only [flatArgs,Option.some.injEq,Prod.mk.injEq] at h
  exact h.1.symm
 | .val agg l :: ss,v :: vs,is,bs,ps,h=>by
  unfold flatArgs at h
  split at h
  ·rename_i i b is' bs' ps' h1 h2
   simp only [Option.some.injEq,Prod.mk.injEq] at h
   obtain ⟨rfl,_⟩:=h
   obtain ⟨us,hf,_⟩:=flat1_inv h1
   exact rngK_of (flatC_rng hf) (flatArgs_rng h2)
  ·cases h
 | .ptr l :: ss,v :: vs,is,bs,ps,h=>by
  unfold flatArgs at h
  split at h
  ·rename_i b o is' bs' ps' h2
   split at h
   ·rename_i i bb h1
    simp only [Option.some.injEq,Prod.mk.injEq] at h
    obtain ⟨rfl,_⟩:=h
    cases hr:readCells w b o l.length with
    | none=>rw [hr] at h1; simp at h1
    | some us =>
     rw [hr] at h1
     simp only [Option.bind_some] at h1
     exact rngK_of (flatC_rng h1) (flatArgs_rng h2)
   ·cases h
  ·cases h
 | [],_ :: _,_,_,_,h=>by simp [flatArgs] at h
 | .val _ _ :: _,[],_,_,_,h=>by simp [flatArgs] at h
 | .ptr _ :: _,[],_,_,_,h=>by simp [flatArgs] at h
theorem len_cons {α:Type} {l:List α} {n:Nat} (h:l.length = n + 1):∃ a t,l = a :: t /\ t.length = n:=by
 cases l with
 | nil=>simp at h
 | cons a t=>exact ⟨a,t,rfl,by simpa using h⟩
theorem len_nil {α:Type} {l:List α} (h:l.length = 0):l = []:=List.eq_nil_of_length_eq_zero h
theorem Keep.sameAt {w w':World} (h:Keep [] w w') {p:MemPlace} (hp:p.block < w.heap.size):w.sameAt w' p:=by
 cases p with
 | cell b off=>exact h.cell ⟨b,off,none⟩ hp fun r hr=>by cases hr
 | map b=>exact h.blk b hp fun r hr=>by cases hr
theorem Keep.keptBut {w w':World} (h:Keep [] w w') (may:MemPlace -> Prop):w.keptBut w' may:=by
 refine ⟨h.os,h.output,fun i hi=>?_⟩
 rw [h.blk i hi fun r hr=>by cases hr]
 cases hw:w.heap[i]? with
 | none=>trivial
 | some o =>
  cases o <;> simp

theorem trod_ints {H:Type} {enc:TypeId × Value -> H} {P:Program} {w:World} {base:Nat} {spare:Nat -> Bool} {held:Bool} {fuel:Nat} {t e:TypeId} {n:Nat} {k:IntKind} (ht:P.underlying t = some (.array n e)) (he:P.underlying e = some (.int k)) (hc:P.cellsOf e = 1) (hct:P.cellsOf t = n)
  {l:List Int} {cs:List Value} {p:List MemPlace} (h:DataW.trod enc P w base spare held fuel t cs = some (.agg (l.map fun m=>.lit (.int k m)),p)):cs = l.map (Value.int k):=by
 obtain ⟨xs,m,rfl,hx,hcs,hxl,hf⟩:=DataW.trod_array ht h
 obtain ⟨hx1,_⟩:=Prod.mk.inj hx
 simp only [DataW.agg.injEq] at hx1
 have hll:l.length = n:=by
  have:=congrArg List.length hx1
  simpa [hxl] using this
 apply List.ext_getElem?
 intro i
 by_cases hi:i < n
 ·have h1:=hf i hi
  have hix:i < xs.length:=by omega
  rw [List.getElem?_eq_getElem hix,hc,Nat.mul_one] at h1
  obtain ⟨v,hv,hxv,_⟩:=DataW.trod_int he h1
  have hil:i < l.length:=by omega
  have e1:(l.map fun m=>(DataW.lit (.int k m):DataW H))[i]? = (xs.map (·.1))[i]?:=by rw [hx1]
  rw [List.getElem?_map,List.getElem?_map,List.getElem?_eq_getElem hix,List.getElem?_eq_getElem hil] at e1
  simp only [Option.map_some,Option.some.injEq,hxv,DataW.lit.injEq,Lit.int.injEq,true_and] at e1
  have hic:i < cs.length:=by omega
  have e2:cs[i]? = some (.int k v):=by
   have:=congrArg (·[0]?) hv
   simpa [List.getElem?_take,List.getElem?_drop] using this
  rw [e2,List.getElem?_map,List.getElem?_eq_getElem hil,e1]
  rfl
 ·rw [List.getElem?_eq_none (by omega),List.getElem?_eq_none (by simp; omega)]

theorem law_post {P:Program} {fn:Func} {s:ChangeSpec} {H:Type} {enc:TypeId × Value -> H} {W W':World} {args:Array Value} {ds gs:List (DataW H)} {before p:List MemPlace} (hl:laidOutB P = true) (hpar:∀ t,t ∈ fn.params.toList -> P.readableRec t = true /\ t < P.types.size)
  {tb:TypeId} (hres:fn.resultTypes = #[tb]) (hb:P.underlying tb = some .bool) (hvars:s.vars = []) (hW:DataW.Whole enc P fn.params.toList s.vars false W args.toList ds gs before) (hA:DataW.TrodAll enc P W 0 (fun _=>true) true fn.params.toList args.toList ds p) (hbe:before = p) (hgs:gs = [])
  (hfn:s.fn H (ds ++ []) = { results:=[.lit (.bool true)],args:=ds }) (hk:Keep [] W W'):s.post enc P fn false true false false W args (.bool true) W':=by
 subst hbe hgs
 have hlt:∀ x ∈ before,x.block < W.heap.size:=fun x hx=>hW.lt x hx
 have hsame:∀ x ∈ before,W.sameAt W' x:=fun x hx=>hk.sameAt (hlt x hx)
 refine ⟨ds,[],before,[],before,[],hW,?_,?_,?_,?_,fun h=>by cases h⟩
 ·rw [hfn,hres]
  exact trodAll_mk1 (shut_bool hb true)
 ·rw [hfn]
  exact trodAll_stays hl hpar hA hsame (fun x hx=>by simpa using hlt x hx)
 ·rw [hvars,hfn]
  rfl
 ·exact hk.keptBut _
end Go.Proofs.YtfgbfdlacnihkaaGreatDoor.Sx
namespace Go.Proofs.YtfgbfdlacnihkaaGreatDoor.Sx
open Go

theorem Smry.run_specT {Φ:Funs} {S:Smry} {is:List Int} {bs:List Bool} (hw:wsEm S.em is.length bs.length = true):∃ ρ:Env,S.run Φ true is bs = (S.ri.map (A.d ρ),obAll ρ S.em :: S.rb.map (B.d ρ)) /\ headsI ρ is 0 /\ headsB ρ bs 0 /\ eqns Φ ρ S.em:=by
 obtain ⟨h1,h2⟩:=evEm_spec Φ S.em is bs hw
 refine ⟨envOf (evEm Φ S.em is bs).1 (evEm Φ S.em is bs).2,rfl,headsI_of fun n hn=>?_,headsB_of fun n hn=>?_,eqns_of fun e he=>?_⟩
 ·rw [Nat.zero_add]; exact h1.1 n hn
 ·rw [Nat.zero_add]; exact h1.2 n hn
 ·have:=h2 e he
  cases e <;> simp_all

def obs (ρ:Env):List Em -> Bool
 | []=>true
 | .ob g b :: l=>(!(Gd.d ρ g) || b.d ρ) && obs ρ l
 | .di _ _ :: l=>obs ρ l
 | .db _ _ :: l=>obs ρ l
 | .call _ _ _ _ _ _ _ :: l=>obs ρ l
theorem obAll_eq {ρ:Env}:∀ {l:List Em},obAll ρ l = obs ρ l
 | []=>rfl
 | e :: l=>by
  have ih:=obAll_eq (ρ:=ρ) (l:=l)
  unfold obAll at ih ⊢
  cases e <;> simp [obs,ih]

theorem loop_rule {F:Fun} {nI nB:Nat} (Inv:List Int -> List Bool -> Prop) (mu:List Int -> List Bool -> Nat) (Post:Fl -> Prop)
  (step:∀ is bs,Inv is bs -> ∃ c rb,(F is bs).2 = true :: c :: rb /\ (c = false -> Post ((F is bs).1.drop nI,rb.drop nB)) /\
   (c = true -> Inv ((F is bs).1.take nI) (rb.take nB) /\ mu ((F is bs).1.take nI) (rb.take nB) < mu is bs)) :
  ∀ is bs,Inv is bs -> ∃ o,loopF F nI nB is bs = (o.1,true :: o.2) /\ Post o:=by
 have key:∀ n is bs,mu is bs <= n -> Inv is bs -> ∃ m o,LRun F nI nB m is bs o /\ Post o:=by
  intro n
  induction n with
  | zero =>
   intro is bs hn hi
   obtain ⟨c,rb,h1,h2,h3⟩:=step is bs hi
   cases c
   ·exact ⟨1,_,.stop h1,h2 rfl⟩
   ·have:=(h3 rfl).2; omega
  | succ n ih =>
   intro is bs hn hi
   obtain ⟨c,rb,h1,h2,h3⟩:=step is bs hi
   cases c
   ·exact ⟨1,_,.stop h1,h2 rfl⟩
   ·obtain ⟨h4,h5⟩:=h3 rfl
    obtain ⟨m,o,h6,h7⟩:=ih _ _ (by omega) h4
    exact ⟨m + 1,o,.turn h1 h6,h7⟩
 intro is bs hi
 obtain ⟨m,o,h1,h2⟩:=key _ is bs (Nat.le_refl _) hi
 exact ⟨o,loopF_of h1,h2⟩

theorem cm_eql (x y:Int):cmB .eql x y = (x == y):=rfl
theorem cm_neq (x y:Int):cmB .neq x y = (x != y):=rfl
theorem cm_lss (x y:Int):cmB .lss x y = decide (x < y):=rfl
theorem cm_leq (x y:Int):cmB .leq x y = decide (x <= y):=rfl
theorem cm_gtr (x y:Int):cmB .gtr x y = decide (y < x):=rfl
theorem cm_geq (x y:Int):cmB .geq x y = decide (y <= x):=rfl
def upto (p:Nat -> Prop):Nat -> Nat -> Prop
 | _,0=>True
 | k,n + 1=>p k /\ upto p (k + 1) n
theorem upto_of {p:Nat -> Prop}:∀ {n k:Nat},(∀ j,k <= j -> j < k + n -> p j) -> upto p k n
 | 0,_,_=>trivial
 | n + 1,k,h=>⟨h k (Nat.le_refl _) (by omega),upto_of fun j h1 h2=>h j (by omega) (by omega)⟩
theorem of_upto {p:Nat -> Prop}:∀ {n k:Nat},upto p k n -> ∀ j,k <= j -> j < k + n -> p j
 | 0,k,_,j,h1,h2=>by omega
 | n + 1,k,h,j,h1,h2=>by
  rcases Nat.eq_or_lt_of_le h1 with e | e
  ·subst e; exact h.1
  ·exact of_upto h.2 j e (by omega)
theorem ltn {p:Nat -> Prop} (n:Nat):(∀ j,j < n -> p j) ↔ upto p 0 n :=
 ⟨fun h=>upto_of fun j _ h2=>h j (by omega),fun h j hj=>of_upto h j (Nat.zero_le _) (by omega)⟩
end Go.Proofs.YtfgbfdlacnihkaaGreatDoor.Sx
namespace Go.Proofs.YtfgbfdlacnihkaaGreatDoor.Sx
open Go

theorem oneCell_ints {k:IntKind} {l:List Int} {j:Nat} {v:Value} (h:(l.map (Value.int k))[j]? = some v):oneCell v = true:=by
 rw [List.getElem?_map] at h
 cases hl:l[j]? with
 | none=>rw [hl] at h; simp at h
 | some m=>rw [hl] at h; simp only [Option.map_some,Option.some.injEq] at h; subst h; rfl

theorem out_trueP {s:Sum} {v:Value} {w':World} (ht:s.tup = false) (hr:s.res = [(false,[.bool])]) (hp:s.pre = true) (hps:ptrShapes s.args = []) (h:OutOk s [] v w' ([],[true,true])):v = .bool true:=by
 obtain ⟨r,p,h1,h2,h3,h4⟩:=h
 unfold flatRes at h1
 rw [ht,hr] at h1
 rw [hps] at h2
 simp only [flatPs,Option.some.injEq] at h2
 subst h2
 rw [hp] at h4
 simp only [if_true,Bool.false_eq_true,if_false,List.append_nil,List.tail_cons] at h4 h1
 obtain ⟨us,hf,hu⟩:=flat1_inv h1
 simp only [Bool.false_eq_true,if_false] at hu hf
 replace hu:=hu.1
 subst hu
 unfold flatC at hf
 split at hf
 ·rename_i b is bs hb
  simp only [Option.some.injEq] at hf
  subst hf
  simp only [flatC,Option.some.injEq,Prod.mk.injEq] at hb
  obtain ⟨_,rfl⟩:=hb
  have h5:(true:Bool) = b:=by simpa using h4
  rw [<- h5]
 ·cases hf
end Go.Proofs.YtfgbfdlacnihkaaGreatDoor.Sx
namespace Go.Proofs
open Go.Shelf Go.RowKit Go.Lib
def Tryz.lays143_ren:Go.Shelf.Ren:=⟨fun | 143=>47 | 219=>48 | 217=>66 | 225=>67 | 224=>68 | 267=>69 | 266=>83 | 314=>84 | n=>n,fun | 9=>9 | 3=>3 | 4=>4 | 5=>5 | 46=>75 | 146=>100 | 51=>99 | n=>n,fun | 1=>0 | n=>n⟩
theorem Tryz.lays143:Go.Proofs.Lays.n143 Tryz.prog Tryz.lays143_ren:={
 mixed:=by kernel_rfl
 f143:=Tryz.func47.trans (congrArg some (by kernel_rfl))
 f217:=Tryz.func66.trans (congrArg some (by kernel_rfl))
 f219:=Tryz.func48.trans (congrArg some (by kernel_rfl))
 f224:=Tryz.func68.trans (congrArg some (by kernel_rfl))
 f225:=Tryz.func67.trans (congrArg some (by kernel_rfl))
 f266:=Tryz.func83.trans (congrArg some (by kernel_rfl))
 f267:=Tryz.func69.trans (congrArg some (by kernel_rfl))
 f314:=Tryz.func84.trans (congrArg some (by kernel_rfl))
 t3:=Tryz.underlying3
 a3:=Tryz.isAgg3
 z3:=Tryz.sizeOf3
 v3:=Tryz.zeroValue3
 t4:=Tryz.underlying4
 a4:=Tryz.isAgg4
 z4:=Tryz.sizeOf4
 v4:=Tryz.zeroValue4
 t5:=Tryz.underlying5
 a5:=Tryz.isAgg5
 z5:=Tryz.sizeOf5
 v5:=Tryz.zeroValue5
 t9:=Tryz.underlying9
 a9:=Tryz.isAgg9
 z9:=Tryz.sizeOf9
 v9:=Tryz.zeroValue9
 t46:=Tryz.underlying75
 a46:=Tryz.isAgg75
 z46:=Tryz.sizeOf75
 v46:=Tryz.zeroValue75
 t51:=Tryz.underlying99
 a51:=Tryz.isAgg99
 z51:=Tryz.sizeOf99
 v51:=Tryz.zeroValue99
 t146:=Tryz.underlying100
 a146:=Tryz.isAgg100
 z146:=Tryz.sizeOf100
 v146:=Tryz.zeroValue100
 g1:=by kernel_rfl }
def Tryz.lays145_ren:Go.Shelf.Ren:=⟨fun | 145=>23 | 220=>33 | 219=>48 | 217=>66 | 225=>67 | 224=>68 | 267=>69 | 266=>83 | 314=>84 | n=>n,fun | 9=>9 | 4=>4 | 59=>56 | 3=>3 | 5=>5 | 46=>75 | 146=>100 | 51=>99 | n=>n,fun | 1=>0 | n=>n⟩
theorem Tryz.lays145:Go.Proofs.Lays.n145 Tryz.prog Tryz.lays145_ren:={
 mixed:=by kernel_rfl
 f145:=Tryz.func23.trans (congrArg some (by kernel_rfl))
 f217:=Tryz.func66.trans (congrArg some (by kernel_rfl))
 f219:=Tryz.func48.trans (congrArg some (by kernel_rfl))
 f220:=Tryz.func33.trans (congrArg some (by kernel_rfl))
 f224:=Tryz.func68.trans (congrArg some (by kernel_rfl))
 f225:=Tryz.func67.trans (congrArg some (by kernel_rfl))
 f266:=Tryz.func83.trans (congrArg some (by kernel_rfl))
 f267:=Tryz.func69.trans (congrArg some (by kernel_rfl))
 f314:=Tryz.func84.trans (congrArg some (by kernel_rfl))
 t3:=Tryz.underlying3
 a3:=Tryz.isAgg3
 z3:=Tryz.sizeOf3
 v3:=Tryz.zeroValue3
 t4:=Tryz.underlying4
 a4:=Tryz.isAgg4
 z4:=Tryz.sizeOf4
 v4:=Tryz.zeroValue4
 t5:=Tryz.underlying5
 a5:=Tryz.isAgg5
 z5:=Tryz.sizeOf5
 v5:=Tryz.zeroValue5
 t9:=Tryz.underlying9
 a9:=Tryz.isAgg9
 z9:=Tryz.sizeOf9
 v9:=Tryz.zeroValue9
 t46:=Tryz.underlying75
 a46:=Tryz.isAgg75
 z46:=Tryz.sizeOf75
 v46:=Tryz.zeroValue75
 t51:=Tryz.underlying99
 a51:=Tryz.isAgg99
 z51:=Tryz.sizeOf99
 v51:=Tryz.zeroValue99
 t59:=Tryz.underlying56
 a59:=Tryz.isAgg56
 z59:=Tryz.sizeOf56
 v59:=Tryz.zeroValue56
 t146:=Tryz.underlying100
 a146:=Tryz.isAgg100
 z146:=Tryz.sizeOf100
 v146:=Tryz.zeroValue100
 g1:=by kernel_rfl }
def Tryz.lays152_ren:Go.Shelf.Ren:=⟨fun | 152=>49 | 137=>70 | 119=>71 | 224=>68 | 225=>67 | 217=>66 | 266=>83 | n=>n,fun | 9=>9 | 21=>21 | 3=>3 | 4=>4 | 5=>5 | 0=>0 | 46=>75 | n=>n,fun | n=>n⟩
theorem Tryz.lays152:Go.Proofs.Lays.n152 Tryz.prog Tryz.lays152_ren:={
 mixed:=by kernel_rfl
 f119:=Tryz.func71.trans (congrArg some (by kernel_rfl))
 f137:=Tryz.func70.trans (congrArg some (by kernel_rfl))
 f152:=Tryz.func49.trans (congrArg some (by kernel_rfl))
 f217:=Tryz.func66.trans (congrArg some (by kernel_rfl))
 f224:=Tryz.func68.trans (congrArg some (by kernel_rfl))
 f225:=Tryz.func67.trans (congrArg some (by kernel_rfl))
 f266:=Tryz.func83.trans (congrArg some (by kernel_rfl))
 t0:=Tryz.underlying0
 a0:=Tryz.isAgg0
 z0:=Tryz.sizeOf0
 v0:=Tryz.zeroValue0
 t3:=Tryz.underlying3
 a3:=Tryz.isAgg3
 z3:=Tryz.sizeOf3
 v3:=Tryz.zeroValue3
 t4:=Tryz.underlying4
 a4:=Tryz.isAgg4
 z4:=Tryz.sizeOf4
 v4:=Tryz.zeroValue4
 t5:=Tryz.underlying5
 a5:=Tryz.isAgg5
 z5:=Tryz.sizeOf5
 v5:=Tryz.zeroValue5
 t9:=Tryz.underlying9
 a9:=Tryz.isAgg9
 z9:=Tryz.sizeOf9
 v9:=Tryz.zeroValue9
 t21:=Tryz.underlying21
 a21:=Tryz.isAgg21
 z21:=Tryz.sizeOf21
 v21:=Tryz.zeroValue21
 t46:=Tryz.underlying75
 a46:=Tryz.isAgg75
 z46:=Tryz.sizeOf75
 v46:=Tryz.zeroValue75 }
def Tryz.lays105_ren:Go.Shelf.Ren:=⟨fun | 105=>29 | 212=>39 | 99=>40 | 165=>41 | 166=>14 | 170=>42 | 169=>16 | 263=>61 | 264=>62 | 206=>63 | 240=>27 | 241=>64 | 276=>37 | 277=>82 | n=>n,fun | 9=>9 | 3=>3 | 4=>4 | 20=>20 | 0=>0 | 46=>75 | 109=>76 | 5=>5 | 72=>41 | 76=>45 | 51=>99 | 146=>100 | 53=>63 | 148=>102 | 70=>38 | 37=>39 | 75=>44 | 127=>65 | 164=>73 | 80=>50 | n=>n,fun | n=>n⟩
theorem Tryz.lays105:Go.Proofs.Lays.n105 Tryz.prog Tryz.lays105_ren:={
 mixed:=by kernel_rfl
 f99:=Tryz.func40.trans (congrArg some (by kernel_rfl))
 f105:=Tryz.func29.trans (congrArg some (by kernel_rfl))
 f165:=Tryz.func41.trans (congrArg some (by kernel_rfl))
 f166:=Tryz.func14.trans (congrArg some (by kernel_rfl))
 f169:=Tryz.func16.trans (congrArg some (by kernel_rfl))
 f170:=Tryz.func42.trans (congrArg some (by kernel_rfl))
 f206:=Tryz.func63.trans (congrArg some (by kernel_rfl))
 f212:=Tryz.func39.trans (congrArg some (by kernel_rfl))
 f240:=Tryz.func27.trans (congrArg some (by kernel_rfl))
 f241:=Tryz.func64.trans (congrArg some (by kernel_rfl))
 f263:=Tryz.func61.trans (congrArg some (by kernel_rfl))
 f264:=Tryz.func62.trans (congrArg some (by kernel_rfl))
 f276:=Tryz.func37.trans (congrArg some (by kernel_rfl))
 f277:=Tryz.func82.trans (congrArg some (by kernel_rfl))
 t0:=Tryz.underlying0
 a0:=Tryz.isAgg0
 z0:=Tryz.sizeOf0
 v0:=Tryz.zeroValue0
 t3:=Tryz.underlying3
 a3:=Tryz.isAgg3
 z3:=Tryz.sizeOf3
 v3:=Tryz.zeroValue3
 t4:=Tryz.underlying4
 a4:=Tryz.isAgg4
 z4:=Tryz.sizeOf4
 v4:=Tryz.zeroValue4
 t5:=Tryz.underlying5
 a5:=Tryz.isAgg5
 z5:=Tryz.sizeOf5
 v5:=Tryz.zeroValue5
 t9:=Tryz.underlying9
 a9:=Tryz.isAgg9
 z9:=Tryz.sizeOf9
 v9:=Tryz.zeroValue9
 t20:=Tryz.underlying20
 a20:=Tryz.isAgg20
 z20:=Tryz.sizeOf20
 v20:=Tryz.zeroValue20
 t37:=Tryz.underlying39
 a37:=Tryz.isAgg39
 z37:=Tryz.sizeOf39
 v37:=Tryz.zeroValue39
 t46:=Tryz.underlying75
 a46:=Tryz.isAgg75
 z46:=Tryz.sizeOf75
 v46:=Tryz.zeroValue75
 t51:=Tryz.underlying99
 a51:=Tryz.isAgg99
 z51:=Tryz.sizeOf99
 v51:=Tryz.zeroValue99
 t53:=Tryz.underlying63
 a53:=Tryz.isAgg63
 z53:=Tryz.sizeOf63
 v53:=Tryz.zeroValue63
 t70:=Tryz.underlying38
 a70:=Tryz.isAgg38
 z70:=Tryz.sizeOf38
 v70:=Tryz.zeroValue38
 t72:=Tryz.underlying41
 a72:=Tryz.isAgg41
 z72:=Tryz.sizeOf41
 v72:=Tryz.zeroValue41
 t75:=Tryz.underlying44
 a75:=Tryz.isAgg44
 z75:=Tryz.sizeOf44
 v75:=Tryz.zeroValue44
 t76:=Tryz.underlying45
 a76:=Tryz.isAgg45
 z76:=Tryz.sizeOf45
 v76:=Tryz.zeroValue45
 t109:=Tryz.underlying76
 a109:=Tryz.isAgg76
 z109:=Tryz.sizeOf76
 v109:=Tryz.zeroValue76
 t127:=Tryz.underlying65
 a127:=Tryz.isAgg65
 z127:=Tryz.sizeOf65
 v127:=Tryz.zeroValue65
 t146:=Tryz.underlying100
 a146:=Tryz.isAgg100
 z146:=Tryz.sizeOf100
 v146:=Tryz.zeroValue100
 t148:=Tryz.underlying102
 a148:=Tryz.isAgg102
 z148:=Tryz.sizeOf102
 v148:=Tryz.zeroValue102
 t164:=Tryz.underlying73
 a164:=Tryz.isAgg73
 z164:=Tryz.sizeOf73
 v164:=Tryz.zeroValue73 }
end Go.Proofs
namespace Go.Proofs
open Go.Shelf Go.RowKit Go.Lib
def Tryz.hexs:ByteArray:=⟨#[48,49,50,51,52,53,54,55,56,57,97,98,99,100,101,102]⟩
theorem Tryz.validRune (r:Int) (w:World) (h1:128 <= r) (h2:r <= 2147483647):Calls Tryz.prog 71 #[.int .i32 r] w fun e w'=>e = .returned (.bool (decide (r < 55296) || (decide (57343 < r) && decide (r <= 1114111)))) /\ w' = w:=by
 go_enter Tryz.func71,Tryz.ntmps71
 go_wp2
 all_goals (
  go_ret
  refine ⟨?_,rfl⟩
  simp_all <;> omega)
theorem Tryz.hexs_dec:∀ p:Fin 16,(Utf8.decode Tryz.hexs p.val).1 < 128 /\ (Utf8.decode Tryz.hexs p.val).2 = 1:=by decide
set_option maxHeartbeats 4000000 in
set_option maxRecDepth 1000000 in
theorem Tryz.indexRune_err (w:World):Calls Tryz.prog 49 #[.string Tryz.hexs,.int .i32 65533] w fun e w'=>e = .returned (.int .i64 (-1)) /\ Below w.heap.size w w':=by
 go_enter Tryz.func49,Tryz.ntmps49
 go_wp2
 go_loopw [] (fun wr=>∃ pos:Nat,pos <= 16 /\ wr.heap[w.heap.size]? = some (.stringIter Tryz.hexs pos) /\ Below w.heap.size w wr) (fun wr=>16 - wr.iterPos w.heap.size)
 case atStart =>
  refine ⟨0,by omega,?_,(Below.refl _ w).alloc (Nat.le_refl _) _⟩
  simpa using World.iter_heap w Tryz.hexs 0
 case round =>
  obtain ⟨pos,hp16,hit,hbw⟩:=hrel
  have hsz:w.heap.size < wr.heap.size:=(Array.getElem?_eq_some_iff.1 hit).1
  by_cases hp:pos < Tryz.hexs.size
  ·have hnx:∀ ty,(Instr.next (.pointer (some ⟨w.heap.size,0,none⟩)) true ty).run Tryz.prog wr = _:=fun ty=>Lib.run_next_any_at wr w.heap.size Tryz.hexs pos ty hit hp
   obtain ⟨hd1,hd2⟩:=Tryz.hexs_dec ⟨pos,hp⟩
   simp only at hd1 hd2
   have hne:¬ (((Utf8.decode Tryz.hexs pos).1:Nat):Int) = 65533:=by omega
   have hit2:=Lib.iterAt_heap wr w.heap.size Tryz.hexs pos (pos + (Utf8.decode Tryz.hexs pos).2) hit
   have hbw2:=Lib.below_iterAt hbw (k:=w.heap.size) (Nat.le_refl _) Tryz.hexs (pos + (Utf8.decode Tryz.hexs pos).2)
   rw [hd2] at hit2 hbw2
   have hp':pos < 16:=hp
   go_wp2
   go_roundw
   case rel=>exact ⟨pos + 1,by omega,hit2,hbw2⟩
   case measure =>
    simp only [World.iterPos,hit2,hit]
    omega
  ·have hnx:∀ ty,(Instr.next (.pointer (some ⟨w.heap.size,0,none⟩)) true ty).run Tryz.prog wr = _:=fun ty=>Lib.run_next_end_at wr w.heap.size Tryz.hexs pos ty hit hp
   go_wp2
   go_ret
   exact ⟨rfl,hbw⟩
theorem Tryz.lays137:Lays.n137 Tryz.prog Tryz.lays152_ren:={ Tryz.lays152 with }
theorem Tryz.indexByte (s:ByteArray) (c:Int) (w:World):Calls Tryz.prog 70 #[.string s,.int .u8 c] w fun e w'=>e = .returned (.int .i64 (Lib.indexByte s.data.toList c.toNat.toUInt8)) /\ w' = w:=Any.strings_IndexByte Tryz.lays137 s c w
theorem Tryz.indexByte_none:∀ (l:List UInt8) (c:UInt8),(∀ b,b ∈ l -> b ≠ c) -> Lib.indexByte l c = -1
 | [],_,_=>rfl
 | b :: l,c,h=>by
  unfold Lib.indexByte
  rw [if_neg (by simp; exact h b (by simp)),Tryz.indexByte_none l c fun x hx=>h x (by simp [hx])]
  simp
theorem Tryz.hexs_low:∀ b,b ∈ Tryz.hexs.data.toList -> b.toNat < 128:=by decide
theorem Tryz.hexs_part (c:UInt8) (hc:128 <= c.toNat) (i k:Nat):Lib.indexByte ((Tryz.hexs.data.toList.drop i).take k) c = -1 :=
 Tryz.indexByte_none _ _ fun b hb e=>by
  have:=Tryz.hexs_low b (List.mem_of_mem_drop (List.mem_of_mem_take hb))
  subst e
  omega
theorem Tryz.encode_high (r:Int) (h1:128 <= r) (h2:r <= 2147483647) (hb:(decide (r < 55296) || (decide (57343 < r) && decide (r <= 1114111))) = true) :
  (∃ x y:UInt8,Utf8.encode r = ⟨#[x,y]⟩ /\ 128 <= y.toNat) \/ (∃ x y z:UInt8,Utf8.encode r = ⟨#[x,y,z]⟩ /\ 128 <= z.toNat) \/ (∃ x y z v:UInt8,Utf8.encode r = ⟨#[x,y,z,v]⟩ /\ 128 <= v.toNat):=by
 have hv:Utf8.valid r = true:=by
  unfold Utf8.valid
  simp only [Bool.or_eq_true,Bool.and_eq_true,decide_eq_true_eq] at hb ⊢
  omega
 have key:∀ m:Nat,128 <= (UInt8.ofNat (128 + m % 64)).toNat:=fun m=>by
  rw [UInt8.toNat_ofNat']
  omega
 unfold Utf8.encode
 simp only [hv,if_true]
 by_cases c1:r.toNat < 2048
 ·left
  rw [if_neg (by omega),if_pos c1]
  exact ⟨_,_,rfl,key _⟩
 ·right
  by_cases c2:r.toNat < 65536
  ·left
   rw [if_neg (by omega),if_neg c1,if_pos c2]
   exact ⟨_,_,_,rfl,key _⟩
  ·right
   rw [if_neg (by omega),if_neg c1,if_neg c2]
   exact ⟨_,_,_,_,rfl,key _⟩
set_option maxHeartbeats 4000000 in
set_option maxRecDepth 1000000 in
theorem Tryz.indexRune_high (r:Int) (w:World) (h1:128 <= r) (h2:r <= 2147483647) (h3:r ≠ 65533):Calls Tryz.prog 49 #[.string Tryz.hexs,.int .i32 r] w fun e w'=>e = .returned (.int .i64 (-1)) /\ Below w.heap.size w w':=by
 have hv:=Tryz.validRune r w h1 (by omega)
 generalize hb:(decide (r < 55296) || (decide (57343 < r) && decide (r <= 1114111))) = b at hv
 cases b
 ·go_enter Tryz.func49,Tryz.ntmps49
  go_wp2_with (go_at_call 71; refine hv.mono ?_; rintro e w' ⟨rfl,rfl⟩)
  go_ret
  exact ⟨rfl,Below.refl _ _⟩
 ·have hsz:Tryz.hexs.size = 16:=by decide
  have mixed:Tryz.prog.follows .mixedOrders = true:=by kernel_rfl
  rcases Tryz.encode_high r h1 h2 hb with ⟨x,y,hE,hy⟩ | ⟨x,y,z,hE,hy⟩ | ⟨x,y,z,v,hE,hy⟩
  ·go_enter Tryz.func49,Tryz.ntmps49
   go_wp2_with (go_at_call 71; refine hv.mono ?_; rintro e w' ⟨rfl,rfl⟩)
   have hlt:1 < ({ data:=#[x,y] }:ByteArray).size:=by show 1 < 2; omega
   have hne:¬ ((Tryz.hexs[1].toNat:Int) = ((({ data:=#[x,y] }:ByteArray)[1]'hlt).toNat:Int)):=by
    show ¬ ((49:Nat):Int) = (y.toNat:Int)
    omega
   have hib:Lib.indexByte (List.take 14 (List.drop 2 Tryz.hexs.data.toList)) (({ data:=#[x,y] }:ByteArray)[1]'hlt) = -1:=Tryz.hexs_part y hy 2 14
   go_step3
   go_wp2
   refine wp_loop_rounds 1 ?_
   rw [rounds_succ]
   go_wp2
   go_step3
   go_wp2
   go_region_o
   go_wp2
   go_region_with (go_at_call 70; refine (Tryz.indexByte _ _ _).mono ?_; rintro e w' ⟨rfl,rfl⟩)
   go_wp2
   all_goals (
    simp only [Exit.noGoto,Exit.inBlock,Exit.then]
    go_ret
    exact ⟨rfl,((Below.refl _ _).drew).drew⟩)
  ·go_enter Tryz.func49,Tryz.ntmps49
   go_wp2_with (go_at_call 71; refine hv.mono ?_; rintro e w' ⟨rfl,rfl⟩)
   have hlt:2 < ({ data:=#[x,y,z] }:ByteArray).size:=by show 2 < 3; omega
   have hne:¬ ((Tryz.hexs[2].toNat:Int) = ((({ data:=#[x,y,z] }:ByteArray)[2]'hlt).toNat:Int)):=by
    show ¬ ((50:Nat):Int) = (z.toNat:Int)
    omega
   have hib:Lib.indexByte (List.take 13 (List.drop 3 Tryz.hexs.data.toList)) (({ data:=#[x,y,z] }:ByteArray)[2]'hlt) = -1:=Tryz.hexs_part z hy 3 13
   go_step3
   go_wp2
   refine wp_loop_rounds 1 ?_
   rw [rounds_succ]
   go_wp2
   go_step3
   go_wp2
   go_region_o
   go_wp2
   go_region_with (go_at_call 70; refine (Tryz.indexByte _ _ _).mono ?_; rintro e w' ⟨rfl,rfl⟩)
   go_wp2
   all_goals (
    simp only [Exit.noGoto,Exit.inBlock,Exit.then]
    go_ret
    exact ⟨rfl,((Below.refl _ _).drew).drew⟩)
  ·go_enter Tryz.func49,Tryz.ntmps49
   go_wp2_with (go_at_call 71; refine hv.mono ?_; rintro e w' ⟨rfl,rfl⟩)
   have hlt:3 < ({ data:=#[x,y,z,v] }:ByteArray).size:=by show 3 < 4; omega
   have hne:¬ ((Tryz.hexs[3].toNat:Int) = ((({ data:=#[x,y,z,v] }:ByteArray)[3]'hlt).toNat:Int)):=by
    show ¬ ((51:Nat):Int) = (v.toNat:Int)
    omega
   have hib:Lib.indexByte (List.take 12 (List.drop 4 Tryz.hexs.data.toList)) (({ data:=#[x,y,z,v] }:ByteArray)[3]'hlt) = -1:=Tryz.hexs_part v hy 4 12
   go_step3
   go_wp2
   refine wp_loop_rounds 1 ?_
   rw [rounds_succ]
   go_wp2
   go_step3
   go_wp2
   go_region_o
   go_wp2
   go_region_with (go_at_call 70; refine (Tryz.indexByte _ _ _).mono ?_; rintro e w' ⟨rfl,rfl⟩)
   go_wp2
   all_goals (
    simp only [Exit.noGoto,Exit.inBlock,Exit.then]
    go_ret
    exact ⟨rfl,((Below.refl _ _).drew).drew⟩)
end Go.Proofs
namespace Go.Proofs
open Go.Shelf Go.RowKit Go.Lib
def Tryz.hexR (r:Nat):Int:=if r < 128 then Lib.indexByte Tryz.hexs.data.toList (UInt8.ofNat r) else -1
theorem Tryz.indexRune (r:Nat) (w:World) (h2:r <= 2147483647):Calls Tryz.prog 49 #[.string Tryz.hexs,.int .i32 (r:Int)] w fun e w'=>e = .returned (.int .i64 (Tryz.hexR r)) /\ Below w.heap.size w w':=by
 unfold Tryz.hexR
 by_cases h:r < 128
 ·rw [if_pos h]
  refine (Any.strings_IndexRune_ascii Tryz.lays152 Tryz.hexs (r:Int) w (by omega) (by omega)).mono ?_
  rintro e w' ⟨rfl,rfl⟩
  exact ⟨by simp,Below.refl _ _⟩
 ·rw [if_neg h]
  by_cases h3:(r:Int) = 65533
  ·rw [h3]; exact Tryz.indexRune_err w
  ·exact Tryz.indexRune_high r w (by omega) (by omega) h3
theorem Tryz.indexByte_lt:∀ (l:List UInt8) (c:UInt8),Lib.indexByte l c < max l.length 1
 | [],c=>by show (-1:Int) < _; omega
 | b :: l,c=>by
  have:=Tryz.indexByte_lt l c
  unfold Lib.indexByte
  rw [List.length_cons]
  split
  ·omega
  ·split
   ·omega
   ·rename_i h1 h2
    have h3:Lib.indexByte l c ≠ -1:=by simpa using h2
    cases l with
    | nil=>exact (h3 rfl).elim
    | cons x l=>rw [List.length_cons] at *; omega
theorem Tryz.hexR_lt (r:Nat):Tryz.hexR r < 16:=by
 unfold Tryz.hexR
 split
 ·exact Tryz.indexByte_lt _ _
 ·omega
theorem Tryz.or64 (a b:Nat) (ha:a < 4611686018427387904) (hb:b < 4611686018427387904):bits .or .i64 (a:Int) (b:Int) = ((a ||| b:Nat):Int):=by
 have hx:a ||| b < 2 ^ 62:=Nat.or_lt_two_pow (by omega) (by omega)
 have h1:(BitVec.ofInt 64 (a:Int)).toNat = a:=by
  rw [BitVec.ofInt_natCast,BitVec.toNat_ofNat]; exact Nat.mod_eq_of_lt (by omega)
 have h2:(BitVec.ofInt 64 (b:Int)).toNat = b:=by
  rw [BitVec.ofInt_natCast,BitVec.toNat_ofNat]; exact Nat.mod_eq_of_lt (by omega)
 show IntKind.i64.wrap ((BitVec.ofInt 64 (a:Int) ||| BitVec.ofInt 64 (b:Int)).toNat:Int) = _
 rw [BitVec.toNat_or,h1,h2,IntKind.wrap_i64]
 omega
theorem Tryz.digit (n d:Int) (hn:0 <= n) (hn4:n < 65536) (hd:0 <= d) (hd16:d < 16):bits .or .i64 (wrap64 (n * 16)) d = n * 16 + d:=by
 have hw:wrap64 (n * 16) = n * 16:=by unfold wrap64; omega
 rw [hw]
 obtain ⟨a,rfl⟩:=Int.eq_ofNat_of_zero_le hn
 obtain ⟨b,rfl⟩:=Int.eq_ofNat_of_zero_le hd
 have:=Tryz.or64 (2 ^ 4 * a) b (by omega) (by omega)
 rw [<- Nat.two_pow_add_eq_or_of_lt (by omega)] at this
 rw [show ((a:Int) * 16) = ((2 ^ 4 * a:Nat):Int) by omega,this]
 omega
theorem Tryz.pow16 {a b:Nat} (h:a <= b):(16:Int) ^ a <= 16 ^ b:=by
 have:(16:Nat) ^ a <= 16 ^ b:=Nat.pow_le_pow_right (by decide) h
 exact_mod_cast this
theorem Tryz.width_pos (s:ByteArray) (pos:Nat) (h:pos < s.size):1 <= (Utf8.decode s pos).2:=by
 by_cases ha:(s[pos]'h).toNat < 128
 ·rw [decode_ascii s pos h ha]
  exact Nat.le_refl _
 ·exact (decode_high s pos h (by omega)).2
theorem Tryz.indexRune' (r:Nat) (w:World) (h2:r <= 2147483647):Calls Tryz.prog 49 #[.string ⟨#[48,49,50,51,52,53,54,55,56,57,97,98,99,100,101,102]⟩,.int .i32 (r:Int)] w fun e w'=>e = .returned (.int .i64 (Tryz.hexR r)) /\ Below w.heap.size w w':=Tryz.indexRune r w h2
def Tryz.numFrom (s:ByteArray):Nat -> Nat -> Int -> Option Int
 | 0,_,n=>some n
 | k + 1,pos,n=>if pos < s.size then (if Tryz.hexR (Utf8.decode s pos).1 < 0 then none else Tryz.numFrom s k (pos + (Utf8.decode s pos).2) (n * 16 + Tryz.hexR (Utf8.decode s pos).1)) else some n
def Tryz.num (s:ByteArray):Option Int:=if s.size < 1 \/ 4 < s.size then none else Tryz.numFrom s s.size 0 0
def Tryz.numV (o:Option Int):Value:=match o with | some n=>.tuple #[.int .i64 n,.bool true] | none=>.tuple #[.int .i64 0,.bool false]
set_option maxHeartbeats 4000000 in
set_option maxRecDepth 1000000 in
theorem Tryz.number (s:ByteArray) (w:World):Calls Tryz.prog 34 #[.string s] w fun e w'=>e = .returned (Tryz.numV (Tryz.num s)) /\ Below w.heap.size w w':=by
 by_cases h1:s.size < 1
 ·have:Tryz.num s = none:=by unfold Tryz.num; rw [if_pos (.inl h1)]
  rw [this]
  go_enter Tryz.func34,Tryz.ntmps34
  go_wp2
  go_ret2
  exact ⟨rfl,Below.refl _ _⟩
 by_cases h4:4 < s.size
 ·have:Tryz.num s = none:=by unfold Tryz.num; rw [if_pos (.inr h4)]
  rw [this]
  go_enter Tryz.func34,Tryz.ntmps34
  go_wp2
  go_ret2
  exact ⟨rfl,Below.refl _ _⟩
 have hnum:Tryz.num s = Tryz.numFrom s s.size 0 0:=by unfold Tryz.num; rw [if_neg (by omega)]
 rw [hnum]
 go_enter Tryz.func34,Tryz.ntmps34
 go_wp2
 go_loopw [4] (fun v wr=>∃ (pos fuel:Nat) (n:Int),v = .int .i64 n /\ 0 <= n /\ n < 16 ^ pos /\ s.size <= pos + fuel /\ Tryz.numFrom s fuel pos n = Tryz.numFrom s s.size 0 0 /\ wr.heap[w.heap.size]? = some (.stringIter s pos) /\ Below w.heap.size w wr) (fun _ wr=>s.size - wr.iterPos w.heap.size)
 case atStart =>
  refine ⟨0,s.size,0,rfl,by omega,by omega,by omega,rfl,?_,(Below.refl _ w).alloc (Nat.le_refl _) _⟩
  simpa using World.iter_heap w s 0
 case round =>
  obtain ⟨pos,fuel,n,rfl,hn0,hn1,hfu,hrec,hit,hbw⟩:=hrel
  have hsz:w.heap.size < wr.heap.size:=(Array.getElem?_eq_some_iff.1 hit).1
  by_cases hp:pos < s.size
  ·have hnx:∀ ty,(Instr.next (.pointer (some ⟨w.heap.size,0,none⟩)) true ty).run Tryz.prog wr = _:=fun ty=>Lib.run_next_any_at wr w.heap.size s pos ty hit hp
   obtain ⟨f,rfl⟩:∃ f,fuel = f + 1:=⟨fuel - 1,by omega⟩
   have hd1:=decode_le s pos
   have hit2:=Lib.iterAt_heap wr w.heap.size s pos (pos + (Utf8.decode s pos).2) hit
   have hbw2:=Lib.below_iterAt hbw (k:=w.heap.size) (Nat.le_refl _) s (pos + (Utf8.decode s pos).2)
   rw [Tryz.numFrom,if_pos hp] at hrec
   have hd16:=Tryz.hexR_lt (Utf8.decode s pos).1
   have hwp:=Tryz.width_pos s pos hp
   generalize hdd:Utf8.decode s pos = dd at hd1 hit2 hbw2 hrec hd16 hnx hwp
   obtain ⟨r,k⟩:=dd
   simp only at hd1 hit2 hbw2 hrec hd16 hnx hwp
   by_cases hneg:Tryz.hexR r < 0
   ·rw [if_pos hneg] at hrec
    rw [<- hrec]
    go_wp2_with (go_at_call 49; refine (Tryz.indexRune' r _ (by omega)).mono ?_)
    rintro e W1 ⟨rfl,b1⟩
    go_wp2
    go_ret2
    refine ⟨by rw [<- hrec]; rfl,hbw2.trans (b1.mono ?_)⟩
    rw [Lib.iterAt_size]; omega
   ·rw [if_neg hneg] at hrec
    go_wp2_with (go_at_call 49; refine (Tryz.indexRune' r _ (by omega)).mono ?_; rintro e W1 ⟨rfl,b1⟩)
    have hit3:W1.heap[w.heap.size]? = some (.stringIter s (pos + k)):=by
     rw [b1.block _ (by rw [Lib.iterAt_size]; exact hsz)]
     exact hit2
    have hn4:n < 65536:=by
     have:(16:Int) ^ pos <= 16 ^ 4:=Tryz.pow16 (by omega)
     omega
    refine ⟨⟨pos + k,f,n * 16 + Tryz.hexR r,?_,by omega,?_,by omega,hrec,hit3,hbw2.trans (b1.mono ?_)⟩,?_⟩
    ·rw [Tryz.digit n _ hn0 hn4 (by omega) hd16]
    ·have h5:(16:Int) ^ (pos + 1) <= 16 ^ (pos + k):=Tryz.pow16 (by omega)
     rw [Int.pow_succ] at h5
     omega
    ·rw [Lib.iterAt_size]; omega
    ·simp only [World.iterPos,hit3,hit]
     omega
  ·have hnx:∀ ty,(Instr.next (.pointer (some ⟨w.heap.size,0,none⟩)) true ty).run Tryz.prog wr = _:=fun ty=>Lib.run_next_end_at wr w.heap.size s pos ty hit hp
   go_wp2
   go_ret2
   refine ⟨?_,hbw⟩
   rw [<- hrec]
   cases fuel with
   | zero=>rfl
   | succ f=>rw [Tryz.numFrom,if_neg hp]; rfl
end Go.Proofs
namespace Go.Proofs
open Go.Shelf Go.RowKit Go.Lib
theorem Tryz.isPow (w:World):Calls Tryz.prog 80 #[.int .i64 16] w fun e w'=>e = .returned (.bool true) /\ w' = w:=by
 go_enter Tryz.func80,Tryz.ntmps80
 go_wp2
 go_ret
 exact ⟨rfl,rfl⟩
theorem Tryz.tz (w:World) (hg:w.cell? ⟨5,15,none⟩ = some (.int .u8 4)):Calls Tryz.prog 81 #[.int .u64 16] w fun e w'=>e = .returned (.int .i64 4) /\ w' = w:=by
 have hix:IntKind.u64.wrap (bits BinOp.and IntKind.u64 16 (IntKind.u64.wrap (-16)) * 285870213051353865) / 288230376151711744 = 15:=by decide
 go_enter Tryz.func81,Tryz.ntmps81
 go_wp2
 go_ret
 exact ⟨rfl,rfl⟩
theorem Tryz.cell_alloc {w:World} {a:Addr} {v:Value} (o:Obj) (h:w.cell? a = some v):(w.alloc o).cell? a = some v:=by
 have hlt:=World.block_lt_of_cell? w a h
 rw [<- h]
 exact YtfgbfdlacnihkaaGreatDoor.Sx.cell?_of_blk (Below.heap_alloc w o _ hlt)
theorem Tryz.conv (l:List UInt8) (k:Nat) (hk:l.length = k) (w:World) (a:Addr) (cap:Nat) (hc:∀ j (hj:j < l.length),w.cell? (a.add j) = some (.int .u8 (l[j].toNat:Int))) :
  (convert 39 9 (.slice (some a) k cap)).run Tryz.prog w = .ok (.string ⟨l.toArray⟩) w:=by
 subst hk
 exact run_convert_bytes_back w 39 9 5 a cap l Tryz.underlying39 Tryz.underlying5 Tryz.underlying9 hc
theorem Tryz.cell_new (w:World) (cs:Array Value) (t:TypeId) (off:Nat):(w.alloc (.cells cs t)).cell? ⟨w.heap.size,off,none⟩ = cs[off]?:=World.cell?_alloc_at cs t _ off rfl
theorem Tryz.z65:Tryz.zeroCells113.size = 65:=by kernel_rfl
def Tryz.digs:ByteArray:=⟨#[48,49,50,51,52,53,54,55,56,57,97,98,99,100,101,102,103,104,105,106,107,108,109,110,111,112,113,114,115,116,117,118,119,120,121,122]⟩
def Tryz.hx (k:Nat):UInt8:=if h:k < Tryz.digs.size then Tryz.digs[k] else 0
theorem Tryz.hx_eq {k:Nat} (h:k < 36):Tryz.hx k = Tryz.digs[k]'h:=dif_pos h
theorem Tryz.and15 (x:Int) (h0:0 <= x) (h:x < 18446744073709551616):bits BinOp.and IntKind.u64 x 15 = x % 16:=by
 obtain ⟨n,rfl⟩:=Int.eq_ofNat_of_zero_le h0
 have:=bits_and_u64_nat n 15 (by omega) (by omega)
 rw [show ((15:Nat):Int) = 15 from rfl] at this
 rw [this,show (15:Nat) = 2 ^ 4 - 1 from rfl,Nat.and_two_pow_sub_one_eq_mod]
 omega
set_option maxHeartbeats 8000000 in
set_option maxRecDepth 1000000 in
theorem Tryz.bits1 (n:Nat) (w:World) (hg:w.cell? ⟨5,15,none⟩ = some (.int .u8 4)) (hn:n < 16):Calls Tryz.prog 60 #[.slice none 0 0,.int .u64 n,.int .i64 16,.bool false,.bool false] w fun e w'=>e = .returned (.tuple #[.slice none 0 0,.string ⟨[Tryz.hx (n)].toArray⟩]) /\ Below w.heap.size w w':=by
 have hg1:∀ o,(w.alloc o).cell? ⟨5,15,none⟩ = some (.int .u8 4):=fun o=>Tryz.cell_alloc o hg
 have e0:=Tryz.hx_eq (k:=n) (by omega)
 go_enter Tryz.func60,Tryz.ntmps60
 go_wp2_with (first | (go_at_call 80; refine (Tryz.isPow _).mono ?_; rintro e w' ⟨rfl,rfl⟩) | (go_at_call 81; refine (Tryz.tz _ (hg1 _)).mono ?_; rintro e w' ⟨rfl,rfl⟩))
 refine wp_loop_rounds 1 ?_
 rw [rounds_succ]
 have hlt:¬ ((n:Int) >= 16):=by omega
 have hma:(n:Int) < 36:=by omega
 have hmb:0 <= (n:Int):=by omega
 go_wp2
 rw [Tryz.conv [Tryz.hx (n)] 1 rfl _ _ _ ?hc]
 case hc =>
  have hz:=Tryz.z65
  generalize Tryz.zeroCells113 = Z at hz ⊢
  intro j hj
  match j,hj with
  | 0,_ =>
   show World.cell? _ ⟨_,64,none⟩ = some (.int .u8 ((Tryz.hx (n)).toNat:Int))
   rw [Tryz.cell_new,e0]
   simp [Array.getElem?_setIfInBounds,hz]
   try rfl
 go_wp2
 go_ret2
 exact ⟨by rw [e0]; rfl,(Below.refl _ w).alloc (Nat.le_refl _) _⟩
set_option maxHeartbeats 8000000 in
set_option maxRecDepth 1000000 in
theorem Tryz.bits2 (n:Nat) (w:World) (hg:w.cell? ⟨5,15,none⟩ = some (.int .u8 4)) (h0:16 <= n) (hn:n < 256):Calls Tryz.prog 60 #[.slice none 0 0,.int .u64 n,.int .i64 16,.bool false,.bool false] w fun e w'=>e = .returned (.tuple #[.slice none 0 0,.string ⟨[Tryz.hx (n / 16),Tryz.hx (n % 16)].toArray⟩]) /\ Below w.heap.size w w':=by
 have hg1:∀ o,(w.alloc o).cell? ⟨5,15,none⟩ = some (.int .u8 4):=fun o=>Tryz.cell_alloc o hg
 have e0:=Tryz.hx_eq (k:=n / 16) (by omega)
 have e1:=Tryz.hx_eq (k:=n % 16) (by omega)
 go_enter Tryz.func60,Tryz.ntmps60
 go_wp2_with (first | (go_at_call 80; refine (Tryz.isPow _).mono ?_; rintro e w' ⟨rfl,rfl⟩) | (go_at_call 81; refine (Tryz.tz _ (hg1 _)).mono ?_; rintro e w' ⟨rfl,rfl⟩))
 refine wp_loop_rounds 2 ?_
 rw [rounds_succ]
 have hge0:(n:Int) >= 16:=by omega
 have ha0:=Tryz.and15 ((n:Int)) (by omega) (by omega)
 have hm0:(n:Int) % 16 < 36:=by omega
 have hp0:0 <= (n:Int) % 16:=by omega
 go_wp2
 rw [rounds_succ]
 have hlt:¬ ((n:Int) / 16 >= 16):=by omega
 have hma:(n:Int) / 16 < 36:=by omega
 have hmb:0 <= (n:Int) / 16:=by omega
 go_wp2
 rw [Tryz.conv [Tryz.hx (n / 16),Tryz.hx (n % 16)] 2 rfl _ _ _ ?hc]
 case hc =>
  have hz:=Tryz.z65
  generalize Tryz.zeroCells113 = Z at hz ⊢
  intro j hj
  match j,hj with
  | 0,_ =>
   show World.cell? _ ⟨_,63,none⟩ = some (.int .u8 ((Tryz.hx (n / 16)).toNat:Int))
   rw [Tryz.cell_new,e0]
   simp [Array.getElem?_setIfInBounds,hz]
   try rfl
  | 1,_ =>
   show World.cell? _ ⟨_,64,none⟩ = some (.int .u8 ((Tryz.hx (n % 16)).toNat:Int))
   rw [Tryz.cell_new,e1]
   simp [Array.getElem?_setIfInBounds,hz]
   try rfl
 go_wp2
 go_ret2
 exact ⟨by rw [e0,e1]; rfl,(Below.refl _ w).alloc (Nat.le_refl _) _⟩
set_option maxHeartbeats 8000000 in
set_option maxRecDepth 1000000 in
theorem Tryz.bits3 (n:Nat) (w:World) (hg:w.cell? ⟨5,15,none⟩ = some (.int .u8 4)) (h0:256 <= n) (hn:n < 4096):Calls Tryz.prog 60 #[.slice none 0 0,.int .u64 n,.int .i64 16,.bool false,.bool false] w fun e w'=>e = .returned (.tuple #[.slice none 0 0,.string ⟨[Tryz.hx (n / 16 / 16),Tryz.hx (n / 16 % 16),Tryz.hx (n % 16)].toArray⟩]) /\ Below w.heap.size w w':=by
 have hg1:∀ o,(w.alloc o).cell? ⟨5,15,none⟩ = some (.int .u8 4):=fun o=>Tryz.cell_alloc o hg
 have e0:=Tryz.hx_eq (k:=n / 16 / 16) (by omega)
 have e1:=Tryz.hx_eq (k:=n / 16 % 16) (by omega)
 have e2:=Tryz.hx_eq (k:=n % 16) (by omega)
 go_enter Tryz.func60,Tryz.ntmps60
 go_wp2_with (first | (go_at_call 80; refine (Tryz.isPow _).mono ?_; rintro e w' ⟨rfl,rfl⟩) | (go_at_call 81; refine (Tryz.tz _ (hg1 _)).mono ?_; rintro e w' ⟨rfl,rfl⟩))
 refine wp_loop_rounds 3 ?_
 rw [rounds_succ]
 have hge0:(n:Int) >= 16:=by omega
 have ha0:=Tryz.and15 ((n:Int)) (by omega) (by omega)
 have hm0:(n:Int) % 16 < 36:=by omega
 have hp0:0 <= (n:Int) % 16:=by omega
 go_wp2
 rw [rounds_succ]
 have hge1:(n:Int) / 16 >= 16:=by omega
 have ha1:=Tryz.and15 ((n:Int) / 16) (by omega) (by omega)
 have hm1:(n:Int) / 16 % 16 < 36:=by omega
 have hp1:0 <= (n:Int) / 16 % 16:=by omega
 go_wp2
 rw [rounds_succ]
 have hlt:¬ ((n:Int) / 16 / 16 >= 16):=by omega
 have hma:(n:Int) / 16 / 16 < 36:=by omega
 have hmb:0 <= (n:Int) / 16 / 16:=by omega
 go_wp2
 rw [Tryz.conv [Tryz.hx (n / 16 / 16),Tryz.hx (n / 16 % 16),Tryz.hx (n % 16)] 3 rfl _ _ _ ?hc]
 case hc =>
  have hz:=Tryz.z65
  generalize Tryz.zeroCells113 = Z at hz ⊢
  intro j hj
  match j,hj with
  | 0,_ =>
   show World.cell? _ ⟨_,62,none⟩ = some (.int .u8 ((Tryz.hx (n / 16 / 16)).toNat:Int))
   rw [Tryz.cell_new,e0]
   simp [Array.getElem?_setIfInBounds,hz]
   try rfl
  | 1,_ =>
   show World.cell? _ ⟨_,63,none⟩ = some (.int .u8 ((Tryz.hx (n / 16 % 16)).toNat:Int))
   rw [Tryz.cell_new,e1]
   simp [Array.getElem?_setIfInBounds,hz]
   try rfl
  | 2,_ =>
   show World.cell? _ ⟨_,64,none⟩ = some (.int .u8 ((Tryz.hx (n % 16)).toNat:Int))
   rw [Tryz.cell_new,e2]
   simp [Array.getElem?_setIfInBounds,hz]
   try rfl
 go_wp2
 go_ret2
 exact ⟨by rw [e0,e1,e2]; rfl,(Below.refl _ w).alloc (Nat.le_refl _) _⟩
set_option maxHeartbeats 8000000 in
set_option maxRecDepth 1000000 in
theorem Tryz.bits4 (n:Nat) (w:World) (hg:w.cell? ⟨5,15,none⟩ = some (.int .u8 4)) (h0:4096 <= n) (hn:n < 65536):Calls Tryz.prog 60 #[.slice none 0 0,.int .u64 n,.int .i64 16,.bool false,.bool false] w fun e w'=>e = .returned (.tuple #[.slice none 0 0,.string ⟨[Tryz.hx (n / 16 / 16 / 16),Tryz.hx (n / 16 / 16 % 16),Tryz.hx (n / 16 % 16),Tryz.hx (n % 16)].toArray⟩]) /\ Below w.heap.size w w':=by
 have hg1:∀ o,(w.alloc o).cell? ⟨5,15,none⟩ = some (.int .u8 4):=fun o=>Tryz.cell_alloc o hg
 have e0:=Tryz.hx_eq (k:=n / 16 / 16 / 16) (by omega)
 have e1:=Tryz.hx_eq (k:=n / 16 / 16 % 16) (by omega)
 have e2:=Tryz.hx_eq (k:=n / 16 % 16) (by omega)
 have e3:=Tryz.hx_eq (k:=n % 16) (by omega)
 go_enter Tryz.func60,Tryz.ntmps60
 go_wp2_with (first | (go_at_call 80; refine (Tryz.isPow _).mono ?_; rintro e w' ⟨rfl,rfl⟩) | (go_at_call 81; refine (Tryz.tz _ (hg1 _)).mono ?_; rintro e w' ⟨rfl,rfl⟩))
 refine wp_loop_rounds 4 ?_
 rw [rounds_succ]
 have hge0:(n:Int) >= 16:=by omega
 have ha0:=Tryz.and15 ((n:Int)) (by omega) (by omega)
 have hm0:(n:Int) % 16 < 36:=by omega
 have hp0:0 <= (n:Int) % 16:=by omega
 go_wp2
 rw [rounds_succ]
 have hge1:(n:Int) / 16 >= 16:=by omega
 have ha1:=Tryz.and15 ((n:Int) / 16) (by omega) (by omega)
 have hm1:(n:Int) / 16 % 16 < 36:=by omega
 have hp1:0 <= (n:Int) / 16 % 16:=by omega
 go_wp2
 rw [rounds_succ]
 have hge2:(n:Int) / 16 / 16 >= 16:=by omega
 have ha2:=Tryz.and15 ((n:Int) / 16 / 16) (by omega) (by omega)
 have hm2:(n:Int) / 16 / 16 % 16 < 36:=by omega
 have hp2:0 <= (n:Int) / 16 / 16 % 16:=by omega
 go_wp2
 rw [rounds_succ]
 have hlt:¬ ((n:Int) / 16 / 16 / 16 >= 16):=by omega
 have hma:(n:Int) / 16 / 16 / 16 < 36:=by omega
 have hmb:0 <= (n:Int) / 16 / 16 / 16:=by omega
 go_wp2
 rw [Tryz.conv [Tryz.hx (n / 16 / 16 / 16),Tryz.hx (n / 16 / 16 % 16),Tryz.hx (n / 16 % 16),Tryz.hx (n % 16)] 4 rfl _ _ _ ?hc]
 case hc =>
  have hz:=Tryz.z65
  generalize Tryz.zeroCells113 = Z at hz ⊢
  intro j hj
  match j,hj with
  | 0,_ =>
   show World.cell? _ ⟨_,61,none⟩ = some (.int .u8 ((Tryz.hx (n / 16 / 16 / 16)).toNat:Int))
   rw [Tryz.cell_new,e0]
   simp [Array.getElem?_setIfInBounds,hz]
   try rfl
  | 1,_ =>
   show World.cell? _ ⟨_,62,none⟩ = some (.int .u8 ((Tryz.hx (n / 16 / 16 % 16)).toNat:Int))
   rw [Tryz.cell_new,e1]
   simp [Array.getElem?_setIfInBounds,hz]
   try rfl
  | 2,_ =>
   show World.cell? _ ⟨_,63,none⟩ = some (.int .u8 ((Tryz.hx (n / 16 % 16)).toNat:Int))
   rw [Tryz.cell_new,e2]
   simp [Array.getElem?_setIfInBounds,hz]
   try rfl
  | 3,_ =>
   show World.cell? _ ⟨_,64,none⟩ = some (.int .u8 ((Tryz.hx (n % 16)).toNat:Int))
   rw [Tryz.cell_new,e3]
   simp [Array.getElem?_setIfInBounds,hz]
   try rfl
 go_wp2
 go_ret2
 exact ⟨by rw [e0,e1,e2,e3]; rfl,(Below.refl _ w).alloc (Nat.le_refl _) _⟩
end Go.Proofs
namespace Go.Proofs
open Go.Shelf Go.RowKit Go.Lib
def Tryz.fmtL (n:Nat):List UInt8 :=
 if n < 16 then [Tryz.hx n] else if n < 256 then [Tryz.hx (n / 16),Tryz.hx (n % 16)] else if n < 4096 then [Tryz.hx (n / 16 / 16),Tryz.hx (n / 16 % 16),Tryz.hx (n % 16)]
 else [Tryz.hx (n / 16 / 16 / 16),Tryz.hx (n / 16 / 16 % 16),Tryz.hx (n / 16 % 16),Tryz.hx (n % 16)]
theorem Tryz.fmtBits (n:Nat) (w:World) (hg:w.cell? ⟨5,15,none⟩ = some (.int .u8 4)) (hn:n < 65536):Calls Tryz.prog 60 #[.slice none 0 0,.int .u64 n,.int .i64 16,.bool false,.bool false] w fun e w'=>e = .returned (.tuple #[.slice none 0 0,.string ⟨(Tryz.fmtL n).toArray⟩]) /\ Below w.heap.size w w':=by
 unfold Tryz.fmtL
 by_cases h1:n < 16
 ·rw [if_pos h1]; exact Tryz.bits1 n w hg h1
 rw [if_neg h1]
 by_cases h2:n < 256
 ·rw [if_pos h2]; exact Tryz.bits2 n w hg (by omega) h2
 rw [if_neg h2]
 by_cases h3:n < 4096
 ·rw [if_pos h3]; exact Tryz.bits3 n w hg (by omega) h3
 rw [if_neg h3]
 exact Tryz.bits4 n w hg (by omega) hn
theorem Tryz.fmtInner (n:Nat) (w:World) (hg:w.cell? ⟨5,15,none⟩ = some (.int .u8 4)) (hn:n < 65536):Calls Tryz.prog 38 #[.int .u64 n,.int .i64 16] w fun e w'=>e = .returned (.string ⟨(Tryz.fmtL n).toArray⟩) /\ Below w.heap.size w w':=by
 go_enter Tryz.func38,Tryz.ntmps38
 go_wp2_with (go_at_call 60; refine (Tryz.fmtBits n _ hg hn).mono ?_; rintro e w' ⟨rfl,hb⟩)
 go_ret
 exact ⟨rfl,hb⟩
theorem Tryz.fmt (n:Nat) (w:World) (hg:w.cell? ⟨5,15,none⟩ = some (.int .u8 4)) (hn:n < 65536):Calls Tryz.prog 28 #[.int .u64 n,.int .i64 16] w fun e w'=>e = .returned (.string ⟨(Tryz.fmtL n).toArray⟩) /\ Below w.heap.size w w':=by
 go_enter Tryz.func28,Tryz.ntmps28
 go_wp2_with (go_at_call 38; refine (Tryz.fmtInner n _ hg hn).mono ?_; rintro e w' ⟨rfl,hb⟩)
 go_ret
 exact ⟨rfl,hb⟩
theorem Tryz.extra105:Builder.Extra Tryz.prog Tryz.lays105_ren:={
 sizeBuilder:=by kernel_rfl
 liesBuilder:=by kernel_rfl
 t5:=Tryz.underlying5
 a5:=Tryz.isAgg5
 z5:=Tryz.sizeOf5
 v5:=Tryz.zeroValue5
 infoByte:=by kernel_rfl
 cellsByte:=by kernel_rfl
 sizeByte:=by kernel_rfl
 neB5:=by decide }
theorem Tryz.rep (c:Nat) (w:World) (hc:c <= 3):Calls Tryz.prog 29 #[.string ⟨#[48]⟩,.int .i64 c] w fun e w'=>e = .returned (.string ⟨(List.replicate c 48).toArray⟩) /\ Below w.heap.size w w':=by
 have h:=Any.strings_Repeat Tryz.lays105 Tryz.extra105 ⟨#[48]⟩ c w (by omega) (by show 1 * c <= _; omega)
 have e:Lib.repeatL (⟨#[48]⟩:ByteArray).data.toList c = List.replicate c 48:=by
  match c,hc with
  | 0,_=>rfl
  | 1,_=>rfl
  | 2,_=>rfl
  | 3,_=>rfl
 rw [e] at h
 exact h
def Tryz.hex4 (n:Nat):List UInt8:=List.replicate (4 - (Tryz.fmtL n).length) 48 ++ Tryz.fmtL n
theorem Tryz.fmtL_len {n:Nat}:1 <= (Tryz.fmtL n).length /\ (Tryz.fmtL n).length <= 4:=by
 unfold Tryz.fmtL
 split
 ·simp
 ·split
  ·simp
  ·split <;> simp
theorem Tryz.four (n:Nat) (w:World) (hg:w.cell? ⟨5,15,none⟩ = some (.int .u8 4)) (hn:n < 65536):Calls Tryz.prog 15 #[.int .i64 n] w fun e w'=>e = .returned (.string ⟨(Tryz.hex4 n).toArray⟩) /\ Below w.heap.size w w':=by
 have hw:IntKind.u64.wrap (n:Int) = n:=by rw [IntKind.wrap_u64]; omega
 obtain ⟨l1,l2⟩:=Tryz.fmtL_len (n:=n)
 unfold Tryz.hex4
 generalize hL:Tryz.fmtL n = L at l1 l2
 have hf:=fun w hg=>Tryz.fmt n w hg hn
 rw [hL] at hf
 go_enter Tryz.func15,Tryz.ntmps15
 have hmax:max (4 - (L.length:Int)) 0 = ((4 - L.length:Nat):Int):=by omega
 have hr:=fun w=>Tryz.rep (4 - L.length) w (by omega)
 rw [<- hmax] at hr
 clear hmax
 go_wp2_with (first | (go_at_call 28; refine (hf _ hg).mono ?_; rintro e w' ⟨rfl,hb⟩) | (go_at_call 29; refine (hr _).mono ?_; rintro e w' ⟨rfl,hb2⟩))
 go_ret
 refine ⟨?_,hb.trans (hb2.mono hb.size)⟩
 have e:(⟨Array.replicate (4 - L.length) 48⟩:ByteArray) ++ ⟨L.toArray⟩ = ⟨(List.replicate (4 - L.length) 48 ++ L).toArray⟩:=by
  apply ByteArray.ext
  simp [ByteArray.data_append]
 rw [<- e]
 rfl
end Go.Proofs
namespace Go.Proofs.YtfgbfdlacnihkaaGreatDoor.Po
open Go Go.Proofs Go.RowKit Go.Proofs.YtfgbfdlacnihkaaGreatDoor.Sx

def dB64:List Value:=[0,1,56,2,57,49,28,3,61,58,42,50,38,29,17,4,62,47,59,36,45,43,51,22,53,39,33,30,24,18,12,5,63,55,48,27,60,41,37,16,46,35,44,21,52,32,23,11,54,26,40,15,34,20,31,10,25,14,19,9,13,8,7,6].map fun n:Nat=>.int .u8 (n:Int)
def gl (m:Int):Gl:=[[.int .i64 m],[],[],[],[],dB64]
variable {m:Int}
def byt (l:List Int):List UInt8:=l.map fun x=>UInt8.ofNat x.toNat
theorem byt_bytesI (s:ByteArray):byt (bytesI s) = s.data.toList:=by
 unfold byt bytesI
 rw [List.map_map]
 conv=>rhs; rw [<- List.map_id s.data.toList]
 refine List.map_congr_left fun b _=>?_
 show UInt8.ofNat (((b.toNat:Nat):Int)).toNat = b
 rw [Int.toNat_natCast]
 exact UInt8.ofNat_toNat
def ubyt (l:List UInt8):List Int:=l.map fun b=>(b.toNat:Int)
theorem encS_mk (l:List UInt8):encS ⟨l.toArray⟩ = enc (ubyt l):=by
 unfold encS bytesI ubyt
 rfl
theorem below_keep {w w':World} (h:Below w.heap.size w w'):Keep [] w w':=Keep.of_blocks h.os h.tape h.output h.size fun k hk=>h.block k hk
theorem flat_str {ss:List Sh} {vs:List Value} {w:World} {is:List Int} {bs:List Bool} {ps:List Rg} (h:flatArgs (.val false [.str] :: ss) vs w = some (is,bs,ps)) :
  ∃ (s:ByteArray) (us:List Value) (js:List Int),vs = .string s :: us /\ is = encS s :: js /\ flatArgs ss us w = some (js,bs,ps) /\ InR .i64 s.size:=by
 cases vs with
 | nil=>simp [flatArgs] at h
 | cons v vs =>
  cases v with
  | string s =>
   by_cases hr:inR .i64 s.size = true
   ·cases hf:flatArgs ss vs w with
    | none=>simp [flatArgs,flat1,flatC,hr,hf] at h
    | some p =>
     obtain ⟨i,b,q⟩:=p
     simp [flatArgs,flat1,flatC,hr,hf] at h
     obtain ⟨rfl,rfl,rfl⟩:=h
     exact ⟨s,vs,i,rfl,rfl,hf,inR_spec hr⟩
   ·simp [flatArgs,flat1,flatC,hr] at h
  | _=>simp [flatArgs,flat1,flatC] at h
theorem flat_nil {vs:List Value} {w:World} {is:List Int} {bs:List Bool} {ps:List Rg} (h:flatArgs [] vs w = some (is,bs,ps)):vs = [] /\ is = [] /\ bs = [] /\ ps = []:=by
 cases vs with
 | nil=>simp [flatArgs] at h; exact ⟨rfl,h.1,h.2.1,h.2.2⟩
 | cons v vs=>simp [flatArgs] at h
theorem flat_str1 {vs:List Value} {w:World} {is:List Int} {bs:List Bool} {ps:List Rg} (h:flatArgs [.val false [.str]] vs w = some (is,bs,ps)):∃ s:ByteArray,vs = [.string s] /\ is = [encS s] /\ bs = [] /\ ps = [] /\ InR .i64 s.size:=by
 obtain ⟨s,us,js,rfl,rfl,h,hs⟩:=flat_str h
 obtain ⟨rfl,rfl,rfl,rfl⟩:=flat_nil h
 exact ⟨s,rfl,rfl,rfl,rfl,hs⟩
theorem flat_str2 {vs:List Value} {w:World} {is:List Int} {bs:List Bool} {ps:List Rg} (h:flatArgs [.val false [.str],.val false [.str]] vs w = some (is,bs,ps)):∃ s t:ByteArray,vs = [.string s,.string t] /\ is = [encS s,encS t] /\ bs = [] /\ ps = [] /\ InR .i64 s.size /\ InR .i64 t.size:=by
 obtain ⟨s,us,js,rfl,rfl,h,hs⟩:=flat_str h
 obtain ⟨t,rfl,rfl,rfl,rfl,ht⟩:=flat_str1 h
 exact ⟨s,t,rfl,rfl,rfl,rfl,hs,ht⟩
def s47:Sum:={ args:=[.val false [.str],.val false [.str]],tup:=false,res:=[(false,[.int .i64])],pre:=true }
def F47:Fun:=fun is _=>([Lib.index (byt (dec (is.getD 0 0))) (byt (dec (is.getD 1 0)))],[decide ((dec (is.getD 0 0)).length < 4294967281)])
theorem c47:Contract Tryz.prog (gl m) 47 s47 F47:=by
 intro vs w is bs ps hL hfl ha hz h1 h2 hpre
 obtain ⟨s,t,rfl,rfl,rfl,rfl,hs,ht⟩:=flat_str2 hfl
 have hF:F47 [encS s,encS t] [] = ([Lib.index s.data.toList t.data.toList],[decide (s.size < 4294967281)]):=by
  unfold F47
  simp only [List.getD_cons_zero,List.getD_cons_succ,encS_len]
  unfold encS
  rw [dec_enc,dec_enc,byt_bytesI,byt_bytesI]
 have hp:=hpre rfl
 rw [hF] at hp ⊢
 have hsz:s.size < 4294967281:=of_decide_eq_true hp
 refine (Any.strings_Index Tryz.lays143 s t m w hsz ((hL 0 _ rfl).2 0 _ rfl).1).mono ?_
 rintro e w' ⟨rfl,rfl⟩
 have hr:inR .i64 (Lib.index s.data.toList t.data.toList) = true:=by
  have a1:=Lib.index_ge s.data.toList t.data.toList
  have a2:=Lib.index_le s.data.toList t.data.toList
  have a3:s.data.toList.length = s.size:=by simp
  exact inR_mk ⟨by show (-9223372036854775808:Int) <= _; omega,by show _ <= (9223372036854775807:Int); omega⟩
 refine ⟨_,rfl,Keep.refl _ _,⟨([Lib.index s.data.toList t.data.toList],[]),([],[]),?_,?_,by simp,?_⟩,fun r hr=>?_⟩
 ·simp [flatRes,s47,flat1,flatC,hr]
 ·rfl
 ·simp [hsz,s47]
 ·simp [resRgs,s47,rg1,rgC] at hr
def s23:Sum:={ args:=[.val false [.str],.val false [.str]],tup:=true,res:=[(false,[.str]),(false,[.str]),(false,[.bool])],pre:=true }
def cutP (is:List Int):List UInt8 × List UInt8 × Bool:=Lib.cut (byt (dec (is.getD 0 0))) (byt (dec (is.getD 1 0)))
def F23:Fun:=fun is _=>([enc (ubyt (cutP is).1),enc (ubyt (cutP is).2.1)],[decide ((dec (is.getD 0 0)).length < 4294967281),(cutP is).2.2])
theorem cut_len (s t:List UInt8):(Lib.cut s t).1.length <= s.length /\ (Lib.cut s t).2.1.length <= s.length:=by
 unfold Lib.cut
 split
 ·simp only [List.length_take,List.length_drop]; omega
 ·simp
theorem c23:Contract Tryz.prog (gl m) 23 s23 F23:=by
 intro vs w is bs ps hL hfl ha hz h1 h2 hpre
 obtain ⟨s,t,rfl,rfl,rfl,rfl,hs,ht⟩:=flat_str2 hfl
 have hC:cutP [encS s,encS t] = Lib.cut s.data.toList t.data.toList:=by
  unfold cutP
  simp only [List.getD_cons_zero,List.getD_cons_succ]
  unfold encS
  rw [dec_enc,dec_enc,byt_bytesI,byt_bytesI]
 have hF:F23 [encS s,encS t] [] = ([enc (ubyt (Lib.cut s.data.toList t.data.toList).1),enc (ubyt (Lib.cut s.data.toList t.data.toList).2.1)],[decide (s.size < 4294967281),(Lib.cut s.data.toList t.data.toList).2.2]):=by
  unfold F23
  rw [hC]
  simp only [List.getD_cons_zero,encS_len]
 have hp:=hpre rfl
 rw [hF] at hp ⊢
 have hsz:s.size < 4294967281:=of_decide_eq_true hp
 refine (Any.strings_Cut Tryz.lays145 s t m w hsz ((hL 0 _ rfl).2 0 _ rfl).1).mono ?_
 rintro e w' ⟨rfl,n,rfl⟩
 obtain ⟨l1,l2⟩:=cut_len s.data.toList t.data.toList
 have a3:s.data.toList.length = s.size:=by simp
 generalize Lib.cut s.data.toList t.data.toList = c at l1 l2
 have hr1:inR .i64 ((⟨c.1.toArray⟩:ByteArray).size:Int) = true:=inR_mk ⟨by show (-9223372036854775808:Int) <= _; omega,by
  show ((c.1.toArray.size:Nat):Int) <= 9223372036854775807
  simp; omega⟩
 have hr2:inR .i64 ((⟨c.2.1.toArray⟩:ByteArray).size:Int) = true:=inR_mk ⟨by show (-9223372036854775808:Int) <= _; omega,by
  show ((c.2.1.toArray.size:Nat):Int) <= 9223372036854775807
  simp; omega⟩
 refine ⟨_,rfl,Keep.of_blocks rfl rfl rfl (Nat.le_refl _) (fun _ _=>rfl),⟨([enc (ubyt c.1),enc (ubyt c.2.1)],[c.2.2]),([],[]),?_,?_,by simp,?_⟩,fun r hr=>?_⟩
 ·simp [flatRes,s23,flatTup,flat1,flatC,hr1,hr2,encS_mk]
 ·rfl
 ·simp [hsz,s23]
 ·simp [resRgs,s23,rgTup,rg1,rgC] at hr
def s34:Sum:={ args:=[.val false [.str]],tup:=true,res:=[(false,[.int .i64]),(false,[.bool])],pre:=false }
def numO (is:List Int):Option Int:=Tryz.num ⟨(byt (dec (is.getD 0 0))).toArray⟩
def F34:Fun:=fun is _=>([(numO is).getD 0],[(numO is).isSome])
theorem numFrom_lt (s:ByteArray):∀ (k pos j:Nat) (n r:Int),0 <= n -> n < 16 ^ j -> Tryz.numFrom s k pos n = some r -> 0 <= r /\ r < 16 ^ (j + k)
 | 0,pos,j,n,r,h0,h1,h=>by
  rw [Tryz.numFrom] at h
  cases h
  exact ⟨h0,h1⟩
 | k + 1,pos,j,n,r,h0,h1,h=>by
  rw [Tryz.numFrom] at h
  split at h
  ·split at h
   ·cases h
   ·rename_i hd
    have hl:=Tryz.hexR_lt (Utf8.decode s pos).1
    have:=numFrom_lt s k _ (j + 1) _ r (by omega) (by rw [Int.pow_succ]; omega) h
    rw [show j + (k + 1) = j + 1 + k by omega]
    exact this
  ·cases h
   have:=Tryz.pow16 (show j <= j + (k + 1) by omega)
   exact ⟨h0,by omega⟩
theorem num_lt {s:ByteArray} {r:Int} (h:Tryz.num s = some r):0 <= r /\ r < 65536:=by
 unfold Tryz.num at h
 split at h
 ·cases h
 ·rename_i hs
  have:=numFrom_lt s s.size 0 0 0 r (by omega) (by omega) h
  have h4:=Tryz.pow16 (show 0 + s.size <= 4 by omega)
  exact ⟨this.1,by omega⟩
theorem c34:Contract Tryz.prog (gl m) 34 s34 F34:=by
 intro vs w is bs ps hL hfl ha hz h1 h2 hpre
 obtain ⟨s,rfl,rfl,rfl,rfl,hs⟩:=flat_str1 hfl
 have hC:numO [encS s] = Tryz.num s:=by
  unfold numO
  simp only [List.getD_cons_zero]
  unfold encS
  rw [dec_enc,byt_bytesI]
 have hF:F34 [encS s] [] = ([(Tryz.num s).getD 0],[(Tryz.num s).isSome]):=by
  unfold F34
  rw [hC]
 rw [hF]
 refine (Tryz.number s w).mono ?_
 rintro e w' ⟨rfl,hb⟩
 have hr:inR .i64 ((Tryz.num s).getD 0) = true:=by
  cases hn:Tryz.num s with
  | none=>decide
  | some n =>
   have:=num_lt hn
   exact inR_mk ⟨by show (-9223372036854775808:Int) <= n; omega,by show n <= (9223372036854775807:Int); omega⟩
 refine ⟨_,rfl,below_keep hb,⟨([(Tryz.num s).getD 0],[(Tryz.num s).isSome]),([],[]),?_,?_,by simp,?_⟩,fun r hr=>?_⟩
 ·cases hn:Tryz.num s with
  | none=>simp [flatRes,s34,flatTup,flat1,flatC,Tryz.numV]; decide
  | some n=>rw [hn] at hr; simp at hr; simp [flatRes,s34,flatTup,flat1,flatC,Tryz.numV,hr]
 ·rfl
 ·simp [s34]
 ·cases hn:Tryz.num s <;> rw [hn] at hr <;> simp [resRgs,s34,rgTup,rg1,rgC,Tryz.numV] at hr
theorem flat_int {ss:List Sh} {k:IntKind} {vs:List Value} {w:World} {is:List Int} {bs:List Bool} {ps:List Rg} (h:flatArgs (.val false [.int k] :: ss) vs w = some (is,bs,ps)) :
  ∃ (n:Int) (us:List Value) (js:List Int),vs = .int k n :: us /\ is = n :: js /\ flatArgs ss us w = some (js,bs,ps) /\ InR k n:=by
 cases vs with
 | nil=>simp [flatArgs] at h
 | cons v vs =>
  cases v with
  | int k' n =>
   by_cases hr:(k' == k && inR k n) = true
   ·cases hf:flatArgs ss vs w with
    | none=>simp [flatArgs,flat1,flatC,hr,hf] at h
    | some p =>
     obtain ⟨i,b,q⟩:=p
     rw [Bool.and_eq_true,beq_iff_eq] at hr
     obtain ⟨rfl,hr⟩:=hr
     simp [flatArgs,flat1,flatC,hr,hf] at h
     obtain ⟨rfl,rfl,rfl⟩:=h
     exact ⟨n,vs,i,rfl,rfl,hf,inR_spec hr⟩
   ·simp [flatArgs,flat1,flatC,hr] at h
  | _=>simp [flatArgs,flat1,flatC] at h
def s15:Sum:={ args:=[.val false [.int .i64]],tup:=false,res:=[(false,[.str])],pre:=true }
def F15:Fun:=fun is _=>([enc (ubyt (Tryz.hex4 (is.getD 0 0).toNat))],[decide (0 <= is.getD 0 0) && decide (is.getD 0 0 < 65536)])
theorem hex4_len (n:Nat):(Tryz.hex4 n).length = 4:=by
 obtain ⟨l1,l2⟩:=Tryz.fmtL_len (n:=n)
 unfold Tryz.hex4
 rw [List.length_append,List.length_replicate]
 omega
theorem c15:Contract Tryz.prog (gl m) 15 s15 F15:=by
 intro vs w is bs ps hL hfl ha hz h1 h2 hpre
 obtain ⟨n,us,js,rfl,rfl,hfl,hn⟩:=flat_int hfl
 obtain ⟨rfl,rfl,rfl,rfl⟩:=flat_nil hfl
 have hp:=hpre rfl
 have hp:(decide (0 <= n) && decide (n < 65536)) = true:=hp
 rw [Bool.and_eq_true,decide_eq_true_eq,decide_eq_true_eq] at hp
 obtain ⟨k,rfl⟩:=Int.eq_ofNat_of_zero_le hp.1
 refine (Tryz.four k w ((hL 5 _ rfl).2 15 (.int .u8 4) rfl).1 (by omega)).mono ?_
 rintro e w' ⟨rfl,hb⟩
 have hr:inR .i64 ((⟨(Tryz.hex4 k).toArray⟩:ByteArray).size:Int) = true:=inR_mk (by
  show InR .i64 (((Tryz.hex4 k).toArray.size:Nat):Int)
  rw [List.size_toArray,hex4_len]
  exact ⟨by decide,by decide⟩)
 refine ⟨_,rfl,below_keep hb,⟨([enc (ubyt (Tryz.hex4 k))],[]),([],[]),?_,?_,by simp [F15],?_⟩,fun r hr=>?_⟩
 ·simp [flatRes,s15,flat1,flatC,hr,encS_mk]
 ·rfl
 ·simp [s15,F15]
 ·simp [resRgs,s15,rg1,rgC] at hr
end Go.Proofs.YtfgbfdlacnihkaaGreatDoor.Po
namespace Go.Proofs.YtfgbfdlacnihkaaGreatDoor.Sx
open Go Go.Shelf

def encR (p:Int × Int):List Value:=[.int .i64 p.1,.int .i64 p.2]
def cfR (x y:Int × Int):Int:=if x.1 < y.1 then -1 else if x.1 = y.1 then 0 else 1
theorem ltR (x y:Int × Int):ltOf cfR x y = decide (x.1 < y.1):=by
 unfold ltOf cfR
 by_cases h:x.1 < y.1
 ·simp [h]
 ·by_cases h2:x.1 = y.1 <;> simp [h,h2]
theorem swoR:Sort.SWO (ltOf cfR) :=
 ⟨fun x=>by rw [ltR]; simp,fun x y z=>by simp only [ltR,decide_eq_true_eq]; omega,fun x y z=>by simp only [ltR,decide_eq_false_iff_not]; omega⟩
def pairs:List Int -> List (Int × Int)
 | a :: b :: l=>(a,b) :: pairs l
 | _=>[]
def flat2:List (Int × Int) -> List Int
 | []=>[]
 | p :: l=>p.1 :: p.2 :: flat2 l
theorem pairs_len:∀ {l:List Int} {n:Nat},l.length = n * 2 -> (pairs l).length = n
 | [],n,h=>by simp at h; simp [pairs]; omega
 | [_],n,h=>by simp at h; omega
 | a :: b :: l,0,h=>by simp at h
 | a :: b :: l,n + 1,h=>by simp only [pairs,List.length_cons]; rw [pairs_len (n:=n) (by simp at h; omega)]
theorem flat2_len:∀ l:List (Int × Int),(flat2 l).length = l.length * 2
 | []=>rfl
 | p :: l=>by simp only [flat2,List.length_cons,flat2_len l]; omega
theorem pairs_get:∀ {l:List Int} {n i:Nat} {p:Int × Int},l.length = n * 2 -> (pairs l)[i]? = some p -> l[i * 2]? = some p.1 /\ l[i * 2 + 1]? = some p.2
 | [],n,i,p,_,h=>by simp [pairs] at h
 | [_],n,i,p,h,_=>by simp at h; omega
 | a :: b :: l,0,_,_,h,_=>by simp at h
 | a :: b :: l,n + 1,0,p,h,hp=>by simp [pairs] at hp; subst hp; exact ⟨rfl,rfl⟩
 | a :: b :: l,n + 1,i + 1,p,h,hp=>by
  simp only [pairs,List.getElem?_cons_succ] at hp
  obtain ⟨h1,h2⟩:=pairs_get (l:=l) (n:=n) (by simp at h; omega) hp
  rw [show (i + 1) * 2 = i * 2 + 1 + 1 by omega]
  exact ⟨h1,h2⟩
theorem flat2_get:∀ {l:List (Int × Int)} {i:Nat} {p:Int × Int},l[i]? = some p -> (flat2 l)[i * 2]? = some p.1 /\ (flat2 l)[i * 2 + 1]? = some p.2
 | [],i,p,h=>by simp at h
 | q :: l,0,p,h=>by simp at h; subst h; exact ⟨rfl,rfl⟩
 | q :: l,i + 1,p,h=>by
  simp only [List.getElem?_cons_succ] at h
  obtain ⟨h1,h2⟩:=flat2_get h
  rw [show (i + 1) * 2 = i * 2 + 1 + 1 by omega]
  exact ⟨h1,h2⟩
def sortP (d:List (Int × Int)):List (Int × Int):=(Sort.pdq (ltOf cfR) d.toArray 0 d.length (Lib.bitLen d.length) true true).toList
def sortF:Fun:=fun is _=>([enc (flat2 (sortP (pairs (dec (is.getD 0 0)))))],[])
theorem sortP_perm (d:List (Int × Int)):(sortP d).Perm d /\ Sort.SortedIn (ltOf cfR) 0 d.length (Sort.pdq (ltOf cfR) d.toArray 0 d.length (Lib.bitLen d.length) true true):=by
 obtain ⟨⟨h1,_,h3⟩,h4⟩:=Sort.pdq_sorts (ltOf cfR) swoR d.toArray 0 d.length (Lib.bitLen d.length) true true (Nat.zero_le _) (by simp) (.inl rfl)
 refine ⟨?_,h4⟩
 have e:∀ (a:Array (Int × Int)) (n:Nat),a.size = n -> (a.extract 0 n).toList = a.toList:=fun a n h=>by subst h; simp
 rw [e _ _ (by rw [h1]; simp),e _ _ (by simp)] at h3
 exact h3
theorem sortP_len (d:List (Int × Int)):(sortP d).length = d.length:=(sortP_perm d).1.length_eq

theorem Keep.grow (W:List Rg) (w:World) (os:Array Obj):Keep W w (Go.Sort.grow w os) :=
 Keep.of_blocks rfl rfl rfl (by simp [Go.Sort.grow]) fun k hk=>by simp [Go.Sort.grow,Array.getElem?_append,hk]
theorem shape?_mapBlock (w:World) (b:Nat) (f:Array Value -> Array Value) (hf:∀ c,(f c).size = c.size) (k:Nat):(Sort.mapBlock w b f).shape? k = w.shape? k:=by
 simp only [Sort.mapBlock,World.shape?,Array.getElem?_modify]
 by_cases hb:b = k
 ·simp only [hb,if_true]
  cases hh:w.heap[k]? with
  | none=>simp
  | some x=>cases x <;> simp [Sort.onCells,hf]
 ·simp [hb]
theorem Keep.putRow {W:List Rg} {w:World} {r:Rg} (hr:r ∈ W) (d:Array Value) (hs:d.size <= r.len):Keep W w (Sort.putRow id w r.blk r.off d):=by
 refine ⟨rfl,rfl,rfl,by simp,fun a ha hn=>?_,fun a ha=>Sort.frozen?_putRow _ _ _ _ _ _,fun k hk=>?_,fun k hk hn=>?_⟩
 ·refine Sort.cell?_putRow_other _ _ _ _ _ _ ?_
  have:=hn r hr
  unfold inRg at this
  omega
 ·exact shape?_mapBlock w r.blk _ (fun c=>by simp [Sort.putCells]) k
 ·by_cases h0:r.len = 0
  ·have hd:d = #[]:=Array.eq_empty_of_size_eq_zero (by omega)
   subst hd
   unfold Sort.putRow
   rw [Sort.mapBlock_id]
   intro c e fr hc
   unfold Sort.putCells
   apply Array.ext_getElem?
   intro j
   simp only [Array.getElem?_mapIdx]
   cases c[j]? with
   | none=>rfl
   | some x=>simp only [Option.map_some]; rw [if_neg (by simp)]
  ·have:=hn r hr h0
   simp only [Sort.putRow,Sort.mapBlock,Array.getElem?_modify]
   rw [if_neg this]
def ks2:List CK:=[.int .i64,.int .i64]
theorem ks2_get (j:Nat):ks2[j % ks2.length]? = some (.int .i64):=by
 have:j % 2 = 0 \/ j % 2 = 1:=by omega
 show ks2[j % 2]? = _
 rcases this with h | h <;> rw [h] <;> rfl
theorem encR_get (p:Int × Int) (j:Nat) (h:j < 2):(encR p)[j]! = .int .i64 (if j = 0 then p.1 else p.2):=by
 match j,h with
 | 0,_=>rfl
 | 1,_=>rfl
theorem flatK_get {d:List (Int × Int)} {j:Nat} {x:Int} (hx:(flat2 d)[j]? = some x):(Sort.flatK encR 2 d.toArray)[j]! = .int .i64 x:=by
 have hj:j < d.length * 2:=by rw [<- flat2_len]; exact (List.getElem?_eq_some_iff.1 hx).1
 have hi:j / 2 < d.length:=by omega
 rw [Sort.get_flatK _ _ _ _ (by simpa using hj),encR_get _ _ (by omega)]
 obtain ⟨h1,h2⟩:=flat2_get (List.getElem?_eq_getElem hi)
 have e:d.toArray[j / 2]! = d[j / 2]:=by simp [hi]
 rw [e]
 have:j % 2 = 0 \/ j % 2 = 1:=by omega
 rcases this with h | h
 ·rw [h,if_pos rfl]
  rw [show j / 2 * 2 = j by omega,hx] at h1
  cases h1; rfl
 ·rw [h,if_neg (by omega)]
  rw [show j / 2 * 2 + 1 = j by omega,hx] at h2
  cases h2; rfl
theorem pairs_flat:∀ {l:List Int} {n:Nat},l.length = n * 2 -> flat2 (pairs l) = l
 | [],_,_=>rfl
 | [_],n,h=>by simp at h; omega
 | a :: b :: l,0,h=>by simp at h
 | a :: b :: l,n + 1,h=>by simp only [pairs,flat2]; rw [pairs_flat (n:=n) (by simp at h; omega)]
theorem flat2_mem {x:Int}:∀ {d:List (Int × Int)},x ∈ flat2 d ↔ ∃ p,p ∈ d /\ (x = p.1 \/ x = p.2)
 | []=>by simp [flat2]
 | p :: d=>by
  simp only [flat2,List.mem_cons,flat2_mem (d:=d)]
  constructor
  ·rintro (h | h | ⟨q,hq,h⟩)
   ·exact ⟨p,.inl rfl,.inl h⟩
   ·exact ⟨p,.inl rfl,.inr h⟩
   ·exact ⟨q,.inr hq,h⟩
  ·rintro ⟨q,rfl | hq,h⟩
   ·rcases h with h | h
    ·exact .inl h
    ·exact .inr (.inl h)
   ·exact .inr (.inr ⟨q,hq,h⟩)
def cmpN (c:C):Option Nat:=match c with
 | .fn [] (some (g,[]))=>some g
 | _=>none
theorem cmpN_spec {c:C} {g:Nat} (h:cmpN c = some g):c = .fn [] (some (g,[])):=by
 unfold cmpN at h
 split at h
 ·cases h; rfl
 ·cases h
def isCmp (c:C) (g:Nat):Bool:=match cmpN c with
 | some h=>Nat.beq h g
 | none=>false
theorem isCmp_spec {c:C} {g:Nat} (h:isCmp c g = true):c = .fn [] (some (g,[])):=by
 unfold isCmp at h
 split at h
 ·rename_i e
  rw [Nat.beq_eq] at h
  subst h
  exact cmpN_spec e
 ·cases h
def sortM (f g:Nat) (Γ:Gd) (hp:Hp) (xs:List S):M Res:=match xs with
 | [.one false [.slm id ks],.one false [c]] =>
  if cksEq ks ks2 && isCmp c g then do
   let r <- lift (rowOf Γ hp id ks)
   let b <- mkCm .leq r.2 (.c 2305843009213693952)
   oblige b
   let p <- newCall f [r.1,r.2] [] 1 0
   pure { s:=.tup [],w:=[(id,{ g:=[],ro:=false,cells:=[.vec ks (.v p.1) r.2] })] }
  else M.fail
 | _=>M.fail
def sortH (f g:Nat) (H:Hnd):Hnd:=fun h Γ hp xs=>if h == f then sortM f g Γ hp xs else H h Γ hp xs
section
variable {P:Program} {Φ:Funs} {gl:Gl} {H:Hnd}
set_option maxHeartbeats 2000000 in
theorem sortH_ok (hH:HOk P Φ gl H) {r:Go.Shelf.Ren} (L:SlLaysF0.n6 P r) (hcl:∀ args w,(callFunc (r.f 6) args).run P w = .ok (.enter (r.f 6) args) w) (aE:∀ w,(isAgg (r.t 24)).run P w = .ok true w) (zE:∀ w,(Go.sizeOf (r.t 24)).run P w = .ok 2 w)
  {g:Nat} (hy:g ≠ yieldN) (eg:∀ args w,(callFunc g args).run P w = .ok (.enter g args) w) (hC:∀ blk off size w,CmpLays P g #[] encR 2 cfR blk off size w) (hΦ:Φ (r.f 6) = sortF):HOk P Φ gl (sortH (r.f 6) g H):=by
 intro f Γ hp xs ρ c res c' out he hg hΓ N R Q β w vs hm hh hb hN hG hf
 unfold sortH at he
 split at he
 case isFalse=>exact hH f Γ hp xs ρ c res c' out he hg hΓ N R Q β w vs hm hh hb hN hG hf
 rename_i hfe
 have hfe:f = r.f 6:=by simpa using hfe
 subst hfe
 refine ⟨hcl,?_⟩
 unfold sortM at he
 split at he
 case h_2=>simp [M.fail] at he
 rename_i id ks cc
 split at he
 case isFalse=>simp [M.fail] at he
 rename_i hc
 rw [Bool.and_eq_true] at hc
 obtain ⟨hks,hfn⟩:=hc
 have hks:ks = ks2:=cksEq_sound hks
 subst hks
 obtain rfl:cc = .fn [] (some (g,[])):=isCmp_spec hfn
 obtain ⟨rr,c1,o1,c2,o2,y,g1,g2,e1⟩:=M.bind_inv he
 simp only [Prod.mk.injEq] at e1
 obtain ⟨rfl,rfl,rfl⟩:=e1
 obtain ⟨rr',hrr,e1⟩:=lift_inv g1
 simp only [Prod.mk.injEq] at e1
 obtain ⟨rfl,rfl,rfl⟩:=e1
 rw [List.nil_append] at hg
 obtain ⟨hle,p,hcall,hres⟩:=(show Snd Φ ρ (do
   let b <- mkCm .leq rr.2 (.c 2305843009213693952)
   oblige b
   let p <- newCall (r.f 6) [rr.1,rr.2] [] 1 0
   pure { s:=.tup [],w:=[(id,{ g:=[],ro:=false,cells:=[.vec ks2 (.v p.1) rr.2] })] }:M Res) (fun res=>rr.2.d ρ <= 2305843009213693952 /\ ∃ p:Nat × Nat,ρ.i (p.1 + 0) = (Φ (r.f 6) [rr.1.d ρ,rr.2.d ρ] []).1.getD 0 0 /\ res = { s:=.tup [],w:=[(id,{ g:=[],ro:=false,cells:=[.vec ks2 (.v p.1) rr.2] })] }) from
  Snd.bind (mkCm_snd _ _ _) fun b e1=>Snd.bind (oblige_snd b) fun _ e2=>Snd.bind (newCall_snd _ _ _ _ _) fun p hp=>Snd.pure ⟨by rw [e1] at e2; exact of_decide_eq_true e2,p,hp.1 0 (by omega),rfl⟩) _ _ _ _ g2 hg
 subst hres
 rw [Nat.add_zero,hΦ] at hcall
 match vs,hm with
 | [v1,v2],⟨m1,m2,_⟩ =>
 obtain ⟨v1',hv1,m1⟩:∃ c,[C.slm id ks2] = [c] /\ c.mt β ρ v1:=m1
 cases hv1
 obtain ⟨v2',hv2,m2⟩:∃ c,[C.fn [] (some (g,[]))] = [c] /\ c.mt β ρ v2:=m2
 cases hv2
 obtain ⟨ws,rfl,hcap⟩:∃ ws:List Value,v2 = fvVal g ws /\ capMt β [] ws:=m2
 have hws:ws = []:=by
  cases ws with
  | nil=>rfl
  | cons _ _=>exact hcap.elim
 subst hws
 rw [fvVal_ne hy]
 obtain ⟨rg,cap,p1,hr1,hrow,hlen,hrn,rfl,hp1⟩:=m1
 obtain ⟨rg',cap',l,hr2,_,hro,hne,hlen',hrn',hq,hn,hin,hll,hsq,hcells⟩:=rowOf_spec hΓ (q:=rr.1) (n:=rr.2) hrr hh
 rw [hr1] at hr2
 cases hr2
 have hll2:l.length = rg.rn * 2:=hll
 have hlen2:rg.len = cap * 2:=hlen
 have hpl:=pairs_len hll2
 have hval:ρ.i p.1 = enc (flat2 (sortP (pairs l))):=by
  rw [hcall]
  show enc (flat2 (sortP (pairs (dec (rr.1.d ρ))))) = _
  rw [hq,dec_enc]
 by_cases h0:rg.rn = 0
 ·-- nothing to sort
  have hl0:l = []:=List.eq_nil_of_length_eq_zero (by omega)
  subst hl0
  rw [h0]
  refine Calls.mono (AnyF.slices_SortFunc_none L p1 cap _ w) fun e u h=>?_
  obtain ⟨rfl,rfl⟩:=h
  have hs0:sortP (pairs ([]:List Int)) = []:=List.eq_nil_of_length_eq_zero (by rw [sortP_len]; rfl)
  rw [hs0] at hval
  refine ⟨_,rfl,β,Step.refl hb _ _ _,⟨#[],rfl,trivial⟩,rowW_mt ⟨rg,cap,[],hr1,hrow,hro,hne,hlen,hrn,hval,hn,hin,by rw [h0]; rfl,fun j x hj=>by simp at hj,hcells⟩⟩
 ·have hcap0:cap ≠ 0:=by omega
  have hp1:=hp1.resolve_left hcap0
  subst hp1
  have hH:Sort.HoldsK encR 2 w rg.blk rg.off (pairs l).toArray:=by
   intro j hj
   have hj2:j < rg.rn * 2:=by simpa [hpl] using hj
   have hjl:j < l.length:=by omega
   obtain ⟨ck,v,e1,e2,e3⟩:=hsq j _ (List.getElem?_eq_getElem hjl)
   rw [ks2_get] at e1
   cases e1
   refine ⟨?_,(hcells j (by omega)).2⟩
   rw [e2,e3.1]
   have:(flat2 (pairs l))[j]? = some l[j]:=by rw [pairs_flat hll2]; exact List.getElem?_eq_getElem hjl
   rw [flatK_get this]; rfl
  have hblk:rg.blk < w.heap.size:=by
   obtain ⟨⟨u,hu,_⟩,_⟩:=hcells 0 (by omega)
   exact World.block_lt_of_cell? w ⟨rg.blk,rg.off + 0,none⟩ hu
  have hsz:(pairs l).toArray.size = rg.rn:=by simp [hpl]
  have hbig:(pairs l).toArray.size < 4611686018427387904:=by rw [hsz]; rw [hn] at hle; omega
  have hone:∀ x,∀ v ∈ encR x,v.oneCell' = true:=by
   intro x v hv
   simp only [encR,List.mem_cons,List.not_mem_nil,or_false] at hv
   rcases hv with rfl | rfl <;> rfl
  have hrun:=AnyQ.slices_SortFunc_eq L 2 aE zE encR (fun _=>rfl) hone cfR swoR g #[] rg.blk rg.off cap (pairs l).toArray w eg (hC _ _ _ _) hH hblk hbig
  rw [hsz] at hrun
  refine Calls.mono hrun fun e u h=>?_
  obtain ⟨rfl,n,os,rfl⟩:=h
  have hD:(Sort.pdq (ltOf cfR) (pairs l).toArray 0 rg.rn (Lib.bitLen rg.rn) true true) = (sortP (pairs l)).toArray:=by
   unfold sortP; rw [hpl]
  rw [hD]
  have hsl:(sortP (pairs l)).length = rg.rn:=by rw [sortP_len,hpl]
  have hfl:(flat2 (sortP (pairs l))).length = rg.rn * 2:=by rw [flat2_len,hsl]
  have hfs:(Sort.flatK encR 2 (sortP (pairs l)).toArray).size = rg.rn * 2:=by rw [Sort.size_flatK]; simp [hsl]
  have hk1:Keep [rg] w (Sort.ahead w n):=Keep.of_blocks rfl rfl rfl (Nat.le_refl _) fun _ _=>rfl
  have hk2:Keep [rg] (Sort.ahead w n) (Sort.putRowK encR 2 (Sort.ahead w n) rg.blk rg.off (sortP (pairs l)).toArray):=Keep.putRow (by simp) _ (by rw [hfs]; omega)
  have hcov:∀ (N:Nat) q,q ∈ [rg] -> Cov [rg] N q:=fun N q hq=>by
   rw [List.mem_singleton.1 hq]; exact .inr ⟨rg,by simp,rfl,Nat.le_refl _,Nat.le_refl _⟩
  have hk3:Keep [rg] w (sortWorldK encR 2 w rg.blk rg.off n (sortP (pairs l)).toArray os):=(hk1.trans hk2 (hcov _)).trans (Keep.grow [rg] _ os) (hcov _)
  have hcell:∀ (j:Nat) (x:Int),(flat2 (sortP (pairs l)))[j]? = some x -> (sortWorldK encR 2 w rg.blk rg.off n (sortP (pairs l)).toArray os).cell? ⟨rg.blk,rg.off + j,none⟩ = some (.int .i64 x):=fun j x hx=>by
   have hj:=(List.getElem?_eq_some_iff.1 hx).1
   have e1:=(Keep.grow [] (Sort.putRowK encR 2 (Sort.ahead w n) rg.blk rg.off (sortP (pairs l)).toArray) os).cell ⟨rg.blk,rg.off + j,none⟩ (by simpa [Sort.putRowK] using hblk) (by simp)
   refine e1.trans ?_
   have e2:=Sort.cell?_putRow _root_.id (Sort.ahead w n) rg.blk rg.off (Sort.flatK encR 2 (pairs l).toArray) (Sort.flatK encR 2 (sortP (pairs l)).toArray) hH (by rw [hfs,Sort.size_flatK]; simp [hpl]) j (by rw [hfs]; omega)
   rw [flatK_get hx] at e2
   exact e2
  have hmem:∀ x,x ∈ flat2 (sortP (pairs l)) -> x ∈ l:=fun x hx=>by
   obtain ⟨q,hq,hx⟩:=flat2_mem.1 hx
   rw [<- pairs_flat hll2]
   exact flat2_mem.2 ⟨q,(sortP_perm _).1.mem_iff.1 hq,hx⟩
  refine ⟨_,rfl,β,⟨ExtP.refl _ β,hb.keep (W:=[rg]) (fun r' hr'=>List.mem_singleton.1 hr' ▸ ⟨_,hr1,hro⟩) hk3,⟨[rg],fun r' hr'=>?_,hk3⟩,fun _ _ _=>rfl,by simp⟩,⟨#[],rfl,trivial⟩,
   rowW_mt ⟨rg,cap,flat2 (sortP (pairs l)),hr1,hrow,hro,hne,hlen,hrn,hval,hn,hin,hfl,fun j x hj=>?_,fun j hj=>?_⟩⟩
  ·rw [List.mem_singleton.1 hr']
   obtain ⟨⟨u,hu,_⟩,_⟩:=hcells 0 (by omega)
   exact ⟨id,by simp [rowW],hr1,hro,_,u,hu⟩
  ·obtain ⟨i,hi⟩:=List.mem_iff_getElem?.1 (hmem x (List.mem_of_getElem? hj))
   obtain ⟨ck,v,e1,e2,e3⟩:=hsq i x hi
   rw [ks2_get] at e1
   cases e1
   exact ⟨_,_,ks2_get j,hcell j x hj,rfl,e3.2⟩
  ·have hpl2:rg.blk < w.heap.size:=hblk
   refine ⟨?_,(hk3.frz _ hpl2).trans (hcells j hj).2⟩
   by_cases hj2:j < rg.rn * 2
   ·exact ⟨_,hcell j _ (List.getElem?_eq_getElem (by omega)),rfl⟩
   ·obtain ⟨u,hu,ho⟩:=(hcells j hj).1
    refine ⟨u,?_,ho⟩
    have e1:=(Keep.grow [] (Sort.putRowK encR 2 (Sort.ahead w n) rg.blk rg.off (sortP (pairs l)).toArray) os).cell ⟨rg.blk,rg.off + j,none⟩ (by simpa [Sort.putRowK] using hblk) (by simp)
    refine e1.trans ((Sort.cell?_putRow_other _root_.id (Sort.ahead w n) rg.blk rg.off _ ⟨rg.blk,rg.off + j,none⟩ (.inr (.inr ?_))).trans hu)
    rw [hfs]
    show rg.off + rg.rn * 2 <= rg.off + j
    omega
end
end Go.Proofs.YtfgbfdlacnihkaaGreatDoor.Sx
namespace Go.Proofs.YtfgbfdlacnihkaaGreatDoor.Sx
open Go

def knN (ng:Nat) (hp:Hl) (i:Nat):Bool:=Nat.blt i ng || (match hpOf hp i with | some b=>b.g.isEmpty && (vecOf b.cells).isNone | none=>false)
theorem knN_row {x:Cx} {ρ:Env} {β:Beta} {σ:St} {a:Act} {w:World} (hR:Rel x ρ β σ a w) {i:Nat} {r:Rg} (h:knN x.ng σ.hp i = true) (hi:β i = some r):r.row = false:=by
 unfold knN at h
 rw [Bool.or_eq_true,Nat.blt_eq] at h
 rcases h with h | h
 ·have:=hR.gl i _ (List.getElem?_eq_getElem h)
  rw [hi] at this
  cases this
  rfl
 ·split at h
  ·rename_i b hb
   simp only [Bool.and_eq_true,List.isEmpty_iff,Option.isNone_iff_eq_none] at h
   obtain ⟨q,hq,hrow,_⟩:=(blkMt_cs h.2).1 (hR.hm i b hb (by rw [h.1]; rfl))
   rw [hi] at hq
   cases hq
   exact hrow
  ·cases h
theorem knN_keep {x:Cx} {ρ:Env} {β β':Beta} {σ:St} {a:Act} {w:World} (hR:Rel x ρ β σ a w) (hE:Ext β β'):∀ i r,knN x.ng σ.hp i = true -> β i = some r -> β' i = some r :=
 fun i r h hi=>hE.at hi (knN_row hR h hi)
theorem knN_mv {x:Cx} {ρ:Env} {β β':Beta} {σ:St} {a:Act} {w:World} (hR:Rel x ρ β σ a w) (hE:Ext β β'):Mv (knN x.ng σ.hp) β β' :=
 ⟨fun i r hi hr=>hr.elim (hE.at hi) fun h=>knN_keep hR hE i r h hi,(Mv.of hR.bo (ExtP.refl (fun _=>true) β)).sq⟩

def C.tj (p:Nat -> Bool):C -> C
 | .int k (.c n)=>.int k (.c n)
 | .bool (.c b)=>.bool (.c b)
 | .ptr [] i o=>if p i then .ptr [] i o else .junk
 | .val u=>.val u
 | .emp=>.emp
 | .fn [] d=>if (fvIds d).all p then .fn [] d else .junk
 | _=>.junk
section
variable {p:Nat -> Bool} {β β':Beta} {ρ ρ':Env} (hk:∀ i r,p i = true -> β i = some r -> β' i = some r)
include hk
theorem tj_cap:∀ {l:List (Nat × Nat)} {vs:List Value},(l.map (·.1)).all p = true -> capMt β l vs -> capMt β' l vs
 | [],[],_,_=>trivial
 | q :: l,v :: vs,h,⟨⟨r,hr,hv⟩,h2⟩=>by
  simp only [List.map_cons,List.all_cons,Bool.and_eq_true] at h
  exact ⟨⟨r,hk _ _ h.1 hr,hv⟩,tj_cap h.2 h2⟩
 | [],_ :: _,_,h=>h.elim
 | _ :: _,[],_,h=>h.elim
theorem C.tj_mt {c:C} {v:Value} (h:c.mt β ρ v):(c.tj p).mt β' ρ' v:=by
 have ho:=C.mt_oneCell h
 unfold C.tj
 split
 ·exact h
 ·exact h
 ·rename_i i o
  split
  ·rename_i hp
   obtain ⟨r,hr,hv⟩:=h
   exact ⟨r,hk _ _ hp hr,hv⟩
  ·exact ho
 ·exact h
 ·exact h
 ·rename_i d
  split
  ·rename_i hp
   have h:fvMt β d v:=h
   show fvMt β' d v
   unfold fvMt at *
   cases d with
   | none=>exact h
   | some q=>obtain ⟨vs,h1,h2⟩:=h; exact ⟨vs,h1,tj_cap hk hp h2⟩
  ·exact ho
 ·exact ho
theorem tj_L:∀ {l:List C} {vs:List Value},mtL β ρ l vs -> mtL β' ρ' (l.map (C.tj p)) vs
 | [],[],_=>trivial
 | c :: l,v :: vs,⟨h1,h2⟩=>⟨C.tj_mt hk h1,tj_L h2⟩
 | [],_ :: _,h=>h.elim
 | _ :: _,[],h=>h.elim
theorem tj_1 {agg:Bool} {l:List C} {v:Value} (h:mt1 β ρ agg l v):mt1 β' ρ' agg (l.map (C.tj p)) v:=by
 unfold mt1 at *
 cases agg
 ·obtain ⟨c,rfl,h⟩:=h; exact ⟨_,rfl,C.tj_mt hk h⟩
 ·obtain ⟨vs,rfl,h⟩:=h; exact ⟨vs,rfl,tj_L hk h⟩
end
def SV.tj (p:Nat -> Bool) (v:SV):SV:=match v with
 | { g:=[],s:=.one agg l }=>{ g:=[],s:=.one agg (l.map (C.tj p)) }
 | _=>anySV
theorem SV.tj_mt {p:Nat -> Bool} {β β':Beta} {ρ ρ':Env} (hk:∀ i r,p i = true -> β i = some r -> β' i = some r) {s:SV} {v:Value} (h:s.mt β ρ v):(s.tj p).mt β' ρ' v:=by
 unfold SV.tj
 split
 ·exact ⟨fun _=>tj_1 hk (h.1 rfl),fun h=>by cases h⟩
 ·exact anySV_mt v
theorem args_slots {β:Beta} {ρ:Env}:∀ {xs:List S} {vs:List Value} {n t:Nat} {v:SV},mtAll β ρ xs vs -> (xs.map (fun s=>({ g:=[],s:=s }:SV)) ++ List.replicate n anySV)[t]? = some v -> v.mt β ρ ((vs ++ List.replicate n undef).getD t undef)
 | [],vs,n,t,v,hm,ht=>by
  simp only [List.map_nil,List.nil_append,List.getElem?_replicate] at ht
  split at ht
  ·simp only [Option.some.injEq] at ht
   subst ht
   exact anySV_mt _
  ·cases ht
 | x :: xs,[],_,_,_,hm,_=>hm.elim
 | x :: xs,u :: vs,n,0,v,hm,ht=>by
  simp at ht
  subst ht
  exact ⟨fun _=>by simpa using hm.1,fun h=>by cases h⟩
 | x :: xs,u :: vs,n,t + 1,v,hm,ht=>by
  have:=args_slots (n:=n) (t:=t) (v:=v) hm.2 (by simpa using ht)
  simpa using this
def setPs:List SV -> List (Nat × SV) -> List SV
 | T,[]=>T
 | T,p :: l=>setPs (T.set p.1 p.2) l
theorem setPs_len:∀ {l:List (Nat × SV)} {T:List SV},(setPs T l).length = T.length
 | [],_=>rfl
 | p :: l,T=>by unfold setPs; rw [setPs_len]; simp
theorem setPs_mt {β:Beta} {ρ:Env}:∀ {ps:List Nat} {xs:List S} {vs:List Value} {T:List SV} {tm:Array Value},ps.length = xs.length -> mtAll β ρ xs vs -> tm.size = T.length -> (∀ (t:Nat) v,T[t]? = some v -> v.mt β ρ (tm.getD t undef)) ->
  ((ps.zip vs).foldl (fun tm p=>tm.setIfInBounds p.1 p.2) tm).size = T.length /\ ∀ (t:Nat) v,(setPs T (ps.zip (xs.map fun s=>({ g:=[],s:=s }:SV))))[t]? = some v -> v.mt β ρ (((ps.zip vs).foldl (fun tm p=>tm.setIfInBounds p.1 p.2) tm).getD t undef)
 | [],[],vs,T,tm,_,hm,hs,h=>by
  cases vs with
  | nil=>exact ⟨hs,h⟩
  | cons _ _=>exact hm.elim
 | p :: ps,x :: xs,[],T,tm,_,hm,_,_=>hm.elim
 | p :: ps,x :: xs,v :: vs,T,tm,hl,⟨h1,h2⟩,hs,h=>by
  simp only [List.zip_cons_cons,List.map_cons,List.foldl_cons,setPs]
  have:=setPs_mt (ps:=ps) (xs:=xs) (vs:=vs) (T:=T.set p { g:=[],s:=x }) (tm:=tm.setIfInBounds p v) (by simpa using hl) h2 (by simpa using hs) (fun t u hu=>by
   rw [List.getElem?_set] at hu
   by_cases e:p = t
   ·subst e
    rw [if_pos rfl] at hu
    split at hu
    ·rename_i hlt
     simp only [Option.some.injEq] at hu
     subst hu
     have hlt':p < tm.size:=by omega
     refine ⟨fun _=>?_,fun h=>by cases h⟩
     simpa [hlt'] using h1
    ·cases hu
   ·rw [if_neg e] at hu
    have:=h t u hu
    simpa [Array.getElem?_setIfInBounds_ne e] using this)
  simpa using this
 | [],_ :: _,_,_,_,hl,_,_,_=>by simp at hl
 | _ :: _,[],_,_,_,hl,_,_,_=>by simp at hl
end Go.Proofs.YtfgbfdlacnihkaaGreatDoor.Sx
namespace Go.Proofs.YtfgbfdlacnihkaaGreatDoor.Sx
open Go

structure RfD where
 lid:Nat
 T:List SV
 ps:List Nat
 asg:Code
 bd:Code
 jl:List Code
def kdJ:Code -> Option Kd
 | .ret=>some .r
 | .exit id=>some (.x id)
 | _=>none
def idxJ (K:Kd):List Code -> Nat -> Option Nat
 | [],_=>none
 | c :: l,j=>match kdJ c with
  | some K'=>if K'.eq K then some j else idxJ K l (j + 1)
  | none=>idxJ K l (j + 1)
theorem idxJ_spec {K:Kd}:∀ {l:List Code} {j i:Nat},idxJ K l j = some i -> j <= i /\ kdJ (pickJ l (i - j)) = some K
 | [],j,i,h=>by simp [idxJ] at h
 | c :: l,j,i,h=>by
  have hrec:idxJ K l (j + 1) = some i -> j <= i /\ kdJ (pickJ (c :: l) (i - j)) = some K:=fun h=>by
   obtain ⟨h1,h2⟩:=idxJ_spec h
   refine ⟨by omega,?_⟩
   cases l with
   | nil=>simp [idxJ] at h
   | cons d l =>
    rw [show i - j = (i - (j + 1)) + 1 by omega]
    exact h2
  unfold idxJ at h
  split at h
  ·rename_i K' hK
   split at h
   ·rename_i he
    simp only [Option.some.injEq] at h
    subst h
    refine ⟨Nat.le_refl _,?_⟩
    rw [Nat.sub_self]
    have:pickJ (c :: l) 0 = c:=by cases l <;> rfl
    rw [this,hK,Kd.eq_sound he]
   ·exact hrec h
  ·exact hrec h
def yJs (jl:List Code):Kd -> Option (Bool × Js)
 | .n=>some (true,{})
 | K=>match idxJ K jl 0 with
  | some j=>some (false,{ b:=.c false,a:=.c (Int.ofNat j) })
  | none=>none
theorem kdJ_r {c:Code} (h:kdJ c = some .r):c = .ret:=by
 unfold kdJ at h
 split at h
 ·rfl
 ·cases h
 ·cases h
theorem kdJ_x {c:Code} {id:Nat} (h:kdJ c = some (.x id)):c = .exit id:=by
 unfold kdJ at h
 split at h
 ·cases h
 ·cases h; rfl
 ·cases h
theorem yJs_spec {jl:List Code} {K:Kd} {res:Bool} {js:Js} (h:yJs jl K = some (res,js)) (hne:K ≠ .n):res = false /\ ∃ j:Nat,js = { b:=.c false,a:=.c (Int.ofNat j) } /\ kdJ (pickJ jl j) = some K:=by
 have key:∀ i,idxJ K jl 0 = some i -> kdJ (pickJ jl i) = some K:=fun i hi=>(idxJ_spec hi).2
 unfold yJs at h
 split at h
 ·exact absurd rfl hne
 ·split at h
  ·rename_i j hj
   simp only [Option.some.injEq,Prod.mk.injEq] at h
   exact ⟨h.1.symm,j,h.2.symm,key j hj⟩
  ·cases h
def yOne (jl:List Code) (tm:List SV) (dst:Option Tmp) (K:Kd) (s:St):Option St :=
 match yJs jl K with
 | some (r,js)=>match setT tm dst { g:=[],s:=.one false [.bool (.c r)] } with
  | some tm'=>some { tm:=tm',hp:=s.hp,rb:=s.rb,js:=js }
  | none=>none
 | none=>none
def yOuts (jl:List Code) (tm:List SV) (dst:Option Tmp):Outs -> Option (List (Gd × St))
 | []=>some []
 | (K,q,s) :: O=>match yOne jl tm dst K s,yOuts jl tm dst O with
  | some s',some l=>some ((q,s') :: l)
  | _,_=>none
theorem yOuts_spec {jl:List Code} {tm:List SV} {dst:Option Tmp}:∀ {O:Outs} {l:List (Gd × St)},yOuts jl tm dst O = some l ->
  (∀ p,p ∈ l -> ∃ K s,(K,p.1,s) ∈ O /\ yOne jl tm dst K s = some p.2) /\ ∀ K q s,(K,q,s) ∈ O -> ∃ s',(q,s') ∈ l
 | [],l,h=>by
  simp only [yOuts,Option.some.injEq] at h
  subst h
  exact ⟨fun p hp=>(by cases hp),fun K q s h=>(by cases h)⟩
 | (K,q,s) :: O,l,h=>by
  unfold yOuts at h
  split at h
  ·rename_i s' l' h1 h2
   simp only [Option.some.injEq] at h
   subst h
   obtain ⟨i1,i2⟩:=yOuts_spec h2
   refine ⟨fun p hp=>?_,fun K' q' t ht=>?_⟩
   ·rcases List.mem_cons.1 hp with rfl | hp
    ·exact ⟨K,s,by simp,h1⟩
    ·obtain ⟨K',t,e1,e2⟩:=i1 p hp
     exact ⟨K',t,by simp [e1],e2⟩
   ·rcases List.mem_cons.1 ht with e | ht
    ·cases e; exact ⟨s',by simp⟩
    ·obtain ⟨t',e⟩:=i2 K' q' t ht
     exact ⟨t',by simp [e]⟩
  ·cases h
def distO:Outs -> Bool
 | []=>true
 | (k,_,_) :: O=>(O.all fun p=>!(k.eq p.1)) && distO O
theorem distO_get {k:Kd} {q:Gd} {s:St}:∀ {O:Outs},distO O = true -> (k,q,s) ∈ O -> getK k O = some (q,s)
 | (l,q',s') :: O,h,hm=>by
  simp only [distO,Bool.and_eq_true,List.all_eq_true,Bool.not_eq_true'] at h
  unfold getK
  rcases List.mem_cons.1 hm with e | hm
  ·cases e; rw [if_pos (Kd.eq_refl _)]
  ·rw [if_neg,distO_get h.2 hm]
   intro he
   have:=h.1 _ hm
   rw [Kd.eq_sound he,Kd.eq_refl] at this
   cases this
theorem getK_mem {k:Kd} {q:Gd} {s:St}:∀ {O:Outs},getK k O = some (q,s) -> (k,q,s) ∈ O
 | [],h=>by simp [getK] at h
 | (l,q',s') :: O,h=>by
  unfold getK at h
  split at h
  ·rename_i he
   simp only [Option.some.injEq,Prod.mk.injEq] at h
   rw [Kd.eq_sound he,<- h.1,<- h.2]
   simp
  ·exact List.mem_cons.2 (.inr (getK_mem h))
def yJoin (keep:Kp):List (Gd × St) -> M St
 | []=>M.fail
 | [(_,s)]=>pure s
 | (q,s) :: p :: l=>do
  let b <- gAtom q
  let r <- M.mono (yJoin keep (p :: l))
  M.mono (joinSt keep b s r)
theorem yJoin_ok {Φ:Funs} {x:Cx} {ρ:Env} {keep:Kp} (hx:GrOk x keep):∀ (l:List (Gd × St)) {z:St} {c c':Ctr} {out:List Em},yJoin keep l c = some (z,c',out) -> Good Φ ρ out -> ∀ {β:Beta} {a:Act} {w:World},(∃ p,p ∈ l /\ Gd.d ρ p.1 = true) ->
  (∀ p,p ∈ l -> Gd.d ρ p.1 = true -> Rel x ρ β p.2 a w) -> Fresh β c -> ∃ β',Ext β β' /\ Rel x ρ β' z a w /\ Fresh β' c'
 | [],z,c,c',out,h,_,β,a,w,_,_,_=>by simp [yJoin,M.fail] at h
 | [(q,s)],z,c,c',out,h,_,β,a,w,⟨p,hp,hq⟩,hR,hF=>by
  have he:=M.pure_inv h
  simp only [Prod.mk.injEq] at he
  obtain ⟨rfl,rfl,rfl⟩:=he
  rw [List.mem_singleton.1 hp] at hq
  exact ⟨β,Ext.refl β,hR (q,z) (by simp) hq,hF⟩
 | (q,s) :: p :: l,z,c,c',out,h,hg,β,a,w,hex,hR,hF=>by
  unfold yJoin at h
  obtain ⟨b,c1,o1,c2,o2,y,g1,g2,he⟩:=M.bind_inv h
  simp only [Prod.mk.injEq] at he
  obtain ⟨rfl,rfl,rfl⟩:=he
  obtain ⟨r,c3,o3,c4,o4,y,g3,g4,he⟩:=M.bind_inv g2
  simp only [Prod.mk.injEq] at he
  obtain ⟨rfl,rfl,rfl⟩:=he
  simp only [Good.append] at hg
  have hb:=gAtom_snd q _ _ _ _ g1 hg.1
  have hid:=gAtom_id g1
  obtain ⟨g3,le3⟩:=mono_inv g3
  simp only at le3
  obtain ⟨le4,hj⟩:=joinSt_ok (Φ:=Φ) (x:=x) (ρ:=ρ) hx g4 hg.2.2
  cases hq:Gd.d ρ q with
  | true =>
   exact hj β a w (by rw [hb,hq,if_pos rfl]; exact hR (q,s) (by simp) hq) (hF.le (by omega))
  | false =>
   obtain ⟨p',hp',hq'⟩:=hex
   rcases List.mem_cons.1 hp' with e | hp'
   ·rw [e,hq] at hq'; cases hq'
   ·obtain ⟨β1,f1,f2,f3⟩:=yJoin_ok hx (p :: l) g3 hg.2.1 ⟨p',hp',hq'⟩ (fun p'' h1 h2=>hR p'' (List.mem_cons.2 (.inr h1)) h2) (hF.le (by omega))
    obtain ⟨β2,f4,f5,f6⟩:=hj β1 a w (by rw [hb,hq]; simpa using f2) f3
    exact ⟨β2,f1.trans f4,f5,f6⟩
def onlyN (O:Outs):Option St:=match O with
 | [(.n,_,s)]=>some s
 | _=>none
def knY (lid ng:Nat) (hp:Hl) (i:Nat):Bool:=i == lid || knN ng hp i
def yS (P:Program) (H:Hnd) (gl:Gl) (kb:Ctl) (keep:Kp) (D:RfD) (σ:St) (dst:Option Tmp) (args:List Operand):M St :=
 if args.length == D.ps.length then do
  let _ <- oblige σ.js.b
  let Oa <- M.mono (exec P H (ghOf gl 0) gl.length kb D.asg { tm:=setPs D.T (D.ps.zip ((args.map fun y=>rs [] (ev gl.length σ y)).map fun s=>({ g:=[],s:=s }:SV))),hp:=σ.hp,rb:=σ.rb })
  let sa <- lift (onlyN Oa)
  let Ob <- M.mono (exec P H (ghOf gl 0) gl.length kb D.bd { sa with js:={} })
  let l <- lift (if distO Ob then yOuts D.jl (σ.tm.map (SV.jk (knY D.lid gl.length σ.hp))) dst Ob else none)
  M.mono (yJoin keep l)
 else M.fail
structure RcOk (x:Cx) (D:RfD) (r:LpRec):Prop where
 lr:x.lr = some r
 fix:r.fix = none
 jl:r.jl = D.jl
 ps:r.rc.params.toList = D.ps
 asg:r.rc.assign = D.asg
 bd:r.rc.body = D.bd
 sz:r.rc.tmps.size = D.T.length
 T:∀ (β:Beta) (ρ:Env),Ext x.b0 β -> ∀ (t:Nat) (v:SV),D.T[t]? = some v -> v.mt β ρ (r.rc.tmps.getD t undef)
 lid:∃ q,x.b0 D.lid = some q /\ q.row = false /\ q.blk = r.l
 rl:x.rl = none
theorem Rel.into {x y:Cx} {ρ:Env} {β:Beta} {σ σ':St} {a a':Act} {w:World} (h:Rel x ρ β σ a w) (hy:y.w0 = x.w0 /\ y.R = x.R /\ y.gl = x.gl /\ y.gr = x.gr /\ y.Q = x.Q /\ y.gi = x.gi) (hhp:σ'.hp = σ.hp) (heb:ExtP (fun i=>!σ'.rb.contains i) y.b0 β)
  (hsz:a'.tmps.size = σ'.tm.length) (hsl:∀ (t:Nat) (v:SV),σ'.tm[t]? = some v -> v.mt β ρ (a'.tmps.getD t undef)) (hl:Lk y ρ σ'.js a'.defers w):Rel y ρ β σ' a' w:=by
 obtain ⟨y1,y2,y3,y4,y5,y7⟩:=hy
 have e:y.gh = x.gh:=by unfold Cx.gh; rw [y3]
 refine ⟨hsz,hsl,hl,by rw [hhp]; exact h.hm,by rw [e]; exact h.gm,by rw [e]; exact h.gro,by rw [y1,y2,y5]; exact h.bo,by rw [y1,y2]; exact h.kp,by rw [y3]; exact h.gl,by rw [y4,y7]; exact h.ra,heb⟩
theorem getD_map_jk {p:Nat -> Bool} {β β':Beta} {ρ:Env} (h:Mv p β β') {tm:List SV} {f:Nat -> Value} (hs:∀ (t:Nat) (v:SV),tm[t]? = some v -> v.mt β ρ (f t)):∀ (t:Nat) (v:SV),(tm.map (SV.jk p))[t]? = some v -> v.mt β' ρ (f t):=fun t v hv=>by
 rw [List.getElem?_map,Option.map_eq_some_iff] at hv
 obtain ⟨u,hu,rfl⟩:=hv
 exact SV.jk_mt h (hs t u hu)
end Go.Proofs.YtfgbfdlacnihkaaGreatDoor.Sx
namespace Go.Proofs.YtfgbfdlacnihkaaGreatDoor.Sx
open Go

section
variable {P:Program} {Φ:Funs} {H:Hnd} {x:Cx} {ρ:Env}
theorem yS_ok (hH:HOk P Φ x.gl H) (hG:∀ w,Keep x.R x.w0 w -> Laid x.gl w) {kb:Ctl} (hxb:GrOk x kb.keep) (hLb:LoopsOk Φ kb) (hEb:kb.E = {}) {keep:Kp} (hx:GrOk x keep) {D:RfD} {r:LpRec} (hrc:RcOk x D r)
  {σ σ':St} {dst:Option Tmp} {args:List Operand} {c c':Ctr} {out:List Em} (h:yS P H x.gl kb keep D σ dst args c = some (σ',c',out)) (hg:Good Φ ρ out) {β:Beta} {a:Act} {w:World} (hR:Rel x ρ β σ a w) (hF:Fresh β c)
  (next:Act -> World -> Prop) (Q:Exit -> Act -> World -> Prop) (hn:∀ β' a' w',Ext β β' -> Rel x ρ β' σ' a' w' -> Fresh β' c' -> next a' w') :
  (Instr.yield r.l (args.map a.eval).toArray).run P w = .ok (.round r.l r.rc.fn ((r.rc.params.zip (args.map a.eval).toArray).foldl (fun tmps (t,v)=>tmps.setIfInBounds t v) r.rc.tmps) D.asg D.bd) w /\
   RoundIn Fence.wide 0 P r.l r.rc.fn ((r.rc.params.zip (args.map a.eval).toArray).foldl (fun tmps (t,v)=>tmps.setIfInBounds t v) r.rc.tmps) D.asg D.bd w fun
    | .returned v,w''=>next (a.put dst v) w''
    | .panicked chain,w''=>Q (.panic chain) a w''
    | .outgrown,_=>LetsOut Q:=by
 unfold yS at h
 split at h
 rotate_left
 ·simp [M.fail] at h
 rename_i hlen
 simp only [beq_iff_eq] at hlen
 obtain ⟨u0,c1,o1,c2,o2,y,g1,g2,he⟩:=M.bind_inv h
 simp only [Prod.mk.injEq] at he
 obtain ⟨rfl,rfl,rfl⟩:=he
 obtain ⟨Oa,c3,o3,c4,o4,y,g3,g4,he⟩:=M.bind_inv g2
 simp only [Prod.mk.injEq] at he
 obtain ⟨rfl,rfl,rfl⟩:=he
 obtain ⟨sa,c5,o5,c6,o6,y,g5,g6,he⟩:=M.bind_inv g4
 simp only [Prod.mk.injEq] at he
 obtain ⟨rfl,rfl,rfl⟩:=he
 obtain ⟨sa',hsa,he⟩:=lift_inv g5
 simp only [Prod.mk.injEq] at he
 obtain ⟨rfl,rfl,rfl⟩:=he
 obtain ⟨Ob,c7,o7,c8,o8,y,g7,g8,he⟩:=M.bind_inv g6
 simp only [Prod.mk.injEq] at he
 obtain ⟨rfl,rfl,rfl⟩:=he
 obtain ⟨l,c9,o9,c10,o10,y,g9,g10,he⟩:=M.bind_inv g8
 simp only [Prod.mk.injEq] at he
 obtain ⟨rfl,rfl,rfl⟩:=he
 obtain ⟨l',hl,he⟩:=lift_inv g9
 simp only [Prod.mk.injEq] at he
 obtain ⟨rfl,rfl,rfl⟩:=he
 simp only [Good.append] at hg
 obtain ⟨hg1,hg3,_,hg7,_,hg10⟩:=hg
 have hjs:σ.js.b.d ρ = true:=oblige_snd _ _ _ _ _ g1 hg1
 have hid1:=oblige_id g1
 obtain ⟨g3,le3⟩:=mono_inv g3
 obtain ⟨g7,le7⟩:=mono_inv g7
 obtain ⟨g10,le10⟩:=mono_inv g10
 simp only at le3 le7 le10
 split at hl
 rotate_left
 ·cases hl
 rename_i hdist
 obtain ⟨ho1,ho2⟩:=yOuts_spec hl
 obtain ⟨hN,hrec⟩:=hR.df.rc r hrc.lr
 have hat:r.at (σ.js.b.d ρ) (σ.js.a.d ρ) = { r.rc with state:=.ready,pending:=none }:=by
  unfold LpRec.at; rw [hrc.fix,hjs]; rfl
 rw [hat] at hrec
 have hdl:a.defers = []:=hR.df.nm (by rw [hrc.lr]; rfl)
 have hxs:mtAll β ρ (args.map fun y=>rs [] (ev x.gl.length σ y)) (args.map a.eval):=mtAll_map fun y _=>rs_mt (Γ:=[]) rfl (ev_mt hR y)
 have hpl:r.rc.params.size = args.length:=by have:=congrArg List.length hrc.ps; simp at this; omega
 refine ⟨by have:=run_yield (P:=P) (args:=(args.map a.eval).toArray) hrec (by simp [hpl]); rw [this]; rw [<- hrc.asg,<- hrc.bd],?_⟩
 obtain ⟨tms,htms⟩:∃ tms,tms = (r.rc.params.zip (args.map a.eval).toArray).foldl (fun tmps (t,v)=>tmps.setIfInBounds t v) r.rc.tmps:=⟨_,rfl⟩
 rw [<- htms]
 have htl:tms = (D.ps.zip (args.map a.eval)).foldl (fun tm p=>tm.setIfInBounds p.1 p.2) r.rc.tmps:=by
  rw [htms,<- hrc.ps,<- Array.foldl_toList]
  simp
 obtain ⟨hs1,hs2⟩:=setPs_mt (ps:=D.ps) (T:=D.T) (tm:=r.rc.tmps) (by simpa using hlen.symm) hxs hrc.sz (hrc.T β ρ hR.eb.ext)
 rw [<- htl] at hs1 hs2
 refine roundIn_of_wpIn (F:=Fence.wide) (n:=0) trivial ?_
 obtain ⟨xa,hxa⟩:∃ xa:Cx,xa = { x with lr:=some { r with fix:=some .ready },rl:=some r.l }:=⟨_,rfl⟩
 have hRa:Rel xa ρ β { tm:=setPs D.T (D.ps.zip ((args.map fun y=>rs [] (ev x.gl.length σ y)).map fun s=>({ g:=[],s:=s }:SV))),hp:=σ.hp,rb:=σ.rb } { tmps:=tms,defers:=[] } w:=by
  subst hxa
  refine hR.into ⟨rfl,rfl,rfl,rfl,rfl,rfl⟩ rfl hR.eb (by rw [hs1]; exact setPs_len.symm) hs2 ⟨fun r' hr'=>?_,hR.df.ds,trivial,fun _=>rfl⟩
  simp only [Option.some.injEq] at hr'
  subst hr'
  exact ⟨hN,hrec⟩
 have hEa:∀ y:Cx,EOk P Φ y kb.E:=fun y=>EOk.nil hEb
 have hFa:Fresh β c1:=hF.le (by omega)
 have hka:CodeOk P Φ xa ρ D.asg (exec P H xa.gh xa.ng kb D.asg):=by
  subst hxa
  exact exec_ok (x:={ x with lr:=some { r with fix:=some .ready },rl:=some r.l }) hH hG kb hxb hLb (hEa _) D.asg ρ
 have hka2:D.asg.wpIn (Fence.wide.inRound r.l) 0 P (Exit.then (fun a₁ w₁=>∃ w₂,(Instr.beginRound r.l).run P w₁ = .ok () w₂ /\ D.bd.wpIn (Fence.wide.inRound r.l) 0 P (roundPost P r.l fun
    | .returned v,w''=>next (a.put dst v) w''
    | .panicked chain,w''=>Q (.panic chain) a w''
    | .outgrown,_=>LetsOut Q) a₁ w₂) (fun _ _ _=>False)) { tmps:=tms,defers:=[] } w:=by
  have:=hka _ _ _ Oa _ (by subst hxa; exact g3) hg3 β _ w hRa hFa (Exit.then (fun a₁ w₁=>∃ w₂,(Instr.beginRound r.l).run P w₁ = .ok () w₂ /\ D.bd.wpIn (Fence.wide.inRound r.l) 0 P (roundPost P r.l fun
    | .returned v,w''=>next (a.put dst v) w''
    | .panicked chain,w''=>Q (.panic chain) a w''
    | .outgrown,_=>LetsOut Q) a₁ w₂) (fun _ _ _=>False)) (fun e a1 w1 K hk hO=>?_)
  ·subst hxa; exact this
  have hOa:∃ q,Oa = [(.n,q,sa)]:=by
   unfold onlyN at hsa
   split at hsa
   ·simp only [Option.some.injEq] at hsa; subst hsa; exact ⟨_,rfl⟩
   ·cases hsa
  obtain ⟨q0,rfl⟩:=hOa
  obtain ⟨_,q1,s1,β1,hK1,hE1,hR1,hF1⟩:=hO
  have hKn:K = .n /\ s1 = sa:=by
   unfold getK at hK1
   split at hK1
   ·rename_i he
    simp only [Option.some.injEq,Prod.mk.injEq] at hK1
    exact ⟨Kd.eq_sound he,hK1.2.symm⟩
   ·simp [getK] at hK1
  obtain ⟨rfl,rfl⟩:=hKn
  have hen:=kdOf_n hk
  subst hen
  have hrec1:w1.heap[r.l]? = some (.loop { r.rc with state:=.ready,pending:=none }):=by
   have:=(hR1.df.rc { r with fix:=some .ready } (by rw [hxa])).2
   exact this
  have hbr:=run_beginRound (P:=P) hrec1 rfl
  refine ⟨_,hbr,?_⟩
  obtain ⟨xb,hxbd⟩:∃ xb:Cx,xb = { x with lr:=some { r with fix:=some .busy },rl:=some r.l }:=⟨_,rfl⟩
  have hd1:a1.defers = []:=hR1.df.nm (by rw [hxa]; rfl)
  have hlt1:=(Array.getElem?_eq_some_iff.1 hrec1).1
  have hRb:Rel xb ρ β1 { s1 with js:={} } a1 (w1.putObj r.l (.loop { r.rc with state:=.busy,pending:=none })):=by
   refine hR1.putObj (y:=xb) (a':=a1) (by rw [hxa]; exact hN) hrec1 rfl rfl (by rw [hxa,hxbd]; exact ⟨rfl,rfl,rfl,rfl,rfl,rfl,rfl⟩) rfl ?_
   rw [hd1,hxbd]
   refine ⟨fun r' hr'=>?_,fun E hE=>?_,trivial,fun _=>rfl⟩
   ·simp only [Option.some.injEq] at hr'
    subst hr'
    exact ⟨hN,World.putObj_heap_same hlt1⟩
   ·obtain ⟨e1,e2⟩:=hR1.df.ds E (by rw [hxa]; exact hE)
    refine ⟨by rw [hxa] at e1; exact e1,(World.putObj_heap_other (fun e=>?_)).trans e2⟩
    subst e
    rw [hrec1] at e2
    cases e2
  have hkb:CodeOk P Φ xb ρ D.bd (exec P H xb.gh xb.ng kb D.bd):=by
   subst hxbd
   exact exec_ok (x:={ x with lr:=some { r with fix:=some .busy },rl:=some r.l }) hH hG kb hxb hLb (hEa _) D.bd ρ
  have:=hkb _ _ _ Ob _ (by subst hxbd; exact g7) hg7 β1 a1 _ hRb hF1 (roundPost P r.l fun
    | .returned v,w''=>next (a.put dst v) w''
    | .panicked chain,w''=>Q (.panic chain) a w''
    | .outgrown,_=>LetsOut Q) (fun e3 a3 w3 K3 hk3 hO3=>?_)
  ·subst hxbd; exact this
  obtain ⟨hO3a,q3,s3,β3,hK3,hE3,hR3,hF3⟩:=hO3
  have hq3:Gd.d ρ q3 = true:=(hO3a _ _ _ hK3).2 rfl
  have hrec3:w3.heap[r.l]? = some (.loop { r.rc with state:=.busy,pending:=none }):=by
   have:=(hR3.df.rc { r with fix:=some .busy } (by rw [hxbd])).2
   exact this
  have hlt3:=(Array.getElem?_eq_some_iff.1 hrec3).1
  have hEE:Ext β β3:=hE1.trans hE3
  have hfin:∀ (res:Bool) (js:Js) (o':Loop),yJs D.jl K3 = some (res,js) -> r.at (js.b.d ρ) (js.a.d ρ) = o' -> next (a.put dst (.bool res)) (w3.putObj r.l (.loop o')):=fun res js o' hyj hat'=>by
   have hone:∀ p,p ∈ l -> Gd.d ρ p.1 = true -> Rel x ρ β3 p.2 (a.put dst (.bool res)) (w3.putObj r.l (.loop o')):=fun p hp hpq=>by
    obtain ⟨K',s',e1,e2⟩:=ho1 p hp
    have hget:=distO_get hdist e1
    have hKK:K' = K3:=(hO3a _ _ _ hget).1 hpq
    subst hKK
    rw [hK3] at hget
    simp only [Option.some.injEq,Prod.mk.injEq] at hget
    obtain ⟨_,rfl⟩:=hget
    unfold yOne at e2
    rw [hyj] at e2
    simp only at e2
    split at e2
    ·rename_i tm' htm
     simp only [Option.some.injEq] at e2
     rw [<- e2]
     have hmv:Mv (knY D.lid x.gl.length σ.hp) β β3:=⟨fun i r hi hr=>hr.elim (hEE.at hi) fun h=>by
      unfold knY at h
      rw [Bool.or_eq_true] at h
      rcases h with h | h
      ·obtain ⟨q,hq1,hq2,_⟩:=hrc.lid
       have e0:i = D.lid:=by simpa using h
       subst e0
       have e1:=hR.eb _ _ hq1 (.inl hq2)
       rw [hi] at e1
       cases e1
       exact hEE.at hi hq2
      ·exact knN_keep hR hEE i r h hi,(Mv.of hR.bo (ExtP.refl (fun _=>true) β)).sq⟩
     obtain ⟨t1,t2⟩:=slot_put (v:=.bool res) (a:=a) (tm:=σ.tm.map (SV.jk (knY D.lid x.gl.length σ.hp))) (dst:=dst) (by rw [hR.size]; simp) (getD_map_jk hmv hR.slot) htm ⟨fun _=>⟨_,rfl,rfl⟩,fun h=>by cases h⟩
     have hR4:=hR3.putObj (y:=xb) (js:={}) (a':=a3) (o':=.loop { r.rc with state:=.busy,pending:=none }) (by rw [hxbd]; exact hN) hrec3 rfl rfl ⟨rfl,rfl,rfl,rfl,rfl,rfl,rfl⟩ rfl (by
      have hd3:a3.defers = []:=hR3.df.nm (by rw [hxbd]; rfl)
      rw [hd3]
      refine ⟨fun r' hr'=>⟨(hR3.df.rc r' hr').1,?_⟩,fun E hE=>⟨(hR3.df.ds E hE).1,?_⟩,trivial,fun _=>rfl⟩
      ·rw [hxbd] at hr'
       simp only [Option.some.injEq] at hr'
       subst hr'
       exact World.putObj_heap_same hlt3
      ·have e2:=(hR3.df.ds E hE).2
       exact (World.putObj_heap_other (fun e=>by subst e; rw [hrec3] at e2; cases e2)).trans e2)
     have hR5:Rel x ρ β3 { tm:=tm',hp:=s3.hp,rb:=s3.rb,js:=js } (a.put dst (.bool res)) (w3.putObj r.l (.loop o')):=by
      have hR6:Rel xb ρ β3 { s3 with js:={} } { a3 with defers:=[] } (w3.putObj r.l (.loop o')) \/ True:=.inr trivial
      have hc:=putObj_cell (o':=.loop o') hrec3 rfl rfl
      have e:x.gh = xb.gh:=by rw [hxbd]; rfl
      refine ⟨t1,t2,⟨fun r' hr'=>?_,fun E hE=>?_,by rw [(put_tmps a _ _).1,hdl]; trivial,fun _=>by rw [(put_tmps a _ _).1,hdl]⟩,fun id b hb hbg=>blkMt_cells hc (hR3.hm id b hb hbg),by rw [e]; exact fun id b hb hbg=>blkMt_cells hc (hR3.gm id b hb hbg),by rw [e]; exact hR3.gro,?_,?_,?_,?_,?_⟩
      ·rw [hrc.lr] at hr'
       simp only [Option.some.injEq] at hr'
       subst hr'
       exact ⟨hN,by rw [World.putObj_heap_same hlt3,hat']⟩
      ·obtain ⟨d1,d2⟩:=hR3.df.ds E (by rw [hxbd]; exact hE)
       refine ⟨by rw [hxbd] at d1; exact d1,(World.putObj_heap_other (fun e=>?_)).trans d2⟩
       subst e
       rw [hrec3] at d2
       cases d2
      ·have:=hR3.bo
       rw [hxbd] at this
       exact betaOk_cells (fun a=>(hc a).1) (by rw [World.putObj_size]; exact Nat.le_refl _) this
      ·have:=hR3.kp
       rw [hxbd] at this
       exact putObj_keep this hN hrec3 rfl rfl
      ·have:=hR3.gl; rw [hxbd] at this; exact this
      ·have:=hR3.ra; rw [hxbd] at this; exact this
      ·have:=hR3.eb; rw [hxbd] at this; exact this
     exact hR5
    ·cases e2
   have hF3':Fresh β3 c9:=hF3.le (by omega)
   obtain ⟨β4,f1,f2,f3⟩:=yJoin_ok hx l g10 hg10 (by
    obtain ⟨s',hs'⟩:=ho2 _ _ _ (getK_mem hK3)
    exact ⟨(q3,s'),hs',hq3⟩) hone hF3'
   exact hn β4 _ _ (hEE.trans f1) f2 f3
  have hyn:∀ c0:Code,kdJ c0 = some K3 -> (K3 ≠ .n) -> ∃ js:Js,yJs D.jl K3 = some (false,js) /\ ∃ c1,kdJ c1 = some K3 /\ r.at (js.b.d ρ) (js.a.d ρ) = { r.rc with state:=.done,pending:=some c1 }:=fun c0 hc0 hne=>by
   obtain ⟨s',hs'⟩:=ho2 _ _ _ (getK_mem hK3)
   obtain ⟨K',s2,e1,e2⟩:=ho1 _ hs'
   have hget:=distO_get hdist e1
   have hKK:K' = K3:=(hO3a _ _ _ hget).1 hq3
   subst hKK
   unfold yOne at e2
   cases hyj:yJs D.jl K' with
   | none=>rw [hyj] at e2; cases e2
   | some y =>
    obtain ⟨res,js⟩:=y
    obtain ⟨rfl,j,rfl,hj⟩:=yJs_spec hyj hne
    exact ⟨_,rfl,pickJ D.jl j,hj,by unfold LpRec.at; rw [hrc.fix,hrc.jl]; rfl⟩
  cases e3 with
  | normal =>
   simp only [kdOf,Option.some.injEq] at hk3
   subst hk3
   exact ⟨_,_,run_endRound none hrec3,hfin true {} _ rfl (by unfold LpRec.at; rw [hrc.fix]; rfl)⟩
  | ret =>
   simp only [kdOf,Option.some.injEq] at hk3
   subst hk3
   obtain ⟨js,e1,c1,e2,e3⟩:=hyn .ret rfl (by simp)
   rw [kdJ_r e2] at e3
   exact ⟨_,_,run_endRound (some .ret) hrec3,hfin false js _ e1 e3⟩
  | exit id =>
   simp only [kdOf,Option.some.injEq] at hk3
   subst hk3
   obtain ⟨js,e1,c1,e2,e3⟩:=hyn (.exit id) rfl (by simp)
   rw [kdJ_x e2] at e3
   exact ⟨_,_,run_endRound (some (.exit id)) hrec3,hfin false js _ e1 e3⟩
  | goto t=>simp [kdOf] at hk3
  | panic ch=>simp [kdOf] at hk3
  | outgrown=>simp [kdOf] at hk3
 exact hka2
end
end Go.Proofs.YtfgbfdlacnihkaaGreatDoor.Sx
namespace Go.Proofs.YtfgbfdlacnihkaaGreatDoor.Sx
open Go

def isYl (lid ng:Nat) (σ:St) (o:Oper):Option (List Operand) :=
 match o with
 | ⟨_,.call ⟨.value (.tmp t),args,_⟩,_,_,_,none⟩=>match ev ng σ (.tmp t) with
  | { g:=[],s:=.one false [.fn [] (some (n,[(i,0)]))] }=>if n == yieldN && i == lid then some args.toList else none
  | _=>none
 | _=>none
theorem isYl_spec {lid ng:Nat} {σ:St} {o:Oper} {l:List Operand} (h:isYl lid ng σ o = some l):∃ dst t args at' ty pos after,o = ⟨dst,.call ⟨.value (.tmp t),args,at'⟩,ty,pos,after,none⟩ /\ l = args.toList /\
  ev ng σ (.tmp t) = { g:=[],s:=.one false [.fn [] (some (yieldN,[(lid,0)]))] }:=by
 unfold isYl at h
 split at h
 ·rename_i dst t args at' ty pos after
  split at h
  ·rename_i n i hev
   split at h
   ·rename_i hc
    simp only [Bool.and_eq_true,beq_iff_eq] at hc
    obtain ⟨rfl,rfl⟩:=hc
    simp only [Option.some.injEq] at h
    exact ⟨dst,t,args,at',ty,pos,after,rfl,h.symm,hev⟩
   ·cases h
  ·cases h
 ·cases h
def regY (P:Program) (H:Hnd) (gl:Gl) (kb:Ctl) (keep:Kp) (D:RfD) (ops:Array Oper):List Oper -> St -> M St
 | [],σ=>pure σ
 | o :: l,σ=>match isYl D.lid gl.length σ o with
  | some args=>do
   let σ' <- M.mono (yS P H gl kb keep D σ o.dst args)
   regY P H gl kb keep D ops l σ'
  | none=>do
   let σ' <- opS P H (ghOf gl 0) gl.length ops o σ
   regY P H gl kb keep D ops l σ'
def callT (o:Oper):Bool:=match o.op with
 | .call ⟨.value (.tmp _),_,_⟩=>true
 | _=>false
def yE (P:Program) (H:Hnd) (gl:Gl) (kb:Ctl) (keep:Kp) (D:RfD):XE :=
 { rg:=fun ops draw s=>if !draw && (ops.toList.any callT && noDef ops.toList) then some (regY P H gl kb keep D ops ops.toList s) else none }

section
variable {P:Program} {Φ:Funs} {H:Hnd} {x:Cx}
theorem yield_val {D:RfD} {r:LpRec} (hrc:RcOk x D r) {ρ:Env} {β:Beta} {σ:St} {a:Act} {w:World} (hR:Rel x ρ β σ a w) {t:Nat} (h:ev x.ng σ (.tmp t) = { g:=[],s:=.one false [.fn [] (some (yieldN,[(D.lid,0)]))] }):a.eval (.tmp t) = .func (.yield r.l) #[] #[]:=by
 have hv:=(ev_mt hR (.tmp t))
 rw [h] at hv
 have hm:=mt_cell (s:=.one false [.fn [] (some (yieldN,[(D.lid,0)]))]) rfl (hv.1 rfl)
 have hm:fvMt β (some (yieldN,[(D.lid,0)])) (a.eval (.tmp t)):=hm
 obtain ⟨vs,h1,h2⟩:=hm
 obtain ⟨q,hq,hrow,hb⟩:=hrc.lid
 have hq':=hR.eb.at hq hrow
 match vs,h2 with
 | [v],⟨⟨q2,hq2,hv2⟩,_⟩ =>
  rw [hq'] at hq2
  cases hq2
  rw [h1,hv2]
  unfold fvVal
  rw [if_pos rfl]
  simp only
  rw [hb]
theorem regY_sound (hH:HOk P Φ x.gl H) (hG:∀ w,Keep x.R x.w0 w -> Laid x.gl w) {kb:Ctl} (hxb:GrOk x kb.keep) (hLb:LoopsOk Φ kb) (hEb:kb.E = {}) {keep:Kp} (hx:GrOk x keep) {D:RfD} {r:LpRec} (hrc:RcOk x D r) {ρ:Env} {ops:Array Oper} {Q:Exit -> Act -> World -> Prop} (hQ:¬ LetsOut Q) :
  ∀ (l:List Oper) {σ σ':St} {c c':Ctr} {out:List Em},noDef l = true -> regY P H x.gl kb keep D ops l σ c = some (σ',c',out) -> Good Φ ρ out -> ∀ {β:Beta} {a:Act} {w:World},Rel x ρ β σ a w -> Fresh β c ->
   (∀ β' a' w',Ext β β' -> Rel x ρ β' σ' a' w' -> Fresh β' c' -> Q .normal a' w') -> wpListIn (FR none) 0 P ops Q l a w
 | [],σ,σ',c,c',out,_,h,hg,β,a,w,hR,hF,hn=>by
  have he:=M.pure_inv h
  simp only [Prod.mk.injEq] at he
  obtain ⟨rfl,rfl,rfl⟩:=he
  exact hn β a w (Ext.refl β) hR hF
 | o :: l,σ,σ',c,c',out,hd,h,hg,β,a,w,hR,hF,hn=>by
  have hd1:=noDef_spec hd (o:=o) (by simp)
  have hd2:noDef l = true:=by simp only [noDef,List.all_cons,Bool.and_eq_true] at hd; exact hd.2
  unfold regY at h
  cases hy:isYl D.lid x.gl.length σ o with
  | none =>
   rw [hy] at h
   simp only at h
   obtain ⟨σ1,c1,o1,c2,o2,y,h1,h2,he⟩:=M.bind_inv h
   simp only [Prod.mk.injEq] at he
   obtain ⟨rfl,rfl,rfl⟩:=he
   rw [Good.append] at hg
   have hop:=opS_sound hH hG h1 hg.1 hR hF (wpListIn (FR none) 0 P ops Q l) Q fun β' a' w' he' hR' hF' =>
    regY_sound hH hG hxb hLb hEb hx hrc hQ l hd2 h2 hg.2 hR' hF' fun β'' a'' w'' he'' hR'' hF''=>hn β'' a'' w'' (he'.trans he'') hR'' hF''
   unfold wpListIn
   split
   ·rename_i hw
    rw [if_pos hw] at hop
    exact wpIn_of_wp hd1 hop
   ·rename_i hw
    rw [if_neg hw] at hop
    exact ⟨fun f _=>FR_fn none f,hop⟩
  | some args =>
   rw [hy] at h
   simp only at h
   obtain ⟨σ1,c1,o1,c2,o2,y,h1,h2,he⟩:=M.bind_inv h
   simp only [Prod.mk.injEq] at he
   obtain ⟨rfl,rfl,rfl⟩:=he
   rw [Good.append] at hg
   obtain ⟨dst,t,args',at',ty,pos,after,rfl,rfl,hev⟩:=isYl_spec hy
   have hval:=yield_val hrc hR hev
   obtain ⟨hrun,hround⟩:=yS_ok hH hG hxb hLb hEb hx hrc (mono_inv h1).1 hg.1 hR hF (wpListIn (FR none) 0 P ops Q l) Q fun β' a' w' he' hR' hF' =>
    regY_sound hH hG hxb hLb hEb hx hrc hQ l hd2 h2 hg.2 hR' hF' fun β'' a'' w'' he'' hR'' hF''=>hn β'' a'' w'' (he'.trans he'') hR'' hF''
   have hargs:(args'.toList.map a.eval).toArray = args'.map a.eval:=by
    apply Array.toList_inj.1; simp
   rw [hargs] at hrun hround
   unfold wpListIn
   rw [if_pos (wanted_none rfl _)]
   refine ⟨fun f _=>FR_fn none f,?_⟩
   rw [Oper.semAt_eq _ _ _ hd1]
   have hex:(execOp a.eval ⟨dst,.call ⟨.value (.tmp t),args',at'⟩,ty,pos,after,none⟩).run P w = .ok (.round r.l r.rc.fn ((r.rc.params.zip (args'.map a.eval)).foldl (fun tmps (t,v)=>tmps.setIfInBounds t v) r.rc.tmps) D.asg D.bd) w:=by
    rw [<- hrun]
    simp [execOp,resolve,hval,Deferred.ofValue,invoke]
   rw [hex,Oper.uponIn_round]
   exact ⟨fun hh=>(by cases hh),hround⟩
theorem yE_ok (hH:HOk P Φ x.gl H) (hG:∀ w,Keep x.R x.w0 w -> Laid x.gl w) {kb:Ctl} (hxb:GrOk x kb.keep) (hLb:LoopsOk Φ kb) (hEb:kb.E = {}) {keep:Kp} (hx:GrOk x keep) {D:RfD} {r:LpRec} (hrc:RcOk x D r):EOk P Φ x (yE P H x.gl kb keep D):=by
 refine ⟨fun ρ g ps asg bd s c c' O out hm=>by simp [yE,M.fail] at hm,fun ρ ops draw s m hm c c' s' out hrun hg β a w hR hF Q hQ id=>?_⟩
 unfold yE at hm
 simp only at hm
 split at hm
 ·rename_i hc
  simp only [Bool.and_eq_true,Bool.not_eq_true'] at hc
  simp only [Option.some.injEq] at hm
  subst hm
  obtain ⟨rfl,_,hnd⟩:=hc
  rw [hrc.rl]
  have hno:¬ LetsOut (fun (e:Exit) (a:Act) (w:World)=>e = .normal /\ Q .normal a w):=fun ⟨_,_,h⟩=>by cases h.1
  exact wpIn_mono (wpIn_region_list (regY_sound hH hG hxb hLb hEb hx hrc hno ops.toList hnd hrun hg hR hF fun β' a' w' he' hR' hF'=>⟨rfl,hQ β' a' w' he' hR' hF'⟩)) fun e a w ⟨e1,e2⟩=>by rw [e1]; exact e2
 ·cases hm
end
end Go.Proofs.YtfgbfdlacnihkaaGreatDoor.Sx
namespace Go.Proofs.YtfgbfdlacnihkaaGreatDoor.Sx
open Go

def exitIds:Code -> List Nat
 | .exit id=>[id]
 | .seq a b=>exitIds a ++ exitIds b
 | .cond _ a b=>exitIds a ++ exitIds b
 | .block id a=>(exitIds a).filter fun i=>!(i == id)
 | .loop a=>exitIds a
 | _=>[]
def hasRet:Code -> Bool
 | .ret=>true
 | .seq a b=>hasRet a || hasRet b
 | .cond _ a b=>hasRet a || hasRet b
 | .block _ a=>hasRet a
 | .loop a=>hasRet a
 | _=>false
def jumpsOf (bd:Code):List Code:=(if hasRet bd then [.ret] else []) ++ (dedup (exitIds bd)).map .exit
def kdD (c:Code):Kd:=(kdJ c).getD .n
def goJ (ja:A) (s:St):List Code -> Nat -> Gd -> M Outs
 | [],_,_=>pure []
 | [c],_,acc=>pure [(kdD c,acc,s)]
 | c :: d :: l,i,acc=>do
  let e <- mkCm .leq ja (.c (Int.ofNat i))
  let r <- goJ ja s (d :: l) (i + 1) (acc ++ [(e,false)])
  pure ((kdD c,acc ++ [(e,true)],s) :: r)
def jlOk:List Code -> Bool
 | []=>true
 | c :: l=>(kdJ c).isSome && (l.all fun d=>!((kdD c).eq (kdD d))) && jlOk l
theorem pickJ_mem:∀ {l:List Code} {n:Nat},l ≠ [] -> pickJ l n ∈ l
 | [],_,h=>absurd rfl h
 | [c],n,_=>by cases n <;> simp [pickJ]
 | c :: d :: l,0,_=>by simp [pickJ]
 | c :: d :: l,n + 1,_=>by
  have:=pickJ_mem (l:=d :: l) (n:=n) (by simp)
  simp only [pickJ]
  exact List.mem_cons.2 (.inr this)
theorem goJ_ok {Φ:Funs} {ρ:Env} {ja:A} {s:St}:∀ {l:List Code} {i:Nat} {acc:Gd} {O:Outs} {c c':Ctr} {out:List Em},goJ ja s l i acc c = some (O,c',out) -> Good Φ ρ out -> l ≠ [] -> jlOk l = true -> (Gd.d ρ acc = true -> i <= (ja.d ρ).toNat \/ i = 0) ->
  (∀ k q t,getK k O = some (q,t) -> t = s /\ (Gd.d ρ q = true ↔ Gd.d ρ acc = true /\ kdD (pickJ l ((ja.d ρ).toNat - i)) = k)) /\ ∀ d,d ∈ l -> ∃ q,getK (kdD d) O = some (q,s)
 | [],_,_,_,_,_,_,_,_,hne,_,_=>absurd rfl hne
 | [d],i,acc,O,c,c',out,h,hg,_,_,_=>by
  have he:=M.pure_inv h
  simp only [Prod.mk.injEq] at he
  obtain ⟨rfl,rfl,rfl⟩:=he
  have hp:∀ m,pickJ [d] m = d:=fun m=>by cases m <;> rfl
  refine ⟨fun k q t hk=>?_,fun d' hd'=>?_⟩
  ·unfold getK at hk
   split at hk
   ·rename_i he
    simp only [Option.some.injEq,Prod.mk.injEq] at hk
    obtain ⟨rfl,rfl⟩:=hk
    rw [hp,Kd.eq_sound he]
    simp
   ·simp [getK] at hk
  ·rw [List.mem_singleton.1 hd']
   exact ⟨acc,by simp [getK,Kd.eq_refl]⟩
 | d :: d2 :: l,i,acc,O,c,c',out,h,hg,_,hj,hi=>by
  unfold goJ at h
  obtain ⟨e,c1,o1,c2,o2,y,g1,g2,he⟩:=M.bind_inv h
  simp only [Prod.mk.injEq] at he
  obtain ⟨rfl,rfl,rfl⟩:=he
  obtain ⟨r,c3,o3,c4,o4,y,g3,g4,he⟩:=M.bind_inv g2
  simp only [Prod.mk.injEq] at he
  obtain ⟨rfl,rfl,rfl⟩:=he
  have he:=M.pure_inv g4
  simp only [Prod.mk.injEq] at he
  obtain ⟨rfl,rfl,rfl⟩:=he
  simp only [Good.append] at hg
  have hev:e.d ρ = decide (ja.d ρ <= (i:Int)):=mkCm_snd _ _ _ _ _ _ _ g1 hg.1
  have hj':=hj
  simp only [jlOk,Bool.and_eq_true] at hj'
  obtain ⟨⟨hj1,hj2⟩,hj3⟩:=hj'
  have hj3':jlOk (d2 :: l) = true:=by simp only [jlOk,Bool.and_eq_true]; exact hj3
  obtain ⟨i1,i2⟩:=goJ_ok g3 hg.2.1 (by simp) hj3' (fun ha=>by
   simp only [Gd.d_append,Gd.d_cons,Gd.d_nil,Bool.and_true,Bool.and_eq_true,beq_iff_eq] at ha
   have h2:=ha.2
   rw [hev] at h2
   simp only [decide_eq_false_iff_not] at h2
   left
   omega)
  have hdis:∀ d',d' ∈ d2 :: l -> kdD d ≠ kdD d':=fun d' hd' e=>by
   have:=(List.all_eq_true.1 hj2) d' hd'
   rw [e,Kd.eq_refl] at this
   cases this
  have hpick0:(ja.d ρ <= (i:Int)) -> kdD (pickJ (d :: d2 :: l) ((ja.d ρ).toNat - i)) = kdD d:=fun h=>by
   rw [show (ja.d ρ).toNat - i = 0 by omega]; rfl
  have hpick1:¬ (ja.d ρ <= (i:Int)) -> pickJ (d :: d2 :: l) ((ja.d ρ).toNat - i) = pickJ (d2 :: l) ((ja.d ρ).toNat - (i + 1)):=fun h=>by
   rw [show (ja.d ρ).toNat - i = ((ja.d ρ).toNat - (i + 1)) + 1 by omega]; rfl
  refine ⟨fun k q t hk=>?_,fun d' hd'=>?_⟩
  ·unfold getK at hk
   split at hk
   ·rename_i he
    simp only [Option.some.injEq,Prod.mk.injEq] at hk
    obtain ⟨rfl,rfl⟩:=hk
    refine ⟨rfl,?_⟩
    have hkk:=Kd.eq_sound he
    subst hkk
    simp only [Gd.d_append,Gd.d_cons,Gd.d_nil,Bool.and_true,Bool.and_eq_true,beq_iff_eq,hev,decide_eq_true_eq]
    constructor
    ·rintro ⟨h1,h2⟩; exact ⟨h1,hpick0 h2⟩
    ·rintro ⟨h1,h2⟩
     refine ⟨h1,?_⟩
     by_cases hle:ja.d ρ <= (i:Int)
     ·exact hle
     ·rw [hpick1 hle] at h2
      exact absurd h2.symm (hdis _ (pickJ_mem (by simp)))
   ·rename_i hne
    obtain ⟨e1,e2⟩:=i1 k q t hk
    refine ⟨e1,e2.trans ?_⟩
    simp only [Gd.d_append,Gd.d_cons,Gd.d_nil,Bool.and_true,Bool.and_eq_true,beq_iff_eq,hev,decide_eq_false_iff_not]
    constructor
    ·rintro ⟨⟨h1,h2⟩,h3⟩; exact ⟨h1,by rw [hpick1 h2]; exact h3⟩
    ·rintro ⟨h1,h2⟩
     by_cases hle:ja.d ρ <= (i:Int)
     ·rw [hpick0 hle] at h2
      exact absurd (by rw [h2]; exact Kd.eq_refl _) hne
     ·rw [hpick1 hle] at h2
      exact ⟨⟨h1,hle⟩,h2⟩
  ·unfold getK
   by_cases hk:(kdD d').eq (kdD d) = true
   ·rw [if_pos hk]; exact ⟨_,rfl⟩
   ·rw [if_neg hk]
    rcases List.mem_cons.1 hd' with e | hd'
    ·subst e; exact absurd (Kd.eq_refl _) hk
    ·exact i2 d' hd'
def isTt:B -> Bool
 | .c true=>true
 | _=>false
def rfOuts (jl:List Code) (js:Js) (s:St):M Outs :=
 if jl.isEmpty || isTt js.b then do
  let _ <- oblige js.b
  pure [(.n,[],s)]
 else do
  let r <- goJ js.a s jl 0 [(js.b,false)]
  pure ((.n,[(js.b,true)],s) :: r)
theorem rfOuts_ok {Φ:Funs} {ρ:Env} {jl:List Code} {js:Js} {s:St} {O:Outs} {c c':Ctr} {out:List Em} (h:rfOuts jl js s c = some (O,c',out)) (hg:Good Φ ρ out) (hj:jlOk jl = true) {K:Kd} (hK:K = if js.b.d ρ then .n else kdD (pickJ jl (js.a.d ρ).toNat)) :
  (∀ k q t,getK k O = some (q,t) -> (Gd.d ρ q = true ↔ k = K)) /\ ∃ q,getK K O = some (q,s):=by
 unfold rfOuts at h
 split at h
 ·obtain ⟨u,c1,o1,c2,o2,y,g1,g2,he⟩:=M.bind_inv h
  simp only [Prod.mk.injEq] at he
  obtain ⟨rfl,rfl,rfl⟩:=he
  have he:=M.pure_inv g2
  simp only [Prod.mk.injEq] at he
  obtain ⟨rfl,rfl,rfl⟩:=he
  rw [Good.append] at hg
  have hb:js.b.d ρ = true:=oblige_snd _ _ _ _ _ g1 hg.1
  rw [hb,if_pos rfl] at hK
  subst hK
  refine ⟨fun k q t hk=>?_,[],by simp [getK,Kd.eq]⟩
  unfold getK at hk
  split at hk
  ·rename_i he
   simp only [Option.some.injEq,Prod.mk.injEq] at hk
   obtain ⟨rfl,rfl⟩:=hk
   simp [Kd.eq_sound he]
  ·simp [getK] at hk
 ·rename_i hc
  simp only [Bool.or_eq_true,List.isEmpty_iff,not_or] at hc
  obtain ⟨r,c1,o1,c2,o2,y,g1,g2,he⟩:=M.bind_inv h
  simp only [Prod.mk.injEq] at he
  obtain ⟨rfl,rfl,rfl⟩:=he
  have he:=M.pure_inv g2
  simp only [Prod.mk.injEq] at he
  obtain ⟨rfl,rfl,rfl⟩:=he
  rw [Good.append] at hg
  obtain ⟨i1,i2⟩:=goJ_ok g1 hg.1 hc.1 hj (fun _=>.inr rfl)
  rw [Nat.sub_zero] at i1
  have hnn:∀ d,d ∈ jl -> kdD d ≠ .n:=fun d hd e=>by
   have key:∀ {l:List Code},jlOk l = true -> d ∈ l -> (kdJ d).isSome = true:=by
    intro l
    induction l with
    | nil=>intro _ h; cases h
    | cons a l ih =>
     intro h hm
     simp only [jlOk,Bool.and_eq_true] at h
     rcases List.mem_cons.1 hm with rfl | hm
     ·exact h.1.1
     ·exact ih h.2 hm
   have h1:=key hj hd
   unfold kdD at e
   cases d <;> simp [kdJ] at h1 e
  have hpk:=hnn _ (pickJ_mem (n:=(js.a.d ρ).toNat) hc.1)
  cases hb:js.b.d ρ with
  | true =>
   rw [hb,if_pos rfl] at hK
   subst hK
   refine ⟨fun k q t hk=>?_,_,by simp [getK,Kd.eq]; rfl⟩
   unfold getK at hk
   split at hk
   ·rename_i he
    simp only [Option.some.injEq,Prod.mk.injEq] at hk
    obtain ⟨rfl,rfl⟩:=hk
    simp [Kd.eq_sound he,hb]
   ·rename_i hne
    obtain ⟨_,e2⟩:=i1 k q t hk
    rw [e2]
    simp only [Gd.d_cons,Gd.d_nil,Bool.and_true,hb]
    constructor
    ·rintro ⟨h,_⟩; simp at h
    ·intro e; subst e; exact absurd (Kd.eq_refl _) hne
  | false =>
   rw [hb] at hK
   simp only [Bool.false_eq_true,if_false] at hK
   subst hK
   refine ⟨fun k q t hk=>?_,?_⟩
   ·unfold getK at hk
    split at hk
    ·rename_i he
     simp only [Option.some.injEq,Prod.mk.injEq] at hk
     obtain ⟨rfl,rfl⟩:=hk
     simp only [Gd.d_cons,Gd.d_nil,Bool.and_true,hb]
     constructor
     ·intro h; simp at h
     ·intro e; rw [Kd.eq_sound he] at e; exact absurd e.symm hpk
    ·obtain ⟨_,e2⟩:=i1 k q t hk
     rw [e2]
     simp only [Gd.d_cons,Gd.d_nil,Bool.and_true,hb]
     constructor
     ·rintro ⟨_,h⟩; exact h.symm
     ·intro e; exact ⟨rfl,e.symm⟩
   ·obtain ⟨q,hq⟩:=i2 _ (pickJ_mem (n:=(js.a.d ρ).toNat) hc.1)
    refine ⟨q,?_⟩
    unfold getK
    rw [if_neg (fun e=>hpk (Kd.eq_sound e))]
    exact hq
end Go.Proofs.YtfgbfdlacnihkaaGreatDoor.Sx
