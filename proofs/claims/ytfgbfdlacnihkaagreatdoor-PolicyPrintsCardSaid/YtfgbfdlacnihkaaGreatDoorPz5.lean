/-
  Merged texts (SxS, SxSp, SxMf, SxMg, SxV, SxX). No condition.
-/
import Derived.LoopN
import Derived.Test.YtfgbfdlacnihkaaGreatDoorPz3
import Derived.Test.YtfgbfdlacnihkaaGreatDoorPz4
set_option linter.unusedVariables false
set_option linter.unusedSimpArgs false
namespace Go.Proofs.YtfgbfdlacnihkaaGreatDoor.Sx
open Go

def runD (P:Program) (X:Hnd) (gh:Hl) (ng:Nat) (ops:Array Oper):List Oper -> St -> List DAct -> M (List DAct × St)
 | [],σ,_=>pure ([],σ)
 | o :: l,σ,acc=>do
  let d <- opDm P X gh ng ops o σ acc
  let σ' <- lift (applyD d σ)
  let r <- runD P X gh ng ops l σ' (acc ++ [d])
  pure (d :: r.1,r.2)

def mkAt (M m:Nat):List DAct -> Nat -> Bool
 | [],_=>false
 | d :: l,k=>(d.mkm == some M && m.testBit k) || mkAt M m l (k + 1)
theorem mkAt_spec {M m:Nat}:∀ {l:List DAct} {k:Nat},mkAt M m l k = true -> ∃ i d,l[i]? = some d /\ d.mkm = some M /\ m.testBit (k + i) = true
 | d :: l,k,h=>by
  simp only [mkAt,Bool.or_eq_true,Bool.and_eq_true,beq_iff_eq] at h
  rcases h with h | h
  ·exact ⟨0,d,by simp,h.1,by simpa using h.2⟩
  ·obtain ⟨i,e,h1,h2,h3⟩:=mkAt_spec h
   exact ⟨i + 1,e,by simpa using h1,h2,by rw [show k + (i + 1) = k + 1 + i by omega]; exact h3⟩
def insIn (M m j:Nat):List DAct -> Nat -> Bool
 | [],_=>true
 | d :: l,k=>((insOf d M).isEmpty || (Nat.blt k j && m.testBit k)) && insIn M m j l (k + 1)
theorem insIn_spec {M m j:Nat}:∀ {l:List DAct} {k:Nat},insIn M m j l k = true -> ∀ i d,l[i]? = some d -> insOf d M ≠ [] -> k + i < j /\ m.testBit (k + i) = true
 | [],k,h,i,d,hi,_=>by simp at hi
 | e :: l,k,h,i,d,hi,hne=>by
  simp only [insIn,Bool.and_eq_true,Bool.or_eq_true,List.isEmpty_iff,Nat.blt_eq] at h
  cases i with
  | zero =>
   simp at hi
   subst hi
   rcases h.1 with h1 | h1
   ·exact absurd h1 hne
   ·simpa using h1
  | succ i =>
   have:=insIn_spec h.2 i d (by simpa using hi) hne
   rw [show k + 1 + i = k + (i + 1) by omega] at this
   exact this
def keyNew (M:Nat) (key:ByteArray) (j:Nat):List DAct -> Nat -> Bool
 | [],_=>true
 | d :: l,k=>(k == j || (insOf d M).all fun p=>!(p.1.data.toList == key.data.toList)) && keyNew M key j l (k + 1)
theorem keyNew_spec {M:Nat} {key:ByteArray} {j:Nat}:∀ {l:List DAct} {k:Nat},keyNew M key j l k = true -> ∀ i d,l[i]? = some d -> k + i ≠ j -> ∀ p,p ∈ insOf d M -> p.1 ≠ key
 | [],k,h,i,d,hi,_,_,_=>by simp at hi
 | e :: l,k,h,i,d,hi,hne,p,hp=>by
  simp only [keyNew,Bool.and_eq_true,Bool.or_eq_true,beq_iff_eq,List.all_eq_true,Bool.not_eq_true',beq_eq_false_iff_ne,ne_eq] at h
  cases i with
  | zero =>
   simp at hi
   subst hi
   rcases h.1 with h1 | h1
   ·exact absurd h1 (by simpa using hne)
   ·exact fun e=>h1 p hp (by rw [e])
  | succ i=>exact keyNew_spec h.2 i d (by simpa using hi) (by omega) p hp
def nodupK:MEs -> Bool
 | []=>true
 | (k,_) :: l=>(l.all fun p=>!(p.1.data.toList == k.data.toList)) && nodupK l
theorem nodupK_spec:∀ {l:MEs},nodupK l = true -> (l.map (·.1)).Nodup
 | [],_=>by simp
 | (k,s) :: l,h=>by
  simp only [nodupK,Bool.and_eq_true,List.all_eq_true,Bool.not_eq_true',beq_eq_false_iff_ne,ne_eq] at h
  simp only [List.map_cons,List.nodup_cons]
  refine ⟨fun hm=>?_,nodupK_spec h.2⟩
  obtain ⟨p,hp,he⟩:=List.mem_map.1 hm
  exact h.1 p hp (by rw [he])
def mapsOne (all:List DAct) (m j:Nat) (d:DAct):Bool :=
 (match d.ins with | some (M,k,_)=>mkAt M m all 0 && keyNew M k j all 0 | none=>true) && d.lk.all fun p=>mkAt p.1 m all 0 && insIn p.1 m j all 0 && nodupK p.2
def mapsAll (all:List DAct):List Nat -> List DAct -> Nat -> Bool
 | _,[],_=>true
 | [],_ :: _,_=>false
 | m :: ms,d :: l,j=>mapsOne all m j d && mapsAll all ms l (j + 1)
theorem mapsAll_spec {all:List DAct}:∀ {ms:List Nat} {l:List DAct} {j:Nat},mapsAll all ms l j = true -> ∀ i d,l[i]? = some d -> ∃ m,ms[i]? = some m /\ mapsOne all m (j + i) d = true
 | _,[],j,_,i,d,hi=>by simp at hi
 | [],_ :: _,j,h,_,_,_=>by simp [mapsAll] at h
 | m :: ms,e :: l,j,h,i,d,hi=>by
  simp only [mapsAll,Bool.and_eq_true] at h
  cases i with
  | zero =>
   simp at hi
   subst hi
   exact ⟨m,by simp,by simpa using h.1⟩
  | succ i =>
   obtain ⟨m',h1,h2⟩:=mapsAll_spec h.2 i d (by simpa using hi)
   exact ⟨m',by simpa using h1,by rw [show j + (i + 1) = j + 1 + i by omega]; exact h2⟩
structure MapsAt (ds:List DAct) (L:Nat -> Bool) (i:Nat) (d:DAct):Prop where
 ins:∀ M k s,d.ins = some (M,k,s) -> (∃ m e,ds[m]? = some e /\ e.mkm = some M /\ L m = true) /\ ∀ j e,ds[j]? = some e -> j ≠ i -> ∀ p,p ∈ insOf e M -> p.1 ≠ k
 lk:∀ p,p ∈ d.lk -> (∃ m e,ds[m]? = some e /\ e.mkm = some p.1 /\ L m = true) /\ (∀ j e,ds[j]? = some e -> insOf e p.1 ≠ [] -> j < i /\ L j = true) /\ (p.2.map (·.1)).Nodup
 mak:∀ M,d.mkm = some M -> ∀ j e,ds[j]? = some e -> insOf e M ≠ [] -> L j = false /\ j ≠ i
theorem insOf_ins {d:DAct} {M:Nat} (h:insOf d M ≠ []):∃ k s,d.ins = some (M,k,s):=by
 unfold insOf at h
 split at h
 ·rename_i M' k s hi
  split at h
  ·rename_i he
   simp only [beq_iff_eq] at he
   subst he
   exact ⟨k,s,hi⟩
  ·exact absurd rfl h
 ·exact absurd rfl h

def bEdges (o:Oper):List Nat:=(o.after.toList.filter (Region.binds .any)).map (·.on)
def maskOf (cs:List Nat):List Nat -> Nat
 | []=>0
 | e :: l=>((1 <<< e) ||| cs.getD e 0) ||| maskOf cs l
def masks:List Oper -> List Nat -> List Nat
 | [],cs=>cs
 | o :: l,cs=>masks l (cs ++ [maskOf cs (bEdges o)])
def hasBl (l:Hl) (id:Nat):Bool:=match hpOf l id with | some _=>true | none=>false
def half (d e:DAct):Bool :=
 (match d.dst with | none=>false | some t=>e.rs.contains t || e.dst == some t) || d.bl.any fun p=>e.rb.contains p.1 || hasBl e.bl p.1
def conf (d e:DAct):Bool:=half d e || half e d
def ordOne (m:Nat) (d:DAct):List DAct -> Nat -> Bool
 | [],_=>true
 | e :: l,i=>(Nat.testBit m i || !conf e d) && ordOne m d l (i + 1)
def ordAll:List Nat -> List DAct -> List DAct -> Bool
 | _,_,[]=>true
 | [],_,_ :: _=>false
 | m :: ms,pre,d :: l=>ordOne m d pre 0 && ordAll ms (pre ++ [d]) l
def edgesOk:List Oper -> Nat -> Bool
 | [],_=>true
 | o :: l,j=>(bEdges o).all (fun e=>Nat.blt e j) && edgesOk l (j + 1)
def regD (P:Program) (X:Hnd) (gh:Hl) (ng:Nat) (ops:Array Oper) (σ:St):M St:=do
 let r <- M.mono (runD P X gh ng ops ops.toList σ [])
 if P.follows .mixedOrders && edgesOk ops.toList 0 && (ordAll (masks ops.toList []) [] r.1 && mapsAll r.1 (masks ops.toList []) r.1 0) then pure r.2 else M.fail
def seqMasks:Nat -> Nat -> List Nat
 | 0,_=>[]
 | n + 1,k=>(2 ^ k - 1) :: seqMasks n (k + 1)
theorem seqMasks_get:∀ {n k i:Nat} {m:Nat},(seqMasks n k)[i]? = some m -> m = 2 ^ (k + i) - 1
 | 0,k,i,m,h=>by simp [seqMasks] at h
 | n + 1,k,i,m,h=>by
  cases i with
  | zero=>simp [seqMasks] at h; simp [<- h]
  | succ i =>
   have:=seqMasks_get (n:=n) (k:=k + 1) (i:=i) (m:=m) (by simpa [seqMasks] using h)
   rw [this,show k + 1 + i = k + (i + 1) by omega]
def regM (P:Program) (X:Hnd) (gh:Hl) (ng:Nat) (ops:Array Oper) (σ:St):M St:=do
 let r <- M.mono (runD P X gh ng ops ops.toList σ [])
 if mapsAll r.1 (seqMasks r.1.length 0) r.1 0 then pure r.2 else M.fail
def hasMaps (ops:Array Oper):Bool:=ops.toList.any fun o=>(mapOp o).isSome

theorem maskOf_spec {cs:List Nat} {b:Nat}:∀ {l:List Nat},(maskOf cs l).testBit b = true -> ∃ e,e ∈ l /\ (b = e \/ (cs.getD e 0).testBit b = true)
 | [],h=>by simp [maskOf] at h
 | e :: l,h=>by
  unfold maskOf at h
  rw [Nat.testBit_or,Nat.testBit_or,Bool.or_eq_true,Bool.or_eq_true] at h
  rcases h with (h | h) | h
  ·rw [Nat.testBit_shiftLeft] at h
   simp only [Bool.and_eq_true,decide_eq_true_eq] at h
   have:b - e = 0:=by
    by_cases h0:b - e = 0
    ·exact h0
    ·exfalso
     have h2:=h.2
     rw [Nat.testBit_eq_decide_div_mod_eq] at h2
     have:1 / 2 ^ (b - e) = 0:=Nat.div_eq_of_lt (Nat.one_lt_two_pow h0)
     simp [this] at h2
   exact ⟨e,by simp,.inl (by omega)⟩
  ·exact ⟨e,by simp,.inr h⟩
  ·obtain ⟨e',he,hb⟩:=maskOf_spec h
   exact ⟨e',by simp [he],hb⟩
theorem masks_spec {ops:List Oper} {L:Nat -> Bool} (hL:∀ j o,ops[j]? = some o -> L j = true -> ∀ e,e ∈ bEdges o -> L e = true):∀ {l:List Oper} {cs:List Nat},(∀ i,l[i]? = ops[cs.length + i]?) ->
  (∀ (j m:Nat) (o:Oper),cs[j]? = some m -> ops[j]? = some o -> (∀ e,e ∈ bEdges o -> L e = true) -> ∀ b,m.testBit b = true -> L b = true) ->
  ∀ (j m:Nat) (o:Oper),(masks l cs)[j]? = some m -> ops[j]? = some o -> (∀ e,e ∈ bEdges o -> L e = true) -> ∀ b,m.testBit b = true -> L b = true
 | [],cs,_,h=>h
 | o :: l,cs,hl,h=>by
  unfold masks
  have h0:ops[cs.length]? = some o:=by have:=hl 0; simpa using this.symm
  refine masks_spec hL (fun i=>by have:=hl (i + 1); simp only [List.length_append,List.length_singleton]; rw [show cs.length + 1 + i = cs.length + (i + 1) by omega,<- this]; simp) fun j m oj hj ho he b hb=>?_
  by_cases hlt:j < cs.length
  ·rw [List.getElem?_append_left hlt] at hj
   exact h j m oj hj ho he b hb
  ·rw [List.getElem?_append_right (by omega)] at hj
   have hj0:j = cs.length:=by
    by_cases h1:j - cs.length = 0
    ·omega
    ·rw [List.getElem?_eq_none (by simp; omega)] at hj
     cases hj
   subst hj0
   simp at hj
   subst hj
   rw [h0] at ho
   simp only [Option.some.injEq] at ho
   subst ho
   obtain ⟨e,hm,hb⟩:=maskOf_spec hb
   rcases hb with rfl | hb
   ·exact he _ hm
   ·rw [List.getD_eq_getElem?_getD] at hb
    cases hc:cs[e]? with
    | none=>rw [hc] at hb; simp at hb
    | some me =>
     rw [hc] at hb
     have hle:=(List.getElem?_eq_some_iff.1 hc).1
     have hls:cs.length < ops.length:=(List.getElem?_eq_some_iff.1 h0).1
     have hoe:ops[e]? = some (ops[e]'(by omega)):=List.getElem?_eq_getElem (by omega)
     exact h e me _ hc hoe (hL e _ hoe (he e hm)) b (by simpa using hb)
theorem ordOne_spec {m:Nat} {d:DAct}:∀ {l:List DAct} {k:Nat},ordOne m d l k = true -> ∀ i e,l[i]? = some e -> conf e d = true -> m.testBit (k + i) = true
 | [],k,h,i,e,hi,_=>by simp at hi
 | x :: l,k,h,i,e,hi,hc=>by
  simp only [ordOne,Bool.and_eq_true,Bool.or_eq_true,Bool.not_eq_true'] at h
  cases i with
  | zero =>
   simp at hi
   subst hi
   rcases h.1 with h1 | h1
   ·exact h1
   ·rw [h1] at hc; cases hc
  | succ i =>
   have:=ordOne_spec h.2 i e (by simpa using hi) hc
   rwa [show k + 1 + i = k + (i + 1) by omega] at this
theorem ordAll_spec:∀ {l:List DAct} {ms:List Nat} {pre:List DAct},ordAll ms pre l = true -> ∀ j d,l[j]? = some d -> ∃ m,ms[j]? = some m /\ ∀ i e,i < pre.length + j -> (pre ++ l)[i]? = some e -> conf e d = true -> m.testBit i = true
 | [],ms,pre,h,j,d,hj=>by simp at hj
 | d0 :: l,[],pre,h,j,d,hj=>by simp [ordAll] at h
 | d0 :: l,m :: ms,pre,h,j,d,hj=>by
  simp only [ordAll,Bool.and_eq_true] at h
  cases j with
  | zero =>
   simp at hj
   subst hj
   refine ⟨m,rfl,fun i e hi he hc=>?_⟩
   rw [List.getElem?_append_left (by omega)] at he
   have:=ordOne_spec h.1 i e he hc
   simpa using this
  | succ j =>
   obtain ⟨m',hm,hx⟩:=ordAll_spec h.2 j d (by simpa using hj)
   refine ⟨m',by simpa using hm,fun i e hi he hc=>hx i e (by simp; omega) (by simpa using he) hc⟩
theorem edgesOk_spec:∀ {l:List Oper} {k:Nat},edgesOk l k = true -> ∀ j o,l[j]? = some o -> ∀ e,e ∈ bEdges o -> e < k + j
 | [],k,h,j,o,hj=>by simp at hj
 | x :: l,k,h,j,o,hj=>fun e he=>by
  simp only [edgesOk,Bool.and_eq_true,List.all_eq_true,Nat.blt_eq] at h
  cases j with
  | zero =>
   simp at hj
   subst hj
   exact h.1 e he
  | succ j =>
   have:=edgesOk_spec h.2 j o (by simpa using hj) e he
   omega

theorem conf_symm {d e:DAct}:conf d e = conf e d:=by unfold conf; rw [Bool.or_comm]
theorem half_rs {d e:DAct} {t:Nat} (h:d.dst = some t) (ht:t ∈ e.rs):half d e = true:=by
 unfold half
 rw [h]
 simp [ht]
theorem half_dst {d e:DAct} {t:Nat} (h:d.dst = some t) (ht:e.dst = some t):half d e = true:=by
 unfold half
 rw [h]
 simp [ht]
theorem hpOf_mem:∀ {l:Hl} {id:Nat} {b:Blk},hpOf l id = some b -> (id,b) ∈ l
 | [],_,_,h=>by simp [hpOf] at h
 | (i,c) :: l,id,b,h=>by
  unfold hpOf at h
  split at h
  ·rename_i he
   simp only [beq_iff_eq] at he
   simp only [Option.some.injEq] at h
   subst he; subst h
   simp
  ·simp [hpOf_mem h]
theorem half_rb {d e:DAct} {id:Nat} (h:(hpOf d.bl id).isSome = true) (ht:id ∈ e.rb):half d e = true:=by
 unfold half
 rw [Bool.or_eq_true]
 right
 obtain ⟨b,hb⟩:=Option.isSome_iff_exists.1 h
 rw [List.any_eq_true]
 exact ⟨(id,b),hpOf_mem hb,by simp [ht]⟩
theorem half_bl {d e:DAct} {id:Nat} (h:(hpOf d.bl id).isSome = true) (ht:(hpOf e.bl id).isSome = true):half d e = true:=by
 unfold half
 rw [Bool.or_eq_true]
 right
 obtain ⟨b,hb⟩:=Option.isSome_iff_exists.1 h
 obtain ⟨b',hb'⟩:=Option.isSome_iff_exists.1 ht
 rw [List.any_eq_true]
 exact ⟨(id,b),hpOf_mem hb,by simp [hasBl,hb']⟩

theorem tS_shift {L:Nat -> Bool} {t:Nat}:∀ {l:List DAct} {k:Nat} {b:Option SV},tS L t l (k + 1) b = tS (fun m=>L (m + 1)) t l k b
 | [],_,_=>rfl
 | d :: l,k,b=>by
  unfold tS
  exact tS_shift
theorem hS_shift {L:Nat -> Bool} {id:Nat}:∀ {l:List DAct} {k:Nat} {b:Option Blk},hS L id l (k + 1) b = hS (fun m=>L (m + 1)) id l k b
 | [],_,_=>rfl
 | d :: l,k,b=>by
  unfold hS
  exact hS_shift
theorem tS_cons {L:Nat -> Bool} {t:Nat} {d:DAct} {l:List DAct} {k:Nat} {b:Option SV} (h:L k = true):tS L t (d :: l) k b = tS L t l (k + 1) (if d.dst == some t then some d.sv else b):=by
 simp only [tS,h,Bool.true_and]
theorem hS_cons {L:Nat -> Bool} {id:Nat} {d:DAct} {l:List DAct} {k:Nat} {b:Option Blk} (h:L k = true):hS L id (d :: l) k b = hS L id l (k + 1) (match hpOf d.bl id with | some x=>some x | none=>b):=by
 conv=>lhs; unfold hS
 cases hpOf d.bl id <;> simp [h]
theorem hpOf_append {id:Nat}:∀ {l r:Hl},hpOf (l ++ r) id = match hpOf l id with | some b=>some b | none=>hpOf r id
 | [],r=>rfl
 | (i,b) :: l,r=>by
  simp only [List.cons_append,hpOf]
  split
  ·rfl
  ·exact hpOf_append
theorem applyD_spec {d:DAct} {σ σ':St} (h:applyD d σ = some σ'):σ'.tm.length = σ.tm.length /\ (∀ t,d.dst = some t -> t < σ.tm.length) /\ (∀ t,σ'.tm[t]? = if d.dst == some t then some d.sv else σ.tm[t]?) /\
  (∀ id,hpOf σ'.hp id = match hpOf d.bl id with | some b=>some b | none=>hpOf σ.hp id) /\ σ'.rb = σ.rb /\ σ'.js = σ.js:=by
 unfold applyD at h
 split at h
 ·rename_i tm htm
  simp only [Option.some.injEq] at h
  subst h
  unfold setT at htm
  split at htm
  ·rename_i hd
   simp only [Option.some.injEq] at htm
   subst htm
   refine ⟨rfl,fun t ht=>?_,fun t=>?_,fun id=>hpOf_append,rfl,rfl⟩
   ·rw [hd] at ht; cases ht
   ·rw [hd]; rfl
  ·rename_i s hd
   split at htm
   ·rename_i hlt
    simp only [Nat.blt_eq] at hlt
    simp only [Option.some.injEq] at htm
    subst htm
    refine ⟨by simp,fun t ht=>?_,fun t=>?_,fun id=>hpOf_append,rfl,rfl⟩
    ·rw [hd] at ht
     simp only [Option.some.injEq] at ht
     subst ht
     exact hlt
    ·rw [hd,List.getElem?_set]
     by_cases he:s = t
     ·subst he
      simp [hlt]
     ·have:¬ ((some s == some t) = true):=by simpa using he
      rw [if_neg he,if_neg this]
   ·cases htm
 ·cases h

section
variable {P:Program} {Φ:Funs} {X:Hnd} {x:Cx} {ρ:Env}

structure Ran (P:Program) (x:Cx) (ρ:Env) (ops:Array Oper) (l:List Oper) (σ σn:St) (acc ds:List DAct) (lo hi:Nat):Prop where
 le:lo <= hi
 len:ds.length = l.length
 act:∀ i d,ds[i]? = some d -> ∃ o σi,l[i]? = some o /\ ActOk P x ρ ops o σi d /\ (∀ t,σi.tm[t]? = tS (fun m=>Nat.blt m i) t ds 0 σ.tm[t]?) /\ (∀ id,hpOf σi.hp id = hS (fun m=>Nat.blt m i) id ds 0 (hpOf σ.hp id)) /\
  σi.tm.length = σ.tm.length /\ σi.js = σ.js /\ (∀ t,d.dst = some t -> t < σ.tm.length) /\ lo <= d.lo /\ d.hi <= hi /\ ∀ p,p ∈ d.lk -> p.2 = insL (fun _=>true) p.1 (acc ++ ds.take i) 0
 apart:∀ (i j:Nat) (d e:DAct),i < j -> ds[i]? = some d -> ds[j]? = some e -> d.hi <= e.lo
 tm:∀ t,σn.tm[t]? = tS (fun _=>true) t ds 0 σ.tm[t]?
 hp:∀ id,hpOf σn.hp id = hS (fun _=>true) id ds 0 (hpOf σ.hp id)
 tl:σn.tm.length = σ.tm.length
 rbe:σn.rb = σ.rb
 jse:σn.js = σ.js

theorem runD_ok (hX:HOk P Φ x.gl X) (hG:∀ w,Keep x.R x.w0 w -> Laid x.gl w) {ops:Array Oper}:∀ {l:List Oper} {σ σn:St} {acc ds:List DAct} {c c':Ctr} {out:List Em},
  runD P X x.gh x.ng ops l σ acc c = some ((ds,σn),c',out) -> Good Φ ρ out -> Ran P x ρ ops l σ σn acc ds c.id c'.id
 | [],σ,σn,acc,ds,c,c',out,h,hg=>by
  have he:=M.pure_inv h
  simp only [Prod.mk.injEq] at he
  obtain ⟨⟨rfl,rfl⟩,rfl,rfl⟩:=he
  exact ⟨Nat.le_refl _,rfl,fun i d hd=>by simp at hd,fun i j d e _ hd=>by simp at hd,fun t=>rfl,fun id=>rfl,rfl,rfl,rfl⟩
 | o :: l,σ,σn,acc,ds,c,c',out,h,hg=>by
  unfold runD at h
  obtain ⟨d,c1,o1,c2,o2,y,h1,h2,he⟩:=M.bind_inv h
  simp only [Prod.mk.injEq] at he
  obtain ⟨rfl,rfl,rfl⟩:=he
  obtain ⟨σ',c3,o3,c4,o4,y,h3,h4,he⟩:=M.bind_inv h2
  simp only [Prod.mk.injEq] at he
  obtain ⟨rfl,rfl,rfl⟩:=he
  obtain ⟨σ'',hap,he⟩:=lift_inv h3
  simp only [Prod.mk.injEq] at he
  obtain ⟨rfl,rfl,rfl⟩:=he
  obtain ⟨r,c5,o5,c6,o6,y,h5,h6,he⟩:=M.bind_inv h4
  simp only [Prod.mk.injEq] at he
  obtain ⟨rfl,rfl,rfl⟩:=he
  have he:=M.pure_inv h6
  simp only [Prod.mk.injEq] at he
  obtain ⟨⟨rfl,rfl⟩,rfl,rfl⟩:=he
  simp only [Good.append] at hg
  obtain ⟨ha,hlo,hhi,hlk⟩:=opDm_ok hX hG h1 hg.1
  obtain ⟨ds',σn'⟩:=r
  have ih:=runD_ok hX hG h5 hg.2.2.1
  obtain ⟨a1,a2,a3,a4,a5,a6⟩:=applyD_spec hap
  have hle:c.id <= c3.id:=by have:=ha.2.1; omega
  refine ⟨by have:=ih.le; omega,by simp [ih.len],fun i e hi=>?_,fun i j e f hij hi hj=>?_,fun t=>?_,fun id=>?_,ih.tl.trans a1,ih.rbe.trans a5,ih.jse.trans a6⟩
  ·cases i with
   | zero =>
    simp at hi
    subst hi
    refine ⟨o,σ,by simp,ha,fun t=>?_,fun id=>?_,rfl,rfl,a2,by omega,by have:=ih.le; omega,fun p hp=>by rw [hlk p hp]; simp⟩
    ·rw [tS_none fun i d _ _=>by simp [Nat.blt_eq,Bool.eq_false_iff]]
    ·rw [hS_none fun i d _ _=>by simp [Nat.blt_eq,Bool.eq_false_iff]]
   | succ i =>
    obtain ⟨o',σi,b1,b2,b3,b4,b5,b5j,b6,b7,b8,b9⟩:=ih.act i e (by simpa using hi)
    refine ⟨o',σi,by simpa using b1,b2,fun t=>?_,fun id=>?_,b5.trans a1,b5j.trans a6,fun t ht=>?_,by omega,b8,fun p hp=>by rw [b9 p hp,List.append_assoc]; rfl⟩
    ·rw [b3 t,a3 t]
     have h0:(fun m=>Nat.blt m (i + 1)) 0 = true:=by simp
     rw [tS_cons (L:=fun m=>Nat.blt m (i + 1)) h0,tS_shift (k:=0)]
     exact tS_congr fun m d hm hd=>by
      rw [Bool.eq_iff_iff,Nat.blt_eq,Nat.blt_eq]
      omega
    ·rw [b4 id,a4 id]
     have h0:(fun m=>Nat.blt m (i + 1)) 0 = true:=by simp
     rw [hS_cons (L:=fun m=>Nat.blt m (i + 1)) h0,hS_shift (k:=0)]
     exact hS_congr fun m d hm hd=>by
      rw [Bool.eq_iff_iff,Nat.blt_eq,Nat.blt_eq]
      omega
    ·rw [<- a1]
     exact b6 t ht
  ·cases j with
   | zero=>omega
   | succ j =>
    have hj':ds'[j]? = some f:=by simpa using hj
    cases i with
    | zero =>
     simp at hi
     subst hi
     obtain ⟨_,_,_,_,_,_,_,_,_,b7,_,_⟩:=ih.act j f hj'
     omega
    | succ i=>exact ih.apart i j e f (by omega) (by simpa using hi) hj'
  ·rw [ih.tm t,a3 t]
   rw [tS_cons rfl,tS_shift (k:=0)]
  ·rw [ih.hp id,a4 id]
   rw [hS_cons rfl,hS_shift (k:=0)]

structure Mid (x:Cx) (ρ:Env) (σ:St) (ds:List DAct) (hi:Nat) (β0 β:Beta) (L:Nat -> Bool) (a:Act) (w:World):Prop where
 ext:XExt β0 β
 com:Com x ρ σ.js σ.tm.length β a w
 slot:∀ t v,tS L t ds 0 σ.tm[t]? = some v -> v.mt β ρ (a.tmps.getD t undef)
 blk:∀ id b,hS L id ds 0 (hpOf σ.hp id) = some b -> Gd.d ρ b.g = true -> blkMt β ρ w id b
 free:∀ j d,ds[j]? = some d -> L j = false -> ∀ i,d.lo <= i -> i < d.hi -> β i = none
 fresh:∀ i,hi <= i -> β i = none
 mp:∀ m d M,ds[m]? = some d -> d.mkm = some M -> L m = true -> mapMt x.w0.heap.size β ρ w M (insL L M ds 0)

theorem Mid.step {ops:Array Oper} {l:List Oper} {σ σn:St} {ds:List DAct} {lo hi:Nat} (hr:Ran P x ρ ops l σ σn [] ds lo hi) {β0 β:Beta} {L L':Nat -> Bool} {a:Act} {w:World} (hm:Mid x ρ σ ds hi β0 β L a w)
  {i:Nat} {d:DAct} {o:Oper} (hd:ds[i]? = some d) (ho:l[i]? = some o) (hL:L i = false) (hL':∀ k,L' k = (L k || k == i)) (hord:∀ k e,ds[k]? = some e -> k ≠ i -> conf e d = true -> L k = Nat.blt k i) (hmap:MapsAt ds L i d) (next:Act -> World -> Prop) (Q:Exit -> Act -> World -> Prop)
  (hn:∀ β' a' w',Mid x ρ σ ds hi β0 β' L' a' w' -> next a' w'):if Region.wanted o (yielded ops a.tmps) then o.wp P a w next Q else next (a.put o.dst undef) w:=by
 obtain ⟨o',σi,b1,⟨b2,b9,bsm,b10,hA⟩,b3,b4,b5,b5j,b6,b7,b8,b11⟩:=hr.act i d hd
 rw [ho] at b1
 simp only [Option.some.injEq] at b1
 subst b1
 have hcom:=hm.com
 rw [<- b5,<- b5j] at hcom
 have hrd:∀ t,t ∈ d.rs -> tS L t ds 0 σ.tm[t]? = σi.tm[t]?:=fun t ht=>by
  rw [b3 t]
  refine tS_congr fun k e hk he=>?_
  rw [Nat.zero_add]
  by_cases hki:k = i
  ·subst hki; rw [hL]; simp [Bool.eq_false_iff,Nat.blt_eq]
  ·exact hord k e hk hki (by unfold conf; rw [half_rs he ht,Bool.true_or])
 have hrb:∀ id,id ∈ d.rb -> hS L id ds 0 (hpOf σ.hp id) = hpOf σi.hp id:=fun id ht=>by
  rw [b4 id]
  refine hS_congr fun k e hk he=>?_
  rw [Nat.zero_add]
  by_cases hki:k = i
  ·subst hki; rw [hL]; simp [Bool.eq_false_iff,Nat.blt_eq]
  ·exact hord k e hk hki (by unfold conf; rw [half_rb he ht,Bool.true_or])
 refine hA β a w hcom (fun t ht v hv=>hm.slot t v (by rw [hrd t ht]; exact hv)) (fun id ht b hb hbg=>hm.blk id b (by rw [hrb id ht]; exact hb) hbg) (hm.free i d hd hL) (fun p hp=>?_) (fun M k s hins=>?_) next Q fun v w' β' h1 h2 h3 h4 h5 h6 h7 h8=>?_
 ·obtain ⟨⟨m,e,e1,e2,e3⟩,hall,hnd⟩:=hmap.lk p hp
  refine ⟨mapMt_congr (fun q=>?_) (hm.mp m e p.1 e1 e2 e3),hnd⟩
  rw [b11 p hp,List.nil_append,insL_mem,insL_mem]
  constructor
  ·rintro ⟨k,f,g1,g2,g3⟩
   obtain ⟨g4,g5⟩:=hall k f g1 (fun e=>by rw [e] at g3; cases g3)
   exact ⟨k,f,by rw [List.getElem?_take,if_pos g4]; exact g1,rfl,g3⟩
  ·rintro ⟨k,f,g1,_,g3⟩
   rw [List.getElem?_take] at g1
   split at g1
   ·exact ⟨k,f,g1,by rw [Nat.zero_add]; exact (hall k f g1 (fun e=>by rw [e] at g3; cases g3)).2,g3⟩
   ·cases g1
 ·obtain ⟨⟨m,e,e1,e2,e3⟩,hkey⟩:=hmap.ins M k s hins
  refine ⟨_,hm.mp m e M e1 e2 e3,fun p hp=>?_⟩
  rw [insL_mem] at hp
  obtain ⟨j,f,g1,g2,g3⟩:=hp
  rw [Nat.zero_add] at g2
  exact hkey j f g1 (fun e=>by rw [e,hL] at g2; cases g2) p g3
 rw [<- b2] at h2 ⊢
 rw [b5,b5j] at h2
 refine hn β' _ w' ⟨hm.ext.trans h1,h2,fun t u hu=>?_,fun id b hb hbg=>?_,fun j e hj hLj k hk1 hk2=>?_,fun k hk=>?_,fun m e M hme hmk hLm=>?_⟩
 ·by_cases hdt:d.dst = some t
  ·have hs:tS L' t ds 0 σ.tm[t]? = some d.sv:=by
    rw [show tS L' t ds 0 σ.tm[t]? = tS (fun k=>Nat.ble k i) t ds 0 σ.tm[t]? from tS_congr fun k e hk he=>by
     rw [Nat.zero_add,hL']
     by_cases hki:k = i
     ·subst hki; simp
     ·rw [hord k e hk hki (by unfold conf; rw [half_dst he hdt,Bool.true_or]),Bool.eq_iff_iff]
      simp only [Bool.or_eq_true,Nat.blt_eq,beq_iff_eq,Nat.ble_eq]
      omega]
    exact tS_last hdt (Nat.zero_le _) (by simpa using hd)
   rw [hs] at hu
   simp only [Option.some.injEq] at hu
   subst hu
   have hlt:=b6 t hdt
   rw [hdt]
   have hsz:t < a.tmps.size:=by rw [hm.com.size]; exact hlt
   simpa [Act.put,hsz] using h4
  ·have hs:tS L' t ds 0 σ.tm[t]? = tS L t ds 0 σ.tm[t]?:=tS_congr fun k e hk he=>by
    rw [Nat.zero_add,hL']
    have hki:k ≠ i:=fun e0=>by
     subst e0
     rw [hd] at hk
     simp only [Option.some.injEq] at hk
     subst hk
     exact hdt he
    have:(k == i) = false:=by simpa using hki
    rw [this,Bool.or_false]
   rw [hs] at hu
   have:=SV.mt_mv (Mv.of hm.com.bo h1) (hm.slot t u hu)
   cases hdd:d.dst with
   | none=>simpa [Act.put] using this
   | some s =>
    have hne:s ≠ t:=fun e=>hdt (by rw [hdd,e])
    simpa [Act.put,Array.getElem?_setIfInBounds_ne hne] using this
 ·cases hbl:hpOf d.bl id with
  | some b' =>
   have hs:hS L' id ds 0 (hpOf σ.hp id) = some b':=by
    rw [show hS L' id ds 0 (hpOf σ.hp id) = hS (fun k=>Nat.ble k i) id ds 0 (hpOf σ.hp id) from hS_congr fun k e hk he=>by
     rw [Nat.zero_add,hL']
     by_cases hki:k = i
     ·subst hki; simp
     ·rw [hord k e hk hki (by unfold conf; rw [half_bl he (by rw [hbl]; rfl),Bool.true_or]),Bool.eq_iff_iff]
      simp only [Bool.or_eq_true,Nat.blt_eq,beq_iff_eq,Nat.ble_eq]
      omega]
    exact hS_last hbl (Nat.zero_le _) (by simpa using hd)
   rw [hs] at hb
   simp only [Option.some.injEq] at hb
   subst hb
   exact h5 id _ hbl hbg
  | none =>
   have hs:hS L' id ds 0 (hpOf σ.hp id) = hS L id ds 0 (hpOf σ.hp id):=hS_congr fun k e hk he=>by
    rw [Nat.zero_add,hL']
    have hki:k ≠ i:=fun e0=>by
     subst e0
     rw [hd] at hk
     simp only [Option.some.injEq] at hk
     subst hk
     rw [hbl] at he
     cases he
    have:(k == i) = false:=by simpa using hki
    rw [this,Bool.or_false]
   rw [hs] at hb
   exact h6 id b hbl (fun hsm=>by rw [<- hrb id (bsm id hsm)]; exact hb) (hm.blk id b hb hbg)
 ·rw [hL'] at hLj
  simp only [Bool.or_eq_false_iff,beq_eq_false_iff_ne,ne_eq] at hLj
  rw [h3 k (by
   rcases Nat.lt_or_gt_of_ne hLj.2 with h | h
   ·have:=hr.apart j i e d h hj hd; omega
   ·have:=hr.apart i j d e h hd hj; omega)]
  exact hm.free j e hj hLj.1 k hk1 hk2
 ·rw [h3 k (by omega)]
  exact hm.fresh k hk
 ·by_cases hmi:m = i
  ·subst hmi
   rw [hd] at hme
   simp only [Option.some.injEq] at hme
   subst hme
   refine mapMt_congr (fun q=>?_) (h8 M hmk)
   rw [insL_mem]
   constructor
   ·intro h; cases h
   ·rintro ⟨k,f,g1,g2,g3⟩
    obtain ⟨g4,g5⟩:=hmap.mak M hmk k f g1 (fun e=>by rw [e] at g3; cases g3)
    rw [Nat.zero_add,hL',g4] at g2
    exact absurd (by simpa using g2) g5
  ·have hLm':L m = true:=by
    rw [hL'] at hLm
    have:(m == i) = false:=by simpa using hmi
    rw [this,Bool.or_false] at hLm
    exact hLm
   refine mapMt_congr (fun q=>?_) (h7 M _ (hm.mp m e M hme hmk hLm') fun k s hins p hp=>?_)
   ·rw [List.mem_append,insL_mem,insL_mem]
    constructor
    ·rintro (⟨k,f,g1,g2,g3⟩ | h)
     ·exact ⟨k,f,g1,by rw [hL',g2]; rfl,g3⟩
     ·exact ⟨i,d,hd,by rw [Nat.zero_add,hL']; simp,h⟩
    ·rintro ⟨k,f,g1,g2,g3⟩
     rw [Nat.zero_add,hL'] at g2
     simp only [Bool.or_eq_true,beq_iff_eq] at g2
     rcases g2 with g2 | g2
     ·exact .inl ⟨k,f,g1,by rw [Nat.zero_add]; exact g2,g3⟩
     ·subst g2
      rw [hd] at g1
      simp only [Option.some.injEq] at g1
      subst g1
      exact .inr g3
   ·obtain ⟨_,hkey⟩:=hmap.ins M k s hins
    rw [insL_mem] at hp
    obtain ⟨j,f,g1,g2,g3⟩:=hp
    rw [Nat.zero_add] at g2
    exact hkey j f g1 (fun e=>by rw [e,hL] at g2; cases g2) p g3

theorem Ran.maker {ops:Array Oper} {l:List Oper} {σ σn:St} {ds:List DAct} {lo hi:Nat} (hr:Ran P x ρ ops l σ σn [] ds lo hi) {i j:Nat} {d e:DAct} {M:Nat} (hi':ds[i]? = some d) (hj:ds[j]? = some e) (h1:d.mkm = some M) (h2:e.mkm = some M):i = j:=by
 obtain ⟨_,_,_,⟨_,_,_,a1,_⟩,_⟩:=hr.act i d hi'
 obtain ⟨_,_,_,⟨_,_,_,a2,_⟩,_⟩:=hr.act j e hj
 have b1:=a1 M h1
 have b2:=a2 M h2
 rcases Nat.lt_trichotomy i j with h | h | h
 ·have:=hr.apart i j d e h hi' hj; omega
 ·exact h
 ·have:=hr.apart j i e d h hj hi'; omega

theorem any_ok {ops:Array Oper} {σ σn:St} {ds:List DAct} {lo hi:Nat} (hr:Ran P x ρ ops ops.toList σ σn [] ds lo hi) (he:edgesOk ops.toList 0 = true) (hs:ordAll (masks ops.toList []) [] ds = true) (hmp:mapsAll ds (masks ops.toList []) ds 0 = true) {β0:Beta} {Q:Exit -> Act -> World -> Prop}
  (hQ:∀ β a w,Mid x ρ σ ds hi β0 β (fun _=>true) a w -> Q .normal a w):∀ (fuel:Nat) (listed:Array Bool) (β:Beta) (a:Act) (w:World),listed.size = ops.size -> listed.toList.count false = fuel ->
   (∀ j o,ops.toList[j]? = some o -> listed.getD j false = true -> ∀ e,e ∈ bEdges o -> listed.getD e false = true) ->
   Mid x ρ σ ds hi β0 β (fun k=>listed.getD k false) a w -> wpAny P .any ops Q fuel listed a w:=by
 have hall:∀ (listed:Array Bool),listed.size = ops.size -> Region.ready .any ops listed = [] -> ∀ n j,j <= n -> j < ops.size -> listed.getD j false = true:=by
  intro listed hsz h0 n
  induction n with
  | zero =>
   intro j hj hlt
   by_cases hl:listed.getD j false = true
   ·exact hl
   ·exfalso
    have hmem:j ∈ Region.ready .any ops listed:=by
     unfold Region.ready
     rw [List.mem_filter]
     refine ⟨List.mem_range.2 hlt,?_⟩
     have ho:ops.toList[j]? = some ops[j]:=by simp [hlt]
     have hed:=edgesOk_spec he j ops[j] ho
     simp only [Bool.and_eq_true,Bool.not_eq_true']
     refine ⟨by simpa [hsz,hlt] using hl,?_⟩
     rw [Array.getElem?_eq_getElem hlt]
     simp only [Option.map_some,Option.getD_some,Array.all_eq_true_iff_forall_mem]
     intro e hme
     cases hb:Region.binds .any e with
     | false=>rfl
     | true =>
      have:=hed e.on (by unfold bEdges; rw [List.mem_map]; exact ⟨e,by rw [List.mem_filter]; exact ⟨hme.val,hb⟩,rfl⟩)
      omega
    rw [h0] at hmem
    cases hmem
  | succ n ih =>
   intro j hj hlt
   by_cases hl:listed.getD j false = true
   ·exact hl
   ·exfalso
    have hmem:j ∈ Region.ready .any ops listed:=by
     unfold Region.ready
     rw [List.mem_filter]
     refine ⟨List.mem_range.2 hlt,?_⟩
     have ho:ops.toList[j]? = some ops[j]:=by simp [hlt]
     have hed:=edgesOk_spec he j ops[j] ho
     simp only [Bool.and_eq_true,Bool.not_eq_true']
     refine ⟨by simpa [hsz,hlt] using hl,?_⟩
     rw [Array.getElem?_eq_getElem hlt]
     simp only [Option.map_some,Option.getD_some,Array.all_eq_true_iff_forall_mem]
     intro e hme
     cases hb:Region.binds .any e with
     | false=>rfl
     | true =>
      have h1:=hed e.on (by unfold bEdges; rw [List.mem_map]; exact ⟨e,by rw [List.mem_filter]; exact ⟨hme.val,hb⟩,rfl⟩)
      have:=ih e.on (by omega) (by omega)
      rw [this]
      rfl
    rw [h0] at hmem
    cases hmem
 have hfin:∀ (listed:Array Bool) (β:Beta) (a:Act) (w:World),listed.size = ops.size -> Region.ready .any ops listed = [] -> Mid x ρ σ ds hi β0 β (fun k=>listed.getD k false) a w -> Q .normal a w:=by
  intro listed β a w hsz h0 hm
  have hl:∀ k d,ds[k]? = some d -> listed.getD k false = true:=fun k d hk=>by
   have hk':=(List.getElem?_eq_some_iff.1 hk).1
   rw [hr.len] at hk'
   exact hall listed hsz h0 k k (Nat.le_refl _) (by simpa using hk')
  refine hQ β a w ⟨hm.ext,hm.com,fun t v hv=>hm.slot t v ?_,fun id b hb=>hm.blk id b ?_,fun j d hj h=>(by cases h),hm.fresh,fun m d M h1 h2 _=>mapMt_congr (fun q=>by
    rw [insL_mem,insL_mem]
    constructor
    ·rintro ⟨k,f,g1,g2,g3⟩; exact ⟨k,f,g1,rfl,g3⟩
    ·rintro ⟨k,f,g1,g2,g3⟩; exact ⟨k,f,g1,by rw [Nat.zero_add]; exact hl k f g1,g3⟩) (hm.mp m d M h1 h2 (hl m d h1))⟩
  ·rw [<- hv]
   exact tS_congr fun k d hk _=>by rw [Nat.zero_add,hl k d hk]
  ·rw [<- hb]
   exact hS_congr fun k d hk _=>by rw [Nat.zero_add,hl k d hk]
 intro fuel
 induction fuel with
 | zero =>
  intro listed β a w hsz hc hcl hm
  have h0:Region.ready .any ops listed = []:=by
   unfold Region.ready
   rw [List.filter_eq_nil_iff]
   intro i hi
   have hlt:i < listed.size:=by rw [hsz]; exact List.mem_range.1 hi
   have:listed[i] ≠ false:=fun e=>by
    have:=List.count_eq_zero.1 hc
    exact this (by rw [<- e]; simp)
   simp only [Bool.not_eq_false] at this
   simp [hlt,this]
  exact ⟨h0,hfin listed β a w hsz h0 hm⟩
 | succ fuel ih =>
  intro listed β a w hsz hc hcl hm
  refine ⟨fun h0=>hfin listed β a w hsz h0 hm,fun i hi=>?_⟩
  unfold Region.ready at hi
  rw [List.mem_filter] at hi
  obtain ⟨hi1,hi2⟩:=hi
  have hlt:=List.mem_range.1 hi1
  have hlt':i < listed.size:=by omega
  simp only [Bool.and_eq_true,Bool.not_eq_true'] at hi2
  obtain ⟨hnl,hed⟩:=hi2
  rw [Array.getElem?_eq_getElem hlt] at hed
  simp only [Option.map_some,Option.getD_some,Array.all_eq_true_iff_forall_mem] at hed
  have hLi:listed[i] = false:=by simpa [hlt'] using hnl
  have hLi':listed.getD i false = false:=by simp [hlt',hLi]
  have ho:ops.toList[i]? = some ops[i]:=by simp [hlt]
  have hdl:i < ds.length:=by rw [hr.len]; simpa using hlt
  have hd:=List.getElem?_eq_getElem hdl
  have hedge:∀ e,e ∈ bEdges ops[i] -> listed.getD e false = true:=fun e hm=>by
   unfold bEdges at hm
   rw [List.mem_map] at hm
   obtain ⟨e',hm,rfl⟩:=hm
   rw [List.mem_filter] at hm
   have:=hed e' (by simpa using hm.1)
   rw [hm.2] at this
   simpa using this
  have hmask:=masks_spec (ops:=ops.toList) (L:=fun k=>listed.getD k false) hcl (l:=ops.toList) (cs:=[]) (fun i=>by simp) (fun j m o hj=>by simp at hj)
  unfold wpOp
  rw [Array.getElem?_eq_getElem hlt]
  simp only
  have hstep:=hm.step (L':=fun k=>(listed.setIfInBounds i true).getD k false) hr hd ho hLi' (fun k=>by
    by_cases hk:k = i
    ·subst hk; simp [hlt']
    ·have:(k == i) = false:=by simpa using hk
     have hne:i ≠ k:=fun e=>hk e.symm
     rw [this,Bool.or_false]
     simp [Array.getElem?_setIfInBounds_ne hne]) (fun k e hk hki hcf=>by
    rcases Nat.lt_or_gt_of_ne hki with h | h
    ·obtain ⟨m,hm1,hm2⟩:=ordAll_spec hs i _ hd
     have hb:=hm2 k e (by simpa using h) (by simpa using hk) hcf
     rw [hmask i m _ hm1 ho hedge k hb]
     simp [h]
    ·obtain ⟨m,hm1,hm2⟩:=ordAll_spec hs k _ hk
     rw [conf_symm] at hcf
     have hb:=hm2 i _ (by simpa using h) (by simp) hcf
     have hkl:k < ops.size:=by have:=(List.getElem?_eq_some_iff.1 hk).1; rw [hr.len] at this; simpa using this
     have hok:ops.toList[k]? = some ops[k]:=by simp [hkl]
     have hblt:Nat.blt k i = false:=by simp only [Bool.eq_false_iff,ne_eq,Nat.blt_eq]; omega
     rw [hblt]
     cases hLk:listed.getD k false with
     | false=>rfl
     | true =>
      have:=hmask k m _ hm1 hok (hcl k _ hok hLk) i hb
      rw [hLi'] at this
      cases this) (by
    have hbits:∀ (j m:Nat) (e:DAct),ds[j]? = some e -> (masks ops.toList [])[j]? = some m -> listed.getD j false = true \/ j = i -> ∀ b,m.testBit b = true -> listed.getD b false = true:=fun j m e hj hm' hLj b hb=>by
     have hjl:j < ops.size:=by have:=(List.getElem?_eq_some_iff.1 hj).1; rw [hr.len] at this; simpa using this
     have hok:ops.toList[j]? = some ops[j]:=by simp [hjl]
     rcases hLj with hLj | rfl
     ·exact hmask j m _ hm' hok (hcl j _ hok hLj) b hb
     ·exact hmask j m _ hm' ho hedge b hb
    obtain ⟨m,hm1,hm2⟩:=mapsAll_spec hmp i _ hd
    rw [Nat.zero_add] at hm2
    unfold mapsOne at hm2
    simp only [Bool.and_eq_true,List.all_eq_true] at hm2
    refine ⟨fun M k s hins=>?_,fun p hp=>?_,fun M hmk j e hj hne=>?_⟩
    ·have hm2:=hm2.1
     rw [hins] at hm2
     simp only [Bool.and_eq_true] at hm2
     obtain ⟨a,e,g1,g2,g3⟩:=mkAt_spec hm2.1
     rw [Nat.zero_add] at g3
     exact ⟨⟨a,e,g1,g2,hbits i m _ hd hm1 (.inr rfl) a g3⟩,fun j e hj hne=>keyNew_spec hm2.2 j e hj (by simpa using hne)⟩
    ·have:=hm2.2 p hp
     obtain ⟨a,e,g1,g2,g3⟩:=mkAt_spec this.1.1
     rw [Nat.zero_add] at g3
     refine ⟨⟨a,e,g1,g2,hbits i m _ hd hm1 (.inr rfl) a g3⟩,fun j e hj hne=>?_,nodupK_spec this.2⟩
     obtain ⟨k1,k2⟩:=insIn_spec this.1.2 j e hj hne
     rw [Nat.zero_add] at k1 k2
     exact ⟨k1,hbits i m _ hd hm1 (.inr rfl) j k2⟩
    ·obtain ⟨k,s,hins⟩:=insOf_ins hne
     obtain ⟨m',hm1',hm2'⟩:=mapsAll_spec hmp j _ hj
     rw [Nat.zero_add] at hm2'
     unfold mapsOne at hm2'
     simp only [Bool.and_eq_true] at hm2'
     have hm2':=hm2'.1
     rw [hins] at hm2'
     simp only [Bool.and_eq_true] at hm2'
     obtain ⟨a,f,g1,g2,g3⟩:=mkAt_spec hm2'.1
     rw [Nat.zero_add] at g3
     have:=hr.maker hd g1 hmk g2
     subst this
     refine ⟨?_,fun e=>?_⟩
     ·cases hLj:listed.getD j false with
      | false=>rfl
      | true=>have:=hbits j m' _ hj hm1' (.inl hLj) i g3; rw [hLi'] at this; cases this
     ·have:=hbits j m' _ hj hm1' (.inr e) i g3
      rw [hLi'] at this
      cases this) (wpAny P .any ops Q fuel (listed.setIfInBounds i true)) Q (fun β' a' w' hm'=>by
    refine ih _ β' a' w' (by simpa using hsz) ?_ (fun j o hj hLj e he=>?_) hm'
    ·rw [Array.toList_setIfInBounds,List.count_set (by simpa using hlt')]
     have:listed.toList[i]'(by simpa using hlt') = false:=by simpa using hLi
     rw [this,hc]
     simp
    ·have hmono:∀ k,listed.getD k false = true -> (listed.setIfInBounds i true).getD k false = true:=fun k hk=>by
      by_cases h:k = i
      ·subst h; simp [hlt']
      ·have hne:i ≠ k:=fun e=>h e.symm
       simpa [Array.getElem?_setIfInBounds_ne hne] using hk
     by_cases h:j = i
     ·subst h
      rw [ho] at hj
      simp only [Option.some.injEq] at hj
      subst hj
      exact hmono _ (hedge e he)
     ·have hne:i ≠ j:=fun e=>h e.symm
      have:listed.getD j false = true:=by simpa [Array.getElem?_setIfInBounds_ne hne] using hLj
      exact hmono _ (hcl j o hj this e he))
  split
  ·rename_i hw
   rw [if_pos hw] at hstep
   exact .inl hstep
  ·rename_i hw
   rw [if_neg hw] at hstep
   exact hstep

theorem regD_sound (hX:HOk P Φ x.gl X) (hG:∀ w,Keep x.R x.w0 w -> Laid x.gl w) {id:Nat} {ops:Array Oper} (hnd:noDef ops.toList = true) {σ σ':St} {c c':Ctr} {out:List Em} (h:regD P X x.gh x.ng ops σ c = some (σ',c',out)) (hg:Good Φ ρ out)
  {β:Beta} {a:Act} {w:World} (hR:Rel x ρ β σ a w) (hf:Fresh β c) {Q:Exit -> Act -> World -> Prop} (hn:∀ β' a' w',Ext β β' -> Rel x ρ β' σ' a' w' -> Fresh β' c' -> Q .normal a' w'):(Code.region id ops true).wpIn (FR x.rl) 0 P Q a w:=by
 unfold regD at h
 obtain ⟨⟨ds,σn⟩,c1,o1,c2,o2,y,h1,h2,he⟩:=M.bind_inv h
 simp only [Prod.mk.injEq] at he
 obtain ⟨rfl,rfl,rfl⟩:=he
 obtain ⟨h1,hle⟩:=mono_inv h1
 split at h2
 ·rename_i hc
  simp only [Bool.and_eq_true] at hc
  have he:=M.pure_inv h2
  simp only [Prod.mk.injEq] at he
  obtain ⟨rfl,rfl,rfl⟩:=he
  rw [Good.append] at hg
  have hran:=runD_ok hX hG h1 hg.1
  have hno:¬ LetsOut (fun (e:Exit) (a:Act) (w:World)=>e = .normal /\ Q .normal a w):=fun ⟨_,_,h⟩=>by cases h.1
  refine wpIn_mono (Q:=fun e a w=>e = .normal /\ Q .normal a w) (wpIn_region_any hc.1.1 (wpAnyIn_of hno hnd (any_ok hran hc.1.2 hc.2.1 hc.2.2 (β0:=β) (fun β' a' w' hm=>?_) _ _ β a _ (by simp) (by simp) (fun j o hj hl=>?_) ⟨XExt.refl β,?_,fun t v hv=>?_,fun i b hb hbg=>?_,fun j d hj _ i hi _=>?_,fun i hi=>hf i (by simp only at hle; omega),fun m d M _ _ h=>(by
    exfalso
    simp [Array.getElem?_replicate] at h
    split at h <;> simp_all)⟩))) (fun e a w ⟨e1,e2⟩=>by rw [e1]; exact e2)
  ·have hC:=hm.com
   refine ⟨rfl,?_⟩
   refine hn β' a' w' hm.ext.ext ⟨hC.size.trans hran.tl.symm,fun t v hv=>hm.slot t v (by rw [<- hran.tm t]; exact hv),by rw [hran.jse]; exact hC.df,fun i b hb hbg=>hm.blk i b (by rw [<- hran.hp i]; exact hb) hbg,hC.gm,hC.gro,hC.bo,hC.kp,hC.gl,hC.ra,by rw [hran.rbe]; exact fun i r h1 h2=>hm.ext.at (hR.eb i r h1 h2)⟩ (fun i hi=>hm.fresh i hi)
  ·exfalso
   simp [Array.getElem?_replicate] at hl
   split at hl <;> simp_all
  ·have hC:=hR.com
   refine ⟨hC.size,hC.df.keep (Keep.drew [] w) (fun r hr=>by simp at hr),fun i b hb hbg=>?_,hC.gro,⟨hC.bo.apart,hC.bo.place,hC.bo.may,hC.bo.sq,hC.bo.rom,hC.bo.qs,hC.bo.rw⟩,hC.kp.trans (Keep.drew [] w) (fun r hr=>by simp at hr),hC.gl,hC.ra⟩
   exact blkMt_keep' (XExt.refl β) hC.bo (Keep.drew [] w) (fun r q hr _=>by simp at hr) (hC.gm i b hb hbg)
  ·rw [tS_none fun i d _ _=>by simp [Array.getElem?_replicate]; split <;> rfl] at hv
   exact hR.slot t v hv
  ·rw [hS_none fun i d _ _=>by simp [Array.getElem?_replicate]; split <;> rfl] at hb
   exact blkMt_keep' (XExt.refl β) hR.bo (Keep.drew [] w) (fun r q hr _=>by simp at hr) (hR.hm i b hb hbg)
  ·obtain ⟨_,_,_,_,_,_,_,_,_,b7,_,_⟩:=hran.act j d hj
   exact hf i (by omega)
 ·simp [M.fail] at h2
theorem seq_ok {ops:Array Oper} {l0:List Oper} {σ σn:St} {ds:List DAct} {lo hi:Nat} (hr:Ran P x ρ ops l0 σ σn [] ds lo hi) (hmp:mapsAll ds (seqMasks ds.length 0) ds 0 = true) {β0:Beta} {Q:Exit -> Act -> World -> Prop}
  (hQ:∀ β a w,Mid x ρ σ ds hi β0 β (fun _=>true) a w -> Q .normal a w):∀ (l:List Oper) (i:Nat) (β:Beta) (a:Act) (w:World),l0.drop i = l -> i <= l0.length -> Mid x ρ σ ds hi β0 β (fun k=>Nat.blt k i) a w -> wpList P ops Q l a w
 | [],i,β,a,w,hl,hle,hm=>by
  have hlen:l0.length <= i:=by
   rcases Nat.lt_or_ge i l0.length with h | h
   ·rw [List.drop_eq_getElem_cons h] at hl; cases hl
   ·exact h
  have hlt:∀ k d,ds[k]? = some d -> k < i:=fun k d hk=>by have:=(List.getElem?_eq_some_iff.1 hk).1; rw [hr.len] at this; omega
  refine hQ β a w ⟨hm.ext,hm.com,fun t v hv=>hm.slot t v ?_,fun id b hb=>hm.blk id b ?_,fun j d hj h=>(by cases h),hm.fresh,fun m d M h1 h2 _=>mapMt_congr (fun q=>?_) (hm.mp m d M h1 h2 (by simpa using hlt m d h1))⟩
  ·rw [<- hv]
   exact tS_congr fun k d hk _=>by simp [hlt k d hk]
  ·rw [<- hb]
   exact hS_congr fun k d hk _=>by simp [hlt k d hk]
  ·rw [insL_mem,insL_mem]
   constructor
   ·rintro ⟨k,f,g1,g2,g3⟩; exact ⟨k,f,g1,rfl,g3⟩
   ·rintro ⟨k,f,g1,g2,g3⟩; exact ⟨k,f,g1,by simp [hlt k f g1],g3⟩
 | o :: l,i,β,a,w,hl,hle,hm=>by
  have hlt:i < l0.length:=by
   rcases Nat.lt_or_ge i l0.length with h | h
   ·exact h
   ·rw [List.drop_eq_nil_of_le h] at hl; cases hl
  rw [List.drop_eq_getElem_cons hlt] at hl
  simp only [List.cons.injEq] at hl
  obtain ⟨ho,hl⟩:=hl
  have ho':l0[i]? = some o:=by rw [List.getElem?_eq_getElem hlt,ho]
  have hdl:i < ds.length:=by rw [hr.len]; exact hlt
  have hd:=List.getElem?_eq_getElem hdl
  have hstep:=hm.step (L':=fun k=>Nat.blt k (i + 1)) hr hd ho' (by simp [Bool.eq_false_iff,Nat.blt_eq]) (fun k=>by
    rw [Bool.eq_iff_iff]
    simp only [Nat.blt_eq,Bool.or_eq_true,beq_iff_eq]
    omega) (fun k e hk hki hcf=>rfl) (by
    have hbits:∀ (j m:Nat) (e:DAct),ds[j]? = some e -> (seqMasks ds.length 0)[j]? = some m -> ∀ b,m.testBit b = true -> b < j:=fun j m e hj hm' b hb=>by
     have:=seqMasks_get hm'
     rw [this,Nat.zero_add,Nat.testBit_two_pow_sub_one] at hb
     simpa using hb
    obtain ⟨m,hm1,hm2⟩:=mapsAll_spec hmp i _ hd
    rw [Nat.zero_add] at hm2
    unfold mapsOne at hm2
    simp only [Bool.and_eq_true,List.all_eq_true] at hm2
    refine ⟨fun M k s hins=>?_,fun p hp=>?_,fun M hmk j e hj hne=>?_⟩
    ·have hm2:=hm2.1
     rw [hins] at hm2
     simp only [Bool.and_eq_true] at hm2
     obtain ⟨a,e,g1,g2,g3⟩:=mkAt_spec hm2.1
     rw [Nat.zero_add] at g3
     exact ⟨⟨a,e,g1,g2,by simpa using hbits i m _ hd hm1 a g3⟩,fun j e hj hne=>keyNew_spec hm2.2 j e hj (by simpa using hne)⟩
    ·have:=hm2.2 p hp
     obtain ⟨a,e,g1,g2,g3⟩:=mkAt_spec this.1.1
     rw [Nat.zero_add] at g3
     refine ⟨⟨a,e,g1,g2,by simpa using hbits i m _ hd hm1 a g3⟩,fun j e hj hne=>?_,nodupK_spec this.2⟩
     obtain ⟨k1,k2⟩:=insIn_spec this.1.2 j e hj hne
     rw [Nat.zero_add] at k1
     exact ⟨k1,by simpa using k1⟩
    ·obtain ⟨k,s,hins⟩:=insOf_ins hne
     obtain ⟨m',hm1',hm2'⟩:=mapsAll_spec hmp j _ hj
     rw [Nat.zero_add] at hm2'
     unfold mapsOne at hm2'
     simp only [Bool.and_eq_true] at hm2'
     have hm2':=hm2'.1
     rw [hins] at hm2'
     simp only [Bool.and_eq_true] at hm2'
     obtain ⟨a,f,g1,g2,g3⟩:=mkAt_spec hm2'.1
     rw [Nat.zero_add] at g3
     have:=hr.maker hd g1 hmk g2
     subst this
     have:=hbits j m' _ hj hm1' i g3
     exact ⟨by simp only [Bool.eq_false_iff,ne_eq,Nat.blt_eq]; omega,by omega⟩) (wpList P ops Q l) Q (fun β' a' w' hm'=>seq_ok hr hmp hQ l (i + 1) β' a' w' hl (by omega) hm')
  unfold wpList
  split
  ·rename_i hw
   rw [if_pos hw] at hstep
   exact .inl hstep
  ·rename_i hw
   rw [if_neg hw] at hstep
   exact hstep
theorem regM_sound (hX:HOk P Φ x.gl X) (hG:∀ w,Keep x.R x.w0 w -> Laid x.gl w) {ops:Array Oper} {σ σ':St} {c c':Ctr} {out:List Em} (h:regM P X x.gh x.ng ops σ c = some (σ',c',out)) (hg:Good Φ ρ out)
  {β:Beta} {a:Act} {w:World} (hR:Rel x ρ β σ a w) (hf:Fresh β c) {Q:Exit -> Act -> World -> Prop} (hn:∀ β' a' w',Ext β β' -> Rel x ρ β' σ' a' w' -> Fresh β' c' -> Q .normal a' w'):wpList P ops Q ops.toList a w:=by
 unfold regM at h
 obtain ⟨⟨ds,σn⟩,c1,o1,c2,o2,y,h1,h2,he⟩:=M.bind_inv h
 simp only [Prod.mk.injEq] at he
 obtain ⟨rfl,rfl,rfl⟩:=he
 obtain ⟨h1,hle⟩:=mono_inv h1
 split at h2
 ·rename_i hc
  have he:=M.pure_inv h2
  simp only [Prod.mk.injEq] at he
  obtain ⟨rfl,rfl,rfl⟩:=he
  rw [Good.append] at hg
  have hran:=runD_ok hX hG h1 hg.1
  refine seq_ok hran hc (β0:=β) (fun β' a' w' hm=>?_) _ 0 β a w rfl (Nat.zero_le _) ⟨XExt.refl β,hR.com,fun t v hv=>?_,fun i b hb hbg=>?_,fun j d hj _ i hi _=>?_,fun i hi=>hf i (by simp only at hle; omega),fun m d M _ _ h=>(by simp at h)⟩
  ·have hC:=hm.com
   exact hn β' a' w' hm.ext.ext ⟨hC.size.trans hran.tl.symm,fun t v hv=>hm.slot t v (by rw [<- hran.tm t]; exact hv),by rw [hran.jse]; exact hC.df,fun i b hb hbg=>hm.blk i b (by rw [<- hran.hp i]; exact hb) hbg,hC.gm,hC.gro,hC.bo,hC.kp,hC.gl,hC.ra,by rw [hran.rbe]; exact fun i r h1 h2=>hm.ext.at (hR.eb i r h1 h2)⟩ (fun i hi=>hm.fresh i hi)
  ·rw [tS_none fun i d _ _=>by simp [Bool.eq_false_iff,Nat.blt_eq]] at hv
   exact hR.slot t v hv
  ·rw [hS_none fun i d _ _=>by simp [Bool.eq_false_iff,Nat.blt_eq]] at hb
   exact hR.hm i b hb hbg
  ·obtain ⟨_,_,_,_,_,_,_,_,_,b7,_,_⟩:=hran.act j d hj
   exact hf i (by omega)
 ·simp [M.fail] at h2
end
end Go.Proofs.YtfgbfdlacnihkaaGreatDoor.Sx
namespace Go.Proofs.YtfgbfdlacnihkaaGreatDoor.Sx
open Go

def maskFull (ms:List Nat) (j:Nat):Bool:=match ms[j]? with
 | some k=>Nat.beq (k &&& (2 ^ j - 1)) (2 ^ j - 1)
 | none=>false
def splitPt (ms:List Nat):Nat -> Nat
 | 0=>0
 | j + 1=>if maskFull ms j then splitPt ms j else j + 1
theorem splitPt_spec (ms:List Nat):∀ n,splitPt ms n <= n /\ ∀ j,splitPt ms n <= j -> j < n -> maskFull ms j = true
 | 0=>⟨Nat.le_refl _,fun j _ h=>by omega⟩
 | n + 1=>by
  obtain ⟨h1,h2⟩:=splitPt_spec ms n
  unfold splitPt
  split
  ·rename_i hf
   refine ⟨by omega,fun j hj hlt=>?_⟩
   by_cases e:j = n
   ·subst e; exact hf
   ·exact h2 j hj (by omega)
  ·exact ⟨Nat.le_refl _,fun j h1 h2=>by omega⟩
theorem maskFull_spec {ms:List Nat} {j:Nat} (h:maskFull ms j = true):∃ k,ms[j]? = some k /\ ∀ i,i < j -> k.testBit i = true:=by
 unfold maskFull at h
 split at h
 ·rename_i k hk
  refine ⟨k,hk,fun i hi=>?_⟩
  rw [Nat.beq_eq] at h
  have h2:=congrArg (fun n=>n.testBit i) h
  simp only [Nat.testBit_and,Nat.testBit_two_pow_sub_one,hi,decide_true,Bool.and_true] at h2
  exact h2
 ·cases h
def guardsIn (m:Nat) (l:List Oper):Bool:=l.all fun o=>match o.guard with
 | none=>true
 | some p=>Nat.blt p.1 m
def regDS (P:Program) (X:Hnd) (gh:Hl) (ng:Nat) (ops:Array Oper) (σ:St):M St :=
 let l:=ops.toList
 let m:=splitPt (masks l []) l.length
 if P.follows .mixedOrders && edgesOk l 0 && edgesOk (l.take m) 0 && guardsIn m (l.take m) then do
  let r <- M.mono (runD P X gh ng (l.take m).toArray (l.take m) σ [])
  if ordAll (masks (l.take m) []) [] r.1 && mapsAll r.1 (masks (l.take m) []) r.1 0 then regL P X gh ng ops (l.drop m) r.2 else M.fail
 else M.fail
def regD2 (P:Program) (X:Hnd) (gh:Hl) (ng:Nat) (ops:Array Oper) (σ:St):M St:=fun c =>
 match regD P X gh ng ops σ c with
 | some r=>some r
 | none=>regDS P X gh ng ops σ c

section
variable {P:Program}
theorem wp_monoQ {o:Oper} {a:Act} {w:World} {K:Act -> World -> Prop} {Q Q':Exit -> Act -> World -> Prop} (h1:∀ ch a w,Q (.panic ch) a w -> Q' (.panic ch) a w) (h2:LetsOut Q -> LetsOut Q') (h:o.wp P a w K Q):o.wp P a w K Q':=by
 unfold Oper.wp at *
 generalize (execOp a.eval o).run P w = r at *
 cases r with
 | ok n w' =>
  cases n <;> simp only [Oper.upon] at h ⊢ <;>
   first
    | exact h
    | exact Calls.mono h (fun e w'' he=>by cases e <;> first | exact he | exact h1 _ _ _ he | exact h2 he)
 | halt x w'=>cases x <;> simp only [Oper.upon] at h ⊢ <;> first | exact h | exact h1 _ _ _ h
theorem ready_mem {ops:Array Oper} {listed:Array Bool} {i:Nat}:i ∈ Region.ready .any ops listed ↔ ∃ h:i < ops.size,listed.getD i true = false /\ ∀ e,e ∈ bEdges ops[i] -> listed.getD e false = true:=by
 unfold Region.ready
 rw [List.mem_filter,List.mem_range]
 constructor
 ·rintro ⟨hlt,h⟩
  simp only [Bool.and_eq_true,Bool.not_eq_true'] at h
  refine ⟨hlt,h.1,fun e hm=>?_⟩
  have hed:=h.2
  rw [Array.getElem?_eq_getElem hlt] at hed
  simp only [Option.map_some,Option.getD_some,Array.all_eq_true_iff_forall_mem] at hed
  unfold bEdges at hm
  rw [List.mem_map] at hm
  obtain ⟨e',hm,rfl⟩:=hm
  rw [List.mem_filter] at hm
  have:=hed e' (by simpa using hm.1)
  rw [hm.2] at this
  simpa using this
 ·rintro ⟨hlt,h1,h2⟩
  refine ⟨hlt,?_⟩
  simp only [Bool.and_eq_true,Bool.not_eq_true']
  refine ⟨h1,?_⟩
  rw [Array.getElem?_eq_getElem hlt]
  simp only [Option.map_some,Option.getD_some,Array.all_eq_true_iff_forall_mem]
  intro e hme
  cases hb:Region.binds .any e with
  | false=>rfl
  | true =>
   rw [h2 e.on (by unfold bEdges; rw [List.mem_map]; exact ⟨e,by rw [List.mem_filter]; exact ⟨hme.val,hb⟩,rfl⟩)]
   rfl
theorem getD_tf {l:Array Bool} {i:Nat} (h:i < l.size):l.getD i true = l.getD i false:=by simp [h]
theorem rep_false (n k:Nat):(Array.replicate n false).getD k false = false:=by
 simp [Array.getElem?_replicate]; split <;> rfl
theorem set_getD {l:Array Bool} {i k:Nat} (h:i < l.size):(l.setIfInBounds i true).getD k false = (l.getD k false || k == i):=by
 by_cases hk:k = i
 ·subst hk; simp [h]
 ·have:(k == i) = false:=by simpa using hk
  have hne:i ≠ k:=fun e=>hk e.symm
  rw [this,Bool.or_false]
  simp [Array.getElem?_setIfInBounds_ne hne]
theorem wpAny_tail {ops:Array Oper} {Q:Exit -> Act -> World -> Prop} {m:Nat} (he:edgesOk ops.toList 0 = true) (hm:m <= ops.size) (hf:∀ j,m <= j -> j < ops.size -> maskFull (masks ops.toList []) j = true) :
  ∀ (k:Nat) (listed:Array Bool) (a:Act) (w:World),m + k <= ops.size -> listed.size = ops.size -> (∀ j,listed.getD j false = Nat.blt j (ops.size - k)) -> wpList P ops Q (ops.toList.drop (ops.size - k)) a w -> wpAny P .any ops Q k listed a w
 | 0,listed,a,w,hk,hs,hl,h=>by
  refine ⟨?_,?_⟩
  ·apply List.eq_nil_iff_forall_not_mem.2
   intro i hi
   obtain ⟨hlt,h1,_⟩:=ready_mem.1 hi
   rw [getD_tf (by omega),hl i] at h1
   have:Nat.blt i (ops.size - 0) = true:=by rw [Nat.blt_eq]; omega
   rw [this] at h1; cases h1
  ·rw [Nat.sub_zero,List.drop_eq_nil_of_le (by simp)] at h
   exact h
 | k + 1,listed,a,w,hk,hs,hl,h=>by
  have hj:ops.size - (k + 1) < ops.size:=by omega
  generalize hjn:ops.size - (k + 1) = j at *
  have hjr:j ∈ Region.ready .any ops listed:=by
   rw [ready_mem]
   refine ⟨hj,by rw [getD_tf (by omega),hl j]; simp [Bool.eq_false_iff,Nat.blt_eq],fun e hme=>?_⟩
   have:=edgesOk_spec he j ops[j] (by simp [hj]) e hme
   rw [hl e,Nat.blt_eq]
   omega
  refine ⟨fun h0=>(by rw [h0] at hjr; cases hjr),fun i hi=>?_⟩
  obtain ⟨hlt,h1,h2⟩:=ready_mem.1 hi
  have hij:i = j:=by
   rw [getD_tf (by omega),hl i] at h1
   have h1:¬ i < j:=fun h=>by rw [<- Nat.blt_eq] at h; rw [h] at h1; cases h1
   by_cases e:i = j
   ·exact e
   ·exfalso
    obtain ⟨mk,hmk,hbits⟩:=maskFull_spec (hf i (by omega) hlt)
    have:=masks_spec (ops:=ops.toList) (L:=fun k=>listed.getD k false) (fun q o hq hLq e' he'=>by
     rw [hl q,Nat.blt_eq] at hLq
     have:=edgesOk_spec he q o hq e' he'
     rw [hl e',Nat.blt_eq]
     omega) (l:=ops.toList) (cs:=[]) (fun i=>by simp) (fun j m o hj=>by simp at hj) i mk ops[i] hmk (by simp [hlt]) h2 j (hbits j (by omega))
    rw [hl j,Nat.blt_eq] at this
    omega
  subst hij
  rw [List.drop_eq_getElem_cons (by simpa using hj)] at h
  unfold wpList at h
  unfold wpOp
  rw [Array.getElem?_eq_getElem hj]
  simp only
  rw [Array.getElem_toList] at h
  have ih:∀ a w,wpList P ops Q (ops.toList.drop (i + 1)) a w -> wpAny P .any ops Q k (listed.setIfInBounds i true) a w:=fun a w hh=>by
   refine wpAny_tail he hm hf k _ a w (by omega) (by simpa using hs) (fun q=>?_) (by rw [show ops.size - k = i + 1 by omega]; exact hh)
   rw [set_getD (by omega),hl q,Bool.eq_iff_iff]
   simp only [Nat.blt_eq,Bool.or_eq_true,beq_iff_eq]
   omega
  split at h
  ·rename_i hw
   rw [if_pos hw]
   exact h.imp (Oper.wp_mono ih) id
  ·rename_i hw
   rw [if_neg hw]
   exact ih _ _ h
theorem wpAny_split {ops:Array Oper} {Q:Exit -> Act -> World -> Prop} {m:Nat} (he:edgesOk ops.toList 0 = true) (hm:m <= ops.size) (hf:∀ j,m <= j -> j < ops.size -> maskFull (masks ops.toList []) j = true) (hgd:guardsIn m (ops.toList.take m) = true)
  {QP:Exit -> Act -> World -> Prop} (hQP:∀ e a w,QP e a w -> e = .normal /\ wpList P ops Q (ops.toList.drop m) a w) :
  ∀ (fuel:Nat) (listed listedP:Array Bool) (a:Act) (w:World),listed.size = ops.size -> listedP.size = m -> (∀ j,j < m -> listed.getD j false = listedP.getD j false) -> (∀ j,m <= j -> listed.getD j false = false) -> listedP.toList.count false = fuel ->
   (∀ j o,ops.toList[j]? = some o -> listed.getD j false = true -> ∀ e,e ∈ bEdges o -> listed.getD e false = true) ->
   wpAny P .any (ops.toList.take m).toArray QP fuel listedP a w -> wpAny P .any ops Q (fuel + (ops.size - m)) listed a w
 | 0,listed,listedP,a,w,hs,hsP,h1,h2,hc,hcl,h=>by
  rw [Nat.zero_add]
  have hall:∀ j,j < m -> listedP.getD j false = true:=fun j hj=>by
   have hlt:j < listedP.size:=by omega
   have:listedP[j] ≠ false:=fun e=>by
    have:=List.count_eq_zero.1 hc
    exact this (by rw [<- e]; simp)
   simp only [Bool.not_eq_false] at this
   simp [hlt,this]
  refine wpAny_tail he hm hf (ops.size - m) listed a w (by omega) hs (fun j=>?_) (by rw [show ops.size - (ops.size - m) = m by omega]; exact (hQP _ _ _ h.2).2)
  rw [show ops.size - (ops.size - m) = m by omega,Bool.eq_iff_iff,Nat.blt_eq]
  by_cases hj:j < m
  ·rw [h1 j hj,hall j hj]; simp [hj]
  ·rw [h2 j (by omega)]; simp [hj]
 | fuel + 1,listed,listedP,a,w,hs,hsP,h1,h2,hc,hcl,h=>by
  have hun:∃ j,j < m /\ listedP.getD j false = false:=by
   have hmem:false ∈ listedP.toList:=by
    apply Classical.byContradiction
    intro hn
    rw [List.count_eq_zero.2 hn] at hc
    cases hc
   obtain ⟨j,hj⟩:=List.mem_iff_getElem?.1 hmem
   have hlt:j < listedP.size:=by have:=(List.getElem?_eq_some_iff.1 hj).1; simpa using this
   refine ⟨j,by omega,?_⟩
   simp only [Array.getElem?_toList] at hj
   simp [hj]
  have hlm:((ops.toList.take m).toArray).size = m:=by simp; omega
  have hget:∀ i (hi:i < m),(ops.toList.take m).toArray[i]? = some ops[i]:=fun i hi=>by
   simp [hi]
  have hrd:∀ i,i < m -> (i ∈ Region.ready .any ops listed ↔ i ∈ Region.ready .any (ops.toList.take m).toArray listedP):=fun i hi=>by
   have hio:i < ops.size:=by omega
   have hei:(ops.toList.take m).toArray[i]'(by omega) = ops[i]:=by
    have:=hget i hi
    rw [Array.getElem?_eq_getElem (by omega)] at this
    exact Option.some.inj this
   have hsame:∀ e,e ∈ bEdges ops[i] -> listed.getD e false = listedP.getD e false:=fun e hme=>by
    have:=edgesOk_spec he i ops[i] (by simp [hio]) e hme
    exact h1 e (by omega)
   rw [ready_mem,ready_mem]
   constructor
   ·rintro ⟨_,a1,a2⟩
    refine ⟨by omega,?_,fun e hme=>?_⟩
    ·rw [getD_tf (by omega)] at a1 ⊢
     rw [<- h1 i hi]; exact a1
    ·rw [hei] at hme
     rw [<- hsame e hme]; exact a2 e hme
   ·rintro ⟨_,a1,a2⟩
    refine ⟨hio,?_,fun e hme=>?_⟩
    ·rw [getD_tf (by omega)] at a1 ⊢
     rw [h1 i hi]; exact a1
    ·rw [hsame e hme]; exact a2 e (by rw [hei]; exact hme)
  rw [show fuel + 1 + (ops.size - m) = (fuel + (ops.size - m)) + 1 by omega]
  refine ⟨fun h0=>?_,fun i hi=>?_⟩
  ·-- the least one that is not listed is ready
   exfalso
   obtain ⟨j,hj,hju⟩:=hun
   have key:∀ n j,j <= n -> j < m -> listedP.getD j false = false -> False:=by
    intro n
    induction n with
    | zero =>
     intro j hjn hjm hju
     have:j ∈ Region.ready .any ops listed:=ready_mem.2 ⟨by omega,by rw [getD_tf (by omega),h1 j hjm]; exact hju,fun e hme=>by
      have:=edgesOk_spec he j ops[j] (by simp) e hme
      omega⟩
     rw [h0] at this; cases this
    | succ n ih =>
     intro j hjn hjm hju
     by_cases hx:∃ e,e ∈ bEdges (ops[j]'(by omega)) /\ listedP.getD e false = false
     ·obtain ⟨e,hme,heu⟩:=hx
      have:=edgesOk_spec he j (ops[j]'(by omega)) (by simp) e hme
      exact ih e (by omega) (by omega) heu
     ·have:j ∈ Region.ready .any ops listed:=ready_mem.2 ⟨by omega,by rw [getD_tf (by omega),h1 j hjm]; exact hju,fun e hme=>by
       have hlt:=edgesOk_spec he j (ops[j]'(by omega)) (by simp) e hme
       rw [h1 e (by omega)]
       cases hb:listedP.getD e false with
       | true=>rfl
       | false=>exact absurd ⟨e,hme,hb⟩ hx⟩
      rw [h0] at this; cases this
   exact key j j (Nat.le_refl _) hj hju
  ·have him:i < m:=by
    rcases Nat.lt_or_ge i m with hlt | hge
    ·exact hlt
    ·exfalso
     obtain ⟨j,hj,hju⟩:=hun
     obtain ⟨hio,_,hed⟩:=ready_mem.1 hi
     obtain ⟨mk,hmk,hbits⟩:=maskFull_spec (hf i hge hio)
     have:=masks_spec (ops:=ops.toList) (L:=fun k=>listed.getD k false) hcl (l:=ops.toList) (cs:=[]) (fun i=>by simp) (fun j m o hj=>by simp at hj) i mk ops[i] hmk (by simp [hio]) hed j (hbits j (by omega))
     rw [h1 j hj,hju] at this
     cases this
   have hio:i < ops.size:=by omega
   have hst:=h.2 i ((hrd i him).1 hi)
   obtain ⟨_,hun1,hed⟩:=ready_mem.1 hi
   have hiu:listed.getD i false = false:=by rw [<- getD_tf (by omega)]; exact hun1
   unfold wpOp at hst ⊢
   rw [hget i him] at hst
   rw [Array.getElem?_eq_getElem hio]
   simp only at hst ⊢
   have hyi:Region.wanted ops[i] (yielded (ops.toList.take m).toArray a.tmps) = Region.wanted ops[i] (yielded ops a.tmps):=by
    unfold Region.wanted
    have hgi:=List.all_eq_true.1 hgd ops[i] (List.mem_of_getElem? (i:=i) (by simp [him,hio]))
    cases hg:ops[i].guard with
    | none=>rfl
    | some p =>
     rw [hg] at hgi
     simp only [Nat.blt_eq] at hgi
     have hpo:p.1 < ops.size:=by omega
     have:yielded (ops.toList.take m).toArray a.tmps p.1 = yielded ops a.tmps p.1:=by
      unfold yielded
      rw [hget p.1 hgi,Array.getElem?_eq_getElem hpo]
     simp only [this]
   rw [hyi] at hst
   have ih:∀ a w,wpAny P .any (ops.toList.take m).toArray QP fuel (listedP.setIfInBounds i true) a w -> wpAny P .any ops Q (fuel + (ops.size - m)) (listed.setIfInBounds i true) a w:=fun a w hh=>by
    refine wpAny_split he hm hf hgd hQP fuel _ _ a w (by simpa using hs) (by simpa using hsP) (fun j hj=>?_) (fun j hj=>?_) ?_ (fun j o hj hLj e hme=>?_) hh
    ·rw [set_getD (by omega),set_getD (by omega),h1 j hj]
    ·rw [set_getD (by omega),h2 j hj]
     have:(j == i) = false:=by simp; omega
     rw [this]; rfl
    ·rw [Array.toList_setIfInBounds,List.count_set (by simp; omega)]
     have:listedP.toList[i]'(by simp; omega) = false:=by
      have:=h1 i him
      rw [hiu] at this
      have hlt:i < listedP.size:=by omega
      simpa [hlt] using this.symm
     rw [this,hc]
     simp
    ·rw [set_getD (by omega)] at hLj ⊢
     rw [Bool.or_eq_true] at hLj ⊢
     rcases hLj with hLj | hLj
     ·exact .inl (hcl j o hj hLj e hme)
     ·rw [beq_iff_eq] at hLj
      subst hLj
      simp only [Array.getElem?_toList,Array.getElem?_eq_getElem hio,Option.some.injEq] at hj
      subst hj
      exact .inl (hed e hme)
   split at hst
   ·rename_i hw
    rw [if_pos hw]
    rcases hst with hst | ⟨_,a0,w0,hl0⟩
    ·exact .inl (wp_monoQ (fun ch a w hq=>by cases (hQP _ _ _ hq).1) (fun ⟨_,_,hl0⟩=>by cases (hQP _ _ _ hl0).1) (Oper.wp_mono ih hst))
    ·cases (hQP _ _ _ hl0).1
   ·rename_i hw
    rw [if_neg hw]
    exact ih _ _ hst
end
section
variable {P:Program} {Φ:Funs} {X:Hnd} {x:Cx} {ρ:Env}
theorem regDS_sound (hX:HOk P Φ x.gl X) (hG:∀ w,Keep x.R x.w0 w -> Laid x.gl w) {id:Nat} {ops:Array Oper} (hnd:noDef ops.toList = true) {σ σ':St} {c c':Ctr} {out:List Em} (h:regDS P X x.gh x.ng ops σ c = some (σ',c',out)) (hg:Good Φ ρ out)
  {β:Beta} {a:Act} {w:World} (hR:Rel x ρ β σ a w) (hf:Fresh β c) {Q:Exit -> Act -> World -> Prop} (hn:∀ β' a' w',Ext β β' -> Rel x ρ β' σ' a' w' -> Fresh β' c' -> Q .normal a' w'):(Code.region id ops true).wpIn (FR x.rl) 0 P Q a w:=by
 unfold regDS at h
 obtain ⟨hm,hfl⟩:=splitPt_spec (masks ops.toList []) ops.toList.length
 generalize splitPt (masks ops.toList []) ops.toList.length = m at h hm hfl
 rw [Array.length_toList] at hm hfl
 split at h
 ·rename_i hc0
  simp only [Bool.and_eq_true] at hc0
  obtain ⟨⟨⟨hc1,hc2⟩,hc3⟩,hc4⟩:=hc0
  obtain ⟨⟨ds,σn⟩,c1,o1,c2,o2,y,h1,h2,he⟩:=M.bind_inv h
  simp only [Prod.mk.injEq] at he
  obtain ⟨rfl,rfl,rfl⟩:=he
  obtain ⟨h1,hle⟩:=mono_inv h1
  split at h2
  ·rename_i hc
   simp only [Bool.and_eq_true] at hc
   rw [Good.append] at hg
   have hran:=runD_ok hX hG (ops:=(ops.toList.take m).toArray) h1 hg.1
   have hno:¬ LetsOut (fun (e:Exit) (a:Act) (w:World)=>e = .normal /\ Q .normal a w):=fun ⟨_,_,h⟩=>by cases h.1
   refine wpIn_mono (Q:=fun e a w=>e = .normal /\ Q .normal a w) (wpIn_region_any hc1 (wpAnyIn_of hno hnd ?_)) (fun e a w ⟨e1,e2⟩=>by rw [e1]; exact e2)
   have key:=wpAny_split (P:=P) (ops:=ops) (Q:=fun (e:Exit) (a:Act) (w:World)=>e = .normal /\ Q .normal a w) hc2 hm hfl hc4 (QP:=fun e a w=>e = .normal /\ wpList P ops (fun (e:Exit) (a:Act) (w:World)=>e = .normal /\ Q .normal a w) (ops.toList.drop m) a w) (fun e a w h=>h)
    m (Array.replicate ops.size false) (Array.replicate m false) a { w with drawn:=w.drawn + 1 } (by simp) (by simp) (fun j hj=>by rw [rep_false,rep_false]) (fun j hj=>rep_false _ _) (by simp) (fun j o hj hl=>by
     exfalso
     simp [Array.getElem?_replicate] at hl
     split at hl <;> simp_all) ?_
   ·rw [show m + (ops.size - m) = ops.size by omega] at key
    exact key
   have hsz:((ops.toList.take m).toArray).size = m:=by simp; omega
   refine any_ok hran hc3 hc.1 hc.2 (β0:=β) (fun β' a' w' hmid=>?_) m _ β a _ (by simp; omega) (by simp) (fun j o hj hl=>?_) ⟨XExt.refl β,?_,fun t v hv=>?_,fun i b hb hbg=>?_,fun j d hj _ i hi _=>?_,fun i hi=>hf i (by simp only at hle; omega),fun q d M _ _ h=>(by
     exfalso
     simp [Array.getElem?_replicate] at h
     split at h <;> simp_all)⟩
   ·have hC:=hmid.com
    refine ⟨rfl,?_⟩
    refine regL_sound hX hG (ops.toList.drop m) h2 hg.2 (β:=β') (a:=a') (w:=w') ⟨hC.size.trans hran.tl.symm,fun t v hv=>hmid.slot t v (by rw [<- hran.tm t]; exact hv),by rw [hran.jse]; exact hC.df,fun i b hb hbg=>hmid.blk i b (by rw [<- hran.hp i]; exact hb) hbg,hC.gm,hC.gro,hC.bo,hC.kp,hC.gl,hC.ra,by rw [hran.rbe]; exact fun i r h1 h2=>hmid.ext.at (hR.eb i r h1 h2)⟩ (fun i hi=>hmid.fresh i hi) (fun β'' a'' w'' he'' hR'' hF''=>⟨rfl,hn β'' a'' w'' (hmid.ext.ext.trans he'') hR'' hF''⟩)
   ·exfalso
    simp [Array.getElem?_replicate] at hl
    split at hl <;> simp_all
   ·have hC:=hR.com
    refine ⟨hC.size,hC.df.keep (Keep.drew [] w) (fun r hr=>by simp at hr),fun i b hb hbg=>?_,hC.gro,⟨hC.bo.apart,hC.bo.place,hC.bo.may,hC.bo.sq,hC.bo.rom,hC.bo.qs,hC.bo.rw⟩,hC.kp.trans (Keep.drew [] w) (fun r hr=>by simp at hr),hC.gl,hC.ra⟩
    exact blkMt_keep' (XExt.refl β) hC.bo (Keep.drew [] w) (fun r q hr _=>by simp at hr) (hC.gm i b hb hbg)
   ·rw [tS_none fun i d _ _=>by simp [Array.getElem?_replicate]; split <;> rfl] at hv
    exact hR.slot t v hv
   ·rw [hS_none fun i d _ _=>by simp [Array.getElem?_replicate]; split <;> rfl] at hb
    exact blkMt_keep' (XExt.refl β) hR.bo (Keep.drew [] w) (fun r q hr _=>by simp at hr) (hR.hm i b hb hbg)
   ·obtain ⟨_,_,_,_,_,_,_,_,_,b7,_,_⟩:=hran.act j d hj
    exact hf i (by omega)
  ·simp [M.fail] at h2
 ·simp [M.fail] at h
theorem regD2_sound (hX:HOk P Φ x.gl X) (hG:∀ w,Keep x.R x.w0 w -> Laid x.gl w) {id:Nat} {ops:Array Oper} (hnd:noDef ops.toList = true) {σ σ':St} {c c':Ctr} {out:List Em} (h:regD2 P X x.gh x.ng ops σ c = some (σ',c',out)) (hg:Good Φ ρ out)
  {β:Beta} {a:Act} {w:World} (hR:Rel x ρ β σ a w) (hf:Fresh β c) {Q:Exit -> Act -> World -> Prop} (hn:∀ β' a' w',Ext β β' -> Rel x ρ β' σ' a' w' -> Fresh β' c' -> Q .normal a' w'):(Code.region id ops true).wpIn (FR x.rl) 0 P Q a w:=by
 unfold regD2 at h
 split at h
 ·rename_i r hr
  cases h
  exact regD_sound hX hG hnd hr hg hR hf hn
 ·exact regDS_sound hX hG hnd h hg hR hf hn
end
end Go.Proofs.YtfgbfdlacnihkaaGreatDoor.Sx
namespace Go.Proofs.YtfgbfdlacnihkaaGreatDoor.Sx
open Go

def C.fz (id:Nat) (ks:List CK) (q n:A) (c:C):C :=
 match c with
 | .slm i ls=>if i == id then (if cksEq ls ks then .slx ks q n else .junk) else .slm i ls
 | .pxm i ls a k=>if i == id then (if cksEq ls ks then .pxq ks q a k else .junk) else .pxm i ls a k
 | c=>c.jk fun i=>!(i == id)
def S.fz (id:Nat) (ks:List CK) (q n:A):S -> S
 | .one agg l=>.one agg (l.map (C.fz id ks q n))
 | .tup l=>.tup (l.map fun p=>(p.1,p.2.map (C.fz id ks q n)))
 | .any=>.any
def SV.fz (id:Nat) (ks:List CK) (q n:A) (x:SV):SV:={ x with s:=x.s.fz id ks q n }
def fzHp (id:Nat) (ks:List CK) (q n:A):Hl -> Hl
 | []=>[]
 | (i,b) :: l=>if i == id then fzHp id ks q n l else (i,{ b with cells:=b.cells.map (C.fz id ks q n) }) :: fzHp id ks q n l
theorem fzHp_get {id:Nat} {ks:List CK} {q n:A}:∀ {l:Hl} {i:Nat} {b:Blk},hpOf (fzHp id ks q n l) i = some b -> i ≠ id /\ ∃ b0,hpOf l i = some b0 /\ b = { b0 with cells:=b0.cells.map (C.fz id ks q n) }
 | [],i,b,h=>by simp [fzHp,hpOf] at h
 | (j,c) :: l,i,b,h=>by
  unfold fzHp at h
  split at h
  ·rename_i hj
   simp only [beq_iff_eq] at hj
   obtain ⟨h1,b0,h2,h3⟩:=fzHp_get h
   refine ⟨h1,b0,?_,h3⟩
   unfold hpOf
   rw [if_neg (by simp; omega)]
   exact h2
  ·rename_i hj
   unfold hpOf at h ⊢
   split at h
   ·rename_i he
    cases h
    simp only [beq_iff_eq] at he hj
    refine ⟨by omega,c,by rw [if_pos (by simp; exact he)],rfl⟩
   ·rename_i he
    obtain ⟨h1,b0,h2,h3⟩:=fzHp_get h
    exact ⟨h1,b0,by rw [if_neg he]; exact h2,h3⟩
def frzSt (id:Nat) (s:St):M St :=
 match hpOf s.hp id with
 | some b=>match vecOf b.cells with
  | some (ks,q,n)=>if b.g.isEmpty then do
    let _ <- newId
    pure { tm:=s.tm.map (SV.fz id ks q n),hp:=fzHp id ks q n s.hp,rb:=uniN [id] s.rb,js:=s.js }
   else M.fail
  | none=>M.fail
 | none=>M.fail

section
variable {β β':Beta} {ρ:Env} {w:World} {id fid:Nat} {ks:List CK} {q n:A}
structure Fz (β β':Beta) (w:World) (id:Nat) (ks:List CK) (q n:Int):Prop where
 mv:Mv (fun i=>!(i == id)) β β'
 row:∃ r cap l,β id = some r /\ r.row = true /\ r.len = cap * ks.length /\ ks ≠ [] /\ q = enc l /\ n = (r.rn:Int) /\ InR .i64 n /\ l.length = r.rn * ks.length /\
  (r.rn ≠ 0 -> ∃ i r',β' i = some r' /\ r'.blk = r.blk /\ r'.off = r.off /\ r'.sq = some (ks,l))
theorem C.fz_mt (h:Fz β β' w id ks (q.d ρ) (n.d ρ)) {c:C} {v:Value} (hm:c.mt β ρ v):(c.fz id ks q n).mt β' ρ v:=by
 obtain ⟨mv,r,cap,l,hr,hrow,hlen,hne,hq,hn,hin,hll,hf⟩:=h
 have hkl:0 < ks.length:=List.length_pos_iff.2 hne
 unfold C.fz
 split
 ·rename_i i ls
  split
  ·rename_i hi
   simp only [beq_iff_eq] at hi
   subst hi
   split
   ·rename_i hk
    have hk:=cksEq_sound hk
    subst hk
    obtain ⟨r1,cap1,p,hr1,_,hl1,hc1,hv,hp⟩:=hm
    rw [hr] at hr1
    cases hr1
    have:cap1 = cap:=Nat.eq_of_mul_eq_mul_right hkl (by rw [<- hl1,hlen])
    subst this
    show slxMt β' ls (q.d ρ) (n.d ρ) v
    rw [hn]
    rw [hn] at hin
    refine ⟨by omega,hin,p,cap1,by rw [Int.toNat_natCast]; exact hv,by rw [Int.toNat_natCast]; exact hc1,?_⟩
    by_cases h0:r.rn = 0
    ·left
     rw [h0] at hll ⊢
     have:l = []:=List.eq_nil_of_length_eq_zero (by simpa using hll)
     rw [hq,this]
     exact ⟨rfl,rfl⟩
    ·right
     obtain ⟨j,r',h1,h2,h3,h4⟩:=hf h0
     exact ⟨j,r',0,l,h1,⟨l,0,h4,by simp,by simp,fun i n h=>by simpa using h⟩,hq,by rw [Int.toNat_natCast]; exact hll,by rw [h2,h3]; exact hp.resolve_left (by omega)⟩
   ·exact C.mt_one hm
  ·rename_i hi
   exact C.mt_ids mv.h mv.sq (by simpa [C.ids] using hi) hm
 ·rename_i i ls a k
  split
  ·rename_i hi
   simp only [beq_iff_eq] at hi
   subst hi
   split
   ·rename_i hk
    have hk:=cksEq_sound hk
    subst hk
    obtain ⟨h0,r1,hr1,_,hlt,hv⟩:=hm
    rw [hr] at hr1
    cases hr1
    obtain ⟨j,r',h1,h2,h3,h4⟩:=hf (by omega)
    refine ⟨h0,j,r',0,l,h1,⟨l,0,h4,by simp,by simp,fun i n h=>by simpa using h⟩,hq,by rw [hll]; exact Nat.mul_le_mul_right _ hlt,?_⟩
    rw [h2,h3]
    exact hv
   ·exact C.mt_one hm
  ·rename_i hi
   exact C.mt_ids mv.h mv.sq (by simpa [C.ids] using hi) hm
 ·exact C.jk_mt mv hm
theorem fz_mtL (h:Fz β β' w id ks (q.d ρ) (n.d ρ)):∀ {l:List C} {vs:List Value},mtL β ρ l vs -> mtL β' ρ (l.map (C.fz id ks q n)) vs
 | [],[],_=>trivial
 | _ :: _,_ :: _,⟨h1,h2⟩=>⟨C.fz_mt h h1,fz_mtL h h2⟩
theorem fz_mt1 (h:Fz β β' w id ks (q.d ρ) (n.d ρ)) {agg:Bool} {l:List C} {v:Value} (hv:mt1 β ρ agg l v):mt1 β' ρ agg (l.map (C.fz id ks q n)) v:=by
 unfold mt1 at *
 cases agg
 ·obtain ⟨c,h1,h2⟩:=hv; exact ⟨c.fz id ks q n,by rw [h1]; rfl,C.fz_mt h h2⟩
 ·obtain ⟨vs,h1,h2⟩:=hv; exact ⟨vs,h1,fz_mtL h h2⟩
theorem fz_mtT (h:Fz β β' w id ks (q.d ρ) (n.d ρ)):∀ {l:List (Bool × List C)} {vs:List Value},mtT β ρ l vs -> mtT β' ρ (l.map fun p=>(p.1,p.2.map (C.fz id ks q n))) vs
 | [],[],_=>trivial
 | _ :: _,_ :: _,⟨h1,h2⟩=>⟨fz_mt1 h h1,fz_mtT h h2⟩
theorem SV.fz_mt (h:Fz β β' w id ks (q.d ρ) (n.d ρ)) {x:SV} {v:Value} (hx:x.mt β ρ v):(x.fz id ks q n).mt β' ρ v:=by
 refine ⟨fun hg=>?_,hx.2⟩
 have:=hx.1 hg
 unfold SV.fz
 simp only
 cases hs:x.s with
 | one agg l=>rw [hs] at this; exact fz_mt1 h this
 | tup l=>rw [hs] at this; obtain ⟨vs,h1,h2⟩:=this; exact ⟨vs,h1,fz_mtT h h2⟩
 | any=>trivial
theorem fz_blk (h:Fz β β' w id ks (q.d ρ) (n.d ρ)) {i:Nat} (hi:i ≠ id) {b:Blk} (hm:blkMt β ρ w i b):blkMt β' ρ w i { b with cells:=b.cells.map (C.fz id ks q n) }:=by
 cases hv:vecOf b.cells with
 | none =>
  obtain ⟨r,hr,hrow,hl,hro,hc,hf⟩:=(blkMt_cs hv).1 hm
  refine blkMt_mk ⟨r,h.mv.ext.at hr hrow,hrow,by simpa using hl,hro,?_,fun h0 j hj=>hf h0 j (by simpa using hj)⟩
  rw [cellsAt_iff] at *
  intro j c hj
  simp only [List.getElem?_map,Option.map_eq_some_iff] at hj
  obtain ⟨d,hd,rfl⟩:=hj
  obtain ⟨v,h1,h2⟩:=hc j d hd
  exact ⟨v,h1,C.fz_mt h h2⟩
 | some y =>
  have e:b.cells.map (C.fz id ks q n) = b.cells:=by
   rw [vecOf_spec hv]
   simp [C.fz,vec_jk]
  have hm2:=blkMt_jk h.mv (w:=w) (w':=w) (b:=b) (.inr (by simpa using hi)) (fun _ _ _ _=>⟨rfl,rfl⟩) hm
  refine blkMt_g (b:=b.jk fun i=>!(i == id)) rfl ?_ hm2
  rw [e]
  unfold Blk.jk jkL
  simp only
  rw [vecOf_spec hv]
  simp [vec_jk]
end
theorem gm_stays {x:Cx} {β β':Beta} {ρ:Env} {w:World} {p:Nat -> Bool} (hmv:Mv p β β') (hgro:∀ id b,hpOf x.gh id = some b -> b.ro = true) (h:heapMt β ρ (hpOf x.gh) w):heapMt β' ρ (hpOf x.gh) w:=by
 intro id b hb hbg
 have hgm:=h id b hb hbg
 have hgr:=hgro id b hb
 have hvn:vecOf b.cells = none:=by
  cases hv:vecOf b.cells with
  | none=>rfl
  | some y=>have:=((blkMt_row hv).1 hgm).1; rw [hgr] at this; cases this
 obtain ⟨r,hr,hrow,hl,hro,hc,hf⟩:=(blkMt_cs hvn).1 hgm
 refine blkMt_mk ⟨r,hmv.ext.at hr hrow,hrow,hl,hro,?_,hf⟩
 rw [cellsAt_iff] at *
 intro j c hj
 obtain ⟨v,h1,h2⟩:=hc j c hj
 have hids:=ghOf_ids hb j c hj
 exact ⟨v,h1,C.mt_ids hmv.h hmv.sq (by rw [hids]; rfl) h2⟩
theorem frz_ok {x:Cx} (hgr:∀ q,q ∈ x.R -> ∃ j:Nat,x.gr[j]? = some q) {ρ:Env} {id:Nat} {s s':St} {c c':Ctr} {o:List Em} (h:frzSt id s c = some (s',c',o)):c.id <= c'.id /\
  ∀ (β:Beta) (a:Act) (w:World),Rel x ρ β s a w -> Fresh β c -> ∃ β',Ext β β' /\ Rel x ρ β' s' a w /\ Fresh β' c':=by
 unfold frzSt at h
 cases hb:hpOf s.hp id with
 | none=>rw [hb] at h; cases h
 | some b =>
  rw [hb] at h
  simp only at h
  cases hv:vecOf b.cells with
  | none=>rw [hv] at h; cases h
  | some y =>
   obtain ⟨ks,q,n⟩:=y
   rw [hv] at h
   simp only at h
   split at h
   ·rename_i hg
    simp only [List.isEmpty_iff] at hg
    obtain ⟨_,c1,o1,c2,o2,y,g1,g2,e1⟩:=M.bind_inv h
    simp only [newId,Option.some.injEq,Prod.mk.injEq] at g1
    obtain ⟨_,rfl,rfl⟩:=g1
    have g2:=M.pure_inv g2
    simp only [Prod.mk.injEq] at g2 e1
    obtain ⟨rfl,rfl,rfl⟩:=g2
    obtain ⟨rfl,rfl,rfl⟩:=e1
    refine ⟨by simp,fun β a w hR hF=>?_⟩
    have hbm:=(blkMt_row hv).1 (hR.hm id b hb (by rw [hg]; rfl))
    change b.ro = false /\ rowMt β ρ w id ks q n at hbm
    obtain ⟨hro0,r,cap,l,hr,hrow,hro,hne,hlen,hrc,hq,hn,hin,hll,hsq,hcells⟩:=hbm
    have hfid:β c.id = none:=hF c.id (Nat.le_refl _)
    have hne1:id ≠ c.id:=fun e=>by rw [e,hfid] at hr; cases hr
    have hkl:0 < ks.length:=List.length_pos_iff.2 hne
    have hmul:r.rn * ks.length <= cap * ks.length:=Nat.mul_le_mul_right _ hrc
    have hcov:Cov x.R x.w0.heap.size r:=(hR.bo.may id r hr).resolve_left (by rw [hro]; simp)
    have hb1:BetaOk x.w0.heap.size x.R x.Q (β.set id { blk:=r.blk,off:=r.off,len:=0,ro:=false,row:=true }) w:=by
     refine hR.bo.bind (W:=[]) (by simp) (Keep.refl _ _) (fun j q _ _=>.inr (by unfold Rg.apart; simp)) (.inl rfl) (.inr ?_) (by simp) (by simp) (by simp)
     rcases hcov with h | ⟨q,hq,h1,h2,h3⟩
     ·exact .inl h
     ·exact .inr ⟨q,hq,h1,h2,by simp only; omega⟩
    have key:∃ β',BetaOk x.w0.heap.size x.R x.Q β' w /\ ExtP (fun i=>!(i == id)) β β' /\ (∀ i,c.id + 1 <= i -> β' i = none) /\ (r.rn ≠ 0 -> ∃ i r',β' i = some r' /\ r'.blk = r.blk /\ r'.off = r.off /\ r'.sq = some (ks,l)):=by
     have hext1:ExtP (fun i=>!(i == id)) β (β.set id { blk:=r.blk,off:=r.off,len:=0,ro:=false,row:=true }):=fun i p hi hp=>by
      by_cases e:i = id
      ·subst e
       rw [hr] at hi
       cases hi
       rcases hp with hp | hp
       ·rw [hrow] at hp; cases hp
       ·simp at hp
      ·rw [Beta.set_other _ _ e]; exact hi
     by_cases h0:r.rn = 0
     ·refine ⟨_,hb1,hext1,fun i hi=>?_,fun h=>absurd h0 h⟩
      by_cases e:i = id
      ·subst e; have:=hF i (by omega); rw [hr] at this; cases this
      ·rw [Beta.set_other _ _ e]; exact hF i (by omega)
     ·have hpos:0 < l.length:=by rw [hll]; exact Nat.mul_pos (by omega) hkl
      have hN:x.w0.heap.size <= r.blk:=by
       rcases hcov with h | ⟨p,hp,h1,h2,h3⟩
       ·exact h
       ·exfalso
        obtain ⟨j,hj⟩:=hgr p hp
        obtain ⟨e1,e2⟩:=hR.ra j p hj
        have hne2:id ≠ x.gi j:=fun e=>by rw [<- e,hr] at e2; cases e2; rw [hrow] at e1; cases e1
        have:=hR.bo.apartW hne2 hr e2 hro
        unfold Rg.apart at this
        omega
      have hlive:r.blk < w.heap.size:=by
       obtain ⟨⟨v,hv1,_⟩,_⟩:=hcells 0 (by rw [hlen]; omega)
       exact World.block_lt_of_cell? w ⟨r.blk,r.off + 0,none⟩ hv1
      refine ⟨(β.set id { blk:=r.blk,off:=r.off,len:=0,ro:=false,row:=true }).set c.id { blk:=r.blk,off:=r.off,len:=l.length,ro:=true,sq:=some (ks,l) },?_,fun i p hi hp=>?_,fun i hi=>?_,fun _=>⟨c.id,_,Beta.set_same _ _ _,rfl,rfl,rfl⟩⟩
      ·refine hb1.bind (W:=[]) (by simp) (Keep.refl _ _) (fun j p hj hp=>.inr ?_) (.inr hlive) (.inl rfl) (fun ks' l' he=>?_) (fun _=>.inl hN) (by simp)
       ·unfold Beta.set at hp
        split at hp
        ·cases hp; unfold Rg.apart; simp
        ·rename_i hjid
         have:=hR.bo.apartW (Ne.symm hjid) hr hp hro
         unfold Rg.apart at *
         simp only
         omega
       ·simp only [Option.some.injEq,Prod.mk.injEq] at he
        obtain ⟨rfl,rfl⟩:=he
        exact ⟨rfl,rfl,rfl,hsq⟩
      ·by_cases e:i = c.id
       ·subst e; rw [hfid] at hi; cases hi
       ·rw [Beta.set_other _ _ e]; exact hext1 i p hi hp
      ·rw [Beta.set_other _ _ (by omega)]
       by_cases e:i = id
       ·subst e; have:=hF i (by omega); rw [hr] at this; cases this
       ·rw [Beta.set_other _ _ e]; exact hF i (by omega)
    obtain ⟨β',k1,k2,k3,k4⟩:=key
    have hmv:Mv (fun i=>!(i == id)) β β':=Mv.of hR.bo k2
    have hfz:Fz β β' w id ks (q.d ρ) (n.d ρ):=⟨hmv,r,cap,l,hr,hrow,hlen,hne,hq,hn,hin,hll,k4⟩
    refine ⟨β',k2.ext,⟨by rw [hR.size]; simp,fun t z hz=>?_,hR.df,fun i b' hb' hg'=>?_,gm_stays hmv hR.gro hR.gm,hR.gro,k1,hR.kp,fun g vs hgv=>k2.at (hR.gl g vs hgv) rfl,fun j p hj=>⟨(hR.ra j p hj).1,k2.at (hR.ra j p hj).2 (hR.ra j p hj).1⟩,?_⟩,k3⟩
    ·simp only [List.getElem?_map,Option.map_eq_some_iff] at hz
     obtain ⟨u,hu,rfl⟩:=hz
     exact SV.fz_mt hfz (hR.slot t u hu)
    ·obtain ⟨e1,b0,e2,rfl⟩:=fzHp_get hb'
     exact fz_blk hfz e1 (hR.hm i b0 e2 hg')
    ·exact ExtP.uni (r1:=[id]) hR.eb (ExtP.pmono k2 fun i hi=>by have h9:i ∉ [id]:=pOf_true.1 hi; simpa using h9)
   ·cases h

def fzC (x y:C):List Nat :=
 match x with
 | .slm i _=>match y with
  | .slm j _=>if i == j then [] else [i]
  | .slx _ _ _=>[i]
  | y=>if asEmp y then [i] else []
 | _=>[]
def fzL:List C -> List C -> List Nat
 | x :: l,y :: m=>fzC x y ++ fzL l m
 | _,_=>[]
def fzT:List (Bool × List C) -> List (Bool × List C) -> List Nat
 | p :: l,q :: m=>fzL p.2 q.2 ++ fzT l m
 | _,_=>[]
def fzS:S -> S -> List Nat
 | .one _ l,.one _ m=>fzL l m
 | .tup l,.tup m=>fzT l m
 | _,_=>[]
def fzTm:List Bool -> List SV -> List SV -> List Nat
 | k,u :: us,v :: vs=>(if k.headD false && u.g.isEmpty && v.g.isEmpty then fzS u.s v.s else []) ++ fzTm k.tail us vs
 | _,_,_=>[]
def fzHb (h2:Hl):Hl -> List Nat
 | []=>[]
 | (i,b) :: l=>(match hpOf h2 i with | some b2=>if b.g.isEmpty && b2.g.isEmpty then fzL b.cells b2.cells else [] | none=>[]) ++ fzHb h2 l
def frzAll:List Nat -> St -> M St
 | [],s=>pure s
 | i :: l,s=>do
  let s' <- frzSt i s
  frzAll l s'
theorem frzAll_ok {x:Cx} (hgr:∀ q,q ∈ x.R -> ∃ j:Nat,x.gr[j]? = some q) {ρ:Env}:∀ {l:List Nat} {s s':St} {c c':Ctr} {o:List Em},frzAll l s c = some (s',c',o) -> c.id <= c'.id /\
  ∀ (β:Beta) (a:Act) (w:World),Rel x ρ β s a w -> Fresh β c -> ∃ β',Ext β β' /\ Rel x ρ β' s' a w /\ Fresh β' c'
 | [],s,s',c,c',o,h=>by
  have:=M.pure_inv h
  simp only [Prod.mk.injEq] at this
  obtain ⟨rfl,rfl,rfl⟩:=this
  exact ⟨Nat.le_refl _,fun β a w hR hF=>⟨β,Ext.refl β,hR,hF⟩⟩
 | i :: l,s,s',c,c',o,h=>by
  obtain ⟨s1,c1,o1,c2,o2,y,g1,g2,e1⟩:=M.bind_inv h
  simp only [Prod.mk.injEq] at e1
  obtain ⟨rfl,rfl,rfl⟩:=e1
  obtain ⟨h1,h2⟩:=frz_ok (x:=x) hgr (ρ:=ρ) g1
  obtain ⟨h3,h4⟩:=frzAll_ok hgr (ρ:=ρ) g2
  refine ⟨Nat.le_trans h1 h3,fun β a w hR hF=>?_⟩
  obtain ⟨β1,e1,r1,f1⟩:=h2 β a w hR hF
  obtain ⟨β2,e2,r2,f2⟩:=h4 β1 a w r1 f1
  exact ⟨β2,e1.trans e2,r2,f2⟩
structure Kp where
 l:List Bool
 fz:Bool:=false
def fzTo (keep:Kp) (u v:St):List Nat:=dedupN (fzTm keep.l u.tm v.tm ++ fzHb v.hp u.hp)
def joinFz (keep:Kp) (sel:B) (u v:St):M St:=do
 let u' <- frzAll (fzTo keep u v) u
 let v' <- frzAll (fzTo keep v u) v
 M.mono (muxSt keep.l sel u' v')
def joinSt (keep:Kp) (sel:B) (u v:St):M St:=if keep.fz then joinFz keep sel u v else muxSt keep.l sel u v
def GrOk (x:Cx) (keep:Kp):Prop:=keep.fz = true -> ∀ q,q ∈ x.R -> ∃ j:Nat,x.gr[j]? = some q
def JnOk (x:Cx) (ρ:Env) (c c':Ctr) (sel:Bool) (u v z:St):Prop:=∀ (β:Beta) (a:Act) (w:World),(if sel then Rel x ρ β u a w else Rel x ρ β v a w) -> Fresh β c -> ∃ β',Ext β β' /\ Rel x ρ β' z a w /\ Fresh β' c'
theorem joinSt_ok {Φ:Funs} {x:Cx} {ρ:Env} {keep:Kp} (hx:GrOk x keep) {sel:B} {u v z:St} {c c':Ctr} {o:List Em} (h:M.mono (joinSt keep sel u v) c = some (z,c',o)) (hg:Good Φ ρ o):c.id <= c'.id /\ JnOk x ρ c c' (sel.d ρ) u v z:=by
 obtain ⟨h,hle⟩:=mono_inv h
 refine ⟨hle,?_⟩
 unfold joinSt at h
 split at h
 ·rename_i hfz
  unfold joinFz at h
  obtain ⟨u',c1,o1,c2,o2,y,g1,g2,e1⟩:=M.bind_inv h
  obtain ⟨v',c3,o3,c4,o4,y2,g3,g4,e2⟩:=M.bind_inv g2
  simp only [Prod.mk.injEq] at e2 e1
  obtain ⟨rfl,rfl,rfl⟩:=e2
  obtain ⟨rfl,rfl,rfl⟩:=e1
  obtain ⟨h1,h2⟩:=frzAll_ok (x:=x) (hx hfz) (ρ:=ρ) g1
  obtain ⟨h3,h4⟩:=frzAll_ok (x:=x) (hx hfz) (ρ:=ρ) g3
  obtain ⟨g4,hid⟩:=mono_inv g4
  have hm:=muxSt_snd (Φ:=Φ) (x:=x) (ρ:=ρ) keep.l sel u' v' _ _ _ _ g4 (Good.append.1 (Good.append.1 hg).2).2
  simp only at hid
  intro β a w hR hF
  split at hR
  ·rename_i hs
   obtain ⟨β1,e1,r1,f1⟩:=h2 β a w hR hF
   exact ⟨β1,e1,hm β1 a w (by rw [if_pos hs]; exact r1),f1.le (by omega)⟩
  ·rename_i hs
   obtain ⟨β1,e1,r1,f1⟩:=h4 β a w hR (hF.le h1)
   exact ⟨β1,e1,hm β1 a w (by rw [if_neg hs]; exact r1),f1.le (by omega)⟩
 ·intro β a w hR hF
  exact ⟨β,Ext.refl β,muxSt_snd (Φ:=Φ) (x:=x) (ρ:=ρ) keep.l sel u v _ _ _ _ h hg β a w hR,hF.le hle⟩
end Go.Proofs.YtfgbfdlacnihkaaGreatDoor.Sx
namespace Go.Proofs.YtfgbfdlacnihkaaGreatDoor.Sx
open Go

inductive Kd where
 | n
 | r
 | x (id:Nat)
def Kd.eq:Kd -> Kd -> Bool
 | .n,.n | .r,.r=>true
 | .x i,.x j=>i == j
 | _,_=>false
theorem Kd.eq_sound {k l:Kd} (h:k.eq l = true):k = l:=by
 cases k <;> cases l <;> simp_all [Kd.eq]
theorem Kd.eq_refl (k:Kd):k.eq k = true:=by cases k <;> simp [Kd.eq]
theorem Kd.eq_ne {k l:Kd} (h:k ≠ l):k.eq l = false:=by
 cases hk:k.eq l
 ·rfl
 ·exact absurd (Kd.eq_sound hk) h

abbrev Outs:=List (Kd × Gd × St)
def getK (k:Kd):Outs -> Option (Gd × St)
 | []=>none
 | (l,q,s) :: o=>if k.eq l then some (q,s) else getK k o
def kdOf:Exit -> Option Kd
 | .normal=>some .n
 | .ret=>some .r
 | .exit id=>some (.x id)
 | _=>none

def OutMt (x:Cx) (ρ:Env) (β:Beta) (c:Ctr) (O:Outs) (K:Kd) (a:Act) (w:World):Prop :=
 (∀ k q s,getK k O = some (q,s) -> (Gd.d ρ q = true ↔ k = K)) /\ ∃ q s β',getK K O = some (q,s) /\ Ext β β' /\ Rel x ρ β' s a w /\ Fresh β' c

def single (O:Outs):Outs :=
 match O with
 | [(k,_,s)]=>[(k,[],s)]
 | O=>O
theorem single_mt {x:Cx} {ρ:Env} {β:Beta} {c:Ctr} {O:Outs} {K:Kd} {a:Act} {w:World} (h:OutMt x ρ β c O K a w):OutMt x ρ β c (single O) K a w:=by
 unfold single
 split
 ·rename_i k q s
  obtain ⟨h1,q',s',β',h2,h3⟩:=h
  unfold getK at h2
  split at h2
  ·rename_i he
   have:=Kd.eq_sound he
   subst this
   simp only [Option.some.injEq,Prod.mk.injEq] at h2
   obtain ⟨rfl,rfl⟩:=h2
   refine ⟨fun k q s hk=>?_,[],_,β',by simp [getK,Kd.eq_refl],h3⟩
   unfold getK at hk
   split at hk
   ·rename_i he'
    simp only [Option.some.injEq,Prod.mk.injEq] at hk
    obtain ⟨rfl,rfl⟩:=hk
    simp [Kd.eq_sound he']
   ·simp [getK] at hk
  ·simp [getK] at h2
 ·exact h

def mergeGo (keep:Kp) (sel:B) (p1:Gd) (O2:Outs):Outs -> M Outs
 | []=>pure []
 | (k,q1,s1) :: l=>do
  let r <- mergeGo keep sel p1 O2 l
  match getK k O2 with
  | none=>pure ((k,p1 ++ q1,s1) :: r)
  | some (q2,s2)=>do
   let q <- (if q1.isEmpty && q2.isEmpty then pure [] else do
    let a1 <- gAtom q1
    let a2 <- gAtom q2
    let b <- mkIteB sel a1 a2
    pure [(b,true)])
   let s <- M.mono (joinSt keep sel s1 s2)
   pure ((k,q,s) :: r)
def restGo (p2:Gd) (O1:Outs):Outs -> Outs
 | []=>[]
 | (k,q,s) :: l=>match getK k O1 with
  | none=>(k,p2 ++ q,s) :: restGo p2 O1 l
  | some _=>restGo p2 O1 l
def mergeAny (keep:Kp) (sel:B) (p1 p2:Gd) (O1 O2:Outs):M Outs:=do
 let r <- mergeGo keep sel p1 O2 O1
 pure (single (r ++ restGo p2 O1 O2))
def ones (O1 O2:Outs):Option (Kd × St × St) :=
 match O1,O2 with
 | [(k1,_,s1)],[(k2,_,s2)]=>if k1.eq k2 then some (k1,s1,s2) else none
 | _,_=>none
def merge (keep:Kp) (sel:B) (p1 p2:Gd) (O1 O2:Outs):M Outs :=
 match ones O1 O2 with
 | some (k,s1,s2)=>do pure [(k,[],<- M.mono (joinSt keep sel s1 s2))]
 | none=>mergeAny keep sel p1 p2 O1 O2

section
variable {Φ:Funs} {x:Cx} {ρ:Env}
theorem getK_append (k:Kd):∀ (O O':Outs),getK k (O ++ O') = match getK k O with | some p=>some p | none=>getK k O'
 | [],O'=>rfl
 | (l,q,s) :: O,O'=>by
  simp only [List.cons_append,getK]
  split
  ·rfl
  ·exact getK_append k O O'
theorem restGo_get (p2:Gd) (O1:Outs) (k:Kd):∀ (O:Outs),getK k (restGo p2 O1 O) = match getK k O1 with | some _=>none | none=>(getK k O).map fun p=>(p2 ++ p.1,p.2)
 | []=>by simp only [restGo,getK]; split <;> rfl
 | (l,q,s) :: O=>by
  unfold restGo
  have ih:=restGo_get p2 O1 k O
  split
  ·rename_i hl
   simp only [getK]
   split
   ·rename_i he
    rw [Kd.eq_sound he,hl]
    rfl
   ·exact ih
  ·rename_i v hl
   rw [ih]
   split
   ·rfl
   ·rename_i hk
    simp only [getK]
    split
    ·rename_i he
     rw [Kd.eq_sound he,hl] at hk
     cases hk
    ·rfl
theorem newB_id {r:RB} {x:B} {c c':Ctr} {o:List Em} (h:newB r c = some (x,c',o)):c'.id = c.id:=by
 simp only [newB,Option.some.injEq,Prod.mk.injEq] at h; rw [<- h.2.1]
theorem pure_id {α:Type} {y x:α} {c c':Ctr} {o:List Em} (h:(Pure.pure y:M α) c = some (x,c',o)):c'.id = c.id:=by
 have:=M.pure_inv h; simp only [Prod.mk.injEq] at this; rw [this.2.1]
theorem mkAnd_id {a b x:B} {c c':Ctr} {o:List Em} (h:mkAnd a b c = some (x,c',o)):c'.id = c.id:=by
 unfold mkAnd at h
 split at h <;> first | exact pure_id h | exact newB_id h
theorem mkIteB_id {k a b x:B} {c c':Ctr} {o:List Em} (h:mkIteB k a b c = some (x,c',o)):c'.id = c.id:=by
 unfold mkIteB at h
 split at h
 ·exact pure_id h
 ·exact pure_id h
 ·split at h
  ·exact pure_id h
  ·split at h <;> first | exact pure_id h | exact newB_id h
theorem gAtom_id:∀ {g:Gd} {x:B} {c c':Ctr} {o:List Em},gAtom g c = some (x,c',o) -> c'.id = c.id
 | [],x,c,c',o,h=>pure_id h
 | (b,k) :: g,x,c,c',o,h=>by
  unfold gAtom at h
  obtain ⟨y1,c1,o1,c2,o2,z1,g1,g2,e1⟩:=M.bind_inv h
  obtain ⟨y2,c3,o3,c4,o4,z2,g3,g4,e2⟩:=M.bind_inv g2
  simp only [Prod.mk.injEq] at e2 e1
  obtain ⟨rfl,rfl,rfl⟩:=e2
  obtain ⟨rfl,rfl,rfl⟩:=e1
  have h1:c1.id = c.id:=by
   split at g1
   ·exact pure_id g1
   ·exact mkNot_id g1
  have h2:=gAtom_id g3
  have h3:=mkAnd_id g4
  omega
theorem atomQ_id {sel:B} {q1 q2:Gd} {q:Gd} {c c':Ctr} {o:List Em} (h:(if q1.isEmpty && q2.isEmpty then pure [] else do
    let a1 <- gAtom q1
    let a2 <- gAtom q2
    let b <- mkIteB sel a1 a2
    pure [(b,true)]:M Gd) c = some (q,c',o)):c'.id = c.id:=by
 split at h
 ·exact pure_id h
 ·obtain ⟨y1,c1,o1,c2,o2,z1,g1,g2,e1⟩:=M.bind_inv h
  obtain ⟨y2,c3,o3,c4,o4,z2,g3,g4,e2⟩:=M.bind_inv g2
  obtain ⟨y3,c5,o5,c6,o6,z3,g5,g6,e3⟩:=M.bind_inv g4
  simp only [Prod.mk.injEq] at e3 e2 e1
  obtain ⟨rfl,rfl,rfl⟩:=e3
  obtain ⟨rfl,rfl,rfl⟩:=e2
  obtain ⟨rfl,rfl,rfl⟩:=e1
  have h1:=gAtom_id g1
  have h2:=gAtom_id g3
  have h3:=mkIteB_id g5
  have h4:=pure_id g6
  omega
theorem atomQ {sel:B} {q1 q2:Gd}:Snd Φ ρ (if q1.isEmpty && q2.isEmpty then pure [] else do
    let a1 <- gAtom q1
    let a2 <- gAtom q2
    let b <- mkIteB sel a1 a2
    pure [(b,true)]:M Gd) (fun q=>Gd.d ρ q = if sel.d ρ then Gd.d ρ q1 else Gd.d ρ q2):=by
 split
 ·rename_i hc
  simp only [Bool.and_eq_true,List.isEmpty_iff] at hc
  obtain ⟨rfl,rfl⟩:=hc
  exact Snd.pure (by simp)
 ·refine Snd.bind (gAtom_snd q1) fun a1 h1=>Snd.bind (gAtom_snd q2) fun a2 h2=>Snd.bind (mkIteB_snd sel a1 a2) fun b hb=>Snd.pure ?_
  rw [Gd.d_cons,Gd.d_nil,hb,h1,h2]
  cases sel.d ρ <;> simp
theorem mergeGo_ok {keep:Kp} (hx:GrOk x keep) (sel:B) (p1:Gd) (O2:Outs):∀ (O1:Outs) {r:Outs} {c c':Ctr} {o:List Em},mergeGo keep sel p1 O2 O1 c = some (r,c',o) -> Good Φ ρ o -> c.id <= c'.id /\ ∀ k,match getK k O1 with
  | none=>getK k r = none
  | some (q1,s1)=>match getK k O2 with
   | none=>getK k r = some (p1 ++ q1,s1)
   | some (q2,s2)=>∃ q s c1 c2,getK k r = some (q,s) /\ (Gd.d ρ q = if sel.d ρ then Gd.d ρ q1 else Gd.d ρ q2) /\ c.id <= c1.id /\ c2.id <= c'.id /\ JnOk x ρ c1 c2 (sel.d ρ) s1 s2 s
 | [],r,c,c',o,h,hg=>by
  have:=M.pure_inv h
  simp only [Prod.mk.injEq] at this
  obtain ⟨rfl,rfl,rfl⟩:=this
  exact ⟨Nat.le_refl _,fun k=>rfl⟩
 | (l,q1,s1) :: O1,r,c,c',o,h,hg=>by
  unfold mergeGo at h
  obtain ⟨r0,c1,o1,c2,o2,y,g1,g2,e1⟩:=M.bind_inv h
  simp only [Prod.mk.injEq] at e1
  obtain ⟨rfl,rfl,rfl⟩:=e1
  obtain ⟨hg1,hg2⟩:=Good.append.1 hg
  obtain ⟨hle,hr⟩:=mergeGo_ok hx sel p1 O2 O1 g1 hg1
  cases hl:getK l O2 with
  | none =>
   rw [hl] at g2
   have:=M.pure_inv g2
   simp only [Prod.mk.injEq] at this
   obtain ⟨rfl,rfl,rfl⟩:=this
   refine ⟨hle,fun k=>?_⟩
   simp only [getK]
   by_cases he:k.eq l = true
   ·rw [if_pos he,if_pos he]
    rw [Kd.eq_sound he,hl]
   ·rw [if_neg he,if_neg he]
    exact hr k
  | some p =>
   obtain ⟨q2,s2⟩:=p
   rw [hl] at g2
   simp only at g2
   obtain ⟨q,c3,o3,c4,o4,y2,g3,g4,e2⟩:=M.bind_inv g2
   obtain ⟨s,c5,o5,c6,o6,y3,g5,g6,e3⟩:=M.bind_inv g4
   have:=M.pure_inv g6
   simp only [Prod.mk.injEq] at this e3 e2
   obtain ⟨rfl,rfl,rfl⟩:=this
   obtain ⟨rfl,rfl,rfl⟩:=e3
   obtain ⟨rfl,rfl,rfl⟩:=e2
   obtain ⟨hg3,hg4⟩:=Good.append.1 hg2
   have hq:=atomQ (Φ:=Φ) (ρ:=ρ) (sel:=sel) (q1:=q1) (q2:=q2) _ _ _ _ g3 hg3
   have hq3:c3.id = c1.id:=atomQ_id g3
   obtain ⟨hle2,hj⟩:=joinSt_ok (Φ:=Φ) (x:=x) (ρ:=ρ) hx g5 (Good.append.1 hg4).1
   refine ⟨by omega,fun k=>?_⟩
   simp only [getK]
   by_cases he:k.eq l = true
   ·rw [if_pos he,if_pos he]
    rw [Kd.eq_sound he,hl]
    exact ⟨q,s,_,_,rfl,hq,by omega,Nat.le_refl _,hj⟩
   ·rw [if_neg he,if_neg he]
    have hrk:=hr k
    cases hk1:getK k O1 with
    | none=>rw [hk1] at hrk; exact hrk
    | some p1' =>
     rw [hk1] at hrk
     simp only at hrk ⊢
     cases hk2:getK k O2 with
     | none=>rw [hk2] at hrk; exact hrk
     | some p2' =>
      rw [hk2] at hrk
      simp only at hrk ⊢
      obtain ⟨q',s',d1,d2,t1,t2,t3,t4,t5⟩:=hrk
      exact ⟨q',s',d1,d2,t1,t2,t3,by omega,t5⟩
theorem mergeAny_left {keep:Kp} (hx:GrOk x keep) {sel:B} {p1 p2:Gd} {O1 O2:Outs} (hsel:sel.d ρ = true) (hp1:Gd.d ρ p1 = true) (h2:∀ k q s,getK k O2 = some (q,s) -> getK k O1 = none -> Gd.d ρ (p2 ++ q) = false) :
  ∀ {O:Outs} {c c':Ctr} {o:List Em},mergeAny keep sel p1 p2 O1 O2 c = some (O,c',o) -> Good Φ ρ o -> c.id <= c'.id /\ ∀ β K a w,OutMt x ρ β c O1 K a w -> OutMt x ρ β c' O K a w:=by
 intro O c c' o hrun hg
 unfold mergeAny at hrun
 obtain ⟨r,c1,o1,c2,o2,y,g1,g2,e1⟩:=M.bind_inv hrun
 have g2:=M.pure_inv g2
 simp only [Prod.mk.injEq] at g2 e1
 obtain ⟨rfl,rfl,rfl⟩:=g2
 obtain ⟨rfl,rfl,rfl⟩:=e1
 obtain ⟨hle,hr⟩:=mergeGo_ok (Φ:=Φ) (x:=x) hx sel p1 O2 O1 g1 (Good.append.1 hg).1
 refine ⟨hle,fun β K a w h=>single_mt ?_⟩
 obtain ⟨h1,q,s,β',hK,hE,hR,hF⟩:=h
 refine ⟨fun k q' s' hk=>?_,?_⟩
 ·have hrk:=hr k
  rw [getK_append] at hk
  cases hg1:getK k O1 with
  | none =>
   rw [hg1] at hrk
   simp only at hrk
   rw [hrk] at hk
   simp only at hk
   rw [restGo_get,hg1] at hk
   simp only [Option.map_eq_some_iff] at hk
   obtain ⟨p,hp,he⟩:=hk
   obtain ⟨q2,s2⟩:=p
   simp only [Prod.mk.injEq] at he
   obtain ⟨rfl,rfl⟩:=he
   rw [h2 k q2 s2 hp hg1]
   constructor
   ·intro hc; cases hc
   ·intro hc; subst hc; rw [hg1] at hK; cases hK
  | some p =>
   obtain ⟨q1,s1⟩:=p
   rw [hg1] at hrk
   simp only at hrk
   have hq1:=h1 k q1 s1 hg1
   cases hg2:getK k O2 with
   | none =>
    rw [hg2] at hrk
    simp only at hrk
    rw [hrk] at hk
    simp only [Option.some.injEq,Prod.mk.injEq] at hk
    obtain ⟨rfl,rfl⟩:=hk
    rw [Gd.d_append,hp1,Bool.true_and]
    exact hq1
   | some p2' =>
    obtain ⟨q2,s2⟩:=p2'
    rw [hg2] at hrk
    simp only at hrk
    obtain ⟨q3,s3,d1,d2,g1,g2,_⟩:=hrk
    rw [g1] at hk
    simp only [Option.some.injEq,Prod.mk.injEq] at hk
    obtain ⟨rfl,rfl⟩:=hk
    rw [g2,if_pos hsel]
    exact hq1
 ·have hrk:=hr K
  rw [hK] at hrk
  simp only at hrk
  cases hg2:getK K O2 with
  | none =>
   rw [hg2] at hrk
   simp only at hrk
   exact ⟨_,s,β',by rw [getK_append,hrk],hE,hR,hF.le hle⟩
  | some p2' =>
   obtain ⟨q2,s2⟩:=p2'
   rw [hg2] at hrk
   simp only at hrk
   obtain ⟨q3,s3,d1,d2,g1,g2,le1,le2,g3⟩:=hrk
   obtain ⟨β2,e2,r2,f2⟩:=g3 β' a w (by rw [if_pos hsel]; exact hR) (hF.le le1)
   exact ⟨q3,s3,β2,by rw [getK_append,g1],hE.trans e2,r2,f2.le le2⟩
theorem mergeAny_right {keep:Kp} (hx:GrOk x keep) {sel:B} {p1 p2:Gd} {O1 O2:Outs} (hsel:sel.d ρ = false) (hp2:Gd.d ρ p2 = true) (h1:∀ k q s,getK k O1 = some (q,s) -> getK k O2 = none -> Gd.d ρ (p1 ++ q) = false) :
  ∀ {O:Outs} {c c':Ctr} {o:List Em},mergeAny keep sel p1 p2 O1 O2 c = some (O,c',o) -> Good Φ ρ o -> c.id <= c'.id /\ ∀ β K a w,OutMt x ρ β c O2 K a w -> OutMt x ρ β c' O K a w:=by
 intro O c c' o hrun hg
 unfold mergeAny at hrun
 obtain ⟨r,c1,o1,c2,o2,y,g1,g2,e1⟩:=M.bind_inv hrun
 have g2:=M.pure_inv g2
 simp only [Prod.mk.injEq] at g2 e1
 obtain ⟨rfl,rfl,rfl⟩:=g2
 obtain ⟨rfl,rfl,rfl⟩:=e1
 obtain ⟨hle,hr⟩:=mergeGo_ok (Φ:=Φ) (x:=x) hx sel p1 O2 O1 g1 (Good.append.1 hg).1
 refine ⟨hle,fun β K a w h=>single_mt ?_⟩
 obtain ⟨h2,q,s,β',hK,hE,hR,hF⟩:=h
 have hsel':¬ (sel.d ρ = true):=by simp [hsel]
 refine ⟨fun k q' s' hk=>?_,?_⟩
 ·have hrk:=hr k
  rw [getK_append] at hk
  cases hg1:getK k O1 with
  | none =>
   rw [hg1] at hrk
   simp only at hrk
   rw [hrk] at hk
   simp only at hk
   rw [restGo_get,hg1] at hk
   simp only [Option.map_eq_some_iff] at hk
   obtain ⟨p,hp,he⟩:=hk
   obtain ⟨q2,s2⟩:=p
   simp only [Prod.mk.injEq] at he
   obtain ⟨rfl,rfl⟩:=he
   rw [Gd.d_append,hp2,Bool.true_and]
   exact h2 k q2 s2 hp
  | some p =>
   obtain ⟨q1,s1⟩:=p
   rw [hg1] at hrk
   simp only at hrk
   cases hg2:getK k O2 with
   | none =>
    rw [hg2] at hrk
    simp only at hrk
    rw [hrk] at hk
    simp only [Option.some.injEq,Prod.mk.injEq] at hk
    obtain ⟨rfl,rfl⟩:=hk
    rw [h1 k q1 _ hg1 hg2]
    constructor
    ·intro hc; cases hc
    ·intro hc; subst hc; rw [hg2] at hK; cases hK
   | some p2' =>
    obtain ⟨q2,s2⟩:=p2'
    rw [hg2] at hrk
    simp only at hrk
    obtain ⟨q3,s3,d1,d2,g1,g2,_⟩:=hrk
    rw [g1] at hk
    simp only [Option.some.injEq,Prod.mk.injEq] at hk
    obtain ⟨rfl,rfl⟩:=hk
    rw [g2,if_neg hsel']
    exact h2 k q2 s2 hg2
 ·have hrk:=hr K
  cases hg1:getK K O1 with
  | none =>
   rw [hg1] at hrk
   simp only at hrk
   refine ⟨_,s,β',by rw [getK_append,hrk,restGo_get,hg1,hK]; rfl,hE,hR,hF.le hle⟩
  | some p1' =>
   obtain ⟨q1,s1⟩:=p1'
   rw [hg1] at hrk
   simp only at hrk
   rw [hK] at hrk
   simp only at hrk
   obtain ⟨q3,s3,d1,d2,g1,g2,le1,le2,g3⟩:=hrk
   obtain ⟨β2,e2,r2,f2⟩:=g3 β' a w (by rw [if_neg hsel']; exact hR) (hF.le le1)
   exact ⟨q3,s3,β2,by rw [getK_append,g1],hE.trans e2,r2,f2.le le2⟩
theorem ones_spec {O1 O2:Outs} {k:Kd} {s1 s2:St} (h:ones O1 O2 = some (k,s1,s2)):(∃ q,O1 = [(k,q,s1)]) /\ ∃ q,O2 = [(k,q,s2)]:=by
 unfold ones at h
 split at h
 ·split at h
  ·rename_i hk
   simp only [Option.some.injEq,Prod.mk.injEq] at h
   obtain ⟨rfl,rfl,rfl⟩:=h
   rw [<- Kd.eq_sound hk]
   exact ⟨⟨_,rfl⟩,⟨_,rfl⟩⟩
  ·cases h
 ·cases h
theorem one_mt {β:Beta} {c c':Ctr} {k K:Kd} {q:Gd} {s s':St} {a:Act} {w:World} (h:OutMt x ρ β c [(k,q,s)] K a w) (hs:∀ β,Rel x ρ β s a w -> Fresh β c -> ∃ β',Ext β β' /\ Rel x ρ β' s' a w /\ Fresh β' c'):OutMt x ρ β c' [(k,[],s')] K a w:=by
 obtain ⟨h1,q',t,β',h2,hE,hR,hF⟩:=h
 unfold getK at h2
 split at h2
 ·rename_i he
  have:=Kd.eq_sound he
  subst this
  simp only [Option.some.injEq,Prod.mk.injEq] at h2
  obtain ⟨rfl,rfl⟩:=h2
  obtain ⟨β2,e2,r2,f2⟩:=hs β' hR hF
  refine ⟨fun k q s hk=>?_,[],s',β2,by simp [getK,Kd.eq_refl],hE.trans e2,r2,f2⟩
  unfold getK at hk
  split at hk
  ·rename_i he'
   simp only [Option.some.injEq,Prod.mk.injEq] at hk
   obtain ⟨rfl,rfl⟩:=hk
   simp [Kd.eq_sound he']
  ·simp [getK] at hk
 ·simp [getK] at h2
theorem merge_left {keep:Kp} (hx:GrOk x keep) {sel:B} {p1 p2:Gd} {O1 O2:Outs} (hsel:sel.d ρ = true) (hp1:Gd.d ρ p1 = true) (h2:∀ k q s,getK k O2 = some (q,s) -> getK k O1 = none -> Gd.d ρ (p2 ++ q) = false) :
  ∀ {O:Outs} {c c':Ctr} {o:List Em},merge keep sel p1 p2 O1 O2 c = some (O,c',o) -> Good Φ ρ o -> c.id <= c'.id /\ ∀ β K a w,OutMt x ρ β c O1 K a w -> OutMt x ρ β c' O K a w:=by
 intro O c c' o hrun hg
 unfold merge at hrun
 cases ho:ones O1 O2 with
 | some y =>
  obtain ⟨k,s1,s2⟩:=y
  rw [ho] at hrun
  simp only at hrun
  obtain ⟨⟨q1,rfl⟩,q2,rfl⟩:=ones_spec ho
  obtain ⟨s,c1,o1,c2,o2,y,g1,g2,e1⟩:=M.bind_inv hrun
  have g2:=M.pure_inv g2
  simp only [Prod.mk.injEq] at g2 e1
  obtain ⟨rfl,rfl,rfl⟩:=g2
  obtain ⟨rfl,rfl,rfl⟩:=e1
  obtain ⟨hle,hj⟩:=joinSt_ok (Φ:=Φ) (x:=x) (ρ:=ρ) hx g1 (Good.append.1 hg).1
  exact ⟨hle,fun β K a w h=>one_mt h fun β hR hF=>hj β a w (by rw [if_pos hsel]; exact hR) hF⟩
 | none =>
  rw [ho] at hrun
  exact mergeAny_left hx hsel hp1 h2 hrun hg
theorem merge_right {keep:Kp} (hx:GrOk x keep) {sel:B} {p1 p2:Gd} {O1 O2:Outs} (hsel:sel.d ρ = false) (hp2:Gd.d ρ p2 = true) (h1:∀ k q s,getK k O1 = some (q,s) -> getK k O2 = none -> Gd.d ρ (p1 ++ q) = false) :
  ∀ {O:Outs} {c c':Ctr} {o:List Em},merge keep sel p1 p2 O1 O2 c = some (O,c',o) -> Good Φ ρ o -> c.id <= c'.id /\ ∀ β K a w,OutMt x ρ β c O2 K a w -> OutMt x ρ β c' O K a w:=by
 intro O c c' o hrun hg
 unfold merge at hrun
 cases ho:ones O1 O2 with
 | some y =>
  obtain ⟨k,s1,s2⟩:=y
  rw [ho] at hrun
  simp only at hrun
  obtain ⟨⟨q1,rfl⟩,q2,rfl⟩:=ones_spec ho
  obtain ⟨s,c1,o1,c2,o2,y,g1,g2,e1⟩:=M.bind_inv hrun
  have g2:=M.pure_inv g2
  simp only [Prod.mk.injEq] at g2 e1
  obtain ⟨rfl,rfl,rfl⟩:=g2
  obtain ⟨rfl,rfl,rfl⟩:=e1
  obtain ⟨hle,hj⟩:=joinSt_ok (Φ:=Φ) (x:=x) (ρ:=ρ) hx g1 (Good.append.1 hg).1
  exact ⟨hle,fun β K a w h=>one_mt h fun β hR hF=>hj β a w (by rw [if_neg (by simp [hsel])]; exact hR) hF⟩
 | none =>
  rw [ho] at hrun
  exact mergeAny_right hx hsel hp2 h1 hrun hg
end
end Go.Proofs.YtfgbfdlacnihkaaGreatDoor.Sx
namespace Go.Proofs.YtfgbfdlacnihkaaGreatDoor.Sx
open Go

section mat
variable (ni:Nat -> Option A) (nb:Nat -> Option B)
def A.mat:A -> A -> Bool
 | .v j,a=>match ni j with | some x=>x.eq a | none=>false
 | .c n,.c m=>n == m
 | .c _,.v _=>false
def B.mat:B -> B -> Bool
 | .v j,a=>match nb j with | some x=>x.eq a | none=>false
 | .c n,.c m=>n == m
 | .c _,.v _=>false
def gMat:Gd -> Gd -> Bool
 | [],[]=>true
 | (b,k) :: g,(c,l) :: h=>b.mat nb c && k == l && gMat g h
 | _,_=>false
def altMat:List (B × Nat × Nat) -> List (B × Nat × Nat) -> Bool
 | [],[]=>true
 | (b,i,o) :: g,(c,j,p) :: h=>b.mat nb c && i == j && o == p && altMat g h
 | _,_=>false
def C.mat:C -> C -> Bool
 | .int k t,.int l a=>k == l && t.mat ni a
 | .bool t,.bool a=>t.mat nb a
 | .ptr l i o,.ptr m j p=>i == j && o == p && altMat nb l m
 | .pix i o s n a k,.pix j p s' n' a' k'=>i == j && o == p && s == s' && n == n' && k == k' && a.mat ni a'
 | .sli i o n c,.sli j p n' c'=>i == j && o == p && n == n' && c == c'
 | .slx ks q n,c=>match asSlx ks c with | some x=>q.mat ni x.1 && n.mat ni x.2 | none=>false
 | .slm i ks,.slm j ks'=>i == j && cksEq ks ks'
 | .vec ks q n,.vec ks' q' n'=>cksEq ks ks' && q.mat ni q' && n.mat ni n'
 | .emp,c=>asEmp c
 | .val u,.val v=>vEq u v
 | .junk,.vec _ _ _=>false
 | .junk,_=>true
 | .str q,c=>match asStr c with | some p=>q.mat ni p | none=>false
 | .fn l d,.fn l' d'=>l.isEmpty && l'.isEmpty && d == d'
 | _,_=>false
def lMat:List C -> List C -> Bool
 | [],[]=>true
 | c :: l,d :: m=>c.mat ni nb d && lMat l m
 | _,_=>false
def tMat:List (Bool × List C) -> List (Bool × List C) -> Bool
 | [],[]=>true
 | p :: l,q :: m=>p.1 == q.1 && lMat ni nb p.2 q.2 && tMat l m
 | _,_=>false
def S.mat:S -> S -> Bool
 | .any,_=>true
 | .one p l,.one q m=>p == q && lMat ni nb l m
 | .tup l,.tup m=>tMat ni nb l m
 | _,_=>false
def isAny:SV -> Bool
 | { g:=[],s:=.any }=>true
 | _=>false
def SV.mat (t v:SV):Bool:=isAny t || (gMat nb t.g v.g && t.s.mat ni nb v.s)
def tmMat:List SV -> List SV -> Bool
 | [],[]=>true
 | t :: l,v :: m=>t.mat ni nb v && tmMat l m
 | _,_=>false
def blMat (s:Hl) (p:Nat × Blk):Bool:=match hpOf s p.1 with
 | some b=>gMat nb p.2.g b.g && p.2.ro == b.ro && lMat ni nb p.2.cells b.cells
 | none=>false
def St.mat (t s:St):Bool:=tmMat ni nb t.tm s.tm && (t.hp.all (blMat ni nb s.hp) && (s.rb.all (fun i=>t.rb.contains i) && (t.js.b.mat nb s.js.b && t.js.a.mat ni s.js.a)))
end mat

structure NEnv (ni:Nat -> Option A) (nb:Nat -> Option B) (ρ0 ρ1:Env):Prop where
 i:∀ j a,ni j = some a -> ρ0.i j = a.d ρ1
 b:∀ j a,nb j = some a -> ρ0.b j = a.d ρ1
section
variable {ni:Nat -> Option A} {nb:Nat -> Option B} {ρ0 ρ1:Env} (hn:NEnv ni nb ρ0 ρ1)
include hn
theorem A.mat_d {t a:A} (h:t.mat ni a = true):t.d ρ0 = a.d ρ1:=by
 cases t with
 | v j =>
  simp only [A.mat] at h
  split at h
  ·rename_i x hx
   rw [<- A.eq_sound h]
   exact hn.i j x hx
  ·cases h
 | c n =>
  cases a with
  | v _=>simp [A.mat] at h
  | c m=>simp only [A.mat,beq_iff_eq] at h; rw [h]; rfl
theorem B.mat_d {t a:B} (h:t.mat nb a = true):t.d ρ0 = a.d ρ1:=by
 cases t with
 | v j =>
  simp only [B.mat] at h
  split at h
  ·rename_i x hx
   rw [<- B.eq_sound h]
   exact hn.b j x hx
  ·cases h
 | c n =>
  cases a with
  | v _=>simp [B.mat] at h
  | c m=>simp only [B.mat,beq_iff_eq] at h; rw [h]; rfl
theorem gMat_d:∀ {g h:Gd},gMat nb g h = true -> Gd.d ρ0 g = Gd.d ρ1 h
 | [],[],_=>rfl
 | (b,k) :: g,(c,l) :: h,he=>by
  simp only [gMat,Bool.and_eq_true,beq_iff_eq] at he
  rw [Gd.d_cons,Gd.d_cons,gMat_d he.2,B.mat_d hn he.1.1,he.1.2]
 | [],_ :: _,he=>by simp [gMat] at he
 | _ :: _,[],he=>by simp [gMat] at he
theorem altMat_pick {i o:Nat}:∀ {l m:List (B × Nat × Nat)},altMat nb l m = true -> pick ρ0 l i o = pick ρ1 m i o
 | [],[],_=>rfl
 | (b,j,p) :: l,(c,j',p') :: m,he=>by
  simp only [altMat,Bool.and_eq_true,beq_iff_eq] at he
  obtain ⟨⟨⟨h1,rfl⟩,rfl⟩,h2⟩:=he
  unfold pick
  rw [B.mat_d hn h1,altMat_pick h2]
 | [],_ :: _,he=>by simp [altMat] at he
 | _ :: _,[],he=>by simp [altMat] at he
theorem C.mat_mt {β:Beta} {t c:C} {v:Value} (h:t.mat ni nb c = true) (hm:c.mt β ρ1 v):t.mt β ρ0 v:=by
 unfold C.mat at h
 split at h
 ·simp only [Bool.and_eq_true,beq_iff_eq] at h
  obtain ⟨rfl,h⟩:=h
  simp only [C.mt] at *
  rw [A.mat_d hn h]
  exact hm
 ·simp only [C.mt] at *
  rw [B.mat_d hn h]
  exact hm
 ·simp only [Bool.and_eq_true,beq_iff_eq] at h
  obtain ⟨⟨rfl,rfl⟩,h⟩:=h
  simp only [C.mt] at *
  rw [altMat_pick hn h]
  exact hm
 ·simp only [Bool.and_eq_true,beq_iff_eq] at h
  obtain ⟨⟨⟨⟨⟨rfl,rfl⟩,rfl⟩,rfl⟩,rfl⟩,h⟩:=h
  simp only [C.mt] at *
  rw [A.mat_d hn h]
  exact hm
 ·simp only [Bool.and_eq_true,beq_iff_eq] at h
  obtain ⟨⟨⟨rfl,rfl⟩,rfl⟩,rfl⟩:=h
  exact hm
 ·split at h
  ·rename_i y hy
   simp only [Bool.and_eq_true] at h
   have:=asSlx_mt hy hm
   simp only [C.mt] at *
   rw [A.mat_d hn h.1,A.mat_d hn h.2]
   exact this
  ·cases h
 ·simp only [Bool.and_eq_true,beq_iff_eq] at h
  obtain ⟨rfl,h1⟩:=h
  rw [cksEq_sound h1]
  exact hm
 ·exact hm.elim
 ·exact asEmp_mt h hm
 ·rw [vEq_sound h]; exact hm
 ·cases h
 ·exact C.mt_oneCell hm
 ·split at h
  ·rename_i p hp
   obtain ⟨s,h1,h2,h3⟩:=asStr_mt hp hm
   exact ⟨s,h1,by rw [A.mat_d hn h]; exact h2,h3⟩
  ·cases h
 ·simp only [Bool.and_eq_true,beq_iff_eq,List.isEmpty_iff] at h
  obtain ⟨⟨rfl,rfl⟩,rfl⟩:=h
  exact hm
 ·cases h
theorem lMat_mt {β:Beta}:∀ {l m:List C} {vs:List Value},lMat ni nb l m = true -> mtL β ρ1 m vs -> mtL β ρ0 l vs
 | [],[],[],_,_=>trivial
 | [],[],_ :: _,_,h=>h.elim
 | c :: l,d :: m,v :: vs,he,⟨h1,h2⟩=>by
  simp only [lMat,Bool.and_eq_true] at he
  exact ⟨C.mat_mt hn he.1 h1,lMat_mt he.2 h2⟩
 | _ :: _,_ :: _,[],_,h=>h.elim
 | [],_ :: _,_,he,_=>by simp [lMat] at he
 | _ :: _,[],_,he,_=>by simp [lMat] at he
theorem lMat_cells {β:Beta} {w:World} {b:Nat}:∀ {l m:List C} {o:Nat},lMat ni nb l m = true -> cellsAt β ρ1 w b o m -> cellsAt β ρ0 w b o l
 | [],[],_,_,_=>trivial
 | c :: l,d :: m,o,he,⟨⟨v,hv,h1⟩,h2⟩=>by
  simp only [lMat,Bool.and_eq_true] at he
  exact ⟨⟨v,hv,C.mat_mt hn he.1 h1⟩,lMat_cells he.2 h2⟩
 | [],_ :: _,_,he,_=>by simp [lMat] at he
 | _ :: _,[],_,he,_=>by simp [lMat] at he
omit hn in
theorem lMat_vec:∀ {l m:List C},lMat ni nb l m = true -> (vecOf m = none -> vecOf l = none) /\ ∀ x,vecOf m = some x -> ∃ y,vecOf l = some y /\ y.1 = x.1 /\ y.2.1.mat ni x.2.1 = true /\ y.2.2.mat ni x.2.2 = true
 | [],[],_=>⟨fun _=>rfl,fun x h=>by cases h⟩
 | [c],[d],h=>by
  simp only [lMat,Bool.and_true] at h
  refine ⟨fun hd=>?_,fun x hx=>?_⟩
  ·cases c <;> first | rfl | skip
   cases d <;> first | (simp [vecOf] at hd; done) | (simp [C.mat] at h; done)
  ·have:=vecOf_spec hx
   simp only [List.cons.injEq,and_true] at this
   subst this
   cases c <;> first
    | (simp only [C.mat,Bool.and_eq_true] at h; exact ⟨_,rfl,cksEq_sound h.1.1,h.1.2,h.2⟩)
    | (simp [C.mat,asSlx,asEmp,asStr] at h; done)
 | c :: d :: l,e :: f :: m,_=>⟨fun _=>by cases c <;> rfl,fun x h=>by cases e <;> simp [vecOf] at h⟩
 | [],_ :: _,h=>by simp [lMat] at h
 | _ :: _,[],h=>by simp [lMat] at h
 | [_],_ :: _ :: _,h=>by simp [lMat] at h
 | _ :: _ :: _,[_],h=>by simp [lMat] at h
omit hn in
theorem lMat_length:∀ {l m:List C},lMat ni nb l m = true -> l.length = m.length
 | [],[],_=>rfl
 | c :: l,d :: m,he=>by
  simp only [lMat,Bool.and_eq_true] at he
  simp [lMat_length he.2]
 | [],_ :: _,he=>by simp [lMat] at he
 | _ :: _,[],he=>by simp [lMat] at he
theorem mt1_mat {β:Beta} {agg:Bool} {l m:List C} {v:Value} (h:lMat ni nb l m = true) (hm:mt1 β ρ1 agg m v):mt1 β ρ0 agg l v:=by
 unfold mt1 at *
 cases agg
 ·obtain ⟨c,rfl,hc⟩:=hm
  match l,h with
  | [d],h =>
   simp only [lMat,Bool.and_true] at h
   exact ⟨d,rfl,C.mat_mt hn h hc⟩
  | [],h=>simp [lMat] at h
  | _ :: _ :: _,h=>simp [lMat] at h
 ·obtain ⟨vs,rfl,hc⟩:=hm
  exact ⟨vs,rfl,lMat_mt hn h hc⟩
theorem tMat_mt {β:Beta}:∀ {l m:List (Bool × List C)} {vs:List Value},tMat ni nb l m = true -> mtT β ρ1 m vs -> mtT β ρ0 l vs
 | [],[],[],_,_=>trivial
 | [],[],_ :: _,_,h=>h.elim
 | p :: l,q :: m,v :: vs,he,⟨h1,h2⟩=>by
  simp only [tMat,Bool.and_eq_true,beq_iff_eq] at he
  refine ⟨?_,tMat_mt he.2 h2⟩
  rw [he.1.1]
  exact mt1_mat hn he.1.2 h1
 | _ :: _,_ :: _,[],_,h=>h.elim
 | [],_ :: _,_,he,_=>by simp [tMat] at he
 | _ :: _,[],_,he,_=>by simp [tMat] at he
theorem S.mat_mt {β:Beta} {t s:S} {v:Value} (h:t.mat ni nb s = true) (hm:s.mt β ρ1 v):t.mt β ρ0 v:=by
 unfold S.mat at h
 split at h
 ·trivial
 ·simp only [Bool.and_eq_true,beq_iff_eq] at h
  obtain ⟨rfl,h⟩:=h
  exact mt1_mat hn h hm
 ·obtain ⟨vs,h1,h2⟩:=hm
  exact ⟨vs,h1,tMat_mt hn h h2⟩
 ·cases h
theorem SV.mat_mt {β:Beta} {t s:SV} {v:Value} (h:t.mat ni nb s = true) (hm:s.mt β ρ1 v):t.mt β ρ0 v:=by
 unfold SV.mat at h
 rw [Bool.or_eq_true] at h
 rcases h with h | h
 ·unfold isAny at h
  split at h
  ·exact anySV_mt v
  ·cases h
 ·simp only [Bool.and_eq_true] at h
  unfold SV.mt at *
  rw [gMat_d hn h.1]
  exact ⟨fun hg=>S.mat_mt hn h.2 (hm.1 hg),hm.2⟩
theorem tmMat_get {β:Beta}:∀ {l m:List SV},tmMat ni nb l m = true -> l.length = m.length /\ ∀ (t:Nat) (u:SV),l[t]? = some u -> ∃ v,m[t]? = some v /\ ∀ y,v.mt β ρ1 y -> u.mt β ρ0 y
 | [],[],_=>⟨rfl,fun t u h=>by simp at h⟩
 | a :: l,b :: m,he=>by
  simp only [tmMat,Bool.and_eq_true] at he
  obtain ⟨h1,h2⟩:=tmMat_get (β:=β) he.2
  refine ⟨by simp [h1],fun t u h=>?_⟩
  cases t with
  | zero=>simp at h; subst h; exact ⟨b,by simp,fun y hy=>SV.mat_mt hn he.1 hy⟩
  | succ t=>simp at h; simpa using h2 t u h
 | [],_ :: _,he=>by simp [tmMat] at he
 | _ :: _,[],he=>by simp [tmMat] at he
omit hn in
theorem vecOf_ofC (vs:List Value):vecOf (vs.map ofC) = none:=by
 match vs with
 | []=>rfl
 | [v] =>
  show vecOf [ofC v] = none
  unfold ofC
  split
  ·split <;> rfl
  ·rfl
  ·rfl
 | u :: v :: l =>
  show vecOf (ofC u :: ofC v :: _) = none
  cases ofC u <;> rfl
omit hn in
theorem ghOf_any {β:Beta} {ρ ρ':Env} {gl:Gl} {w:World} (h:heapMt β ρ (hpOf (ghOf gl 0)) w):heapMt β ρ' (hpOf (ghOf gl 0)) w:=by
 have hc:∀ (v:Value) (u:Value),(ofC v).mt β ρ u -> (ofC v).mt β ρ' u:=by
  intro v u hm
  have key:∀ c:C,ofC v = c -> c.mt β ρ u -> c.mt β ρ' u:=by
   intro c hc h
   unfold ofC at hc
   split at hc
   ·split at hc <;> (subst hc; exact h)
   ·subst hc; exact h
   ·subst hc; exact h
  exact key _ rfl hm
 have hl:∀ (vs:List Value) (b o:Nat),cellsAt β ρ w b o (vs.map ofC) -> cellsAt β ρ' w b o (vs.map ofC):=by
  intro vs
  induction vs with
  | nil=>exact fun _ _ h=>h
  | cons v vs ih=>exact fun b o ⟨⟨u,h1,h2⟩,h3⟩=>⟨⟨u,h1,hc v u h2⟩,ih b (o + 1) h3⟩
 have hg:∀ (gl:Gl) (g id:Nat) (b:Blk),hpOf (ghOf gl g) id = some b -> ∃ vs:List Value,b = { g:=[],ro:=true,cells:=vs.map ofC }:=by
  intro gl
  induction gl with
  | nil=>intro g id b hb; simp [ghOf,hpOf] at hb
  | cons vs gl ih =>
   intro g id b hb
   unfold ghOf hpOf at hb
   split at hb
   ·simp only [Option.some.injEq] at hb; exact ⟨vs,hb.symm⟩
   ·exact ih _ _ _ hb
 intro id b hb hgd
 obtain ⟨vs,rfl⟩:=hg _ _ _ _ hb
 obtain ⟨r,h1,h0,h2,h3,h4,h5⟩:=(blkMt_cs (vecOf_ofC vs)).1 (h id _ hb rfl)
 exact (blkMt_cs (vecOf_ofC vs)).2 ⟨r,h1,h0,h2,h3,hl _ _ _ h4,h5⟩
theorem Rel.mat {x:Cx} {β:Beta} {t s:St} {a:Act} {w:World} (h:Rel x ρ1 β s a w) (hm:t.mat ni nb s = true):Rel x ρ0 β t a w:=by
 simp only [St.mat,Bool.and_eq_true,List.all_eq_true] at hm
 obtain ⟨h1,h2,hrb,hjb,hja⟩:=hm
 obtain ⟨e1,e2⟩:=tmMat_get (β:=β) hn h1
 refine ⟨h.size.trans e1.symm,fun t' v hv=>?_,h.df.js (B.mat_d hn hjb) (A.mat_d hn hja),fun id b hb hg=>?_,ghOf_any h.gm,h.gro,h.bo,h.kp,h.gl,h.ra,ExtP.pmono h.eb fun i hi=>by
  have hi:=pOf_true.1 hi
  exact pOf_true.2 fun hc=>hi (by simpa using hrb i hc)⟩
 ·obtain ⟨u,hu,hy⟩:=e2 t' v hv
  exact hy _ (h.slot t' u hu)
 ·have:=h2 (id,b) (hpOf_mem hb)
  unfold blMat at this
  split at this
  ·rename_i b' hb'
   simp only [Bool.and_eq_true,beq_iff_eq] at this
   obtain ⟨⟨h3,h4⟩,h5⟩:=this
   have hmb:=h.hm id b' hb' (by rw [<- gMat_d hn h3]; exact hg)
   cases hv:vecOf b'.cells with
   | none =>
    obtain ⟨r,hr,h0,hl,hro,hc,hf⟩:=(blkMt_cs hv).1 hmb
    exact (blkMt_cs ((lMat_vec h5).1 hv)).2 ⟨r,hr,h0,by rw [hl,lMat_length h5],by rw [hro,h4],lMat_cells hn h5 hc,fun h0 j hj=>hf (by rw [<- h4]; exact h0) j (by rw [<- lMat_length h5]; exact hj)⟩
   | some y =>
    obtain ⟨y',g1,g2,g3,g4⟩:=(lMat_vec h5).2 y hv
    obtain ⟨h0,hrow⟩:=(blkMt_row hv).1 hmb
    refine (blkMt_row g1).2 ⟨by rw [h4]; exact h0,?_⟩
    unfold rowMt at *
    rw [g2,A.mat_d hn g3,A.mat_d hn g4]
    exact hrow
  ·cases this
end

def Beta.cut (β:Beta) (n:Nat) (p:List Rg):Beta:=fun i=>if i < n then β i else p[i - n]?
theorem cut_low {β:Beta} {n i:Nat} {r:Rg} {p:List Rg} (hi:i < n) (h:β i = some r):β.cut n p i = some r:=by
 unfold Beta.cut; rw [if_pos hi]; exact h
theorem cut_pool {β:Beta} {n:Nat} {r:Rg} {p:List Rg} (h:r ∈ p):∃ i,β.cut n p i = some r:=by
 obtain ⟨j,hj⟩:=List.mem_iff_getElem?.1 h
 exact ⟨n + j,by unfold Beta.cut; rw [if_neg (by omega),Nat.add_sub_cancel_left]; exact hj⟩
def Pool (β:Beta) (k:Nat) (X:List Rg -> Prop):Prop:=∃ p:List Rg,p.length <= k /\ (∀ r,r ∈ p -> ∃ i,β i = some r /\ r.sq.isSome = true) /\ ∀ p',(∀ r,r ∈ p -> r ∈ p') -> X p'
theorem Pool.triv {β:Beta} {X:List Rg -> Prop} {k:Nat} (h:∀ p,X p):Pool β k X:=⟨[],by simp,by simp,fun p _=>h p⟩
theorem Pool.zero {β:Beta} {X:List Rg -> Prop} (h:Pool β 0 X) (p:List Rg):X p:=by
 obtain ⟨q,h1,_,h3⟩:=h
 have:q = []:=List.length_eq_zero_iff.1 (by omega)
 subst this
 exact h3 p (by simp)
theorem Pool.and {β:Beta} {k l:Nat} {X Y:List Rg -> Prop} (h:Pool β k X) (h':Pool β l Y):Pool β (k + l) fun p=>X p /\ Y p:=by
 obtain ⟨p,h1,h2,h3⟩:=h
 obtain ⟨q,h4,h5,h6⟩:=h'
 refine ⟨p ++ q,by simp; omega,fun r hr=>?_,fun p' hp=>⟨h3 p' fun r hr=>hp r (by simp [hr]),h6 p' fun r hr=>hp r (by simp [hr])⟩⟩
 rcases List.mem_append.1 hr with hr | hr
 ·exact h2 r hr
 ·exact h5 r hr
theorem Pool.imp {β:Beta} {k l:Nat} {X Y:List Rg -> Prop} (h:Pool β k X) (hk:k <= l) (hi:∀ p,X p -> Y p):Pool β l Y:=by
 obtain ⟨p,h1,h2,h3⟩:=h
 exact ⟨p,by omega,h2,fun p' hp=>hi p' (h3 p' hp)⟩
theorem Pool.if {β:Beta} {k:Nat} {H:Prop} {X:List Rg -> Prop} (h:H -> Pool β k X):Pool β k fun p=>H -> X p:=by
 by_cases hh:H
 ·exact (h hh).imp (Nat.le_refl _) fun p x _=>x
 ·exact Pool.triv fun p h=>absurd h hh
def fvBelow (n:Nat):FV -> Bool
 | none=>true
 | some p=>p.2.all fun q=>Nat.blt q.1 n
def C.below (n:Nat):C -> Bool
 | .ptr l id _=>Nat.blt id n && l.all fun p=>Nat.blt p.2.1 n
 | .pix id _ _ _ _ _=>Nat.blt id n
 | .sli id _ _ _=>Nat.blt id n
 | .slm id _=>Nat.blt id n
 | .pxm id _ _ _=>Nat.blt id n
 | .pxq _ _ _ _=>false
 | .fn l d=>l.isEmpty && fvBelow n d
 | .mp id=>Nat.blt id n
 | _=>true
def cntC:C -> Nat
 | .slx _ _ _=>1
 | _=>0
def cntL:List C -> Nat
 | []=>0
 | c :: l=>cntC c + cntL l
def cntT:List (Bool × List C) -> Nat
 | []=>0
 | p :: l=>cntL p.2 + cntT l
def cntS:S -> Nat
 | .one _ l=>cntL l
 | .tup l=>cntT l
 | .any=>0
def cntTm:List SV -> Nat
 | []=>0
 | v :: l=>cntS v.s + cntTm l
def cntHl:Hl -> Nat
 | []=>0
 | p :: l=>cntL p.2.cells + cntHl l
def St.cnt (s:St):Nat:=cntTm s.tm + cntHl s.hp
def S.below (n:Nat):S -> Bool
 | .one _ l=>l.all (C.below n)
 | .tup l=>l.all fun p=>p.2.all (C.below n)
 | .any=>true
def St.below (n:Nat) (s:St):Bool:=s.tm.all (fun v=>v.s.below n) && s.hp.all fun p=>Nat.blt p.1 n && p.2.cells.all (C.below n)
theorem pick_below {ρ:Env} {n:Nat}:∀ {l:List (B × Nat × Nat)} {i o:Nat},i < n -> (l.all fun p=>Nat.blt p.2.1 n) = true -> (pick ρ l i o).1 < n
 | [],i,o,hi,_=>hi
 | (b,j,p) :: l,i,o,hi,h=>by
  simp only [List.all_cons,Bool.and_eq_true,Nat.blt_eq] at h
  unfold pick
  split
  ·exact h.1
  ·exact pick_below hi h.2
theorem capMt_cut {β:Beta} {n:Nat} {p:List Rg}:∀ {l:List (Nat × Nat)} {vs:List Value},(l.all fun q=>Nat.blt q.1 n) = true -> capMt β l vs -> capMt (β.cut n p) l vs
 | [],[],_,_=>trivial
 | q :: l,v :: vs,hc,⟨⟨r,hr,hv⟩,h2⟩=>by
  simp only [List.all_cons,Bool.and_eq_true,Nat.blt_eq] at hc
  exact ⟨⟨r,cut_low hc.1 hr,hv⟩,capMt_cut hc.2 h2⟩
 | [],_ :: _,_,h=>h.elim
 | _ :: _,[],_,h=>h.elim
theorem C.cut_mt {β:Beta} {ρ:Env} {n:Nat} {c:C} {v:Value} (hc:c.below n = true) (h:c.mt β ρ v):Pool β (cntC c) fun p=>c.mt (β.cut n p) ρ v:=by
 cases c with
 | ptr l id off =>
  simp only [C.below,Bool.and_eq_true,Nat.blt_eq] at hc
  obtain ⟨r,hr,hv⟩:=h
  exact Pool.triv fun p=>⟨r,cut_low (pick_below hc.1 hc.2) hr,hv⟩
 | pix id off s len a k =>
  simp only [C.below,Nat.blt_eq] at hc
  obtain ⟨h1,h2,r,hr,hv⟩:=h
  exact Pool.triv fun p=>⟨h1,h2,r,cut_low hc hr,hv⟩
 | sli id off len cap =>
  simp only [C.below,Nat.blt_eq] at hc
  obtain ⟨r,hr,hv⟩:=h
  exact Pool.triv fun p=>⟨r,cut_low hc hr,hv⟩
 | slx ks q len =>
  obtain ⟨h1,h2,p,cap,hv,hcap,h3⟩:=h
  rcases h3 with h3 | ⟨i,r,o,l,hr,hs,h4⟩
  ·exact Pool.triv fun p'=>⟨h1,h2,p,cap,hv,hcap,.inl h3⟩
  ·refine ⟨[r],by simp [cntC],fun r' hr'=>?_,fun p' hp=>?_⟩
   ·rw [List.mem_singleton.1 hr']
    exact ⟨i,hr,by obtain ⟨L,j,e,_⟩:=hs; rw [e]; rfl⟩
   ·obtain ⟨i',hi'⟩:=cut_pool (β:=β) (n:=n) (hp r (by simp))
    exact ⟨h1,h2,p,cap,hv,hcap,.inr ⟨i',r,o,l,hi',hs,h4⟩⟩
 | pxq ks q a k=>cases hc
 | slm id ks =>
  simp only [C.below,Nat.blt_eq] at hc
  obtain ⟨r,cap,q,hr,h2⟩:=h
  exact Pool.triv fun p=>⟨r,cap,q,cut_low hc hr,h2⟩
 | pxm id ks a k =>
  simp only [C.below,Nat.blt_eq] at hc
  obtain ⟨h1,r,hr,h2⟩:=h
  exact Pool.triv fun p=>⟨h1,r,cut_low hc hr,h2⟩
 | fn l d =>
  simp only [C.below,Bool.and_eq_true,List.isEmpty_iff] at hc
  obtain ⟨rfl,hc⟩:=hc
  have h:fvMt β d v:=h
  refine Pool.triv fun p=>?_
  show fvMt (β.cut n p) d v
  unfold fvMt at *
  cases d with
  | none=>exact h
  | some p =>
   obtain ⟨vs,h1,h2⟩:=h
   exact ⟨vs,h1,capMt_cut hc h2⟩
 | mp id =>
  simp only [C.below,Nat.blt_eq] at hc
  obtain ⟨r,hr,hv⟩:=h
  exact Pool.triv fun p=>⟨r,cut_low hc hr,hv⟩
 | vec=>exact h.elim
 | int=>exact Pool.triv fun p=>h
 | bool=>exact Pool.triv fun p=>h
 | emp=>exact Pool.triv fun p=>h
 | val=>exact Pool.triv fun p=>h
 | junk=>exact Pool.triv fun p=>h
 | str=>exact Pool.triv fun p=>h
theorem cut_mtL {β:Beta} {ρ:Env} {n:Nat}:∀ {l:List C} {vs:List Value},l.all (C.below n) = true -> mtL β ρ l vs -> Pool β (cntL l) fun p=>mtL (β.cut n p) ρ l vs
 | [],[],_,_=>Pool.triv fun _=>trivial
 | c :: l,v :: vs,hc,⟨h1,h2⟩=>by
  simp only [List.all_cons,Bool.and_eq_true] at hc
  exact (C.cut_mt hc.1 h1).and (cut_mtL hc.2 h2)
 | [],_ :: _,_,h=>h.elim
 | _ :: _,[],_,h=>h.elim
theorem cut_cells {β:Beta} {ρ:Env} {n:Nat} {w:World} {b:Nat}:∀ {l:List C} {o:Nat},l.all (C.below n) = true -> cellsAt β ρ w b o l -> Pool β (cntL l) fun p=>cellsAt (β.cut n p) ρ w b o l
 | [],_,_,_=>Pool.triv fun _=>trivial
 | c :: l,o,hc,⟨⟨v,hv,h1⟩,h2⟩=>by
  simp only [List.all_cons,Bool.and_eq_true] at hc
  exact ((C.cut_mt hc.1 h1).imp (Nat.le_refl _) fun p h=>⟨v,hv,h⟩).and (cut_cells hc.2 h2)
theorem cut_mt1 {β:Beta} {ρ:Env} {n:Nat} {agg:Bool} {l:List C} {v:Value} (hc:l.all (C.below n) = true) (h:mt1 β ρ agg l v):Pool β (cntL l) fun p=>mt1 (β.cut n p) ρ agg l v:=by
 unfold mt1 at *
 cases agg
 ·obtain ⟨c,rfl,h⟩:=h
  simp only [List.all_cons,List.all_nil,Bool.and_true] at hc
  exact (C.cut_mt hc h).imp (Nat.le_refl _) fun p h=>⟨c,rfl,h⟩
 ·obtain ⟨vs,rfl,h⟩:=h
  exact (cut_mtL hc h).imp (Nat.le_refl _) fun p h=>⟨vs,rfl,h⟩
theorem cut_mtT {β:Beta} {ρ:Env} {n:Nat}:∀ {l:List (Bool × List C)} {vs:List Value},(l.all fun p=>p.2.all (C.below n)) = true -> mtT β ρ l vs -> Pool β (cntT l) fun p=>mtT (β.cut n p) ρ l vs
 | [],[],_,_=>Pool.triv fun _=>trivial
 | p :: l,v :: vs,hc,⟨h1,h2⟩=>by
  simp only [List.all_cons,Bool.and_eq_true] at hc
  exact (cut_mt1 hc.1 h1).and (cut_mtT hc.2 h2)
 | [],_ :: _,_,h=>h.elim
 | _ :: _,[],_,h=>h.elim
theorem S.cut_mt {β:Beta} {ρ:Env} {n:Nat} {s:S} {v:Value} (hc:s.below n = true) (h:s.mt β ρ v):Pool β (cntS s) fun p=>s.mt (β.cut n p) ρ v:=by
 cases s with
 | one agg l=>exact cut_mt1 hc h
 | tup l=>obtain ⟨vs,h1,h2⟩:=h; exact (cut_mtT hc h2).imp (Nat.le_refl _) fun p h=>⟨vs,h1,h⟩
 | any=>exact Pool.triv fun _=>trivial
theorem SV.cut_mt {β:Beta} {ρ:Env} {n:Nat} {s:SV} {v:Value} (hc:s.s.below n = true) (h:s.mt β ρ v):Pool β (cntS s.s) fun p=>s.mt (β.cut n p) ρ v :=
 (Pool.if (fun hg=>S.cut_mt hc (h.1 hg))).imp (Nat.le_refl _) fun p hp=>⟨hp,h.2⟩
theorem cut_tm {β:Beta} {ρ:Env} {n:Nat} {f:Nat -> Value}:∀ {l:List SV} {k:Nat},(l.all fun v=>v.s.below n) = true -> (∀ (t:Nat) (v:SV),l[t]? = some v -> v.mt β ρ (f (k + t))) -> Pool β (cntTm l) fun p=>∀ (t:Nat) (v:SV),l[t]? = some v -> v.mt (β.cut n p) ρ (f (k + t))
 | [],k,_,_=>Pool.triv fun p t v h=>by simp at h
 | u :: l,k,hc,h=>by
  simp only [List.all_cons,Bool.and_eq_true] at hc
  refine ((SV.cut_mt hc.1 (h 0 u (by simp))).and (cut_tm (ρ:=ρ) (f:=f) (k:=k + 1) hc.2 fun t v hv=>by rw [Nat.add_assoc,Nat.add_comm 1 t]; exact h (t + 1) v (by simpa using hv))).imp (Nat.le_refl _) fun p ⟨h1,h2⟩ t v hv=>?_
  cases t with
  | zero=>simp at hv; subst hv; exact h1
  | succ t=>have:=h2 t v (by simpa using hv); rwa [Nat.add_assoc,Nat.add_comm 1 t] at this
theorem cut_blk {β:Beta} {ρ:Env} {n:Nat} {w:World} {id:Nat} {b:Blk} (hi:id < n) (hc:b.cells.all (C.below n) = true) (h:blkMt β ρ w id b):Pool β (cntL b.cells) fun p=>blkMt (β.cut n p) ρ w id b:=by
 cases hv:vecOf b.cells with
 | none =>
  obtain ⟨r,hr,h0,hl,hro,hcs,hf⟩:=(blkMt_cs hv).1 h
  exact (cut_cells hc hcs).imp (Nat.le_refl _) fun p hp=>(blkMt_cs hv).2 ⟨r,cut_low hi hr,h0,hl,hro,hp,hf⟩
 | some y =>
  obtain ⟨h0,r,cap,l,hr,hh⟩:=(blkMt_row hv).1 h
  exact Pool.triv fun p=>(blkMt_row hv).2 ⟨h0,r,cap,l,cut_low hi hr,hh⟩
theorem cut_hl {β:Beta} {ρ:Env} {n:Nat} {w:World}:∀ {l:Hl},(l.all fun p=>Nat.blt p.1 n && p.2.cells.all (C.below n)) = true -> Pool β (cntHl l) fun p=>∀ q,q ∈ l -> blkMt β ρ w q.1 q.2 -> blkMt (β.cut n p) ρ w q.1 q.2
 | [],_=>Pool.triv fun p q h=>by cases h
 | u :: l,hc=>by
  simp only [List.all_cons,Bool.and_eq_true,Nat.blt_eq] at hc
  have h0:Pool β (cntL u.2.cells) fun p=>blkMt β ρ w u.1 u.2 -> blkMt (β.cut n p) ρ w u.1 u.2:=Pool.if fun h=>cut_blk hc.1.1 hc.1.2 h
  refine (h0.and (cut_hl (ρ:=ρ) (w:=w) hc.2)).imp (Nat.le_refl _) fun p ⟨h1,h2⟩ q hq hm=>?_
  rcases List.mem_cons.1 hq with rfl | hq
  ·exact h1 hm
  ·exact h2 q hq hm
theorem cntL_ofC:∀ vs:List Value,cntL (vs.map ofC) = 0
 | []=>rfl
 | v :: vs=>by
  simp only [List.map_cons,cntL,cntL_ofC vs]
  unfold ofC
  split
  ·split <;> rfl
  ·rfl
  ·rfl
theorem cut_from {β:Beta} {n:Nat} {p:List Rg} {N:Nat} {R:List Rg} {Q:Rg -> Prop} {w:World} (h:BetaOk N R Q β w) (hp:∀ r,r ∈ p -> ∃ i,β i = some r /\ r.sq.isSome = true) {i:Nat} {r:Rg} (hi:β.cut n p i = some r):∃ i0,β i0 = some r /\ (i0 = i \/ r.ro = true):=by
 unfold Beta.cut at hi
 split at hi
 ·exact ⟨i,hi,.inl rfl⟩
 ·obtain ⟨i0,h1,h2⟩:=hp r (List.mem_of_getElem? hi)
  refine ⟨i0,h1,.inr ?_⟩
  cases e:r.sq with
  | none=>rw [e] at h2; cases h2
  | some x=>exact (h.sq i0 r x.1 x.2 h1 e).1
theorem BetaOk.cut {N:Nat} {R:List Rg} {Q:Rg -> Prop} {β:Beta} {w:World} (h:BetaOk N R Q β w) (n:Nat) {p:List Rg} (hp:∀ r,r ∈ p -> ∃ i,β i = some r /\ r.sq.isSome = true):BetaOk N R Q (β.cut n p) w:=by
 refine ⟨fun i j r q hij hi hj=>?_,fun i r hi=>?_,fun i r hi=>?_,fun i r ks l hi hs=>?_,fun i r hi=>?_,h.qs,fun i r hi=>?_⟩
 ·obtain ⟨i0,e1,e2⟩:=cut_from h hp hi
  obtain ⟨j0,e3,e4⟩:=cut_from h hp hj
  by_cases he:i0 = j0
  ·subst he
   rw [e1] at e3
   cases e3
   rcases e2 with e2 | e2
   ·rcases e4 with e4 | e4
    ·exact absurd (e2.symm.trans e4) hij
    ·exact .inl ⟨e4,e4⟩
   ·exact .inl ⟨e2,e2⟩
  ·exact h.apart i0 j0 r q he e1 e3
 all_goals obtain ⟨i0,e1,e2⟩:=cut_from h hp hi
 ·exact h.place i0 r e1
 ·exact h.may i0 r e1
 ·exact h.sq i0 r ks l e1 hs
 ·exact h.rom i0 r e1
 ·exact h.rw i0 r e1
theorem cut_fresh {β:Beta} {n:Nat} {p:List Rg} {k i:Nat} (hp:p.length <= k) (hi:n + k <= i):β.cut n p i = none:=by
 unfold Beta.cut
 rw [if_neg (by omega)]
 exact List.getElem?_eq_none (by omega)
theorem gm_cut {x:Cx} {ρ ρ':Env} {β:Beta} {w:World} {n:Nat} (h:heapMt β ρ (hpOf x.gh) w) (hg:∀ (g:Nat) (vs:List Value),x.gl[g]? = some vs -> g < n) (p:List Rg):heapMt (β.cut n p) ρ' (hpOf x.gh) w:=by
 refine ghOf_any (ρ:=ρ) fun id b hb hgd=>?_
 have hid:∃ vs:List Value,x.gl[id]? = some vs /\ b.cells = vs.map ofC:=by
  have key:∀ (gl:Gl) (g:Nat),hpOf (ghOf gl g) id = some b -> ∃ vs:List Value,g <= id /\ gl[id - g]? = some vs /\ b.cells = vs.map ofC:=by
   intro gl
   induction gl with
   | nil=>intro g hb; simp [ghOf,hpOf] at hb
   | cons vs gl ih =>
    intro g hb
    unfold ghOf hpOf at hb
    split at hb
    ·rename_i he
     simp only [beq_iff_eq] at he
     simp only [Option.some.injEq] at hb
     exact ⟨vs,by omega,by simp [he],by rw [<- hb]⟩
    ·rename_i he
     obtain ⟨us,e1,e2,e3⟩:=ih (g + 1) hb
     have:g ≠ id:=by simpa using he
     exact ⟨us,by omega,by rw [show id - g = (id - (g + 1)) + 1 by omega]; simpa using e2,e3⟩
  obtain ⟨vs,_,e1,e2⟩:=key x.gl 0 hb
  exact ⟨vs,by simpa using e1,e2⟩
 obtain ⟨vs,e1,e2⟩:=hid
 have:=cut_blk (n:=n) (hg id vs e1) (by
  rw [e2,List.all_eq_true]
  intro c hcm
  obtain ⟨v,_,rfl⟩:=List.mem_map.1 hcm
  unfold ofC
  split
  ·split <;> rfl
  ·rfl
  ·rfl) (h id b hb hgd)
 rw [e2,cntL_ofC] at this
 exact this.zero p
theorem Rel.cut {x:Cx} {ρ:Env} {β β0:Beta} {s:St} {a:Act} {w:World} {n:Nat} (h:Rel x ρ β s a w) (hs:s.below n = true) (he:Ext β0 β) (h0:∀ i r,β0 i = some r -> i < n) (hb0:∀ i r,x.b0 i = some r -> (r.row = false \/ i ∉ s.rb) -> i < n)
  (hg:∀ (g:Nat) (vs:List Value),x.gl[g]? = some vs -> β0 g = some (gRg g vs)) (hr:∀ (j:Nat) (r:Rg),x.gr[j]? = some r -> β0 (x.gi j) = some r):∃ p:List Rg,p.length <= s.cnt /\ Rel x ρ (β.cut n p) s a w:=by
 simp only [St.below,Bool.and_eq_true] at hs
 obtain ⟨h1,h2⟩:=hs
 obtain ⟨p,k1,k2,k3⟩:=(cut_tm (k:=0) (f:=fun t=>a.tmps.getD t undef) h1 (fun t v hv=>by rw [Nat.zero_add]; exact h.slot t v hv)).and (cut_hl (ρ:=ρ) (w:=w) h2)
 obtain ⟨k3,k4⟩:=k3 p fun _ h=>h
 refine ⟨p,k1,h.size,fun t v hv=>by have:=k3 t v hv; rwa [Nat.zero_add] at this,h.df,fun id b hb hgd=>k4 (id,b) (hpOf_mem hb) (h.hm id b hb hgd),gm_cut h.gm (fun g vs hgl=>h0 _ _ (hg g vs hgl)) p,h.gro,h.bo.cut n k2,h.kp,
  fun g vs hgl=>cut_low (h0 _ _ (hg g vs hgl)) (h.gl g vs hgl),fun j r hj=>⟨(h.ra j r hj).1,cut_low (h0 _ _ (hr j r hj)) (h.ra j r hj).2⟩,fun i r hi hp=>cut_low (hb0 i r hi (hp.imp (fun x=>x) pOf_true.1)) (h.eb i r hi hp)⟩

structure Ren where
 i:Nat -> Option A
 b:Nat -> Option B
 n:Nat
 rb:List Nat
def A.ren (R:Ren):A -> Option A
 | .v j=>R.i j
 | .c k=>some (.c k)
def B.ren (R:Ren):B -> Option B
 | .v j=>R.b j
 | .c k=>some (.c k)
def gRen (R:Ren):Gd -> Option Gd
 | []=>some []
 | (b,k) :: g=>match b.ren R,gRen R g with
  | some b,some g=>some ((b,k) :: g)
  | _,_=>none
def altRen (R:Ren):List (B × Nat × Nat) -> Option (List (B × Nat × Nat))
 | []=>some []
 | (b,k) :: g=>match b.ren R,altRen R g with
  | some b,some g=>some ((b,k) :: g)
  | _,_=>none
def C.ren (R:Ren):C -> C
 | .int k a=>match a.ren R with | some a=>.int k a | none=>.junk
 | .bool b=>match b.ren R with | some b=>.bool b | none=>.junk
 | .ptr l id off=>match altRen R l with | some l=>if (C.ptr l id off).below R.n then .ptr l id off else .junk | none=>.junk
 | .pix id off s len a k=>match a.ren R with | some a=>if Nat.blt id R.n then .pix id off s len a k else .junk | none=>.junk
 | .sli id off len cap=>if Nat.blt id R.n then .sli id off len cap else .junk
 | .slx ks q len=>match q.ren R,len.ren R with | some q,some len=>.slx ks q len | _,_=>.junk
 | .slm id ks=>if Nat.blt id R.n then .slm id ks else .junk
 | .vec ks q n=>match q.ren R,n.ren R with | some q,some n=>.vec ks q n | _,_=>.junk
 | .pxq _ _ _ _=>.junk
 | .pxm _ _ _ _=>.junk
 | .emp=>.emp
 | .val u=>.val u
 | .junk=>.junk
 | .str q=>match q.ren R with | some q=>.str q | none=>.junk
 | .fn l d=>if (C.fn l d).below R.n then .fn l d else .junk
 | .mp id=>if Nat.blt id R.n then .mp id else .junk
def S.ren (R:Ren):S -> S
 | .one agg l=>.one agg (l.map (C.ren R))
 | .tup l=>.tup (l.map fun p=>(p.1,p.2.map (C.ren R)))
 | .any=>.any
def SV.ren (R:Ren) (v:SV):SV:=match gRen R v.g with
 | some g=>{ g:=g,s:=v.s.ren R }
 | none=>anySV
def noRow (cs ds:List C):Bool:=match vecOf cs with
 | some _=>(match vecOf ds with | some _=>false | none=>true)
 | none=>false
def hpRen (R:Ren) (hp:Hl):List Nat -> Hl
 | []=>[]
 | i :: l=>match Nat.blt i R.n,hpOf hp i with
  | true,some b=>match gRen R b.g with
   | some g=>if noRow b.cells (b.cells.map (C.ren R)) then hpRen R hp l else (i,{ b with g:=g,cells:=b.cells.map (C.ren R) }) :: hpRen R hp l
   | none=>hpRen R hp l
  | _,_=>hpRen R hp l
def Js.renOk (R:Ren) (j:Js):Bool:=(j.b.ren R).isSome && (j.a.ren R).isSome
def Js.ren (R:Ren) (j:Js):Js:=match j.b.ren R,j.a.ren R with
 | some b,some a=>{ b:=b,a:=a }
 | _,_=>{}
def St.ren (R:Ren) (s:St):St:={ tm:=s.tm.map (SV.ren R),hp:=hpRen R s.hp (dedup (s.hp.map (·.1))),rb:=uniN R.rb (s.rb.filter fun i=>Nat.blt i R.n),js:=s.js.ren R }
structure NRen (R:Ren) (ρ1 ρ2:Env):Prop where
 i:∀ j a,R.i j = some a -> a.d ρ2 = ρ1.i j
 b:∀ j a,R.b j = some a -> a.d ρ2 = ρ1.b j
section
variable {R:Ren} {ρ1 ρ2:Env} (hr:NRen R ρ1 ρ2)
include hr
theorem A.ren_d {a a':A} (h:a.ren R = some a'):a'.d ρ2 = a.d ρ1:=by
 cases a with
 | v j=>exact hr.i j a' h
 | c k=>simp only [A.ren,Option.some.injEq] at h; subst h; rfl
theorem B.ren_d {a a':B} (h:a.ren R = some a'):a'.d ρ2 = a.d ρ1:=by
 cases a with
 | v j=>exact hr.b j a' h
 | c k=>simp only [B.ren,Option.some.injEq] at h; subst h; rfl
theorem gRen_d:∀ {g g':Gd},gRen R g = some g' -> Gd.d ρ2 g' = Gd.d ρ1 g
 | [],g',h=>by simp only [gRen,Option.some.injEq] at h; subst h; rfl
 | (b,k) :: g,g',h=>by
  unfold gRen at h
  split at h
  ·rename_i b' g'' h1 h2
   simp only [Option.some.injEq] at h
   subst h
   rw [Gd.d_cons,Gd.d_cons,B.ren_d hr h1,gRen_d h2]
  ·cases h
theorem altRen_pick {i o:Nat}:∀ {l l':List (B × Nat × Nat)},altRen R l = some l' -> pick ρ2 l' i o = pick ρ1 l i o
 | [],l',h=>by simp only [altRen,Option.some.injEq] at h; subst h; rfl
 | (b,k) :: l,l',h=>by
  unfold altRen at h
  split at h
  ·rename_i b' g'' h1 h2
   simp only [Option.some.injEq] at h
   subst h
   obtain ⟨k1,k2⟩:=k
   unfold pick
   rw [B.ren_d hr h1,altRen_pick h2]
  ·cases h
theorem C.ren_mt {β:Beta} {c:C} {v:Value} (h:c.mt β ρ1 v):Pool β (cntC c) fun p=>(c.ren R).mt (β.cut R.n p) ρ2 v:=by
 have ho:=C.mt_oneCell h
 have hj:Pool β (cntC c) fun p=>C.junk.mt (β.cut R.n p) ρ2 v:=Pool.triv fun _=>ho
 cases c with
 | int k a =>
  unfold C.ren
  simp only
  split
  ·rename_i a' ha
   refine Pool.triv fun p=>?_
   simp only [C.mt] at *
   rw [A.ren_d hr ha]
   exact h
  ·exact hj
 | bool b =>
  unfold C.ren
  simp only
  split
  ·rename_i a' ha
   refine Pool.triv fun p=>?_
   simp only [C.mt] at *
   rw [B.ren_d hr ha]
   exact h
  ·exact hj
 | ptr l id off =>
  unfold C.ren
  simp only
  split
  ·rename_i l' hl
   split
   ·rename_i hb
    refine C.cut_mt hb ?_
    simp only [C.mt] at *
    rw [altRen_pick hr hl]
    exact h
   ·exact hj
  ·exact hj
 | pix id off s len a k =>
  unfold C.ren
  simp only
  split
  ·rename_i a' ha
   split
   ·rename_i hb
    refine C.cut_mt (c:=.pix id off s len a' k) (by simpa [C.below] using hb) ?_
    simp only [C.mt] at *
    rw [A.ren_d hr ha]
    exact h
   ·exact hj
  ·exact hj
 | sli id off len cap =>
  unfold C.ren
  simp only
  split
  ·rename_i hb
   exact C.cut_mt (by simpa [C.below] using hb) h
  ·exact hj
 | slx ks q len =>
  unfold C.ren
  simp only
  split
  ·rename_i q' len' hq hl
   refine C.cut_mt (c:=.slx ks q' len') rfl ?_
   simp only [C.mt] at *
   rw [A.ren_d hr hq,A.ren_d hr hl]
   exact h
  ·exact hj
 | slm id ks =>
  unfold C.ren
  simp only
  split
  ·rename_i hb
   exact C.cut_mt (by simpa [C.below] using hb) h
  ·exact hj
 | vec=>exact h.elim
 | emp=>exact Pool.triv fun _=>h
 | pxm id ks a k=>exact hj
 | pxq ks q a k=>exact hj
 | str q =>
  unfold C.ren
  simp only
  split
  ·rename_i q' hq
   obtain ⟨s,h1,h2,h3⟩:=h
   exact Pool.triv fun _=>⟨s,h1,by rw [A.ren_d hr hq]; exact h2,h3⟩
  ·exact hj
 | fn l d =>
  unfold C.ren
  simp only
  split
  ·rename_i hb
   refine C.cut_mt hb ?_
   have hb':=hb
   simp only [C.below,Bool.and_eq_true,List.isEmpty_iff] at hb'
   obtain ⟨rfl,_⟩:=hb'
   exact h
  ·exact hj
 | mp id =>
  unfold C.ren
  simp only
  split
  ·rename_i hb
   exact C.cut_mt (by simpa [C.below] using hb) h
  ·exact hj
 | val u=>exact Pool.triv fun _=>h
 | junk=>exact hj
theorem ren_mtL {β:Beta}:∀ {l:List C} {vs:List Value},mtL β ρ1 l vs -> Pool β (cntL l) fun p=>mtL (β.cut R.n p) ρ2 (l.map (C.ren R)) vs
 | [],[],_=>Pool.triv fun _=>trivial
 | c :: l,v :: vs,⟨h1,h2⟩=>(C.ren_mt hr h1).and (ren_mtL h2)
 | [],_ :: _,h=>h.elim
 | _ :: _,[],h=>h.elim
theorem ren_cells {β:Beta} {w:World} {b:Nat}:∀ {l:List C} {o:Nat},cellsAt β ρ1 w b o l -> Pool β (cntL l) fun p=>cellsAt (β.cut R.n p) ρ2 w b o (l.map (C.ren R))
 | [],_,_=>Pool.triv fun _=>trivial
 | c :: l,o,⟨⟨v,hv,h1⟩,h2⟩=>((C.ren_mt hr h1).imp (Nat.le_refl _) fun p h=>⟨v,hv,h⟩).and (ren_cells h2)
theorem ren_mt1 {β:Beta} {agg:Bool} {l:List C} {v:Value} (h:mt1 β ρ1 agg l v):Pool β (cntL l) fun p=>mt1 (β.cut R.n p) ρ2 agg (l.map (C.ren R)) v:=by
 unfold mt1 at *
 cases agg
 ·obtain ⟨c,rfl,h⟩:=h
  exact (C.ren_mt hr h).imp (Nat.le_refl _) fun p h=>⟨_,rfl,h⟩
 ·obtain ⟨vs,rfl,h⟩:=h
  exact (ren_mtL hr h).imp (Nat.le_refl _) fun p h=>⟨vs,rfl,h⟩
theorem ren_mtT {β:Beta}:∀ {l:List (Bool × List C)} {vs:List Value},mtT β ρ1 l vs -> Pool β (cntT l) fun p=>mtT (β.cut R.n p) ρ2 (l.map fun p=>(p.1,p.2.map (C.ren R))) vs
 | [],[],_=>Pool.triv fun _=>trivial
 | p :: l,v :: vs,⟨h1,h2⟩=>(ren_mt1 hr h1).and (ren_mtT h2)
 | [],_ :: _,h=>h.elim
 | _ :: _,[],h=>h.elim
theorem S.ren_mt {β:Beta} {s:S} {v:Value} (h:s.mt β ρ1 v):Pool β (cntS s) fun p=>(s.ren R).mt (β.cut R.n p) ρ2 v:=by
 cases s with
 | one agg l=>exact ren_mt1 hr h
 | tup l=>obtain ⟨vs,h1,h2⟩:=h; exact (ren_mtT hr h2).imp (Nat.le_refl _) fun p h=>⟨vs,h1,h⟩
 | any=>exact Pool.triv fun _=>trivial
theorem SV.ren_mt {β:Beta} {s:SV} {v:Value} (h:s.mt β ρ1 v):Pool β (cntS s.s) fun p=>(s.ren R).mt (β.cut R.n p) ρ2 v:=by
 unfold SV.ren
 split
 ·rename_i g hg
  unfold SV.mt at *
  simp only
  rw [gRen_d hr hg]
  exact (Pool.if fun hgd=>S.ren_mt hr (h.1 hgd)).imp (Nat.le_refl _) fun p hp=>⟨hp,h.2⟩
 ·exact Pool.triv fun _=>anySV_mt v
theorem ren_tm {β:Beta} {f:Nat -> Value}:∀ {l:List SV} {k:Nat},(∀ (t:Nat) (v:SV),l[t]? = some v -> v.mt β ρ1 (f (k + t))) -> Pool β (cntTm l) fun p=>∀ (t:Nat) (v:SV),(l.map (SV.ren R))[t]? = some v -> v.mt (β.cut R.n p) ρ2 (f (k + t))
 | [],k,_=>Pool.triv fun p t v h=>by simp at h
 | u :: l,k,h=>by
  refine ((SV.ren_mt hr (h 0 u (by simp))).and (ren_tm (f:=f) (k:=k + 1) fun t v hv=>by rw [Nat.add_assoc,Nat.add_comm 1 t]; exact h (t + 1) v (by simpa using hv))).imp (Nat.le_refl _) fun p ⟨h1,h2⟩ t v hv=>?_
  cases t with
  | zero=>simp at hv; subst hv; exact h1
  | succ t=>have:=h2 t v (by simpa using hv); rwa [Nat.add_assoc,Nat.add_comm 1 t] at this
omit hr in
theorem ren_vec {l:List C}:(vecOf l = none -> vecOf (l.map (C.ren R)) = none) /\ ∀ x,vecOf l = some x -> vecOf (l.map (C.ren R)) = none \/ ∃ q n,x.2.1.ren R = some q /\ x.2.2.ren R = some n /\ vecOf (l.map (C.ren R)) = some (x.1,q,n):=by
 match l with
 | []=>exact ⟨fun _=>rfl,fun x h=>by cases h⟩
 | c :: d :: l=>exact ⟨fun _=>by show vecOf (_ :: _ :: _) = none; simp [vecOf],fun x h=>by simp [vecOf] at h⟩
 | [c] =>
  refine ⟨fun h=>?_,fun x hx=>?_⟩
  ·show vecOf [c.ren R] = none
   cases c with
   | vec=>simp [vecOf] at h
   | _=>unfold C.ren; simp only; (repeat' split) <;> rfl
  ·have:=vecOf_spec hx
   simp only [List.cons.injEq,and_true] at this
   subst this
   show vecOf [C.ren R _] = none \/ _
   cases h1:x.2.1.ren R with
   | none=>left; simp [C.ren,h1,vecOf]
   | some q =>
    cases h2:x.2.2.ren R with
    | none=>left; simp [C.ren,h1,h2,vecOf]
    | some n=>exact .inr ⟨q,n,rfl,rfl,by simp [C.ren,h1,h2,vecOf]⟩
theorem ren_blk {β:Beta} {w:World} {id:Nat} {b:Blk} {g:Gd} (hi:id < R.n) (hn:noRow b.cells (b.cells.map (C.ren R)) = false) (h:blkMt β ρ1 w id b):Pool β (cntL b.cells) fun p=>blkMt (β.cut R.n p) ρ2 w id { b with g:=g,cells:=b.cells.map (C.ren R) }:=by
 cases hv:vecOf b.cells with
 | none =>
  obtain ⟨r,hrr,h0,hl,hro,hcs,hf⟩:=(blkMt_cs hv).1 h
  exact (ren_cells hr hcs).imp (Nat.le_refl _) fun p hp=>(blkMt_cs (b:={ b with g:=g,cells:=b.cells.map (C.ren R) }) (ren_vec.1 hv)).2 ⟨r,cut_low hi hrr,h0,by simpa using hl,hro,hp,fun h1 j hj=>hf h1 j (by simpa using hj)⟩
 | some y =>
  obtain ⟨h0,r,cap,l,hrr,hh⟩:=(blkMt_row hv).1 h
  rcases ren_vec.2 y hv with hz | ⟨q,n,e1,e2,e3⟩
  ·unfold noRow at hn
   rw [hv,hz] at hn
   cases hn
  ·refine Pool.triv fun p=>(blkMt_row (b:={ b with g:=g,cells:=b.cells.map (C.ren R) }) e3).2 ⟨h0,r,cap,l,cut_low hi hrr,?_⟩
   simp only
   rw [A.ren_d hr e1,A.ren_d hr e2]
   exact hh
theorem ren_hl {β:Beta} {w:World}:∀ (l:Hl),Pool β (cntHl l) fun p=>∀ q,q ∈ l -> ∀ g,q.1 < R.n -> noRow q.2.cells (q.2.cells.map (C.ren R)) = false -> blkMt β ρ1 w q.1 q.2 -> blkMt (β.cut R.n p) ρ2 w q.1 { q.2 with g:=g,cells:=q.2.cells.map (C.ren R) }
 | []=>Pool.triv fun p q h=>by cases h
 | u :: l=>by
  have h1:Pool β (cntL u.2.cells) fun p=>(u.1 < R.n /\ noRow u.2.cells (u.2.cells.map (C.ren R)) = false /\ blkMt β ρ1 w u.1 u.2) -> ∀ g,blkMt (β.cut R.n p) ρ2 w u.1 { u.2 with g:=g,cells:=u.2.cells.map (C.ren R) } :=
   Pool.if fun ⟨a1,a2,a3⟩=>(ren_blk hr (g:=[]) a1 a2 a3).imp (Nat.le_refl _) fun p hp g=>by
    unfold blkMt at hp ⊢
    exact hp
  refine (h1.and (ren_hl (w:=w) l)).imp (Nat.le_refl _) fun p ⟨h1,h2⟩ q hq g a1 a2 a3=>?_
  rcases List.mem_cons.1 hq with rfl | hq
  ·exact h1 ⟨a1,a2,a3⟩ g
  ·exact h2 q hq g a1 a2 a3
omit hr in
theorem hpRen_get {hp:Hl}:∀ {l:List Nat} {id:Nat} {b:Blk},hpOf (hpRen R hp l) id = some b -> ∃ b' g,id < R.n /\ hpOf hp id = some b' /\ gRen R b'.g = some g /\ noRow b'.cells (b'.cells.map (C.ren R)) = false /\ b = { b' with g:=g,cells:=b'.cells.map (C.ren R) }
 | [],id,b,h=>by simp [hpRen,hpOf] at h
 | i :: l,id,b,h=>by
  unfold hpRen at h
  split at h
  ·rename_i b' h1 h2
   split at h
   ·rename_i g hg
    split at h
    ·exact hpRen_get h
    ·rename_i hn
     unfold hpOf at h
     split at h
     ·rename_i he
      simp only [beq_iff_eq] at he
      subst he
      simp only [Option.some.injEq] at h
      exact ⟨b',g,by simpa using h1,h2,hg,by simpa using hn,h.symm⟩
     ·exact hpRen_get h
   ·exact hpRen_get h
  ·exact hpRen_get h
theorem Js.ren_d {j:Js} (h:j.renOk R = true):(j.ren R).b.d ρ2 = j.b.d ρ1 /\ (j.ren R).a.d ρ2 = j.a.d ρ1:=by
 unfold Js.renOk at h
 unfold Js.ren
 simp only [Bool.and_eq_true] at h
 obtain ⟨b,hb⟩:=Option.isSome_iff_exists.1 h.1
 obtain ⟨a,ha⟩:=Option.isSome_iff_exists.1 h.2
 rw [hb,ha]
 exact ⟨B.ren_d hr hb,A.ren_d hr ha⟩
theorem Rel.ren {x:Cx} {β β0:Beta} {s:St} {a:Act} {w:World} (h:Rel x ρ1 β s a w) (hj:s.js.renOk R = true) (he:Ext β0 β) (h0:∀ i r,β0 i = some r -> i < R.n) (hb0:∀ i r,x.b0 i = some r -> (r.row = false \/ i ∉ R.rb) -> i < R.n)
  (hg:∀ (g:Nat) (vs:List Value),x.gl[g]? = some vs -> β0 g = some (gRg g vs)) (hra:∀ (j:Nat) (r:Rg),x.gr[j]? = some r -> β0 (x.gi j) = some r):∃ p:List Rg,p.length <= s.cnt /\ Rel x ρ2 (β.cut R.n p) (s.ren R) a w:=by
 obtain ⟨p,k1,k2,k3⟩:=(ren_tm hr (k:=0) (f:=fun t=>a.tmps.getD t undef) (fun t v hv=>by rw [Nat.zero_add]; exact h.slot t v hv)).and (ren_hl hr (w:=w) s.hp)
 obtain ⟨k3,k4⟩:=k3 p fun _ h=>h
 refine ⟨p,k1,by rw [h.size]; simp [St.ren],fun t v hv=>by have:=k3 t v hv; rwa [Nat.zero_add] at this,h.df.js (Js.ren_d hr hj).1 (Js.ren_d hr hj).2,fun id b hb hgd=>?_,gm_cut h.gm (fun g vs hgl=>h0 _ _ (hg g vs hgl)) p,h.gro,h.bo.cut R.n k2,h.kp,
  fun g vs hgl=>cut_low (h0 _ _ (hg g vs hgl)) (h.gl g vs hgl),fun j r hj=>⟨(h.ra j r hj).1,cut_low (h0 _ _ (hra j r hj)) (h.ra j r hj).2⟩,fun i r hi hp=>?_⟩
 ·obtain ⟨b',g,hid,hb',hgg,hn,rfl⟩:=hpRen_get hb
  exact k4 (id,b') (hpOf_mem hb') g hid hn (h.hm id b' hb' (by rw [<- gRen_d hr hgg]; exact hgd))
 ·have hlt:i < R.n:=hb0 i r hi (hp.imp (fun x=>x) fun hp=>fun hc=>pOf_true.1 hp (mem_uniN.2 (.inl hc)))
  exact cut_low hlt (h.eb i r hi (hp.imp (fun x=>x) fun hp=>pOf_true.2 fun hc=>pOf_true.1 hp (mem_uniN.2 (.inr (List.mem_filter.2 ⟨hc,by simpa using hlt⟩)))))
end

def dropK (k:Kd):Outs -> Outs
 | []=>[]
 | (l,q,s) :: O=>if k.eq l then dropK k O else (l,q,s) :: dropK k O
theorem dropK_get {k l:Kd}:∀ (O:Outs),getK l (dropK k O) = if k.eq l then none else getK l O
 | []=>by simp [dropK,getK]
 | (m,q,s) :: O=>by
  unfold dropK
  split
  ·rename_i h
   rw [dropK_get O]
   split
   ·rfl
   ·rename_i h2
    simp only [getK]
    rw [if_neg (fun h3=>h2 (by rw [Kd.eq_sound h3]; exact h))]
  ·rename_i h
   simp only [getK]
   split
   ·rename_i h3
    rw [if_neg (fun h4=>h (by rw [Kd.eq_sound h4,Kd.eq_sound h3]; exact Kd.eq_refl _))]
   ·exact dropK_get O

section
variable {P:Program} {Φ:Funs} {x:Cx} {ρ:Env}
def OkW (Φ:Funs) (x:Cx) (ρ:Env) (W:(Exit -> Act -> World -> Prop) -> Act -> World -> Prop) (f:St -> M Outs):Prop :=
 ∀ (s:St) (c c':Ctr) (O:Outs) (out:List Em),f s c = some (O,c',out) -> Good Φ ρ out -> ∀ (β:Beta) (a:Act) (w:World),Rel x ρ β s a w -> Fresh β c ->
  ∀ (Q:Exit -> Act -> World -> Prop),(∀ e a' w' K,kdOf e = some K -> OutMt x ρ β c' O K a' w' -> Q e a' w') -> W Q a w
abbrev CodeOk (P:Program) (Φ:Funs) (x:Cx) (ρ:Env) (cd:Code) (f:St -> M Outs):Prop:=OkW Φ x ρ (fun Q a w=>cd.wpIn (FR x.rl) 0 P Q a w) f

theorem OutMt.le {β:Beta} {c c':Ctr} {O:Outs} {K:Kd} {a:Act} {w:World} (h:OutMt x ρ β c O K a w) (hc:c.id <= c'.id):OutMt x ρ β c' O K a w:=by
 obtain ⟨h1,q,s,β',h2,h3,h4,h5⟩:=h
 exact ⟨h1,q,s,β',h2,h3,h4,h5.le hc⟩
theorem OutMt.ext {β β0:Beta} {c:Ctr} {O:Outs} {K:Kd} {a:Act} {w:World} (he:Ext β0 β) (h:OutMt x ρ β c O K a w):OutMt x ρ β0 c O K a w:=by
 obtain ⟨h1,q,s,β',h2,h3,h4,h5⟩:=h
 exact ⟨h1,q,s,β',h2,he.trans h3,h4,h5⟩
theorem OutMt.one {β:Beta} {c:Ctr} {k:Kd} {s:St} {a:Act} {w:World} {β':Beta} (he:Ext β β') (h:Rel x ρ β' s a w) (hf:Fresh β' c):OutMt x ρ β c [(k,[],s)] k a w:=by
 refine ⟨fun l q t hl=>?_,[],s,β',by simp [getK,Kd.eq_refl],he,h,hf⟩
 unfold getK at hl
 split at hl
 ·rename_i hk
  simp only [Option.some.injEq,Prod.mk.injEq] at hl
  obtain ⟨rfl,rfl⟩:=hl
  simp [Kd.eq_sound hk]
 ·simp [getK] at hl

end
end Go.Proofs.YtfgbfdlacnihkaaGreatDoor.Sx
namespace Go.Proofs.YtfgbfdlacnihkaaGreatDoor.Sx
open Go

def A.lt (n:Nat):A -> Bool
 | .v i=>Nat.blt i n
 | .c _=>true
def B.lt (n:Nat):B -> Bool
 | .v i=>Nat.blt i n
 | .c _=>true
def RI.lt (i b:Nat):RI -> Bool
 | .ar _ _ x y=>x.lt i && y.lt i
 | .cv _ x=>x.lt i
 | .ite c x y=>c.lt b && x.lt i && y.lt i
 | .mn x y=>x.lt i && y.lt i
 | .mx x y=>x.lt i && y.lt i
 | .tab _ x=>x.lt i
 | .get q a _ _=>q.lt i && a.lt i
 | .lenq q _=>q.lt i
 | .rep n _=>n.lt i
 | .setq q a _ _ x=>q.lt i && a.lt i && x.lt i
 | .cat p q=>p.lt i && q.lt i
 | .sub q x y _=>q.lt i && x.lt i && y.lt i
 | .lst l=>l.all (A.lt i)
 | .b2i c=>c.lt b
def RB.lt (i b:Nat):RB -> Bool
 | .cm _ x y=>x.lt i && y.lt i
 | .not x=>x.lt b
 | .and x y=>x.lt b && y.lt b
 | .or x y=>x.lt b && y.lt b
 | .eqb x y=>x.lt b && y.lt b
 | .ite c x y=>c.lt b && x.lt b && y.lt b
 | .getb q a _ _=>q.lt i && a.lt i
def wsEm:List Em -> Nat -> Nat -> Bool
 | [],_,_=>true
 | .di n r :: l,i,b=>n == i && r.lt i b && wsEm l (i + 1) b
 | .db n r :: l,i,b=>n == b && r.lt i b && wsEm l i (b + 1)
 | .call _ ai ab i0 ni b0 nb :: l,i,b=>i0 == i && b0 == b && ai.all (A.lt i) && ab.all (B.lt b) && wsEm l (i + ni) (b + nb)
 | .ob _ _ :: l,i,b=>wsEm l i b

def Agree (i b:Nat) (ρ ρ':Env):Prop:=(∀ n,n < i -> ρ'.i n = ρ.i n) /\ (∀ n,n < b -> ρ'.b n = ρ.b n)
theorem A.d_agree {i b:Nat} {ρ ρ':Env} (h:Agree i b ρ ρ') {x:A} (hx:x.lt i = true):x.d ρ' = x.d ρ:=by
 cases x with
 | v n=>simp only [A.lt,Nat.blt_eq] at hx; exact h.1 n hx
 | c k=>rfl
theorem B.d_agree {i b:Nat} {ρ ρ':Env} (h:Agree i b ρ ρ') {x:B} (hx:x.lt b = true):x.d ρ' = x.d ρ:=by
 cases x with
 | v n=>simp only [B.lt,Nat.blt_eq] at hx; exact h.2 n hx
 | c k=>rfl
theorem RI.d_agree {i b:Nat} {ρ ρ':Env} (h:Agree i b ρ ρ') {r:RI} (hr:r.lt i b = true):r.d ρ' = r.d ρ:=by
 cases r <;> simp only [RI.lt,Bool.and_eq_true] at hr <;> simp only [RI.d]
 ·rw [A.d_agree h hr.1,A.d_agree h hr.2]
 ·rw [A.d_agree h hr]
 ·rw [A.d_agree h hr.1.2,A.d_agree h hr.2,B.d_agree h hr.1.1]
 ·rw [A.d_agree h hr.1,A.d_agree h hr.2]
 ·rw [A.d_agree h hr.1,A.d_agree h hr.2]
 ·rw [A.d_agree h hr]
 ·rw [A.d_agree h hr.1,A.d_agree h hr.2]
 ·rw [A.d_agree h hr]
 ·rw [A.d_agree h hr]
 ·rw [A.d_agree h hr.1.1,A.d_agree h hr.1.2,A.d_agree h hr.2]
 ·rw [A.d_agree h hr.1,A.d_agree h hr.2]
 ·rw [A.d_agree h hr.1.1,A.d_agree h hr.1.2,A.d_agree h hr.2]
 ·rw [List.map_congr_left fun x hx=>A.d_agree h (List.all_eq_true.1 hr x hx)]
 ·rw [B.d_agree h hr]
theorem RB.d_agree {i b:Nat} {ρ ρ':Env} (h:Agree i b ρ ρ') {r:RB} (hr:r.lt i b = true):r.d ρ' = r.d ρ:=by
 cases r <;> simp only [RB.lt,Bool.and_eq_true] at hr <;> simp only [RB.d]
 ·rw [A.d_agree h hr.1,A.d_agree h hr.2]
 ·rw [B.d_agree h hr]
 ·rw [B.d_agree h hr.1,B.d_agree h hr.2]
 ·rw [B.d_agree h hr.1,B.d_agree h hr.2]
 ·rw [B.d_agree h hr.1,B.d_agree h hr.2]
 ·rw [B.d_agree h hr.1.1,B.d_agree h hr.1.2,B.d_agree h hr.2]
 ·rw [A.d_agree h hr.1,A.d_agree h hr.2]
theorem padTo_length {α:Type} (d:α):∀ (n:Nat) (l:List α),(padTo d n l).length = n
 | 0,_=>rfl
 | n + 1,[]=>by simp [padTo,padTo_length d n]
 | n + 1,_ :: l=>by simp [padTo,padTo_length d n]
theorem padTo_getD {α:Type} (d:α):∀ (n:Nat) (l:List α) (j:Nat),j < n -> (padTo d n l).getD j d = l.getD j d
 | n + 1,[],0,_=>by simp [padTo]
 | n + 1,x :: l,0,_=>by simp [padTo]
 | n + 1,[],j + 1,h=>by simpa [padTo] using padTo_getD d n [] j (by omega)
 | n + 1,x :: l,j + 1,h=>by simpa [padTo] using padTo_getD d n l j (by omega)
theorem agree_append (is ks:List Int) (bs cs:List Bool):Agree is.length bs.length (envOf is bs) (envOf (is ++ ks) (bs ++ cs)) :=
 ⟨fun n hn=>getD_append_left _ _ _ _ hn,fun n hn=>getD_append_left _ _ _ _ hn⟩
theorem Agree.trans {i b i' b':Nat} {ρ ρ' ρ'':Env} (h:Agree i b ρ ρ') (h':Agree i' b' ρ' ρ'') (hi:i <= i') (hb:b <= b'):Agree i b ρ ρ'' :=
 ⟨fun n hn=>(h'.1 n (by omega)).trans (h.1 n hn),fun n hn=>(h'.2 n (by omega)).trans (h.2 n hn)⟩

theorem evEm_spec (Φ:Funs):∀ (l:List Em) (is:List Int) (bs:List Bool),wsEm l is.length bs.length = true ->
  Agree is.length bs.length (envOf is bs) (envOf (evEm Φ l is bs).1 (evEm Φ l is bs).2) /\
   ∀ e,e ∈ l -> (match e with | .ob _ _=>True | e=>e.ok Φ (envOf (evEm Φ l is bs).1 (evEm Φ l is bs).2))
 | [],is,bs,_=>⟨⟨fun _ _=>rfl,fun _ _=>rfl⟩,fun e he=>by cases he⟩
 | .di n r :: l,is,bs,h=>by
  simp only [wsEm,Bool.and_eq_true,beq_iff_eq] at h
  obtain ⟨⟨rfl,hr⟩,hl⟩:=h
  have ih:=evEm_spec Φ l (is ++ [r.d (envOf is bs)]) bs (by simpa using hl)
  simp only [evEm]
  have ha:=agree_append is [r.d (envOf is bs)] bs []
  rw [List.append_nil] at ha
  have hA:=ha.trans ih.1 (by simp) (Nat.le_refl _)
  refine ⟨hA,fun e he=>?_⟩
  rcases List.mem_cons.1 he with rfl | he
  ·show (envOf _ _).i is.length = r.d _
   rw [RI.d_agree hA hr,ih.1.1 is.length (by simp)]
   simp [envOf]
  ·exact ih.2 e he
 | .db n r :: l,is,bs,h=>by
  simp only [wsEm,Bool.and_eq_true,beq_iff_eq] at h
  obtain ⟨⟨rfl,hr⟩,hl⟩:=h
  have ih:=evEm_spec Φ l is (bs ++ [r.d (envOf is bs)]) (by simpa using hl)
  simp only [evEm]
  have ha:=agree_append is [] bs [r.d (envOf is bs)]
  rw [List.append_nil] at ha
  have hA:=ha.trans ih.1 (Nat.le_refl _) (by simp)
  refine ⟨hA,fun e he=>?_⟩
  rcases List.mem_cons.1 he with rfl | he
  ·show (envOf _ _).b bs.length = r.d _
   rw [RB.d_agree hA hr,ih.1.2 bs.length (by simp)]
   simp [envOf]
  ·exact ih.2 e he
 | .call f ai ab i0 ni b0 nb :: l,is,bs,h=>by
  simp only [wsEm,Bool.and_eq_true,beq_iff_eq,List.all_eq_true] at h
  obtain ⟨⟨⟨⟨rfl,rfl⟩,hai⟩,hab⟩,hl⟩:=h
  have ih:=evEm_spec Φ l (is ++ padTo 0 ni (Φ f (ai.map (A.d (envOf is bs))) (ab.map (B.d (envOf is bs)))).1) (bs ++ padTo false nb (Φ f (ai.map (A.d (envOf is bs))) (ab.map (B.d (envOf is bs)))).2)
   (by simpa [padTo_length] using hl)
  simp only [evEm]
  have ha:=agree_append is (padTo 0 ni (Φ f (ai.map (A.d (envOf is bs))) (ab.map (B.d (envOf is bs)))).1) bs (padTo false nb (Φ f (ai.map (A.d (envOf is bs))) (ab.map (B.d (envOf is bs)))).2)
  have hA:=ha.trans ih.1 (by simp) (by simp)
  refine ⟨hA,fun e he=>?_⟩
  rcases List.mem_cons.1 he with rfl | he
  ·have e1:ai.map (A.d (envOf (evEm Φ l (is ++ padTo 0 ni (Φ f (ai.map (A.d (envOf is bs))) (ab.map (B.d (envOf is bs)))).1) (bs ++ padTo false nb (Φ f (ai.map (A.d (envOf is bs))) (ab.map (B.d (envOf is bs)))).2)).1 (evEm Φ l (is ++ padTo 0 ni (Φ f (ai.map (A.d (envOf is bs))) (ab.map (B.d (envOf is bs)))).1) (bs ++ padTo false nb (Φ f (ai.map (A.d (envOf is bs))) (ab.map (B.d (envOf is bs)))).2)).2)) = ai.map (A.d (envOf is bs)) :=
    List.map_congr_left fun x hx=>A.d_agree hA (hai x hx)
   have e2:ab.map (B.d (envOf (evEm Φ l (is ++ padTo 0 ni (Φ f (ai.map (A.d (envOf is bs))) (ab.map (B.d (envOf is bs)))).1) (bs ++ padTo false nb (Φ f (ai.map (A.d (envOf is bs))) (ab.map (B.d (envOf is bs)))).2)).1 (evEm Φ l (is ++ padTo 0 ni (Φ f (ai.map (A.d (envOf is bs))) (ab.map (B.d (envOf is bs)))).1) (bs ++ padTo false nb (Φ f (ai.map (A.d (envOf is bs))) (ab.map (B.d (envOf is bs)))).2)).2)) = ab.map (B.d (envOf is bs)) :=
    List.map_congr_left fun x hx=>B.d_agree hA (hab x hx)
   simp only [Em.ok]
   rw [e1,e2]
   refine ⟨fun j hj=>?_,fun j hj=>?_⟩
   ·rw [ih.1.1 (is.length + j) (by simp [padTo_length]; omega)]
    simp only [envOf]
    rw [getD_append_right,padTo_getD _ _ _ _ hj]
   ·rw [ih.1.2 (bs.length + j) (by simp [padTo_length]; omega)]
    simp only [envOf]
    rw [getD_append_right,padTo_getD _ _ _ _ hj]
  ·exact ih.2 e he
 | .ob g b :: l,is,bs,h=>by
  simp only [wsEm] at h
  have ih:=evEm_spec Φ l is bs h
  simp only [evEm]
  refine ⟨ih.1,fun e he=>?_⟩
  rcases List.mem_cons.1 he with rfl | he
  ·trivial
  ·exact ih.2 e he

theorem good_of {Φ:Funs} {l:List Em} {is:List Int} {bs:List Bool} (hw:wsEm l is.length bs.length = true) (ho:obAll (envOf (evEm Φ l is bs).1 (evEm Φ l is bs).2) l = true) :
  Good Φ (envOf (evEm Φ l is bs).1 (evEm Φ l is bs).2) l:=by
 intro e he
 have h1:=(evEm_spec Φ l is bs hw).2 e he
 cases e with
 | ob g b =>
  have:=(List.all_eq_true.1 ho) _ he
  simp only [Bool.or_eq_true,Bool.not_eq_true'] at this
  intro hg
  rcases this with h | h
  ·rw [hg] at h; cases h
  ·exact h
 | _=>exact h1

end Go.Proofs.YtfgbfdlacnihkaaGreatDoor.Sx
