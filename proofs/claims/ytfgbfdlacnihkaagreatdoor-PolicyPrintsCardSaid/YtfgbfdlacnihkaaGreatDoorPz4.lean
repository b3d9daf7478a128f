/-
  Merged texts (SxLa, SxM, SxMp, SxR, SxFr). No condition.
-/
import Derived.Laws.Strings2
import Derived.Laws.Slices
import Derived.MapKept
import Derived.Orders
import Derived.OrdersIn
import Derived.TacticsIn
import Derived.LoopNIn
import Derived.RangeFuncRecord
import Derived.RangeFuncLeaves
import Derived.RangeFuncIn
import Derived.Test.YtfgbfdlacnihkaaGreatDoorPz3
set_option linter.unusedVariables false
set_option linter.unusedSimpArgs false
namespace Go.Proofs.YtfgbfdlacnihkaaGreatDoor.Sx
open Go

def M.mono {α:Type} (m:M α):M α:=fun c =>
 match m c with
 | some (x,c',o)=>if Nat.ble c.id c'.id then some (x,c',o) else none
 | none=>none
theorem mono_inv {α:Type} {m:M α} {c:Ctr} {r:α × Ctr × List Em} (h:M.mono m c = some r):m c = some r /\ c.id <= r.2.1.id:=by
 simp only [M.mono] at h
 cases h1:m c with
 | none=>rw [h1] at h; cases h
 | some p =>
  obtain ⟨x,c1,o1⟩:=p
  rw [h1] at h
  simp only at h
  split at h
  ·rename_i hle
   simp only [Nat.ble_eq] at hle
   simp only [Option.some.injEq] at h
   subst h
   exact ⟨rfl,hle⟩
  ·cases h
theorem Fresh.le {β:Beta} {c c':Ctr} (h:Fresh β c) (hc:c.id <= c'.id):Fresh β c':=fun i hi=>h i (by omega)

def capS (l:List (Nat × Nat)):List S:=l.map fun p=>.one false [.ptr [] p.1 p.2]
theorem capS_mt {β:Beta} {ρ:Env}:∀ {l:List (Nat × Nat)} {vs:List Value},capMt β l vs -> mtAll β ρ (capS l) vs
 | [],[],_=>trivial
 | p :: l,v :: vs,⟨⟨r,hr,hv⟩,h2⟩=>⟨⟨_,rfl,r,by simpa [pick] using hr,by simpa [pick] using hv⟩,capS_mt h2⟩
theorem mtAll_append {β:Beta} {ρ:Env} {ys:List S} {us:List Value} (h2:mtAll β ρ ys us):∀ {xs:List S} {vs:List Value},mtAll β ρ xs vs -> mtAll β ρ (xs ++ ys) (vs ++ us)
 | [],[],_=>h2
 | _ :: _,_ :: _,⟨h,h1⟩=>⟨h,mtAll_append h2 h1⟩

def wBlk (Γ:Gd) (hp:Hp) (l:List (Nat × Blk)) (id:Nat):Option Blk :=
 match hpOf l id with
 | some b=>some b
 | none=>match hp id with
  | some b=>if Gd.sub b.g Γ then some b else none
  | none=>none
def muxW (Γ:Gd) (hp:Hp) (lo hi:Nat) (b:B) (w1 w2:List (Nat × Blk)):List Nat -> M (List (Nat × Blk))
 | []=>pure []
 | i :: l=>do
  let r <- muxW Γ hp lo hi b w1 w2 l
  match hp i with
  | none=>if Nat.ble lo i && Nat.blt i hi then pure r else M.fail
  | some _=>match wBlk Γ hp w1 i,wBlk Γ hp w2 i with
   | some b1,some b2 =>
    if b1.ro == b2.ro && b1.cells.length == b2.cells.length then do
     let z <- muxBl b b1.cells b2.cells
     pure ((i,{ g:=[],ro:=b1.ro,cells:=z }) :: r)
    else M.fail
   | _,_=>M.fail
section
variable {Φ:Funs} {ρ:Env}
theorem muxW_snd (Γ:Gd) (hp:Hp) (lo hi:Nat) (b:B) (w1 w2:List (Nat × Blk)):∀ (l:List Nat),Snd Φ ρ (muxW Γ hp lo hi b w1 w2 l) (fun r =>
  (∀ i,i ∈ l -> (hp i).isSome = true -> i ∈ r.map (·.1)) /\ (∀ i,i ∈ l -> hp i = none -> lo <= i /\ i < hi) /\
  ∀ β w,(if b.d ρ then (∀ i bk,i ∈ l -> wBlk Γ hp w1 i = some bk -> blkMt β ρ w i bk) else (∀ i bk,i ∈ l -> wBlk Γ hp w2 i = some bk -> blkMt β ρ w i bk)) -> ∀ p,p ∈ r -> blkMt β ρ w p.1 p.2)
 | []=>Snd.pure ⟨fun i h=>(by cases h),fun i h=>(by cases h),fun β w _ p h=>(by cases h)⟩
 | i :: l=>by
  unfold muxW
  refine Snd.bind (muxW_snd Γ hp lo hi b w1 w2 l) fun r ⟨h1,h2,h3⟩=>?_
  have h3':∀ β w,(if b.d ρ then (∀ j bk,j ∈ i :: l -> wBlk Γ hp w1 j = some bk -> blkMt β ρ w j bk) else (∀ j bk,j ∈ i :: l -> wBlk Γ hp w2 j = some bk -> blkMt β ρ w j bk)) -> ∀ p,p ∈ r -> blkMt β ρ w p.1 p.2:=fun β w h p hp=>by
   refine h3 β w ?_ p hp
   split
   ·rename_i hb; rw [if_pos hb] at h; exact fun j bk hj=>h j bk (by simp [hj])
   ·rename_i hb; rw [if_neg hb] at h; exact fun j bk hj=>h j bk (by simp [hj])
  split
  ·rename_i hn
   split
   ·rename_i hc
    simp only [Bool.and_eq_true,Nat.ble_eq,Nat.blt_eq] at hc
    refine Snd.pure ⟨fun j hj hs=>?_,fun j hj hs=>?_,h3'⟩
    ·rcases List.mem_cons.1 hj with rfl | hj
     ·rw [hn] at hs; cases hs
     ·exact h1 j hj hs
    ·rcases List.mem_cons.1 hj with rfl | hj
     ·exact hc
     ·exact h2 j hj hs
   ·exact Snd.fail
  ·rename_i b0 hn
   split
   ·rename_i b1 b2 hb1 hb2
    split
    ·rename_i hc
     simp only [Bool.and_eq_true,beq_iff_eq] at hc
     refine Snd.bind (muxBl_snd b b1.cells b2.cells) fun z hz=>Snd.pure ⟨fun j hj hs=>?_,fun j hj hs=>?_,fun β w h p hp=>?_⟩
     ·rcases List.mem_cons.1 hj with rfl | hj
      ·simp
      ·simp only [List.map_cons,List.mem_cons]; exact .inr (h1 j hj hs)
     ·rcases List.mem_cons.1 hj with rfl | hj
      ·rw [hn] at hs; cases hs
      ·exact h2 j hj hs
     ·rcases List.mem_cons.1 hp with rfl | hp
      ·refine hz.2.2 β w i [] [] b1.ro ?_
       split
       ·rename_i hb; rw [if_pos hb] at h; exact blkMt_g rfl rfl (h i b1 (by simp) hb1)
       ·rename_i hb; rw [if_neg hb] at h; exact blkMt_g hc.1.symm rfl (h i b2 (by simp) hb2)
      ·exact h3' β w h p hp
    ·exact Snd.fail
   ·exact Snd.fail
end
def dedupN:List Nat -> List Nat
 | []=>[]
 | i :: l=>if (dedupN l).contains i then dedupN l else i :: dedupN l
theorem mem_dedupN:∀ {l:List Nat} {i:Nat},i ∈ l -> i ∈ dedupN l
 | j :: l,i,h=>by
  unfold dedupN
  rcases List.mem_cons.1 h with rfl | h
  ·split
   ·rename_i hc; simpa using hc
   ·simp
  ·have:=mem_dedupN h
   split
   ·exact this
   ·simp [this]
def noRb (r1 r2:Res):Option Unit:=if r1.rb.isEmpty && r2.rb.isEmpty then some () else none
theorem noRb_spec {r1 r2:Res} {u:Unit} (h:noRb r1 r2 = some u):r1.rb = [] /\ r2.rb = []:=by
 unfold noRb at h
 split at h
 ·rename_i hc; simpa using hc
 ·cases h
def mergeRes (Γ:Gd) (hp:Hp) (lo hi:Nat) (b:B) (r1 r2:Res):M Res:=do
 let s <- muxS b r1.s r2.s
 let w <- muxW Γ hp lo hi b r1.w r2.w (dedupN (r1.w.map (·.1) ++ r2.w.map (·.1)))
 let _ <- lift (noRb r1 r2)
 pure { s:=s,w:=w }
theorem Step.keepB {N:Nat} {R:List Rg} {Q:Rg -> Prop} {β β':Beta} {ρ:Env} {w w':World} {ids:List Nat} {lo hi:Nat} (h:Step N R Q β w ids [] lo hi β' w') (hb:BetaOk N R Q β w) {i:Nat} (hi:i ∉ ids) {b:Blk} (hm:blkMt β ρ w i b):blkMt β' ρ w' i b:=by
 obtain ⟨W,hW,hk⟩:=h.kp
 refine blkMt_keep' (fun i r h1 _=>h.ext i r h1 (.inr (by simp))) hb hk (fun r q hr hq=>?_) hm
 obtain ⟨id',hid',hβ,hro,_⟩:=hW r hr
 exact hb.apartW (i:=id') (j:=i) (fun e=>hi (e ▸ hid')) hβ hq hro
theorem hpOf_mem':∀ {l:List (Nat × Blk)} {id:Nat} {b:Blk},hpOf l id = some b -> (id,b) ∈ l
 | [],_,_,h=>by simp [hpOf] at h
 | (i,c) :: l,id,b,h=>by
  unfold hpOf at h
  split at h
  ·rename_i he
   simp only [beq_iff_eq] at he
   simp only [Option.some.injEq] at h
   subst he; subst h
   simp
  ·simp [hpOf_mem' h]
theorem hpOf_none:∀ {l:List (Nat × Blk)} {id:Nat},hpOf l id = none -> id ∉ l.map (·.1)
 | [],_,_=>by simp
 | (i,c) :: l,id,h=>by
  unfold hpOf at h
  split at h
  ·cases h
  ·rename_i he
   simp only [List.map_cons,List.mem_cons,not_or]
   exact ⟨fun e=>he (by simp [e]),hpOf_none h⟩
theorem merge_post {N:Nat} {R:List Rg} {Q:Rg -> Prop} {ρ:Env} {β:Beta} {w w':World} {Γ:Gd} {hp:Hp} (hΓ:Gd.d ρ Γ = true) (hh:heapMt β ρ hp w) (hb:BetaOk N R Q β w) {lo hi lo1 hi1:Nat} (hlo:lo <= lo1) (hhi:hi1 <= hi)
  (hfr:∀ i,lo <= i -> i < hi -> β i = none) {rk:Res} (hrb:rk.rb = []) {s:S} {ws:List (Nat × Blk)} {all:List Nat} (hall:∀ i,i ∈ rk.w.map (·.1) -> i ∈ all) {v:Value} (hr:RPost N R Q ρ β w lo1 hi1 rk v w')
  (hs:∀ β v,rk.s.mt β ρ v -> s.mt β ρ v) (h1:∀ i,i ∈ all -> (hp i).isSome = true -> i ∈ ws.map (·.1)) (h2:∀ i,i ∈ all -> hp i = none -> lo <= i /\ i < hi)
  (h3:∀ β w,(∀ i bk,i ∈ all -> wBlk Γ hp rk.w i = some bk -> blkMt β ρ w i bk) -> ∀ p,p ∈ ws -> blkMt β ρ w p.1 p.2):RPost N R Q ρ β w lo hi { s:=s,w:=ws } v w':=by
 obtain ⟨β',hst,hsm,hbl⟩:=hr
 rw [hrb] at hst
 obtain ⟨W,hW,hk⟩:=hst.kp
 refine ⟨β',⟨hst.ext,hst.bo,⟨W,fun r hr=>?_,hk⟩,fun i hi _=>hst.dom i (by omega) (by simp),by simp⟩,hs _ _ hsm,h3 β' w' fun i bk hi hbk=>?_⟩
 ·obtain ⟨id,hid,hβ,hro,hl⟩:=hW r hr
  refine ⟨id,?_,hβ,hro,hl⟩
  refine h1 id (hall id hid) ?_
  cases hx:hp id with
  | some b=>rfl
  | none =>
   obtain ⟨g1,g2⟩:=h2 id (hall id hid) hx
   rw [hfr id g1 g2] at hβ
   cases hβ
 ·unfold wBlk at hbk
  split at hbk
  ·rename_i b hb'
   simp only [Option.some.injEq] at hbk
   subst hbk
   exact hbl _ (hpOf_mem' hb')
  ·rename_i hn
   split at hbk
   ·rename_i b hb'
    split at hbk
    ·rename_i hg
     simp only [Option.some.injEq] at hbk
     subst hbk
     exact hst.keepB hb (hpOf_none hn) (hh i b hb' (Gd.sub_d hg hΓ))
    ·cases hbk
   ·cases hbk

def hY (H:Hnd):Hnd:=fun f Γ hp xs=>if f == yieldN then M.fail else H f Γ hp xs
def callAlt (H:Hnd) (hp:Hp) (xs:List S) (d:FV):List (B × FV) -> Gd -> M Res
 | [],Γ=>match d with
  | some p=>hY H p.1 Γ hp (xs ++ capS p.2)
  | none=>M.fail
 | (b,none) :: l,Γ=>do
  let nb <- mkNot b
  oblige nb
  callAlt H hp xs d l Γ
 | (b,some p) :: l,Γ=>if l.isEmpty && d.isNone then do
   oblige b
   hY H p.1 Γ hp (xs ++ capS p.2)
  else do
   let lo <- getId
   let r1 <- M.mono (M.under [(b,true)] (hY H p.1 (Γ ++ [(b,true)]) hp (xs ++ capS p.2)))
   let r2 <- M.mono (M.under [(b,false)] (callAlt H hp xs d l (Γ ++ [(b,false)])))
   let hi <- getId
   M.mono (mergeRes Γ hp lo hi b r1 r2)
theorem mkNot_id {b x:B} {c c':Ctr} {o:List Em} (h:mkNot b c = some (x,c',o)):c'.id = c.id:=by
 unfold mkNot at h
 split at h
 ·simp only [Pure.pure,M.pure,Option.some.injEq,Prod.mk.injEq] at h
  rw [h.2.1]
 ·simp only [newB,Option.some.injEq,Prod.mk.injEq] at h
  rw [<- h.2.1]
theorem oblige_id {b:B} {x:Unit} {c c':Ctr} {o:List Em} (h:oblige b c = some (x,c',o)):c'.id = c.id:=by
 unfold oblige at h
 split at h <;> (simp only [Option.some.injEq,Prod.mk.injEq] at h; rw [h.2.1])
section
variable {P:Program} {Φ:Funs} {gl:Gl} {hp:Hp} {ρ:Env}
def AltPost (P:Program) (N:Nat) (R:List Rg) (Q:Rg -> Prop) (ρ:Env) (β:Beta) (w:World) (lo hi:Nat) (res:Res) (vs:List Value) (v:Value):Prop :=
 ∃ g ws,v = .func (.func g) #[] (ws:List Value).toArray /\ (∀ args w,(callFunc g args).run P w = .ok (.enter g args) w) /\ Calls P g (vs ++ ws).toArray w fun e w'=>∃ u,e = .returned u /\ RPost N R Q ρ β w lo hi res u w'
theorem hnd_alt {H:Hnd} (hH:HOk P Φ gl H) {p:Nat × List (Nat × Nat)} {Γ:Gd} {xs:List S} {c c':Ctr} {res:Res} {out:List Em} (h:hY H p.1 Γ hp (xs ++ capS p.2) c = some (res,c',out)) (hg:Good Φ ρ out) (hΓ:Gd.d ρ Γ = true)
  {N:Nat} {R:List Rg} {Q:Rg -> Prop} {β:Beta} {w:World} {vs:List Value} (hm:mtAll β ρ xs vs) (hh:heapMt β ρ hp w) (hb:BetaOk N R Q β w) (hN:N <= w.heap.size) (hG:GB gl β w) (hf:∀ i,c.id <= i -> i < c'.id -> β i = none) {v:Value} (hv:fvMt β (some p) v) :
  AltPost P N R Q ρ β w c.id c'.id res vs v:=by
 unfold hY at h
 split at h
 ·simp [M.fail] at h
 rename_i hy
 simp only [beq_iff_eq] at hy
 obtain ⟨ws,rfl,hc⟩:=hv
 rw [fvVal_ne hy]
 obtain ⟨h1,h2⟩:=hH _ _ _ _ _ _ _ _ _ h hg hΓ N R Q β w (vs ++ ws) (mtAll_append (capS_mt hc) hm) hh hb hN hG hf
 exact ⟨p.1,ws,rfl,h1,h2⟩
theorem callAlt_ok {H:Hnd} (hH:HOk P Φ gl H) (xs:List S) (d:FV):∀ (l:List (B × FV)) (Γ:Gd) {c c':Ctr} {res:Res} {out:List Em},callAlt H hp xs d l Γ c = some (res,c',out) -> Good Φ ρ out -> Gd.d ρ Γ = true ->
  ∀ {N:Nat} {R:List Rg} {Q:Rg -> Prop} {β:Beta} {w:World} {vs:List Value},mtAll β ρ xs vs -> heapMt β ρ hp w -> BetaOk N R Q β w -> N <= w.heap.size -> GB gl β w -> (∀ i,c.id <= i -> i < c'.id -> β i = none) -> ∀ {v:Value},fvMt β (pickF ρ l d) v ->
  AltPost P N R Q ρ β w c.id c'.id res vs v
 | [],Γ,c,c',res,out,h,hg,hΓ,N,R,Q,β,w,vs,hm,hh,hb,hN,hG,hf,v,hv=>by
  unfold callAlt at h
  split at h
  ·exact hnd_alt hH h hg hΓ hm hh hb hN hG hf hv
  ·simp [M.fail] at h
 | (b,none) :: l,Γ,c,c',res,out,h,hg,hΓ,N,R,Q,β,w,vs,hm,hh,hb,hN,hG,hf,v,hv=>by
  unfold callAlt at h
  obtain ⟨nb,c1,o1,c2,o2,y,h1,h2,he⟩:=M.bind_inv h
  simp only [Prod.mk.injEq] at he
  obtain ⟨rfl,rfl,rfl⟩:=he
  obtain ⟨u,c3,o3,c4,o4,y,h3,h4,he⟩:=M.bind_inv h2
  simp only [Prod.mk.injEq] at he
  obtain ⟨rfl,rfl,rfl⟩:=he
  simp only [Good.append] at hg
  have e1:=mkNot_snd b _ _ _ _ h1 hg.1
  have e2:=oblige_snd nb _ _ _ _ h3 hg.2.1
  have hbf:b.d ρ = false:=by
   rw [e1] at e2
   simpa using e2
  have i1:=mkNot_id h1
  have i2:=oblige_id h3
  have hv':fvMt β (pickF ρ l d) v:=by
   unfold pickF at hv
   rw [if_neg (by simp [hbf])] at hv
   exact hv
  rw [<- i1,<- i2]
  exact callAlt_ok hH xs d l Γ h4 hg.2.2 hΓ hm hh hb hN hG (fun i g1 g2=>hf i (by omega) g2) hv'
 | (b,some p) :: l,Γ,c,c',res,out,h,hg,hΓ,N,R,Q,β,w,vs,hm,hh,hb,hN,hG,hf,v,hv=>by
  unfold callAlt at h
  split at h
  ·rename_i hc
   obtain ⟨u,c1,o1,c2,o2,y,h1,h2,he⟩:=M.bind_inv h
   simp only [Prod.mk.injEq] at he
   obtain ⟨rfl,rfl,rfl⟩:=he
   simp only [Good.append] at hg
   have e2:b.d ρ = true:=oblige_snd b _ _ _ _ h1 hg.1
   have i2:=oblige_id h1
   have hv':fvMt β (some p) v:=by
    unfold pickF at hv
    rw [if_pos e2] at hv
    exact hv
   rw [<- i2]
   exact hnd_alt hH h2 hg.2 hΓ hm hh hb hN hG (fun i g1 g2=>hf i (by omega) g2) hv'
  ·obtain ⟨lo,c1,o1,c2,o2,y,h1,h2,he⟩:=M.bind_inv h
   simp only [Prod.mk.injEq] at he
   obtain ⟨rfl,rfl,rfl⟩:=he
   simp only [getId,Option.some.injEq,Prod.mk.injEq] at h1
   obtain ⟨rfl,rfl,rfl⟩:=h1
   obtain ⟨r1,c3,o3,c4,o4,y,h3,h4,he⟩:=M.bind_inv h2
   simp only [Prod.mk.injEq] at he
   obtain ⟨rfl,rfl,rfl⟩:=he
   obtain ⟨r2,c5,o5,c6,o6,y,h5,h6,he⟩:=M.bind_inv h4
   simp only [Prod.mk.injEq] at he
   obtain ⟨rfl,rfl,rfl⟩:=he
   obtain ⟨hi,c7,o7,c8,o8,y,h7,h8,he⟩:=M.bind_inv h6
   simp only [Prod.mk.injEq] at he
   obtain ⟨rfl,rfl,rfl⟩:=he
   simp only [getId,Option.some.injEq,Prod.mk.injEq] at h7
   obtain ⟨rfl,rfl,rfl⟩:=h7
   simp only [Good.append] at hg
   obtain ⟨h3,le3⟩:=mono_inv h3
   obtain ⟨h5,le5⟩:=mono_inv h5
   simp only at le3 le5
   obtain ⟨x3,k3,q3,h3u,he⟩:=under_inv h3
   simp only [Prod.mk.injEq] at he
   obtain ⟨rfl,rfl,rfl⟩:=he
   obtain ⟨x5,k5,q5,h5u,he⟩:=under_inv h5
   simp only [Prod.mk.injEq] at he
   obtain ⟨rfl,rfl,rfl⟩:=he
   obtain ⟨h8,le8⟩:=mono_inv h8
   simp only at le8
   unfold mergeRes at h8
   obtain ⟨s,c9,o9,c10,o10,y,h9,h10,he⟩:=M.bind_inv h8
   simp only [Prod.mk.injEq] at he
   obtain ⟨rfl,rfl,rfl⟩:=he
   obtain ⟨ws,c11,o11,c12,o12,y,h11,h12,he⟩:=M.bind_inv h10
   simp only [Prod.mk.injEq] at he
   obtain ⟨rfl,rfl,rfl⟩:=he
   obtain ⟨u0,hrb,h12⟩:=snd_lift_inv h12
   obtain ⟨hrb1,hrb2⟩:=noRb_spec hrb
   have he:=M.pure_inv h12
   simp only [Prod.mk.injEq] at he
   obtain ⟨rfl,rfl,rfl⟩:=he
   simp only [Good.append] at hg
   obtain ⟨_,g3,g5,_,g9,g11,_⟩:=hg
   have hs:=muxS_snd b _ _ _ _ _ _ h9 g9
   obtain ⟨w1,w2,w3⟩:=muxW_snd _ _ _ _ _ _ _ _ _ _ _ _ h11 g11
   simp only at hs w1 w2 w3
   have hfr:∀ i,c.id <= i -> i < c5.id -> β i = none:=fun i g1 g2=>hf i g1 (by omega)
   cases hbd:b.d ρ
   ·have hv':fvMt β (pickF ρ l d) v:=by
     unfold pickF at hv
     rw [if_neg (by simp [hbd])] at hv
     exact hv
    have hgd:Gd.d ρ [(b,false)] = true:=by simp [hbd]
    obtain ⟨g,us,rfl,hc1,hc2⟩:=callAlt_ok hH xs d l _ h5u (Good.under hgd g5) (by simp [hΓ,hbd]) hm hh hb hN hG (fun i g1 g2=>hfr i (by omega) g2) hv'
    refine ⟨g,us,rfl,hc1,Calls.mono hc2 fun e w' ⟨u,hu,hp'⟩=>⟨u,hu,?_⟩⟩
    refine merge_post hΓ hh hb (hi:=c'.id) (by omega) (by omega) hf hrb2 (all:=dedupN (r1.w.map (·.1) ++ r2.w.map (·.1))) (fun i hi=>mem_dedupN (by simp only [List.mem_append]; exact .inr hi)) hp' (fun β v h=>hs β v (by rw [if_neg (by simp [hbd])]; exact h)) w1 (fun i h1 h2=>by have:=w2 i h1 h2; omega) (fun β w h=>w3 β w (by rw [if_neg (by simp [hbd])]; exact h))
   ·have hv':fvMt β (some p) v:=by
     unfold pickF at hv
     rw [if_pos hbd] at hv
     exact hv
    have hgd:Gd.d ρ [(b,true)] = true:=by simp [hbd]
    obtain ⟨g,us,rfl,hc1,hc2⟩:=hnd_alt hH h3u (Good.under hgd g3) (by simp [hΓ,hbd]) hm hh hb hN hG (fun i g1 g2=>hfr i (by omega) (by omega)) hv'
    refine ⟨g,us,rfl,hc1,Calls.mono hc2 fun e w' ⟨u,hu,hp'⟩=>⟨u,hu,?_⟩⟩
    refine merge_post hΓ hh hb (hi:=c'.id) (by omega) (by omega) hf hrb1 (all:=dedupN (r1.w.map (·.1) ++ r2.w.map (·.1))) (fun i hi=>mem_dedupN (by simp only [List.mem_append]; exact .inl hi)) hp' (fun β v h=>hs β v (by rw [if_pos hbd]; exact h)) w1 (fun i h1 h2=>by have:=w2 i h1 h2; omega) (fun β w h=>w3 β w (by rw [if_pos hbd]; exact h))
end

def fnOf (f:S):Option (List (B × FV) × FV) :=
 match f with
 | .one false [c]=>asFn c
 | _=>none
theorem fnOf_spec {f:S} {p:List (B × FV) × FV} (h:fnOf f = some p):∃ c,f = .one false [c] /\ asFn c = some p:=by
 unfold fnOf at h
 split at h
 ·exact ⟨_,rfl,h⟩
 ·cases h
def xCallV (H:Hnd) (Γ:Gd) (hp:Hp) (f:S) (xs:List S):M Res :=
 match fnOf f with
 | some p=>callAlt H hp xs p.2 p.1 Γ
 | none=>M.fail
def capsOf:List S -> Option (List (Nat × Nat))
 | []=>some []
 | .one false [.ptr [] id off] :: l=>(capsOf l).map ((id,off) :: ·)
 | _=>none
def xMakeFunc (fn:Fn) (first:List Operand) (caps:List S):M S :=
 match fn with
 | .func f=>if first.isEmpty && !(f == yieldN) then do
   let l <- lift (capsOf caps)
   pure (.one false [.fn [] (some (f,l))])
  else M.fail
 | _=>M.fail
section
variable {P:Program} {Φ:Funs} {gl:Gl} {Γ:Gd} {hp:Hp} {rv:Operand -> SV} {dst:Option Tmp} {ty:TypeId} {pos:String} {after:Array Edge} {guard:Option (Nat × Bool)}
theorem capsOf_mt {β:Beta} {ρ:Env}:∀ {l:List S} {ps:List (Nat × Nat)} {vs:List Value},capsOf l = some ps -> mtAll β ρ l vs -> capMt β ps vs
 | [],ps,vs,h,hm=>by
  simp only [capsOf,Option.some.injEq] at h
  subst h
  cases vs with
  | nil=>trivial
  | cons _ _=>exact hm.elim
 | s :: l,ps,vs,h,hm=>by
  unfold capsOf at h
  split at h
  ·rename_i e; cases e
  ·rename_i id off l' e
   simp only [List.cons.injEq] at e
   obtain ⟨rfl,rfl⟩:=e
   cases vs with
   | nil=>exact hm.elim
   | cons v vs =>
    obtain ⟨h1,h2⟩:=hm
    cases hc:capsOf l with
    | none=>rw [hc] at h; simp at h
    | some r =>
     rw [hc] at h
     simp only [Option.map_some,Option.some.injEq] at h
     subst h
     obtain ⟨r',hr',hv⟩:=mt_cell (s:=.one false [.ptr [] id off]) rfl h1
     exact ⟨⟨r',by simpa [pick] using hr',by simpa [pick] using hv⟩,capsOf_mt hc h2⟩
  ·cases h
def bndOf (d:Nat):Option S -> Option Nat
 | none=>some d
 | some (.one false [.int _ (.c (.ofNat n))])=>some n
 | _=>none
def xSliceS (P:Program) (t:TypeId) (x:S) (lo hi:Option S):M S :=
 match P.underlying t,x with
 | some .string,.one false [.val (.string s)]=>match bndOf 0 lo,bndOf s.size hi with
  | some l,some h=>if Nat.ble l h && Nat.ble h s.size then pure (.one false [.val (.string (s.extract l h))]) else M.fail
  | _,_=>M.fail
 | _,_=>M.fail
def optMt (β:Beta) (ρ:Env):Option S -> Option Value -> Prop
 | none,none=>True
 | some s,some v=>s.mt β ρ v
 | _,_=>False
theorem bndOf_run {P:Program} {β:Beta} {ρ:Env} {d n y:Nat} {o:Option S} {v:Option Value} (h:bndOf d o = some n) (hm:optMt β ρ o v) (hy:n <= y) (code:BoundsCode) (w:World) :
  (v = none /\ n = d) \/ ∃ u,v = some u /\ (Instr.sliceBound u y code).run P w = .ok n w:=by
 unfold bndOf at h
 split at h
 ·simp only [Option.some.injEq] at h
  cases v with
  | none=>exact .inl ⟨rfl,h.symm⟩
  | some _=>exact hm.elim
 ·rename_i k m
  simp only [Option.some.injEq] at h
  subst h
  cases v with
  | none=>exact hm.elim
  | some u =>
   right
   obtain ⟨hu,_⟩:=mt_int rfl hm
   refine ⟨u,rfl,?_⟩
   subst hu
   unfold Instr.sliceBound
   simp [asIntOf,hy]
 ·cases h
theorem pure_slice {ρ:Env} (hΓ:Gd.d ρ Γ = true) (t:TypeId) (x:Operand) (lo hi:Option Operand) :
  Snd Φ ρ (xSliceS P t (rs Γ (rv x)) (lo.map fun x=>rs Γ (rv x)) (hi.map fun x=>rs Γ (rv x))) (Pure P Γ hp rv ⟨dst,.slice t x lo hi none,ty,pos,after,guard⟩ ρ):=by
 unfold xSliceS
 split
 ·rename_i s hu hx1
  split
  ·rename_i l h hl hh
   split
   ·rename_i hc
    simp only [Bool.and_eq_true,Nat.ble_eq] at hc
    refine Snd.pure fun β ac w hx _ _=>?_
    have hv:=(mt_cell hx1 (rs_mt hΓ (hx x (by simp [Op.operands])))).1
    have e1:optMt β ρ (lo.map fun x=>rs Γ (rv x)) (lo.map ac.eval):=by
     cases lo with
     | none=>trivial
     | some z=>exact rs_mt hΓ (hx z (by simp [Op.operands]))
    have e2:optMt β ρ (hi.map fun x=>rs Γ (rv x)) (hi.map ac.eval):=by
     cases hi with
     | none=>trivial
     | some z=>exact rs_mt hΓ (hx z (by simp [Op.operands]))
    have k1:=bndOf_run (P:=P) hl e1 (y:=h) hc.1 .sliceB w
    have k2:=bndOf_run (P:=P) hh e2 (y:=s.size) hc.2 .sliceAlen w
    refine ⟨.string (s.extract l h),?_,mt_of_cell ⟨rfl,rfl⟩⟩
    simp only [execOp,Instr.sliceAt,Instr.slice,Instr.sliceBounds,hv]
    rcases k1 with ⟨k1,rfl⟩ | ⟨u1,k1,r1⟩
    ·rcases k2 with ⟨k2,rfl⟩ | ⟨u2,k2,r2⟩
     ·rw [k1,k2]; simp [underlying,hu]
     ·rw [k1,k2]; simp [underlying,hu,r2]
    ·rcases k2 with ⟨k2,rfl⟩ | ⟨u2,k2,r2⟩
     ·rw [k1,k2]; simp [underlying,hu,r1]
     ·rw [k1,k2]; simp [underlying,hu,r1,r2]
   ·exact Snd.fail
  ·exact Snd.fail
 ·exact Snd.fail
def bndA (d:A):Option S -> Option A
 | none=>some d
 | some (.one false [.int _ a])=>some a
 | _=>none
theorem bndA_run {P:Program} {β:Beta} {ρ:Env} {d a:A} {y:Nat} {o:Option S} {v:Option Value} (h:bndA d o = some a) (hm:optMt β ρ o v) (h0:0 <= a.d ρ) (hy:a.d ρ <= y) (code:BoundsCode) (w:World) :
  (v = none /\ a = d) \/ ∃ u,v = some u /\ (Instr.sliceBound u y code).run P w = .ok (a.d ρ).toNat w:=by
 unfold bndA at h
 split at h
 ·cases h
  cases v with
  | none=>exact .inl ⟨rfl,rfl⟩
  | some u=>exact hm.elim
 ·cases h
  cases v with
  | none=>exact hm.elim
  | some u =>
   have hi:=(mt_int rfl hm).1
   refine .inr ⟨u,rfl,?_⟩
   rw [hi]
   simp [Instr.sliceBound,asIntOf,h0,hy]
 ·cases h
def xSlStr (P:Program) (t:TypeId) (q:A) (lo hi:Option S):M S :=
 match P.underlying t with
 | some .string=>do
  let n <- mkLenq q 1
  let a <- lift (bndA (.c 0) lo)
  let b <- lift (bndA n hi)
  let b1 <- mkCm .geq a (.c 0)
  oblige b1
  let b2 <- mkCm .leq a b
  oblige b2
  let b3 <- mkCm .leq b n
  oblige b3
  let q' <- mkSub q a b 1
  pure (.one false [.str q'])
 | _=>M.fail
theorem bytesI_extract (s:ByteArray) (i n:Nat):bytesI (s.extract i n) = ((bytesI s).drop i).take (n - i):=by
 unfold bytesI
 rw [ByteArray.data_extract,Array.toList_extract,<- List.map_drop,<- List.map_take]
theorem bndA_val {β:Beta} {ρ:Env} {d a:A} {o:Option S} {v:Option Value} (h:bndA d o = some a) (hm:optMt β ρ o v):(v = none /\ a = d) \/ ∃ k,v = some (.int k (a.d ρ)):=by
 unfold bndA at h
 split at h
 ·cases h
  cases v with
  | none=>exact .inl ⟨rfl,rfl⟩
  | some u=>exact hm.elim
 ·cases h
  cases v with
  | none=>exact hm.elim
  | some u=>exact .inr ⟨_,by rw [(mt_int rfl hm).1]⟩
 ·cases h
theorem pure_slStr {ρ:Env} (hΓ:Gd.d ρ Γ = true) (t:TypeId) (x:Operand) (lo hi:Option Operand) {q:A} {c:C} (hx1:rs Γ (rv x) = .one false [c]) (hcq:asStr c = some q) :
  Snd Φ ρ (xSlStr P t q (lo.map fun x=>rs Γ (rv x)) (hi.map fun x=>rs Γ (rv x))) (Pure P Γ hp rv ⟨dst,.slice t x lo hi none,ty,pos,after,guard⟩ ρ):=by
 unfold xSlStr
 split
 ·rename_i hu
  refine Snd.bind (mkLenq_snd _ _) fun n hn=>Snd.bind (lift_snd _) fun a ha=>Snd.bind (lift_snd _) fun b hb=>Snd.bind (mkCm_snd _ _ _) fun b1 e1=>Snd.bind (oblige_snd b1) fun _ e2=>Snd.bind (mkCm_snd _ _ _) fun b2 e3=>Snd.bind (oblige_snd b2) fun _ e4 =>
   Snd.bind (mkCm_snd _ _ _) fun b3 e5=>Snd.bind (oblige_snd b3) fun _ e6=>Snd.bind (mkSub_snd _ _ _ _) fun q' hq'=>Snd.pure fun β ac w hx _ hsq=>?_
  rw [e1] at e2
  rw [e3] at e4
  rw [e5] at e6
  replace e2:0 <= a.d ρ:=of_decide_eq_true e2
  replace e4:a.d ρ <= b.d ρ:=of_decide_eq_true e4
  replace e6:b.d ρ <= n.d ρ:=of_decide_eq_true e6
  obtain ⟨s,hv,g2,g3⟩:=asStr_mt hcq (mt_cell hx1 (rs_mt hΓ (hx x (by simp [Op.operands]))))
  have hnd:n.d ρ = (s.size:Int):=by rw [hn]; simp only [RI.d,g2,encS_len,Nat.div_one]
  rw [hnd] at e6
  have u1:optMt β ρ (lo.map fun x=>rs Γ (rv x)) (lo.map ac.eval):=by
   cases lo with
   | none=>trivial
   | some z=>exact rs_mt hΓ (hx z (by simp [Op.operands]))
  have u2:optMt β ρ (hi.map fun x=>rs Γ (rv x)) (hi.map ac.eval):=by
   cases hi with
   | none=>trivial
   | some z=>exact rs_mt hΓ (hx z (by simp [Op.operands]))
  refine ⟨.string (s.extract (a.d ρ).toNat (b.d ρ).toNat),?_,mt_of_cell ⟨_,rfl,?_,?_⟩⟩
  ·have hrun:(Instr.slice t (.string s) (lo.map ac.eval) (hi.map ac.eval) none).run P w = .ok (.string (s.extract (a.d ρ).toNat (b.d ρ).toNat)) w:=by
    rcases bndA_val ha u1 with ⟨k1,rfl⟩ | ⟨k,k1⟩ <;> rcases bndA_val hb u2 with ⟨k2,rfl⟩ | ⟨k',k2⟩
    ·rw [k1,k2,run_slice_string_all w t s hu,hnd]; simp [A.d]
    ·rw [k1,k2,run_slice_string_h w t s hu k' _ (by omega) e6]; simp [A.d]
    ·have e4':a.d ρ <= s.size:=by omega
     rw [k1,k2,hnd,run_slice_string_l w t s hu k _ e2 e4',Int.toNat_natCast]
    ·rw [k1,k2,run_slice_string w t s k k' _ _ hu e2 e4 e6]
   simp only [execOp,Option.map_none,hv,Sem.run_bind]
   simp [run_sliceAt_string w t _ _ _ none hu,hrun]
  ·rw [hq',g2]
   unfold encS
   rw [dec_enc,bytesI_extract]
   simp
  ·have hsz:(s.extract (a.d ρ).toNat (b.d ρ).toNat).size <= s.size:=by
    simp [ByteArray.size_extract]
    omega
   have h9:(s.size:Int) <= 9223372036854775807:=g3.2
   exact ⟨by show (-9223372036854775808:Int) <= _; omega,by show _ <= (9223372036854775807:Int); omega⟩
 ·exact Snd.fail
def xSliceX (P:Program) (t:TypeId) (x:S) (lo hi:Option S):M S :=
 match x with
 | .one false [.slx ks q n]=>do
  let e <- lift (sliceElem P t)
  let s <- lift (sizeN P e)
  let a <- lift (bndA (.c 0) lo)
  let b <- lift (bndA n hi)
  if s == ks.length then do
   let b1 <- mkCm .geq a (.c 0)
   oblige b1
   let b2 <- mkCm .leq a b
   oblige b2
   let b3 <- mkCm .leq b n
   oblige b3
   let q' <- mkSub q a b ks.length
   let n' <- mkAr .sub .i64 b a
   pure (.one false [.slx ks q' n'])
  else M.fail
 | .one false [c]=>match asStr c with
  | some q=>xSlStr P t q lo hi
  | none=>xSliceS P t (.one false [c]) lo hi
 | x=>xSliceS P t x lo hi
theorem pure_sliceX {ρ:Env} (hΓ:Gd.d ρ Γ = true) (t:TypeId) (x:Operand) (lo hi:Option Operand) :
  Snd Φ ρ (xSliceX P t (rs Γ (rv x)) (lo.map fun x=>rs Γ (rv x)) (hi.map fun x=>rs Γ (rv x))) (Pure P Γ hp rv ⟨dst,.slice t x lo hi none,ty,pos,after,guard⟩ ρ):=by
 unfold xSliceX
 split
 ·rename_i ks q n hx1
  refine Snd.bind (lift_snd _) fun e he=>Snd.bind (lift_snd _) fun s hs=>Snd.bind (lift_snd _) fun a ha=>Snd.bind (lift_snd _) fun b hb=>?_
  split
  ·rename_i hk
   simp only [beq_iff_eq] at hk
   subst hk
   refine Snd.bind (mkCm_snd _ _ _) fun b1 e1=>Snd.bind (oblige_snd b1) fun _ e2=>Snd.bind (mkCm_snd _ _ _) fun b2 e3=>Snd.bind (oblige_snd b2) fun _ e4=>Snd.bind (mkCm_snd _ _ _) fun b3 e5=>Snd.bind (oblige_snd b3) fun _ e6 =>
    Snd.bind (mkSub_snd _ _ _ _) fun q' hq'=>Snd.bind (mkAr_snd _ _ _ _) fun n' hn'=>Snd.pure fun β ac w hx _ hsq=>?_
   rw [e1] at e2
   rw [e3] at e4
   rw [e5] at e6
   replace e2:0 <= a.d ρ:=of_decide_eq_true e2
   replace e4:a.d ρ <= b.d ρ:=of_decide_eq_true e4
   replace e6:b.d ρ <= n.d ρ:=of_decide_eq_true e6
   obtain ⟨h0,hin,p,cap,hv,hcap,h3⟩:=mt_cell hx1 (rs_mt hΓ (hx x (by simp [Op.operands])))
   obtain ⟨m,hm⟩:=Int.eq_ofNat_of_zero_le h0
   obtain ⟨la,hla⟩:=Int.eq_ofNat_of_zero_le e2
   obtain ⟨hb',hhb⟩:=Int.eq_ofNat_of_zero_le (Int.le_trans e2 e4)
   rw [hm,Int.toNat_natCast] at hv hcap
   have u1:optMt β ρ (lo.map fun x=>rs Γ (rv x)) (lo.map ac.eval):=by
    cases lo with
    | none=>trivial
    | some z=>exact rs_mt hΓ (hx z (by simp [Op.operands]))
   have u2:optMt β ρ (hi.map fun x=>rs Γ (rv x)) (hi.map ac.eval):=by
    cases hi with
    | none=>trivial
    | some z=>exact rs_mt hΓ (hx z (by simp [Op.operands]))
   have hu:P.underlying t = some (.slice e):=by
    unfold sliceElem at he
    split at he
    ·rename_i hu; simp only [Option.some.injEq] at he; subst he; exact hu
    ·cases he
   have k1:=bndA_run (P:=P) ha u1 (y:=hb') e2 (by omega) .sliceB w
   have k2:=bndA_run (P:=P) hb u2 (y:=cap) (by omega) (by omega) .sliceAcap w
   rw [hla,Int.toNat_natCast] at k1
   rw [hhb,Int.toNat_natCast] at k2
   have hnd:n'.d ρ = ((hb' - la:Nat):Int):=by
    rw [hn',hhb,hla]
    show IntKind.wrap .i64 _ = _
    rw [IntKind.wrap_i64]
    have h9:(m:Int) <= 9223372036854775807:=by have h8:=hin.2; rw [hm] at h8; exact h8
    omega
   refine ⟨.slice (if cap = la then p else p.map (·.add (la * ks.length))) (hb' - la) (cap - la),?_,mt_of_cell ?_⟩
   ·have hrun:(Instr.sliceBounds true m cap (lo.map ac.eval) (hi.map ac.eval) none).run P w = .ok (la,hb',cap) w:=by
     unfold Instr.sliceBounds
     rcases k2 with ⟨k2,rfl⟩ | ⟨u2,k2,r2⟩
     ·have:m = hb':=by rw [hm] at hhb; exact_mod_cast hhb
      subst this
      rcases k1 with ⟨k1,rfl⟩ | ⟨u1,k1,r1⟩
      ·have:la = 0:=by have:(0:Int) = la:=hla; omega
       subst this
       rw [k1,k2]; simp
      ·rw [k1,k2]; simp [r1]
     ·rcases k1 with ⟨k1,rfl⟩ | ⟨u1,k1,r1⟩
      ·have:la = 0:=by have:(0:Int) = la:=hla; omega
       subst this
       rw [k1,k2]; simp [r2]
      ·rw [k1,k2]; simp [r1,r2]
    simp only [execOp,Instr.sliceAt,Instr.slice,hv,Sem.run_bind,run_underlying hu,Result.andThen_ok]
    simp [hrun,sizeN_spec hs w]
   ·show slxMt β ks (q'.d ρ) (n'.d ρ) _
    rw [hnd]
    refine ⟨by omega,⟨?_,?_⟩,_,cap - la,by rw [Int.toNat_natCast],by rw [Int.toNat_natCast]; omega,?_⟩
    ·show (-9223372036854775808:Int) <= _; omega
    ·show _ <= (9223372036854775807:Int)
     have h9:=hin.2
     rw [hm] at h9
     have h9':(m:Int) <= 9223372036854775807:=h9
     omega
    ·rw [hq',hla,hhb,Int.toNat_natCast,Int.toNat_natCast,Int.toNat_natCast]
     by_cases hz:hb' - la = 0
     ·left; rw [hz]; simp
     ·right
      rcases h3 with ⟨_,e0⟩ | ⟨i,r,o,l,hr,hs1,hqe,hl,hp⟩
      ·omega
      ·rw [hm,Int.toNat_natCast] at hl
       obtain ⟨L,j,g1,g2,g3,g4⟩:=hs1
       have hmul1:hb' * ks.length <= m * ks.length:=Nat.mul_le_mul_right _ (by omega)
       have hmul2:la * ks.length + (hb' - la) * ks.length = hb' * ks.length:=by rw [<- Nat.add_mul]; congr 1; omega
       have hlen:((l.drop (la * ks.length)).take ((hb' - la) * ks.length)).length = (hb' - la) * ks.length:=by
        rw [List.length_take,List.length_drop,hl]; omega
       refine ⟨i,r,o + la * ks.length,(l.drop (la * ks.length)).take ((hb' - la) * ks.length),hr,⟨L,j + la,g1,by rw [g2,Nat.add_mul],by rw [hlen]; omega,fun i' x hx'=>?_⟩,by rw [hqe,dec_enc],hlen,?_⟩
       ·rw [List.getElem?_take] at hx'
        split at hx'
        ·rw [List.getElem?_drop] at hx'
         have:=g4 _ _ hx'
         rwa [<- Nat.add_assoc] at this
        ·cases hx'
       ·rw [if_neg (by omega),hp]
        simp only [Option.map_some,Option.some.injEq]
        rw [add_lit,Nat.add_assoc]
  ·exact Snd.fail
 ·rename_i c _ hx1
  split
  ·rename_i q hq
   exact pure_slStr hΓ t x lo hi hx1 hq
  ·rw [<- hx1]
   exact pure_slice hΓ t x lo hi
 ·exact pure_slice hΓ t x lo hi
theorem pure_makeFunc {ρ:Env} (hΓ:Gd.d ρ Γ = true) (fn:Fn) (first captured:Array Operand) :
  Snd Φ ρ (xMakeFunc fn first.toList (captured.toList.map fun x=>rs Γ (rv x))) (Pure P Γ hp rv ⟨dst,.makeFunc fn first captured,ty,pos,after,guard⟩ ρ):=by
 unfold xMakeFunc
 cases fn with
 | func f =>
  simp only []
  split
  ·rename_i he
   simp only [Bool.and_eq_true,Bool.not_eq_true',beq_eq_false_iff_ne] at he
   have hfe:first = #[]:=by
    have he:=he.1
    simp only [List.isEmpty_iff] at he
    apply Array.toList_inj.1; simpa using he
   subst hfe
   refine Snd.bind (lift_snd _) fun l hl=>Snd.pure fun β ac w hx hh hq=>?_
   have hm:=mtAll_map (β:=β) (ρ:=ρ) (f:=fun x=>rs Γ (rv x)) (ev:=ac.eval) (l:=captured.toList) fun x hxm=>rs_mt hΓ (hx x (by simp [Op.operands]; simpa using hxm))
   refine ⟨.func (.func f) #[] (captured.map ac.eval),by simp [execOp,Instr.makeFunc],mt_of_cell ⟨captured.toList.map ac.eval,?_,capsOf_mt hl hm⟩⟩
   simp only
   rw [fvVal_ne he.2]
   congr 1
   apply Array.toList_inj.1; simp
  ·exact Snd.fail
 | _=>exact Snd.fail
theorem ok_callH {H:Hnd} (hH:HOk P Φ gl H) (f:Nat) (args:Array Operand) (argTypes:Array TypeId) :
  LOk P Φ (GB gl) Γ hp rv ⟨dst,.call { callee:=.value (.func f),args:=args,argTypes:=argTypes },ty,pos,after,guard⟩ (H f Γ hp (args.toList.map fun x=>rs Γ (rv x))):=by
 intro ρ c res c' out he hg hΓ N R Q β a w hx hh hb hN hG hf
 have hops:∀ x,x ∈ args.toList -> x ∈ (Op.call { callee:=.value (.func f),args:=args,argTypes:=argTypes }).operands:=fun x hx=>by
  simp [Op.operands,Call.operands]; exact .inr (by simpa using hx)
 obtain ⟨h1,h2⟩:=hH f Γ hp _ ρ c res c' out he hg hΓ N R Q β w (args.toList.map a.eval) (mtAll_map (f:=fun x=>rs Γ (rv x)) (ev:=a.eval) fun x hxm=>rs_mt hΓ (hx x (hops x hxm))) hh hb hN hG hf
 have hargs:(args.toList.map a.eval).toArray = args.map a.eval:=by
  apply Array.toList_inj.1; simp
 rw [hargs] at h2
 refine OpG.calls (f:=f) (args:=args.map a.eval) (w':=w) ?_ h2
 have:=h1 (args.map a.eval) w
 simp [execOp,resolve,Act.eval,Deferred.ofValue,invoke,this]
theorem ok_callV {H:Hnd} (hH:HOk P Φ gl H) (x:Operand) (args:Array Operand) (argTypes:Array TypeId) :
  LOk P Φ (GB gl) Γ hp rv ⟨dst,.call { callee:=.value x,args:=args,argTypes:=argTypes },ty,pos,after,guard⟩ (xCallV H Γ hp (rs Γ (rv x)) (args.toList.map fun x=>rs Γ (rv x))):=by
 intro ρ c res c' out he hg hΓ N R Q β a w hx hh hb hN hG hf
 cases hfn:fnOf (rs Γ (rv x)) with
 | none=>simp [xCallV,hfn,M.fail] at he
 | some p =>
   simp only [xCallV,hfn] at he
   obtain ⟨cc,hcc,hp'⟩:=fnOf_spec hfn
   have hops:∀ y,y ∈ args.toList -> y ∈ (Op.call { callee:=.value x,args:=args,argTypes:=argTypes }).operands:=fun y hy=>by
    simp [Op.operands,Call.operands]; exact .inr (by simpa using hy)
   have hv:=asFn_mt hp' (mt_cell hcc (rs_mt hΓ (hx x (by simp [Op.operands,Call.operands]))))
   obtain ⟨g,ws,hve,h1,h2⟩:=callAlt_ok hH _ _ _ _ he hg hΓ (mtAll_map (f:=fun x=>rs Γ (rv x)) (ev:=a.eval) fun x hxm=>rs_mt hΓ (hx x (hops x hxm))) hh hb hN hG hf hv
   have hargs:(args.toList.map a.eval ++ ws).toArray = args.map a.eval ++ ws.toArray:=by
    apply Array.toList_inj.1; simp
   rw [hargs] at h2
   refine OpG.calls (f:=g) (args:=args.map a.eval ++ ws.toArray) (w':=w) ?_ h2
   have:=h1 (args.map a.eval ++ ws.toArray) w
   simp [execOp,resolve,hve,Deferred.ofValue,invoke,this]

def opx (P:Program) (X:Hnd) (Γ:Gd) (hp:Hp) (rv:Operand -> SV):Op -> M Res
 | .move x=>do pure { s:=<- pure (rs Γ (rv x)),w:=[] }
 | .assign x=>do pure { s:=<- pure (rs Γ (rv x)),w:=[] }
 | .pick c a b=>do pure { s:=<- xPick Γ (rv c) (rv a) (rv b),w:=[] }
 | .alloc t=>xAlloc P t
 | .box t x=>xBox (rs Γ (rv x))
 | .build t parts=>do pure { s:=<- xBuild P t (parts.toList.map fun p=>(p.1,rs Γ (rv p.2))),w:=[] }
 | .buildSlice t n parts=>xBuildSlice0 P t n (parts.toList.map fun p=>(p.1,rs Γ (rv p.2)))
 | .load t x=>do pure { s:=<- xLoad P Γ hp t (rs Γ (rv x)),w:=[] }
 | .store t x y=>xStoreR P Γ hp t (rs Γ (rv x)) (rs Γ (rv y))
 | .makeSlice t l c=>xMakeSlice P t (rs Γ (rv l)) (rs Γ (rv c))
 | .nilCheck x=>do pure { s:=<- xNil (rs Γ (rv x)),w:=[] }
 | .binOp op t x y _=>do pure { s:=<- xBinA P op t (rs Γ (rv x)) (rs Γ (rv y)),w:=[] }
 | .unOp op _ x=>do pure { s:=<- xUn op (rs Γ (rv x)),w:=[] }
 | .convert src dst x=>do pure { s:=<- xConvX P Γ hp src dst (rs Γ (rv x)),w:=[] }
 | .fieldAddr t x f=>do pure { s:=<- xFieldAddr P t f (rs Γ (rv x)),w:=[] }
 | .field t x f=>do pure { s:=<- xField P t f (rs Γ (rv x)),w:=[] }
 | .indexAddr t x i=>do pure { s:=<- xIndexAddr P Γ hp t (rs Γ (rv x)) (rs Γ (rv i)),w:=[] }
 | .index t x i=>do pure { s:=<- xIndex P t (rs Γ (rv x)) (rs Γ (rv i)),w:=[] }
 | .extract x i=>do pure { s:=<- xExtract i (rs Γ (rv x)),w:=[] }
 | .call { callee:=.value (.func f),args,argTypes }=>X f Γ hp (args.toList.map fun x=>rs Γ (rv x))
 | .call { callee:=.value (.tmp t),args,argTypes }=>xCallV X Γ hp (rs Γ (rv (.tmp t))) (args.toList.map fun x=>rs Γ (rv x))
 | .slice t x lo hi none=>do pure { s:=<- xSliceX P t (rs Γ (rv x)) (lo.map fun x=>rs Γ (rv x)) (hi.map fun x=>rs Γ (rv x)),w:=[] }
 | .makeFunc fn first captured=>do pure { s:=<- xMakeFunc fn first.toList (captured.toList.map fun x=>rs Γ (rv x)),w:=[] }
 | .call { callee:=.builtin .append,args,argTypes }=>xAppend P Γ hp argTypes (args.toList.map fun x=>rs Γ (rv x))
 | .call { callee:=.builtin b,args,argTypes }=>do pure { s:=<- xBuiltin P Γ hp b argTypes (args.toList.map fun x=>rs Γ (rv x)),w:=[] }
 | _=>M.fail
theorem opx_ok {X:Hnd} (hX:HOk P Φ gl X) (o:Oper):LOk P Φ (GB gl) Γ hp rv o (opx P X Γ hp rv o.op):=by
 obtain ⟨dst,op,ty,pos,after,guard⟩:=o
 cases op with
 | move x=>exact LOk.of_pure fun ρ h=>pure_move h _
 | assign x=>exact LOk.of_pure fun ρ h=>pure_assign h _
 | pick c a b=>exact LOk.of_pure fun ρ h=>pure_pick h _ _ _
 | alloc t=>exact ok_alloc _
 | box t x=>exact ok_box _ _
 | build t parts=>exact LOk.of_pure fun ρ h=>pure_build h _ _
 | buildSlice t n parts=>exact ok_buildSlice0 _ _ _
 | load t x=>exact LOk.of_pure fun ρ h=>pure_load h _ _
 | store t x y=>exact ok_storeR _ _ _
 | makeSlice t l c=>exact ok_makeSlice _ _ _
 | nilCheck x=>exact LOk.of_pure fun ρ h=>pure_nil h _
 | binOp op t x y t'=>exact LOk.of_pure fun ρ h=>pure_binA h _ _ _ _ _
 | unOp op t x=>exact LOk.of_pure fun ρ h=>pure_un h _ _ _
 | convert src d x=>exact LOk.of_pure fun ρ h=>pure_convX h _ _ _
 | fieldAddr t x f=>exact LOk.of_pure fun ρ h=>pure_fieldAddr h _ _ _
 | field t x f=>exact LOk.of_pure fun ρ h=>pure_field h _ _ _
 | indexAddr t x i=>exact LOk.of_pure fun ρ h=>pure_indexAddr h _ _ _
 | index t x i=>exact LOk.of_pure fun ρ h=>pure_index h _ _ _
 | extract x i=>exact LOk.of_pure fun ρ h=>pure_extract h _ _
 | slice t x lo hi mx=>cases mx with
  | none=>exact LOk.of_pure fun ρ h=>pure_sliceX h _ _ _ _
  | some m=>exact LOk.fail
 | makeFunc fn first captured=>exact LOk.of_pure fun ρ h=>pure_makeFunc h _ _ _
 | call c =>
  obtain ⟨callee,args,argTypes⟩:=c
  cases callee with
  | value f =>
   cases f with
   | func f=>exact ok_callH hX _ _ _
   | tmp t=>exact ok_callV hX _ _ _
   | _=>exact LOk.fail
  | builtin b =>
   cases b with
   | append=>exact ok_append _ _
   | _=>exact LOk.of_pure fun ρ h=>pure_builtin h _ _ _
  | invoke r m=>exact LOk.fail
 | _=>exact LOk.fail
end
end Go.Proofs.YtfgbfdlacnihkaaGreatDoor.Sx
namespace Go.Proofs.YtfgbfdlacnihkaaGreatDoor.Sx
open Go


def uniN (l m:List Nat):List Nat:=if l.isEmpty then m else l ++ m.filter fun i=>!l.contains i
theorem mem_uniN {l m:List Nat} {i:Nat}:i ∈ uniN l m ↔ i ∈ l \/ i ∈ m:=by
 unfold uniN
 split
 ·rename_i h; simp only [List.isEmpty_iff] at h; subst h; simp
 ·simp only [List.mem_append,List.mem_filter]
  constructor
  ·rintro (h | h)
   ·exact .inl h
   ·exact .inr h.1
  ·rintro (h | h)
   ·exact .inl h
   ·by_cases h2:i ∈ l
    ·exact .inl h2
    ·exact .inr ⟨h,by simpa using h2⟩
theorem pOf_true {rb:List Nat} {i:Nat}:pOf rb i = true ↔ i ∉ rb:=by simp [pOf]
theorem ExtP.pmono {p q:Nat -> Bool} {β β':Beta} (h:ExtP p β β') (hp:∀ i,q i = true -> p i = true):ExtP q β β':=fun i r h1 h2=>h i r h1 (h2.imp (fun x=>x) (hp i))
theorem ExtP.uni {r1 r2:List Nat} {β γ δ:Beta} (h1:ExtP (pOf r2) β γ) (h2:ExtP (pOf r1) γ δ):ExtP (pOf (uniN r1 r2)) β δ:=fun i r hi hr=>by
 rcases hr with hr | hr
 ·exact h2 i r (h1 i r hi (.inl hr)) (.inl hr)
 ·rw [pOf_true,mem_uniN] at hr
  exact h2 i r (h1 i r hi (.inr (pOf_true.2 fun e=>hr (.inr e)))) (.inr (pOf_true.2 fun e=>hr (.inl e)))
def opS (P:Program) (X:Hnd) (gh:Hl) (ng:Nat) (ops:Array Oper) (o:Oper) (σ:St):M St:=do
 let g <- lift (gdOf ops σ o)
 match normG g with
 | none=>do
  let tm <- lift (setT σ.tm o.dst undefSV)
  pure { tm:=tm,hp:=σ.hp,rb:=σ.rb,js:=σ.js }
 | some Γ=>do
  let r <- M.mono (M.under Γ (opx P X Γ (hpX gh ng σ.hp) (ev ng σ) o.op))
  let tm <- lift (setT (jkTm r.rb σ.tm) o.dst { g:=Γ,s:=r.s })
  let hp <- M.mono (do
   let sel <- (if r.w.isEmpty || Γ.isEmpty then pure (.c (Γ.isEmpty)) else gAtom Γ)
   layB Γ sel (jkHp r.rb σ.hp) r.w)
  pure { tm:=tm,hp:=hp,rb:=uniN r.rb σ.rb,js:=σ.js }
def regL (P:Program) (X:Hnd) (gh:Hl) (ng:Nat) (ops:Array Oper):List Oper -> St -> M St
 | [],σ=>pure σ
 | o :: l,σ=>do
  let σ' <- opS P X gh ng ops o σ
  regL P X gh ng ops l σ'

section
variable {P:Program} {Φ:Funs} {X:Hnd} {x:Cx} {ρ:Env}

theorem ofC_ids (v:Value):(ofC v).ids = []:=by
 unfold ofC
 split
 ·split <;> rfl
 ·rfl
 ·rfl
theorem ghOf_ids:∀ {gl:Gl} {g id:Nat} {b:Blk},hpOf (ghOf gl g) id = some b -> ∀ (j:Nat) (c:C),b.cells[j]? = some c -> c.ids = []
 | [],g,id,b,h,j,c,hj=>by simp [ghOf,hpOf] at h
 | vs :: l,g,id,b,h,j,c,hj=>by
  unfold ghOf hpOf at h
  split at h
  ·cases h
   rw [List.getElem?_map,Option.map_eq_some_iff] at hj
   obtain ⟨v,_,rfl⟩:=hj
   exact ofC_ids v
  ·exact ghOf_ids h j c hj
theorem opS_sound (hX:HOk P Φ x.gl X) (hG:∀ w,Keep x.R x.w0 w -> Laid x.gl w) {ops:Array Oper} {o:Oper} {σ σ':St} {c c':Ctr} {out:List Em} (h:opS P X x.gh x.ng ops o σ c = some (σ',c',out)) (hg:Good Φ ρ out)
  {β:Beta} {a:Act} {w:World} (hR:Rel x ρ β σ a w) (hf:Fresh β c) (next:Act -> World -> Prop) (Q:Exit -> Act -> World -> Prop)
  (hn:∀ β' a' w',Ext β β' -> Rel x ρ β' σ' a' w' -> Fresh β' c' -> next a' w') :
  if Region.wanted o (yielded ops a.tmps) then o.wp P a w next Q else next (a.put o.dst undef) w:=by
 unfold opS at h
 obtain ⟨g,c1,o1,c2,o2,y,h1,h2,he⟩:=M.bind_inv h
 obtain ⟨g',hgd,he1⟩:=lift_inv h1
 simp only [Prod.mk.injEq] at he1 he
 obtain ⟨rfl,rfl,rfl⟩:=he1
 obtain ⟨rfl,rfl,rfl⟩:=he
 rw [gdOf_wanted hR hgd]
 cases hno:normG g with
 | none =>
  rw [hno] at h2
  rw [normG_none (ρ:=ρ) hno]
  simp only [Bool.false_eq_true,if_false]
  obtain ⟨tm,c3,o3,c4,o4,y,h3,h4,he⟩:=M.bind_inv h2
  obtain ⟨tm',ht,he3⟩:=lift_inv h3
  simp only [Prod.mk.injEq] at he3 he
  obtain ⟨rfl,rfl,rfl⟩:=he3
  have he4:=M.pure_inv h4
  simp only [Prod.mk.injEq] at he4
  obtain ⟨rfl,rfl,rfl⟩:=he4
  obtain ⟨rfl,rfl,rfl⟩:=he
  obtain ⟨s1,s2⟩:=slot_put (dst:=o.dst) hR.size hR.slot ht undefSV_mt
  exact hn β _ w (Ext.refl β) ⟨s1,s2,hR.df.put _ _,hR.hm,hR.gm,hR.gro,hR.bo,hR.kp,hR.gl,hR.ra,hR.eb⟩ hf
 | some Γ =>
  rw [hno] at h2
  obtain ⟨r,c3,o3,c4,o4,y,h3,h4,he⟩:=M.bind_inv h2
  obtain ⟨h3,hle1⟩:=mono_inv h3
  obtain ⟨r',c3',o3',h3',he3⟩:=under_inv h3
  simp only [Prod.mk.injEq] at he3 he
  obtain ⟨rfl,rfl,rfl⟩:=he3
  obtain ⟨tm,c5,o5,c6,o6,y',h5,h6,he'⟩:=M.bind_inv h4
  obtain ⟨tm',ht,he5⟩:=lift_inv h5
  simp only [Prod.mk.injEq] at he5 he'
  obtain ⟨rfl,rfl,rfl⟩:=he5
  obtain ⟨hp,c7,o7,c8,o8,y'',h7,h8,he''⟩:=M.bind_inv h6
  obtain ⟨h7,hle2⟩:=mono_inv h7
  have he8:=M.pure_inv h8
  simp only [Prod.mk.injEq] at he8 he''
  obtain ⟨rfl,rfl,rfl⟩:=he8
  obtain ⟨rfl,rfl,rfl⟩:=he''
  obtain ⟨rfl,rfl,rfl⟩:=he'
  obtain ⟨rfl,rfl,rfl⟩:=he
  simp only [List.nil_append,List.append_nil] at hg
  rw [Good.append] at hg
  obtain ⟨hg1,hg2⟩:=hg
  have hΓe:=normG_some (ρ:=ρ) hno
  obtain ⟨sel,c9,o9,c10,o10,y3,h9,h10,he3⟩:=M.bind_inv h7
  simp only [Prod.mk.injEq] at he3
  obtain ⟨rfl,rfl,rfl⟩:=he3
  rw [Good.append] at hg2
  have hsel:(sel.d ρ = Gd.d ρ Γ) \/ r.w = []:=by
   split at h9
   ·rename_i hc
    have he:=M.pure_inv h9
    simp only [Prod.mk.injEq] at he
    obtain ⟨rfl,_⟩:=he
    simp only [Bool.or_eq_true,List.isEmpty_iff] at hc
    rcases hc with h | h
    ·exact .inr h
    ·left; rw [h]; rfl
   ·exact .inl (gAtom_snd Γ _ _ _ _ h9 hg2.1)
  simp only at hle1 hle2
  cases hgg:Gd.d ρ g
  ·simp only [Bool.false_eq_true,if_false]
   rw [hgg] at hΓe
   have hlay:∀ β w,heapMt β ρ (hpOf (jkHp r.rb σ.hp)) w -> heapMt β ρ (hpOf hp) w:=by
    rcases hsel with hsel | hsel
    ·exact layB_idle (Φ:=Φ) hΓe (by rw [hsel,hΓe]) r.w _ _ _ _ h10 hg2.2
    ·rw [hsel] at h10
     have he:=M.pure_inv h10
     simp only [Prod.mk.injEq] at he
     obtain ⟨rfl,_⟩:=he
     exact fun β w h=>h
   have hmv:Mv (pOf r.rb) β β:=Mv.of hR.bo (ExtP.refl _ _)
   obtain ⟨s1,s2⟩:=slot_put (v:=undef) (dst:=o.dst) (hR.size.trans jkTm_len.symm) (fun t y hy=>by
    rw [jkTm_get,Option.map_eq_some_iff] at hy
    obtain ⟨u,hu,rfl⟩:=hy
    exact SV.jk_mt hmv (hR.slot t u hu)) ht ⟨fun h=>(by simp only at h; rw [hΓe] at h; cases h),fun _=>rfl⟩
   refine hn β _ w (Ext.refl β) ⟨s1,s2,hR.df.put _ _,hlay β w ?_,hR.gm,hR.gro,hR.bo,hR.kp,hR.gl,hR.ra,?_⟩ (hf.le (by omega))
   ·intro id b hb hbg
    rw [jkHp_of,Option.map_eq_some_iff] at hb
    obtain ⟨b0,hb0,rfl⟩:=hb
    have hm0:=hR.hm id b0 hb0 hbg
    have:∀ p,Mv p β β:=fun p=>Mv.of hR.bo (ExtP.refl _ _)
    cases hv:vecOf b0.cells with
    | none=>exact blkMt_jk hmv (.inl hv) (fun _ _ _ _=>⟨rfl,rfl⟩) hm0
    | some y =>
     have e:(b0.jk (pOf r.rb)).cells = b0.cells:=by
      have e1:=vecOf_spec hv
      unfold Blk.jk jkL
      simp only
      rw [e1]
      simp [vec_jk]
     exact blkMt_g (b:=b0) (b':=b0.jk (pOf r.rb)) rfl e.symm hm0
   ·exact ExtP.uni hR.eb (ExtP.refl _ _)
  ·simp only [if_true]
   rw [hgg] at hΓe
   have hg1':=Good.under hΓe hg1
   have hlok:=opx_ok (Γ:=Γ) (hp:=hpX x.gh x.ng σ.hp) (rv:=ev x.ng σ) hX o ρ _ _ _ _ h3' hg1' hΓe x.w0.heap.size x.R x.Q β a w (fun z _=>ev_mt hR z) hR.hx hR.bo hR.kp.size ⟨hG w hR.kp,hR.gl⟩
    (fun i hi _=>hf i hi)
   refine hlok next Q fun v w' hpost=>?_
   obtain ⟨β',hst,hsv,hbl⟩:=hpost
   have hlay:∀ (β:Beta) (w:World),(∀ p,p ∈ r.w -> blkMt β ρ w p.1 p.2) -> (∀ id b,hpOf (jkHp r.rb σ.hp) id = some b -> id ∉ r.w.map (·.1) -> Gd.d ρ b.g = true -> blkMt β ρ w id b) -> heapMt β ρ (hpOf hp) w:=by
    rcases hsel with hsel | hsel
    ·exact layB_ran (Φ:=Φ) hΓe (by rw [hsel,hΓe]) r.w _ _ _ _ h10 hg2.2
    ·rw [hsel] at h10 ⊢
     have he:=M.pure_inv h10
     simp only [Prod.mk.injEq] at he
     obtain ⟨rfl,_⟩:=he
     exact fun β w _ h id b hb hg=>h id b hb (by simp) hg
   obtain ⟨W,hW,hkW⟩:=hst.kp
   have hmv:Mv (pOf r.rb) β β':=Mv.of hR.bo hst.ext
   obtain ⟨s1,s2⟩:=slot_put (v:=v) (β:=β') (dst:=o.dst) (hR.size.trans jkTm_len.symm) (fun t y hy=>by
    rw [jkTm_get,Option.map_eq_some_iff] at hy
    obtain ⟨u,hu,rfl⟩:=hy
    exact SV.jk_mt hmv (hR.slot t u hu)) ht ⟨fun _=>hsv,fun h=>(by simp only at h; rw [hΓe] at h; cases h)⟩
   refine hn β' _ w' hst.ext.ext ⟨s1,s2,(hR.df.keep hkW (fun r hr=>by obtain ⟨_,_,_,_,h⟩:=hW r hr; exact h)).put _ _,hlay β' w' hbl fun id b hb hni hbg=>?_,fun id b hb hbg=>?_,hR.gro,hst.bo,hR.kp.trans hkW fun r hr=>?_,fun g vs hg=>hst.ext.at (hR.gl g vs hg) rfl,fun j r hr=>⟨(hR.ra j r hr).1,hst.ext.at (hR.ra j r hr).2 (hR.ra j r hr).1⟩,ExtP.uni hR.eb hst.ext⟩ (fun i hi=>?_)
   ·rw [jkHp_of,Option.map_eq_some_iff] at hb
    obtain ⟨b0,hb0,rfl⟩:=hb
    refine blkMt_keep hst.ext hR.bo hkW (.inr (pOf_true.2 fun e=>hni (hst.rbs id e).1)) (fun r q hr hq=>?_) (hR.hm id b0 hb0 hbg)
    obtain ⟨id',hid',hβ',hro,_⟩:=hW r hr
    exact hR.bo.apartW (i:=id') (j:=id) (fun e=>hni (e ▸ hid')) hβ' hq hro
   ·have hgm:=hR.gm id b hb hbg
    have hgr:=hR.gro _ b hb
    have hvn:vecOf b.cells = none:=by
     cases hv:vecOf b.cells with
     | none=>rfl
     | some y=>have:=((blkMt_row hv).1 hgm).1; rw [hgr] at this; cases this
    have hm2:=blkMt_keep hst.ext hR.bo hkW (id:=id) (.inl hvn) (fun r q hr hq=>?_) hgm
    ·obtain ⟨q',hq',hrow,hl',hro',hcs,hfz⟩:=(blkMt_cs hvn).1 hgm
     refine (blkMt_cs hvn).2 ⟨q',hst.ext.at hq' hrow,hrow,hl',hro',?_,fun h0=>by rw [hgr] at h0; cases h0⟩
     obtain ⟨q2,hq2,_,_,_,hcs2,_⟩:=(blkMt_cs (b:=b.jk (pOf r.rb)) (by unfold Blk.jk; simp only; rw [vecOf_jk]; exact hvn)).1 hm2
     rw [hst.ext.at hq' hrow] at hq2
     cases hq2
     rw [cellsAt_iff] at hcs2 ⊢
     intro j cc hj
     obtain ⟨v1,hv1,_⟩:=hcs2 j (cc.jk (pOf r.rb)) (by unfold Blk.jk jkL; simp [hj])
     rw [cellsAt_iff] at hcs
     obtain ⟨v2,hv2,hm3⟩:=hcs j cc hj
     have hids:=ghOf_ids hb j cc hj
     refine ⟨v1,hv1,?_⟩
     have:v1 = v2:=by
      by_cases hlen:q'.len = 0
      ·have:=(List.getElem?_eq_some_iff.1 hj).1; omega
      ·have hpl:=(hR.bo.place id q' hq').resolve_left hlen
       have hk1:=hkW.cell ⟨q'.blk,q'.off + j,none⟩ hpl (fun r hr hi=>by
        obtain ⟨id',hid',hβ',hro,_⟩:=hW r hr
        have hne:id' ≠ id:=fun e=>by subst e; rw [hβ'] at hq'; cases hq'; rw [hro] at hro'; rw [hgr] at hro'; cases hro'
        have hap:=hR.bo.apartW hne hβ' hq' hro
        have hjl:=(List.getElem?_eq_some_iff.1 hj).1
        unfold inRg at hi
        unfold Rg.apart at hap
        simp only at hi
        omega)
       rw [hv1,hv2] at hk1
       exact Option.some.inj hk1
     subst this
     exact C.mt_ids (p:=pOf r.rb) hmv.h hmv.sq (by rw [hids]; rfl) hm3
    ·obtain ⟨id',hid',hβ',hro,_⟩:=hW r hr
     refine hR.bo.apartW (fun e=>?_) hβ' hq hro
     subst e
     obtain ⟨q',hq',_,_,hro',_⟩:=(blkMt_cs hvn).1 hgm
     rw [hβ'] at hq'
     cases hq'
     rw [hro,hgr] at hro'
     cases hro'
   ·obtain ⟨id',hid',hβ',hro,_⟩:=hW r hr
    rcases hR.bo.may id' r hβ' with h | h
    ·rw [hro] at h; cases h
    ·exact h
   ·by_cases hir:i ∈ r.rb
    ·obtain ⟨_,_,q,hq,_⟩:=hst.rbs i hir
     rw [hf i (by omega)] at hq
     cases hq
    ·rw [hst.dom i (.inr (by omega)) hir]
     exact hf i (by omega)

theorem regL_sound (hX:HOk P Φ x.gl X) (hG:∀ w,Keep x.R x.w0 w -> Laid x.gl w) {ops:Array Oper} {Q:Exit -> Act -> World -> Prop}:∀ (l:List Oper) {σ σ':St} {c c':Ctr} {out:List Em},regL P X x.gh x.ng ops l σ c = some (σ',c',out) -> Good Φ ρ out ->
  ∀ {β:Beta} {a:Act} {w:World},Rel x ρ β σ a w -> Fresh β c -> (∀ β' a' w',Ext β β' -> Rel x ρ β' σ' a' w' -> Fresh β' c' -> Q .normal a' w') -> wpList P ops Q l a w
 | [],σ,σ',c,c',out,h,hg,β,a,w,hR,hf,hn=>by
  have he:=M.pure_inv h
  simp only [Prod.mk.injEq] at he
  obtain ⟨rfl,rfl,rfl⟩:=he
  exact hn β a w (Ext.refl β) hR hf
 | o :: l,σ,σ',c,c',out,h,hg,β,a,w,hR,hf,hn=>by
  obtain ⟨σ1,c1,o1,c2,o2,y,h1,h2,he⟩:=M.bind_inv h
  simp only [Prod.mk.injEq] at he
  obtain ⟨rfl,rfl,rfl⟩:=he
  rw [Good.append] at hg
  refine wpList_step fun K hK=>?_
  refine opS_sound hX hG h1 hg.1 hR hf K Q fun β' a' w' he' hR' hf'=>hK _ _ ?_
  exact regL_sound hX hG l h2 hg.2 hR' hf' fun β'' a'' w'' he'' hR'' hf''=>hn β'' a'' w'' (he'.trans he'') hR'' hf''
end

def muxSV (sel:B) (u v:SV):M SV :=
 if u.g.isEmpty && v.g.isEmpty then do pure { g:=[],s:=<- muxS sel u.s v.s } else pure anySV
def muxTm (sel:B):List Bool -> List SV -> List SV -> M (List SV)
 | _,[],[]=>pure []
 | k,u :: us,v :: vs=>do
  let z <- (if k.headD false then muxSV sel u v else pure anySV)
  let zs <- muxTm sel k.tail us vs
  pure (z :: zs)
 | _,_,_=>M.fail
def dedup:List Nat -> List Nat
 | []=>[]
 | i :: l=>if l.contains i then dedup l else i :: dedup l
def muxHp (sel:B) (h1 h2:Hl):List Nat -> M Hl
 | []=>pure []
 | i :: l=>do
  let r <- muxHp sel h1 h2 l
  match hpOf h1 i,hpOf h2 i with
  | some b1,some b2 =>
   if b1.g.isEmpty && b2.g.isEmpty && b1.ro == b2.ro && b1.cells.length == b2.cells.length && (vecOf b1.cells).isSome == (vecOf b2.cells).isSome then do
    let z <- muxBl sel b1.cells b2.cells
    pure ((i,{ g:=[],ro:=b1.ro,cells:=z }) :: r)
   else pure r
  | _,_=>pure r
def muxJs (sel:B) (u v:Js):M Js :=
 if u.b.eq v.b && u.a.eq v.a then pure u else do
  let b <- mkIteB sel u.b v.b
  let a <- mkIteI sel u.a v.a
  pure { b:=b,a:=a }
theorem muxJs_snd {Φ:Funs} {ρ:Env} (sel:B) (u v:Js):Snd Φ ρ (muxJs sel u v) (fun z=>z.b.d ρ = (if sel.d ρ then u.b.d ρ else v.b.d ρ) /\ z.a.d ρ = if sel.d ρ then u.a.d ρ else v.a.d ρ):=by
 unfold muxJs
 split
 ·rename_i h
  simp only [Bool.and_eq_true] at h
  exact Snd.pure ⟨by rw [B.eq_sound h.1]; simp,by rw [A.eq_sound h.2]; simp⟩
 ·exact Snd.bind (mkIteB_snd sel u.b v.b) fun b hb=>Snd.bind (mkIteI_snd sel u.a v.a) fun a ha=>Snd.pure ⟨hb,ha⟩
def muxSt (keep:List Bool) (sel:B) (u v:St):M St:=do
 let tm <- muxTm sel keep u.tm v.tm
 let hp <- muxHp sel u.hp v.hp (dedup (u.hp.map (·.1)))
 let js <- muxJs sel u.js v.js
 pure { tm:=tm,hp:=hp,rb:=uniN u.rb v.rb,js:=js }

section
variable {Φ:Funs} {x:Cx} {ρ:Env}
theorem muxSV_snd (sel:B) (u v:SV):Snd Φ ρ (muxSV sel u v) (fun z=>∀ β y,(if sel.d ρ then u.mt β ρ y else v.mt β ρ y) -> z.mt β ρ y):=by
 unfold muxSV
 split
 ·rename_i hc
  simp only [Bool.and_eq_true,List.isEmpty_iff] at hc
  refine Snd.bind (muxS_snd sel u.s v.s) fun s hs=>Snd.pure fun β y h=>⟨fun _=>hs β y ?_,fun h=>(by cases h)⟩
  split at h
  ·rename_i hb; rw [if_pos hb]; exact h.1 (by rw [hc.1]; rfl)
  ·rename_i hb; rw [if_neg hb]; exact h.1 (by rw [hc.2]; rfl)
 ·exact Snd.pure fun β y _=>anySV_mt y
theorem muxTm_snd (sel:B):∀ (k:List Bool) (us vs:List SV),Snd Φ ρ (muxTm sel k us vs) (fun zs=>zs.length = us.length /\ us.length = vs.length /\ ∀ (t:Nat) (z:SV),zs[t]? = some z -> ∃ u v,us[t]? = some u /\ vs[t]? = some v /\
  ∀ β y,(if sel.d ρ then u.mt β ρ y else v.mt β ρ y) -> z.mt β ρ y)
 | k,[],[]=>by
  unfold muxTm
  exact Snd.pure ⟨rfl,rfl,fun t z h=>by simp at h⟩
 | k,u :: us,v :: vs=>by
  unfold muxTm
  refine Snd.bind (p:=fun z=>∀ β y,(if sel.d ρ then u.mt β ρ y else v.mt β ρ y) -> z.mt β ρ y) ?_ fun z hz=>Snd.bind (muxTm_snd sel k.tail us vs) fun zs hzs=>Snd.pure ?_
  ·split
   ·exact muxSV_snd sel u v
   ·exact Snd.pure fun β y _=>anySV_mt y
  ·obtain ⟨h1,h2,h3⟩:=hzs
   refine ⟨by simp [h1],by simp [h2],fun t q hq=>?_⟩
   cases t with
   | zero=>simp at hq; subst hq; exact ⟨u,v,by simp,by simp,hz⟩
   | succ t=>simp at hq; simpa using h3 t q hq
 | k,[],_ :: _=>by unfold muxTm; exact Snd.fail
 | k,_ :: _,[]=>by unfold muxTm; exact Snd.fail
theorem muxHp_snd (sel:B) (h1 h2:Hl):∀ (l:List Nat),Snd Φ ρ (muxHp sel h1 h2 l) (fun r=>∀ β w,(if sel.d ρ then heapMt β ρ (hpOf h1) w else heapMt β ρ (hpOf h2) w) -> heapMt β ρ (hpOf r) w)
 | []=>Snd.pure fun β w _ id b hb=>by simp [hpOf] at hb
 | i :: l=>by
  unfold muxHp
  refine Snd.bind (muxHp_snd sel h1 h2 l) fun r hr=>?_
  split
  ·rename_i b1 b2 hb1 hb2
   split
   ·rename_i hc
    simp only [Bool.and_eq_true,List.isEmpty_iff,beq_iff_eq] at hc
    obtain ⟨⟨⟨⟨hg1,hg2⟩,hro⟩,hlen⟩,_⟩:=hc
    refine Snd.bind (muxBl_snd sel b1.cells b2.cells) fun z hz=>Snd.pure fun β w h id b hb hg=>?_
    unfold hpOf at hb
    split at hb
    ·rename_i he
     simp only [beq_iff_eq] at he
     subst he
     simp only [Option.some.injEq] at hb
     subst hb
     refine hz.2.2 β w _ [] [] b1.ro ?_
     by_cases hs:sel.d ρ = true
     ·rw [if_pos hs] at h ⊢
      exact blkMt_g rfl rfl (h _ b1 hb1 (by rw [hg1]; rfl))
     ·rw [if_neg hs] at h ⊢
      exact blkMt_g hro.symm rfl (h _ b2 hb2 (by rw [hg2]; rfl))
    ·exact hr β w h id b hb hg
   ·exact Snd.pure hr
  ·exact Snd.pure hr
theorem muxSt_snd (keep:List Bool) (sel:B) (u v:St):Snd Φ ρ (muxSt keep sel u v) (fun z=>∀ β a w,(if sel.d ρ then Rel x ρ β u a w else Rel x ρ β v a w) -> Rel x ρ β z a w):=by
 unfold muxSt
 refine Snd.bind (muxTm_snd sel keep u.tm v.tm) fun tm htm=>Snd.bind (muxHp_snd sel u.hp v.hp _) fun hp hhp=>Snd.bind (muxJs_snd sel u.js v.js) fun js hjs=>Snd.pure fun β a w h=>?_
 obtain ⟨h1,h2,h3⟩:=htm
 have hm:=hhp β w (by
  split at h
  ·rename_i hs; rw [if_pos hs]; exact h.hm
  ·rename_i hs; rw [if_neg hs]; exact h.hm)
 have hsl:∀ (t:Nat) (z:SV),tm[t]? = some z -> z.mt β ρ (a.tmps.getD t undef):=fun t z hz=>by
  obtain ⟨p,q,hp,hq,hpq⟩:=h3 t z hz
  refine hpq β _ ?_
  split at h
  ·rename_i hs; rw [if_pos hs]; exact h.slot t p hp
  ·rename_i hs; rw [if_neg hs]; exact h.slot t q hq
 split at h
 ·rename_i hs
  exact ⟨by rw [h.size,h1],hsl,h.df.js (by rw [hjs.1,if_pos hs]) (by rw [hjs.2,if_pos hs]),hm,h.gm,h.gro,h.bo,h.kp,h.gl,h.ra,ExtP.pmono h.eb fun i hi=>by
   have h1:=pOf_true.1 hi
   rw [mem_uniN] at h1
   exact pOf_true.2 fun e=>h1 (.inl e)⟩
 ·rename_i hs
  exact ⟨by rw [h.size,h1,h2],hsl,h.df.js (by rw [hjs.1,if_neg hs]) (by rw [hjs.2,if_neg hs]),hm,h.gm,h.gro,h.bo,h.kp,h.gl,h.ra,ExtP.pmono h.eb fun i hi=>by
   have h1:=pOf_true.1 hi
   rw [mem_uniN] at h1
   exact pOf_true.2 fun e=>h1 (.inr e)⟩
end

end Go.Proofs.YtfgbfdlacnihkaaGreatDoor.Sx
namespace Go.Proofs.YtfgbfdlacnihkaaGreatDoor.Sx
open Go

abbrev MEs:=List (ByteArray × S)
def mapMt (N:Nat) (β:Beta) (ρ:Env) (w:World) (M:Nat) (es:MEs):Prop :=
 ∃ r ents clock,(β M = some r /\ r.off = 0 /\ r.len = 1 /\ r.ro = false) /\ N <= r.blk /\ w.heap[r.blk]? = some (.map ents clock) /\ (∀ p,p ∈ es -> ∃ e,e ∈ ents.toList /\ e.key = .string p.1) /\
  ∀ e,e ∈ ents.toList -> ∃ p,p ∈ es /\ e.key = .string p.1 /\ p.2.mt β ρ e.val
theorem mapMt_congr {N:Nat} {β:Beta} {ρ:Env} {w:World} {M:Nat} {es es':MEs} (h:∀ p,p ∈ es ↔ p ∈ es') (hm:mapMt N β ρ w M es):mapMt N β ρ w M es':=by
 obtain ⟨r,ents,clock,h1,h2,h3,h4,h5⟩:=hm
 refine ⟨r,ents,clock,h1,h2,h3,fun p hp=>h4 p ((h p).2 hp),fun e he=>?_⟩
 obtain ⟨p,hp,hq⟩:=h5 e he
 exact ⟨p,(h p).1 hp,hq⟩
theorem mapMt_ext {N:Nat} {β β':Beta} {ρ:Env} {w w':World} {M:Nat} {es:MEs} (hE:Mv (fun _=>true) β β') (hk:∀ (k:Nat) (m:Array MapEntry) (c:Nat),w.heap[k]? = some (Obj.map m c) -> w'.heap[k]? = some (Obj.map m c)) (hm:mapMt N β ρ w M es):mapMt N β' ρ w' M es:=by
 obtain ⟨r,ents,clock,h1,h2,h3,h4,h5⟩:=hm
 refine ⟨r,ents,clock,⟨hE.ext _ _ h1.1 (.inr rfl),h1.2⟩,h2,hk _ _ _ h3,h4,fun e he=>?_⟩
 obtain ⟨p,hp,hq,hs⟩:=h5 e he
 exact ⟨p,hp,hq,S.mt_mv hE hs⟩
theorem live_map {W:List Rg} {w w':World} (hW:∀ r,r ∈ W -> ∃ j v,w.cell? ⟨r.blk,j,none⟩ = some v) (hk:Keep W w w') (k:Nat) (m:Array MapEntry) (c:Nat) (h:w.heap[k]? = some (Obj.map m c)):w'.heap[k]? = some (Obj.map m c):=by
 rw [hk.blk k ?_ ?_]
 ·exact h
 ·exact (Array.getElem?_eq_some_iff.1 h).1
 ·intro r hr _ e
  obtain ⟨j,v,hv⟩:=hW r hr
  unfold World.cell? at hv
  simp only [e,h] at hv
  cases hv
theorem run_mkMap {P:Program} (t:TypeId) (w:World):(Instr.makeMap t none).run P w = .ok (.map (some w.heap.size)) (w.alloc (.map #[] 0)):=rfl
theorem heap_alloc_new (w:World) (o:Obj):(w.alloc o).heap[w.heap.size]? = some o:=by
 show (w.heap.push o)[w.heap.size]? = some o
 simp
theorem run_setObj_mp {P:Program} {w:World} {r:Nat} {es:Array MapEntry} {clock:Nat} (o:Obj) (hb:w.heap[r]? = some (.map es clock)):(setObj r o).run P w = .ok () { w with heap:=w.heap.setIfInBounds r o }:=by
 simp [setObj,Sem.run,hb]
theorem ba_beq (a b:ByteArray):(a == b) = true ↔ a = b:=by
 rw [beq_toListBytes,<- encS_beq,beq_iff_eq]
 exact ⟨encS_inj,fun h=>by rw [h]⟩
theorem findNow_no {s:ByteArray}:∀ {l:List MapEntry} {i:Nat},(∀ e,e ∈ l -> ∃ k,e.key = .string k /\ k ≠ s) -> Instr.findNow .string (.string s) l i = some none
 | [],_,_=>rfl
 | e :: l,i,h=>by
  obtain ⟨k,hk,hne⟩:=h e (by simp)
  unfold Instr.findNow
  have:(s == k) = false:=by
   cases hb:(s == k) with
   | false=>rfl
   | true=>exact absurd ((ba_beq s k).1 hb).symm hne
  simp only [hk,Instr.sameNow,this]
  exact findNow_no fun e he=>h e (by simp [he])
theorem findNow_yes {s:ByteArray}:∀ {l:List MapEntry} {i:Nat},(∀ e,e ∈ l -> ∃ k,e.key = .string k) -> (∃ e,e ∈ l /\ e.key = .string s) -> ∃ j e,e ∈ l /\ e.key = .string s /\ Instr.findNow .string (.string s) l i = some (some (j,e.val))
 | [],_,_,⟨e,he,_⟩=>by cases he
 | e :: l,i,h,hx=>by
  obtain ⟨k,hk⟩:=h e (by simp)
  unfold Instr.findNow
  cases hb:(s == k) with
  | true =>
   have:=(ba_beq s k).1 hb
   subst this
   refine ⟨i,e,by simp,hk,?_⟩
   simp only [hk,Instr.sameNow,hb]
  | false =>
   have hne:s ≠ k:=fun he=>by rw [(ba_beq s k).2 he] at hb; cases hb
   obtain ⟨e',he',hk'⟩:=hx
   have he':e' ∈ l:=by
    rcases List.mem_cons.1 he' with rfl | he'
    ·rw [hk] at hk'
     simp only [Value.string.injEq] at hk'
     exact absurd hk'.symm hne
    ·exact he'
   obtain ⟨j,e2,g1,g2,g3⟩:=findNow_yes (i:=i + 1) (fun e he=>h e (by simp [he])) ⟨e',he',hk'⟩
   refine ⟨j,e2,by simp [g1],g2,?_⟩
   simp only [hk,Instr.sameNow,hb]
   exact g3
def strMap (P:Program) (t:TypeId):Option TypeId :=
 match P.underlying t with
 | some (.map k e)=>match P.underlying k with
  | some .string=>some e
  | _=>none
 | _=>none
theorem strMap_spec {P:Program} {t e:TypeId} (h:strMap P t = some e):∃ k,P.underlying t = some (.map k e) /\ P.underlying k = some .string:=by
 unfold strMap at h
 split at h
 ·rename_i k e' hu
  split at h
  ·rename_i hk
   simp only [Option.some.injEq] at h
   subst h
   exact ⟨k,hu,hk⟩
  ·cases h
 ·cases h
def zeroS (P:Program) (t:TypeId):Option S:=((P.info? t).bind (·.zero)).map ofV
theorem zeroS_spec {P:Program} {t:TypeId} {s:S} (h:zeroS P t = some s) (w:World):∃ v,(zeroValue t).run P w = .ok v w /\ ∀ β ρ,s.mt β ρ v:=by
 unfold zeroS at h
 cases hi:P.info? t with
 | none=>rw [hi] at h; simp at h
 | some i =>
  rw [hi] at h
  simp only [Option.bind_some] at h
  cases hv:i.zero with
  | none=>rw [hv] at h; simp at h
  | some v =>
   rw [hv] at h
   simp only [Option.map_some,Option.some.injEq] at h
   subst h
   refine ⟨v,?_,fun β ρ=>ofV_mt v⟩
   simp [zeroValue,typeInfo,hi,hv]
def lookM (q:A) (z:S):MEs -> M S
 | []=>pure z
 | (k,s) :: l=>do
  let b <- mkCm .eql q (.c (encS k))
  let r <- lookM q z l
  match b with
  | .c true=>pure s
  | .c false=>pure r
  | b=>muxS b s r
theorem lookM_snd {Φ:Funs} {ρ:Env} (q:A) (z:S):∀ es:MEs,Snd Φ ρ (lookM q z es) (fun r=>∀ β v,(∀ k,q.d ρ = encS k -> (∃ p,p ∈ es /\ p.1 = k /\ p.2.mt β ρ v) \/ ((∀ p,p ∈ es -> p.1 ≠ k) /\ z.mt β ρ v)) -> (∃ k,q.d ρ = encS k) -> (es.map (·.1)).Nodup -> r.mt β ρ v)
 | []=>Snd.pure fun β v h ⟨k,hk⟩ _=>by
  rcases h k hk with ⟨p,hp,_⟩ | ⟨_,h⟩
  ·cases hp
  ·exact h
 | (k0,s) :: l=>by
  unfold lookM
  refine Snd.bind (mkCm_snd _ q _) fun b hb=>Snd.bind (lookM_snd q z l) fun r hr=>?_
  have key:∀ β v,(∀ k,q.d ρ = encS k -> (∃ p,p ∈ (k0,s) :: l /\ p.1 = k /\ p.2.mt β ρ v) \/ ((∀ p,p ∈ (k0,s) :: l -> p.1 ≠ k) /\ z.mt β ρ v)) -> (∃ k,q.d ρ = encS k) -> (((k0,s) :: l).map (·.1)).Nodup -> if b.d ρ then s.mt β ρ v else r.mt β ρ v:=by
   intro β v h ⟨k,hk⟩ hnd
   have hbe:b.d ρ = (encS k == encS k0):=by rw [hb,<- hk]; rfl
   simp only [List.map_cons,List.nodup_cons] at hnd
   by_cases e:k = k0
   ·subst e
    have:b.d ρ = true:=by rw [hbe]; simp
    rw [if_pos this]
    rcases h k hk with ⟨p,hp,h1,h2⟩ | ⟨h1,_⟩
    ·rcases List.mem_cons.1 hp with rfl | hp
     ·exact h2
     ·exact absurd (List.mem_map.2 ⟨p,hp,h1⟩) hnd.1
    ·exact absurd rfl (h1 (k,s) (by simp))
   ·have:b.d ρ = false:=by
     rw [hbe]
     simp only [beq_eq_false_iff_ne,ne_eq]
     exact fun he=>e (encS_inj he)
    rw [if_neg (by simp [this])]
    refine hr β v (fun k' hk'=>?_) ⟨k,hk⟩ hnd.2
    have hkk:k' = k:=encS_inj (by rw [<- hk',hk])
    subst hkk
    rcases h k' hk with ⟨p,hp,h1,h2⟩ | ⟨h1,h2⟩
    ·rcases List.mem_cons.1 hp with rfl | hp
     ·exact absurd h1.symm e
     ·exact .inl ⟨p,hp,h1,h2⟩
    ·exact .inr ⟨fun p hp=>h1 p (by simp [hp]),h2⟩
  split
  ·rename_i hbt
   exact Snd.pure fun β v h1 h2 h3=>by have:=key β v h1 h2 h3; simpa using this
  ·rename_i hbt
   exact Snd.pure fun β v h1 h2 h3=>by have:=key β v h1 h2 h3; simpa using this
  ·exact (muxS_snd b s r).mono fun y hy β v h1 h2 h3=>hy β v (key β v h1 h2 h3)
section
variable {P:Program} {N:Nat} {β:Beta} {ρ:Env} {w:World} {M:Nat} {es:MEs}
theorem run_look {t e:TypeId} (ht:strMap P t = some e) (hm:mapMt N β ρ w M es) {r:Rg} (hr:β M = some r) (s:ByteArray) {zv:Value} (hz:(zeroValue e).run P w = .ok zv w) :
  ∃ v,(Instr.lookup t (.map (some r.blk)) (.string s) false).run P w = .ok v w /\ ((∃ p,p ∈ es /\ p.1 = s /\ p.2.mt β ρ v) \/ ((∀ p,p ∈ es -> p.1 ≠ s) /\ v = zv)):=by
 obtain ⟨k,h1,h2⟩:=strMap_spec ht
 obtain ⟨r',ents,clock,g1,g2,g3,g4,g5⟩:=hm
 have g1:=g1.1
 rw [hr] at g1
 cases g1
 have hck:∀ b n,(Instr.checkKey b (n + 1) k (.string s)).run P w = .ok () w:=fun b n=>by
  unfold Instr.checkKey
  simp [underlying,h2]
 have hkeys:∀ e,e ∈ ents.toList -> ∃ k,e.key = .string k:=fun e he=>by obtain ⟨p,_,hp,_⟩:=g5 e he; exact ⟨_,hp⟩
 by_cases hx:∃ e,e ∈ ents.toList /\ e.key = .string s
 ·obtain ⟨j,e',k1,k2,k3⟩:=findNow_yes (i:=0) hkeys hx
  obtain ⟨p,q1,q2,q3⟩:=g5 e' k1
  rw [k2] at q2
  simp only [Value.string.injEq] at q2
  refine ⟨e'.val,?_,.inl ⟨p,q1,q2.symm,q3⟩⟩
  unfold Instr.lookup Instr.findKey
  simp only [Sem.run_bind,underlying,run_program,Result.andThen_ok,h1,Sem.run_pure,run_getObj_map w _ _ _ g3,hck _ 9999,h2,k3]
  simp [h1,h2,run_getObj_map w _ _ _ g3,hck _ 9999,k3]
 ·have hno:=findNow_no (s:=s) (l:=ents.toList) (i:=0) fun e he=>by
   obtain ⟨k,hk⟩:=hkeys e he
   exact ⟨k,hk,fun e2=>hx ⟨e,he,by rw [hk,e2]⟩⟩
  refine ⟨zv,?_,.inr ⟨fun p hp e=>?_,rfl⟩⟩
  ·unfold Instr.lookup Instr.findKey
   simp [underlying,h1,h2,run_getObj_map w _ _ _ g3,hck _ 9999,hno,hz]
  ·obtain ⟨e',he',hk'⟩:=g4 p hp
   exact hx ⟨e',he',by rw [hk',e]⟩
theorem run_ins {t e:TypeId} (ht:strMap P t = some e) (hm:mapMt N β ρ w M es) {r:Rg} (hr:β M = some r) {s:ByteArray} (hnew:∀ p,p ∈ es -> p.1 ≠ s) (v:Value) :
  ∃ ents clock,w.heap[r.blk]? = some (.map ents clock) /\ (Instr.mapUpdate t (.map (some r.blk)) (.string s) v).run P w = .ok () { w with heap:=w.heap.setIfInBounds r.blk (.map (ents.push { key:=.string s,val:=v,born:=clock }) (clock + 1)) }:=by
 obtain ⟨k,h1,h2⟩:=strMap_spec ht
 obtain ⟨r',ents,clock,g1,g2,g3,g4,g5⟩:=hm
 have g1:=g1.1
 rw [hr] at g1
 cases g1
 have hck:∀ b n,(Instr.checkKey b (n + 1) k (.string s)).run P w = .ok () w:=fun b n=>by
  unfold Instr.checkKey
  simp [underlying,h2]
 have hno:=findNow_no (s:=s) (l:=ents.toList) (i:=0) fun e he=>by
  obtain ⟨p,q1,q2,_⟩:=g5 e he
  exact ⟨p.1,q2,hnew p q1⟩
 refine ⟨ents,clock,g3,?_⟩
 unfold Instr.mapUpdate Instr.findKey
 simp [underlying,h1,h2,run_getObj_map w _ _ _ g3,hck _ 9999,hno,run_setObj_mp _ g3]
theorem mapMt_push (hm:mapMt N β ρ w M es) {r:Rg} (hr:β M = some r) {ents:Array MapEntry} {clock:Nat} (hb:w.heap[r.blk]? = some (.map ents clock)) (s:ByteArray) {x:S} {v:Value} (hv:x.mt β ρ v) :
  mapMt N β ρ { w with heap:=w.heap.setIfInBounds r.blk (.map (ents.push { key:=.string s,val:=v,born:=clock }) (clock + 1)) } M (es ++ [(s,x)]):=by
 obtain ⟨r',ents',clock',g1,g2,g3,g4,g5⟩:=hm
 have g1':=g1.1
 rw [hr] at g1'
 cases g1'
 rw [hb] at g3
 simp only [Option.some.injEq,Obj.map.injEq] at g3
 obtain ⟨rfl,rfl⟩:=g3
 have hlt:=(Array.getElem?_eq_some_iff.1 hb).1
 refine ⟨r,ents.push { key:=.string s,val:=v,born:=clock },clock + 1,g1,g2,by simp [hlt],fun p hp=>?_,fun e he=>?_⟩
 ·rw [List.mem_append,List.mem_singleton] at hp
  rcases hp with hp | rfl
  ·obtain ⟨e,he,hk⟩:=g4 p hp
   exact ⟨e,by rw [Array.toList_push,List.mem_append]; exact .inl he,hk⟩
  ·exact ⟨{ key:=.string s,val:=v,born:=clock },by simp,rfl⟩
 ·rw [Array.toList_push,List.mem_append,List.mem_singleton] at he
  rcases he with he | rfl
  ·obtain ⟨p,hp,hk,hm⟩:=g5 e he
   exact ⟨p,by simp [hp],hk,hm⟩
  ·exact ⟨(s,x),by simp,rfl,hv⟩
theorem mapMt_else {M':Nat} {es':MEs} {R:List Rg} {Q:Rg -> Prop} (hne:M' ≠ M) (hb:BetaOk N R Q β w) (hm:mapMt N β ρ w M es) {r:Rg} (hr:β M = some r) (o:Obj) (hm':mapMt N β ρ w M' es'):mapMt N β ρ { w with heap:=w.heap.setIfInBounds r.blk o } M' es':=by
 obtain ⟨r0,_,_,g1,_⟩:=hm
 have g1':=g1.1
 rw [hr] at g1'
 cases g1'
 obtain ⟨r',ents',clock',h1,h2,h3,h4,h5⟩:=hm'
 have hap:=hb.apartW hne h1.1 hr h1.2.2.2
 refine ⟨r',ents',clock',h1,h2,?_,h4,h5⟩
 show (w.heap.setIfInBounds r.blk o)[r'.blk]? = _
 rw [Array.getElem?_setIfInBounds_ne]
 ·exact h3
 ·intro e
  unfold Rg.apart at hap
  have e1:=h1.2
  have e2:=g1.2
  omega
end
end Go.Proofs.YtfgbfdlacnihkaaGreatDoor.Sx
namespace Go.Proofs.YtfgbfdlacnihkaaGreatDoor.Sx
open Go

structure DAct where
 dst:Option Tmp
 sv:SV
 bl:Hl
 rs:List Nat
 rb:List Nat
 lo:Nat
 hi:Nat
 mkm:Option Nat:=none
 ins:Option (Nat × ByteArray × S):=none
 lk:List (Nat × MEs):=[]
 sm:List Nat:=[]
def insOf (d:DAct) (M:Nat):MEs:=match d.ins with
 | some (M',k,s)=>if M' == M then [(k,s)] else []
 | none=>[]
def insL (L:Nat -> Bool) (M:Nat):List DAct -> Nat -> MEs
 | [],_=>[]
 | d :: l,k=>(if L k then insOf d M else []) ++ insL L M l (k + 1)
theorem insL_mem {L:Nat -> Bool} {M:Nat} {p:ByteArray × S}:∀ {l:List DAct} {k:Nat},p ∈ insL L M l k ↔ ∃ i d,l[i]? = some d /\ L (k + i) = true /\ p ∈ insOf d M
 | [],k=>by simp [insL]
 | d :: l,k=>by
  unfold insL
  rw [List.mem_append,insL_mem]
  constructor
  ·rintro (h | ⟨i,e,h1,h2,h3⟩)
   ·split at h
    ·rename_i hk
     exact ⟨0,d,by simp,by simpa using hk,h⟩
    ·cases h
   ·exact ⟨i + 1,e,by simpa using h1,by rw [show k + (i + 1) = k + 1 + i by omega]; exact h2,h3⟩
  ·rintro ⟨i,e,h1,h2,h3⟩
   cases i with
   | zero =>
    simp at h1
    subst h1
    simp only [Nat.add_zero] at h2
    exact .inl (by rw [if_pos h2]; exact h3)
   | succ i=>exact .inr ⟨i,e,by simpa using h1,by rw [show k + 1 + i = k + (i + 1) by omega]; exact h2,h3⟩

def tS (L:Nat -> Bool) (t:Nat):List DAct -> Nat -> Option SV -> Option SV
 | [],_,b=>b
 | d :: l,k,b=>tS L t l (k + 1) (if L k && d.dst == some t then some d.sv else b)
def hS (L:Nat -> Bool) (id:Nat):List DAct -> Nat -> Option Blk -> Option Blk
 | [],_,b=>b
 | d :: l,k,b=>hS L id l (k + 1) (match hpOf d.bl id with | some x=>if L k then some x else b | none=>b)
theorem tS_congr {L L':Nat -> Bool} {t:Nat}:∀ {l:List DAct} {k:Nat} {b:Option SV},(∀ i d,l[i]? = some d -> d.dst = some t -> L (k + i) = L' (k + i)) -> tS L t l k b = tS L' t l k b
 | [],_,_,_=>rfl
 | d :: l,k,b,h=>by
  unfold tS
  have e:(if L k && d.dst == some t then some d.sv else b) = (if L' k && d.dst == some t then some d.sv else b):=by
   by_cases hd:d.dst = some t
   ·have:=h 0 d (by simp) hd
    simp only [Nat.add_zero] at this
    rw [this]
   ·have:(d.dst == some t) = false:=by simpa using hd
    simp [this]
  rw [e]
  exact tS_congr fun i d hi hd=>by have:=h (i + 1) d (by simpa using hi) hd; rwa [show k + (i + 1) = k + 1 + i by omega] at this
theorem hS_congr {L L':Nat -> Bool} {id:Nat}:∀ {l:List DAct} {k:Nat} {b:Option Blk},(∀ i d,l[i]? = some d -> (hpOf d.bl id).isSome = true -> L (k + i) = L' (k + i)) -> hS L id l k b = hS L' id l k b
 | [],_,_,_=>rfl
 | d :: l,k,b,h=>by
  unfold hS
  have e:(match hpOf d.bl id with | some x=>if L k then some x else b | none=>b) = (match hpOf d.bl id with | some x=>if L' k then some x else b | none=>b):=by
   cases hd:hpOf d.bl id with
   | none=>rfl
   | some x =>
    have:=h 0 d (by simp) (by rw [hd]; rfl)
    simp only [Nat.add_zero] at this
    simp only [this]
  rw [e]
  exact hS_congr fun i d hi hd=>by have:=h (i + 1) d (by simpa using hi) hd; rwa [show k + (i + 1) = k + 1 + i by omega] at this
theorem tS_none {L:Nat -> Bool} {t:Nat}:∀ {l:List DAct} {k:Nat} {b:Option SV},(∀ i d,l[i]? = some d -> d.dst = some t -> L (k + i) = false) -> tS L t l k b = b
 | [],_,_,_=>rfl
 | d :: l,k,b,h=>by
  unfold tS
  rw [tS_none fun i d hi hd=>by have:=h (i + 1) d (by simpa using hi) hd; rwa [show k + (i + 1) = k + 1 + i by omega] at this]
  by_cases hd:d.dst = some t
  ·have:=h 0 d (by simp) hd
   simp only [Nat.add_zero] at this
   simp [this]
  ·have:(d.dst == some t) = false:=by simpa using hd
   simp [this]
theorem hS_none {L:Nat -> Bool} {id:Nat}:∀ {l:List DAct} {k:Nat} {b:Option Blk},(∀ i d,l[i]? = some d -> (hpOf d.bl id).isSome = true -> L (k + i) = false) -> hS L id l k b = b
 | [],_,_,_=>rfl
 | d :: l,k,b,h=>by
  unfold hS
  rw [hS_none fun i d hi hd=>by have:=h (i + 1) d (by simpa using hi) hd; rwa [show k + (i + 1) = k + 1 + i by omega] at this]
  cases hd:hpOf d.bl id with
  | none=>rfl
  | some x =>
   have:=h 0 d (by simp) (by rw [hd]; rfl)
   simp only [Nat.add_zero] at this
   simp [this]
theorem tS_last {t:Nat} {j:Nat} {d:DAct} (hd:d.dst = some t):∀ {l:List DAct} {k:Nat} {b:Option SV},k <= j -> l[j - k]? = some d -> tS (fun i=>Nat.ble i j) t l k b = some d.sv
 | [],k,b,hk,h=>by simp at h
 | e :: l,k,b,hk,h=>by
  unfold tS
  by_cases hjk:k = j
  ·subst hjk
   simp at h
   subst h
   rw [tS_none fun i d' hi _=>by simp only [Bool.eq_false_iff,ne_eq,Nat.ble_eq]; omega]
   have h1:Nat.ble k k = true:=by simp
   have h2:(e.dst == some t) = true:=by simp [hd]
   simp [h1,h2]
  ·refine tS_last hd (by omega) ?_
   rw [show j - k = (j - (k + 1)) + 1 by omega] at h
   simpa using h
theorem hS_last {id:Nat} {j:Nat} {d:DAct} {x:Blk} (hd:hpOf d.bl id = some x):∀ {l:List DAct} {k:Nat} {b:Option Blk},k <= j -> l[j - k]? = some d -> hS (fun i=>Nat.ble i j) id l k b = some x
 | [],k,b,hk,h=>by simp at h
 | e :: l,k,b,hk,h=>by
  unfold hS
  by_cases hjk:k = j
  ·subst hjk
   simp at h
   subst h
   rw [hS_none fun i d' hi _=>by simp only [Bool.eq_false_iff,ne_eq,Nat.ble_eq]; omega]
   have h1:Nat.ble k k = true:=by simp
   simp [hd]
  ·refine hS_last hd (by omega) ?_
   rw [show j - k = (j - (k + 1)) + 1 by omega] at h
   simpa using h

structure Com (x:Cx) (ρ:Env) (js:Js) (n:Nat) (β:Beta) (a:Act) (w:World):Prop where
 size:a.tmps.size = n
 df:Lk x ρ js a.defers w
 gm:heapMt β ρ (hpOf x.gh) w
 gro:∀ id b,hpOf x.gh id = some b -> b.ro = true
 bo:BetaOk x.w0.heap.size x.R x.Q β w
 kp:Keep x.R x.w0 w
 gl:∀ (g:Nat) (vs:List Value),x.gl[g]? = some vs -> β g = some (gRg g vs)
 ra:∀ (j:Nat) (r:Rg),x.gr[j]? = some r -> r.row = false /\ β (x.gi j) = some r
theorem Rel.com {x:Cx} {ρ:Env} {β:Beta} {σ:St} {a:Act} {w:World} (h:Rel x ρ β σ a w):Com x ρ σ.js σ.tm.length β a w :=
 ⟨h.size,h.df,h.gm,h.gro,h.bo,h.kp,h.gl,h.ra⟩

abbrev XExt (β β':Beta):Prop:=ExtP (fun _=>true) β β'
theorem XExt.trans {β γ δ:Beta} (h:XExt β γ) (h':XExt γ δ):XExt β δ:=fun i r hi _=>h' i r (h i r hi (.inr rfl)) (.inr rfl)
theorem XExt.refl (β:Beta):XExt β β:=ExtP.refl _ β
theorem XExt.at {β β':Beta} (h:XExt β β') {i:Nat} {r:Rg} (hi:β i = some r):β' i = some r:=h i r hi (.inr rfl)
def cIds:List C -> List Nat
 | []=>[]
 | c :: r=>c.ids ++ cIds r
def sIds:S -> List Nat
 | .one _ l=>cIds l
 | _=>[]
def tmpsOf:List Operand -> List Nat
 | []=>[]
 | .tmp t :: l=>t :: tmpsOf l
 | _ :: l=>tmpsOf l
def hpR (gh:Hl) (ng:Nat) (hp:Hl) (ids:List Nat):Hp:=fun i=>if Nat.blt i ng then hpOf gh i else if ids.contains i then hpOf hp i else none
def gSlot (ops:Array Oper) (o:Oper):List Nat :=
 match o.guard with
 | none=>[]
 | some (j,_)=>match (ops[j]?).bind (·.dst) with | some t=>[t] | none=>[]

def blind:Op -> Bool
 | .move _=>true
 | .nilCheck _=>true
 | .fieldAddr _ _ _=>true
 | .binOp _ _ _ _ _=>true
 | .pick _ _ _=>true
 | .assign _=>true
 | .field _ _ _=>true
 | .indexAddr _ _ _=>true
 | .extract _ _=>true
 | .makeFunc _ _ _=>true
 | _=>false
def reachH (hp:Hp):Nat -> List Nat -> List Nat
 | 0,l=>l
 | n + 1,l=>reachH hp n (dedupN (l ++ (l.map fun i=>match hp i with | some b=>cIds b.cells | none=>[]).flatten))
def isCall:Op -> Bool
 | .call _=>true
 | _=>false
def slmIds (s:S):List Nat:=match s with
 | .one false [.slm i _]=>[i]
 | _=>[]
def rdIds (ng:Nat) (σ:St) (o:Oper):List Nat:=if blind o.op then (match o.op with
  | .indexAddr _ x _=>slmIds (ev ng σ x).s
  | _=>[]) else
 let l:=(o.op.operands.toList.map fun x=>sIds (ev ng σ x).s).flatten
 if isCall o.op then reachH (hpOf σ.hp) 3 l else l

def layD (Γ:Gd) (lo:Nat):List (Nat × Blk) -> Option Hl
 | []=>some []
 | (id,b) :: l=>match layD Γ lo l with
  | none=>none
  | some r=>if Γ.isEmpty then some ((id,b) :: r) else if Nat.ble lo id && b.g.isEmpty then some ((id,{ b with g:=Γ }) :: r) else none
def cSame:C -> C -> Bool
 | .int k a,.int l b=>k == l && a.eq b
 | .bool a,.bool b=>a.eq b
 | .ptr [] i o,.ptr [] j p=>i == j && o == p
 | .str a,.str b=>a.eq b
 | .val u,.val v=>vEq u v
 | .sli i o l c,.sli j p m d=>i == j && o == p && l == m && c == d
 | .slx ks q l,.slx ks' q' l'=>cksEq ks ks' && q.eq q' && l.eq l'
 | .vec ks q l,.vec ks' q' l'=>cksEq ks ks' && q.eq q' && l.eq l'
 | .slm i ks,.slm j ks'=>i == j && cksEq ks ks'
 | .emp,.emp=>true
 | .fn [] d,.fn [] e=>d == e
 | _,_=>false
theorem cSame_sound {x y:C} (h:cSame x y = true):x = y:=by
 unfold cSame at h
 split at h <;> (try simp only [Bool.and_eq_true,beq_iff_eq] at h)
 ·rw [h.1,A.eq_sound h.2]
 ·rw [B.eq_sound h]
 ·rw [h.1,h.2]
 ·rw [A.eq_sound h]
 ·rw [vEq_sound h]
 ·rw [h.1.1.1,h.1.1.2,h.1.2,h.2]
 ·rw [cksEq_sound h.1.1,A.eq_sound h.1.2,A.eq_sound h.2]
 ·rw [cksEq_sound h.1.1,A.eq_sound h.1.2,A.eq_sound h.2]
 ·rw [h.1,cksEq_sound h.2]
 ·rfl
 ·rw [h]
 ·cases h
def lSame:List C -> List C -> Bool
 | [],[]=>true
 | x :: l,y :: m=>cSame x y && lSame l m
 | _,_=>false
theorem lSame_sound:∀ {l m:List C},lSame l m = true -> l = m
 | [],[],_=>rfl
 | x :: l,y :: m,h=>by
  simp only [lSame,Bool.and_eq_true] at h
  rw [cSame_sound h.1,lSame_sound h.2]
 | [],_ :: _,h=>by simp [lSame] at h
 | _ :: _,[],h=>by simp [lSame] at h
def stays (ng:Nat) (hp:Hl) (ids:List Nat) (p:Nat × Blk):Bool:=!(Nat.blt p.1 ng) && ids.contains p.1 && match hpOf hp p.1 with
 | some b=>lSame b.cells p.2.cells && b.ro == p.2.ro
 | none=>false
def opD (P:Program) (X:Hnd) (gh:Hl) (ng:Nat) (ops:Array Oper) (o:Oper) (σ:St):M DAct:=do
 let g <- lift (gdOf ops σ o)
 let rs:=tmpsOf o.op.operands.toList ++ gSlot ops o
 let lo <- getId
 match normG g with
 | none=>pure { dst:=o.dst,sv:=undefSV,bl:=[],rs:=rs,rb:=[],lo:=lo,hi:=lo }
 | some Γ=>do
  let ids:=rdIds ng σ o
  let r <- M.mono (M.under Γ (opx P X Γ (hpR gh ng σ.hp ids) (ev ng σ) o.op))
  let hi <- getId
  let _ <- lift (if r.rb.isEmpty then some () else none)
  let bl <- lift (layD Γ lo (r.w.filter fun p=>!(stays ng σ.hp ids p)))
  pure { dst:=o.dst,sv:={ g:=Γ,s:=r.s },bl:=bl,rs:=rs,rb:=ids,lo:=lo,hi:=hi,sm:=(r.w.filter (stays ng σ.hp ids)).map (·.1) }
def applyD (d:DAct) (σ:St):Option St :=
 match setT σ.tm d.dst d.sv with
 | some tm=>some { tm:=tm,hp:=d.bl ++ σ.hp,rb:=σ.rb,js:=σ.js }
 | none=>none

section
variable {P:Program} {Φ:Funs} {X:Hnd} {x:Cx} {ρ:Env}

def ActOk (P:Program) (x:Cx) (ρ:Env) (ops:Array Oper) (o:Oper) (σ:St) (d:DAct):Prop :=
 d.dst = o.dst /\ d.lo <= d.hi /\ (∀ i,i ∈ d.sm -> i ∈ d.rb) /\ (∀ M,d.mkm = some M -> d.lo <= M /\ M < d.hi) /\ ∀ (β:Beta) (a:Act) (w:World),Com x ρ σ.js σ.tm.length β a w ->
  (∀ t,t ∈ d.rs -> ∀ v,σ.tm[t]? = some v -> v.mt β ρ (a.tmps.getD t undef)) ->
  (∀ id,id ∈ d.rb -> ∀ b,hpOf σ.hp id = some b -> Gd.d ρ b.g = true -> blkMt β ρ w id b) ->
  (∀ i,d.lo <= i -> i < d.hi -> β i = none) -> (∀ p,p ∈ d.lk -> mapMt x.w0.heap.size β ρ w p.1 p.2 /\ (p.2.map (·.1)).Nodup) ->
  (∀ M k s,d.ins = some (M,k,s) -> ∃ es,mapMt x.w0.heap.size β ρ w M es /\ ∀ p,p ∈ es -> p.1 ≠ k) -> ∀ (next:Act -> World -> Prop) (Q:Exit -> Act -> World -> Prop),
  (∀ v w' β',XExt β β' -> Com x ρ σ.js σ.tm.length β' (a.put o.dst v) w' -> (∀ i,(i < d.lo \/ d.hi <= i) -> β' i = β i) -> d.sv.mt β' ρ v -> (∀ id b,hpOf d.bl id = some b -> Gd.d ρ b.g = true -> blkMt β' ρ w' id b) ->
   (∀ id b,hpOf d.bl id = none -> (id ∈ d.sm -> hpOf σ.hp id = some b) -> blkMt β ρ w id b -> blkMt β' ρ w' id b) -> (∀ M es,mapMt x.w0.heap.size β ρ w M es -> (∀ k s,d.ins = some (M,k,s) -> ∀ p,p ∈ es -> p.1 ≠ k) -> mapMt x.w0.heap.size β' ρ w' M (es ++ insOf d M)) ->
   (∀ M,d.mkm = some M -> mapMt x.w0.heap.size β' ρ w' M []) -> next (a.put o.dst v) w') ->
  if Region.wanted o (yielded ops a.tmps) then o.wp P a w next Q else next (a.put o.dst undef) w

theorem mem_tmpsOf:∀ {l:List Operand} {t:Nat},Operand.tmp t ∈ l -> t ∈ tmpsOf l
 | o :: l,t,h=>by
  rcases List.mem_cons.1 h with rfl | h
  ·simp [tmpsOf]
  ·have:=mem_tmpsOf h
   cases o <;> simp [tmpsOf,this]
theorem ev_mt' {β:Beta} {σ:St} {a:Act} {w:World} (h:Com x ρ σ.js σ.tm.length β a w) (o:Operand) (ho:∀ t,o = .tmp t -> ∀ v,σ.tm[t]? = some v -> v.mt β ρ (a.tmps.getD t undef)):(ev x.ng σ o).mt β ρ (a.eval o):=by
 cases o with
 | tmp t =>
  show (σ.tm.getD t anySV).mt β ρ (a.tmps.getD t undef)
  rw [List.getD_eq_getElem?_getD]
  cases ht:σ.tm[t]? with
  | none=>exact anySV_mt _
  | some v=>exact ho t rfl v ht
 | const v=>exact ⟨fun _=>ofV_mt v,fun h=>(by cases h)⟩
 | global g =>
  show (if Nat.blt g x.ng then ({ g:=[],s:=.one false [.ptr [] g 0] }:SV) else anySV).mt β ρ (.pointer (some ⟨g,0,none⟩))
  split
  ·rename_i hg
   simp only [Nat.blt_eq] at hg
   exact ⟨fun _=>⟨_,rfl,_,h.gl g _ (List.getElem?_eq_getElem hg),by simp [pick,gRg]⟩,fun h=>(by cases h)⟩
  ·exact anySV_mt _
 | func f =>
  show (if f == yieldN then ({ g:=[],s:=.one false [.val (.func (.func f) #[] #[])] }:SV) else { g:=[],s:=.one false [.fn [] (some (f,[]))] }).mt β ρ (.func (.func f) #[] #[])
  split
  ·exact ⟨fun _=>⟨_,rfl,rfl,rfl⟩,fun h=>(by cases h)⟩
  ·rename_i hf
   exact ⟨fun _=>⟨_,rfl,[],(fvVal_ne (by simpa using hf) []).symm,trivial⟩,fun h=>(by cases h)⟩
theorem gdOf_wanted' {n:Nat} {β:Beta} {σ:St} {a:Act} {w:World} (h:a.tmps.size = σ.tm.length) {ops:Array Oper} {o:Oper} {g:Gd} (hs:∀ t,t ∈ gSlot ops o -> ∀ v,σ.tm[t]? = some v -> v.mt β ρ (a.tmps.getD t undef)) (hg:gdOf ops σ o = some g) :
  Region.wanted o (yielded ops a.tmps) = Gd.d ρ g:=by
 unfold gdOf at hg
 unfold gSlot at hs
 unfold Region.wanted
 split at hg
 ·rename_i h1
  simp only [Option.some.injEq] at hg
  subst hg
  rw [h1]
  rfl
 ·rename_i j want h1
  rw [h1] at hs ⊢
  simp only at hs ⊢
  split at hg
  ·cases hg
  ·rename_i t ht
   rw [ht] at hs
   simp only at hs
   split at hg
   ·rename_i g' b hsv
    simp only [Option.some.injEq] at hg
    subst hg
    have hlt:t < a.tmps.size:=by rw [h]; exact (List.getElem?_eq_some_iff.1 hsv).1
    have hm:=hs t (by simp) _ hsv
    unfold yielded
    rw [ht]
    simp only [Option.bind_some]
    have hget:a.tmps[t]? = some (a.tmps.getD t undef):=by simp [hlt]
    rw [hget]
    cases hgd:Gd.d ρ g'
    ·have:=hm.2 hgd
     rw [this]
     simp [undef,hgd]
    ·have:=mt_bool rfl (hm.1 hgd)
     rw [this]
     simp [hgd]
   ·rename_i g' sg' hsv
    simp only [Option.some.injEq] at hg
    subst hg
    have hlt:t < a.tmps.size:=by rw [h]; exact (List.getElem?_eq_some_iff.1 hsv).1
    have hm:=hs t (by simp) _ hsv
    unfold yielded
    rw [ht]
    simp only [Option.bind_some]
    have hget:a.tmps[t]? = some (a.tmps.getD t undef):=by simp [hlt]
    rw [hget]
    have hgd:∀ l:Gd,Gd.d ρ ((.c true,false) :: l) = false:=fun l=>by rw [Gd.d_cons]; rfl
    rw [hm.2 (hgd _),hgd]
    simp [undef]
   ·cases hg
theorem layD_spec {Γ:Gd} {lo:Nat}:∀ {l:List (Nat × Blk)} {r:Hl},layD Γ lo l = some r -> (∀ id b,hpOf r id = some b -> ∃ b',(id,b') ∈ l /\ (b = b' \/ (b = { b' with g:=Γ }))) /\ (∀ id,hpOf r id = none -> id ∉ l.map (·.1)) /\ (Γ ≠ [] -> ∀ id b,hpOf r id = some b -> b.g = Γ)
 | [],r,h=>by simp only [layD,Option.some.injEq] at h; subst h; simp [hpOf]
 | (i,b0) :: l,r,h=>by
  unfold layD at h
  split at h
  ·cases h
  ·rename_i r' hr
   obtain ⟨h1,h2,h3⟩:=layD_spec hr
   split at h
   ·rename_i hΓ
    simp only [Option.some.injEq] at h
    subst h
    rw [List.isEmpty_iff] at hΓ
    refine ⟨fun id b hb=>?_,fun id hn=>?_,fun hne=>absurd hΓ hne⟩
    ·unfold hpOf at hb
     split at hb
     ·rename_i he
      simp only [beq_iff_eq] at he
      simp only [Option.some.injEq] at hb
      subst he; subst hb
      exact ⟨b0,by simp,.inl rfl⟩
     ·obtain ⟨b',hb',hx⟩:=h1 id b hb
      exact ⟨b',by simp [hb'],hx⟩
    ·unfold hpOf at hn
     split at hn
     ·cases hn
     ·rename_i he
      have:=h2 id hn
      simp only [List.map_cons,List.mem_cons,not_or]
      exact ⟨fun e=>he (by simp [e]),this⟩
   ·split at h
    ·rename_i hc
     simp only [Option.some.injEq] at h
     subst h
     refine ⟨fun id b hb=>?_,fun id hn=>?_,fun hne id b hb=>?_⟩
     ·unfold hpOf at hb
      split at hb
      ·rename_i he
       simp only [beq_iff_eq] at he
       simp only [Option.some.injEq] at hb
       subst he; subst hb
       exact ⟨b0,by simp,.inr rfl⟩
      ·obtain ⟨b',hb',hx⟩:=h1 id b hb
       exact ⟨b',by simp [hb'],hx⟩
     ·unfold hpOf at hn
      split at hn
      ·cases hn
      ·rename_i he
       have:=h2 id hn
       simp only [List.map_cons,List.mem_cons,not_or]
       exact ⟨fun e=>he (by simp [e]),this⟩
     ·unfold hpOf at hb
      split at hb
      ·simp only [Option.some.injEq] at hb
       subst hb
       rfl
      ·exact h3 hne id b hb
    ·cases h

theorem opD_lk {ops:Array Oper} {o:Oper} {σ:St} {gh:Hl} {ng:Nat} {c c':Ctr} {d:DAct} {out:List Em} (h:opD P X gh ng ops o σ c = some (d,c',out)):d.lk = []:=by
 unfold opD at h
 obtain ⟨g,c1,o1,c2,o2,y,h1,h2,he⟩:=M.bind_inv h
 simp only [Prod.mk.injEq] at he
 obtain ⟨rfl,rfl,rfl⟩:=he
 obtain ⟨lo,c3,o3,c4,o4,y,h3,h4,he⟩:=M.bind_inv h2
 simp only [Prod.mk.injEq] at he
 obtain ⟨rfl,rfl,rfl⟩:=he
 cases hno:normG g with
 | none =>
  rw [hno] at h4
  have he:=M.pure_inv h4
  simp only [Prod.mk.injEq] at he
  rw [he.1]
 | some Γ =>
  rw [hno] at h4
  obtain ⟨r,c5,o5,c6,o6,y,h5,h6,he⟩:=M.bind_inv h4
  simp only [Prod.mk.injEq] at he
  obtain ⟨rfl,rfl,rfl⟩:=he
  obtain ⟨hi,c7,o7,c8,o8,y,h7,h8,he⟩:=M.bind_inv h6
  simp only [Prod.mk.injEq] at he
  obtain ⟨rfl,rfl,rfl⟩:=he
  obtain ⟨_,_,h8⟩:=snd_lift_inv h8
  obtain ⟨bl,c9,o9,c10,o10,y,h9,h10,he⟩:=M.bind_inv h8
  simp only [Prod.mk.injEq] at he
  obtain ⟨rfl,rfl,rfl⟩:=he
  have he:=M.pure_inv h10
  simp only [Prod.mk.injEq] at he
  rw [he.1]
theorem opD_ok (hX:HOk P Φ x.gl X) (hG:∀ w,Keep x.R x.w0 w -> Laid x.gl w) {ops:Array Oper} {o:Oper} {σ:St} {c c':Ctr} {d:DAct} {out:List Em} (h:opD P X x.gh x.ng ops o σ c = some (d,c',out)) (hg:Good Φ ρ out) :
  ActOk P x ρ ops o σ d /\ d.lo = c.id /\ d.hi = c'.id:=by
 unfold opD at h
 obtain ⟨g,c1,o1,c2,o2,y,h1,h2,he⟩:=M.bind_inv h
 simp only [Prod.mk.injEq] at he
 obtain ⟨rfl,rfl,rfl⟩:=he
 obtain ⟨g',hgd,he⟩:=lift_inv h1
 simp only [Prod.mk.injEq] at he
 obtain ⟨rfl,rfl,rfl⟩:=he
 obtain ⟨lo,c3,o3,c4,o4,y,h3,h4,he⟩:=M.bind_inv h2
 simp only [Prod.mk.injEq] at he
 obtain ⟨rfl,rfl,rfl⟩:=he
 simp only [getId,Option.some.injEq,Prod.mk.injEq] at h3
 obtain ⟨rfl,rfl,rfl⟩:=h3
 cases hno:normG g with
 | none =>
  rw [hno] at h4
  have he:=M.pure_inv h4
  simp only [Prod.mk.injEq] at he
  obtain ⟨rfl,rfl,rfl⟩:=he
  refine ⟨⟨rfl,Nat.le_refl _,fun i hi=>(by cases hi),fun M hM=>(by cases hM),fun β a w hC hsl hbl hf _ _ next Q hn=>?_⟩,rfl,rfl⟩
  rw [gdOf_wanted' (n:=0) (w:=w) hC.size (fun t ht=>hsl t (by simp [ht])) hgd,normG_none (ρ:=ρ) hno]
  simp only [Bool.false_eq_true,if_false]
  exact hn undef w β (XExt.refl β) ⟨(put_tmps a _ _).2.trans hC.size,hC.df.put _ _,hC.gm,hC.gro,hC.bo,hC.kp,hC.gl,hC.ra⟩ (fun _ _=>rfl) undefSV_mt (fun id b hb=>by simp [hpOf] at hb) (fun _ _ _ _ h=>h) (fun M es h _=>by rw [show insOf _ M = [] from rfl,List.append_nil]; exact h) (fun M hM=>by cases hM)
 | some Γ =>
  rw [hno] at h4
  obtain ⟨r,c5,o5,c6,o6,y,h5,h6,he⟩:=M.bind_inv h4
  simp only [Prod.mk.injEq] at he
  obtain ⟨rfl,rfl,rfl⟩:=he
  obtain ⟨h5,hle⟩:=mono_inv h5
  simp only at hle
  obtain ⟨r',c5',o5',h5',he⟩:=under_inv h5
  simp only [Prod.mk.injEq] at he
  obtain ⟨rfl,rfl,rfl⟩:=he
  obtain ⟨hi,c7,o7,c8,o8,y,h7,h8,he⟩:=M.bind_inv h6
  simp only [Prod.mk.injEq] at he
  obtain ⟨rfl,rfl,rfl⟩:=he
  simp only [getId,Option.some.injEq,Prod.mk.injEq] at h7
  obtain ⟨rfl,rfl,rfl⟩:=h7
  obtain ⟨u0,hrb0,h8⟩:=snd_lift_inv h8
  have hrb:r.rb = []:=by
   split at hrb0
   ·rename_i hc; simpa using hc
   ·cases hrb0
  obtain ⟨bl,c9,o9,c10,o10,y,h9,h10,he⟩:=M.bind_inv h8
  simp only [Prod.mk.injEq] at he
  obtain ⟨rfl,rfl,rfl⟩:=he
  obtain ⟨bl',hlay,he⟩:=lift_inv h9
  simp only [Prod.mk.injEq] at he
  obtain ⟨rfl,rfl,rfl⟩:=he
  have he:=M.pure_inv h10
  simp only [Prod.mk.injEq] at he
  obtain ⟨rfl,rfl,rfl⟩:=he
  simp only [Good.append] at hg
  have hg5:=hg.2.2.1
  have hsm:∀ i,i ∈ ((r.w.filter (stays x.ng σ.hp (rdIds x.ng σ o))).map (·.1)) -> i ∈ rdIds x.ng σ o /\ ∃ b b',hpOf σ.hp i = some b /\ (i,b') ∈ r.w /\ b.cells = b'.cells /\ b.ro = b'.ro:=fun i hi=>by
   obtain ⟨p,hp,rfl⟩:=List.mem_map.1 hi
   rw [List.mem_filter] at hp
   obtain ⟨hp1,hp2⟩:=hp
   unfold stays at hp2
   simp only [Bool.and_eq_true] at hp2
   obtain ⟨⟨h1,h2⟩,h3⟩:=hp2
   refine ⟨by simpa using h2,?_⟩
   split at h3
   ·rename_i b hb
    simp only [Bool.and_eq_true,beq_iff_eq] at h3
    exact ⟨b,p.2,hb,hp1,lSame_sound h3.1,h3.2⟩
   ·cases h3
  refine ⟨⟨rfl,hle,fun i hi=>(hsm i hi).1,fun M hM=>(by cases hM),fun β a w hC hsl hbl hf _ _ next Q hn=>?_⟩,rfl,rfl⟩
  have hΓe:=normG_some (ρ:=ρ) hno
  rw [gdOf_wanted' (n:=0) (w:=w) hC.size (fun t ht=>hsl t (by simp [ht])) hgd]
  obtain ⟨l1,l2,l3⟩:=layD_spec hlay
  cases hgg:Gd.d ρ g
  ·simp only [Bool.false_eq_true,if_false]
   rw [hgg] at hΓe
   have hne:Γ ≠ []:=fun e=>by subst e; cases hΓe
   refine hn undef w β (XExt.refl β) ⟨(put_tmps a _ _).2.trans hC.size,hC.df.put _ _,hC.gm,hC.gro,hC.bo,hC.kp,hC.gl,hC.ra⟩ (fun _ _=>rfl) ⟨fun h=>(by simp only at h; rw [hΓe] at h; cases h),fun _=>rfl⟩ (fun id b hb hbg=>?_) (fun _ _ _ _ h=>h) (fun M es h _=>by rw [show insOf _ M = [] from rfl,List.append_nil]; exact h) (fun M hM=>by cases hM)
   rw [l3 hne id b hb,hΓe] at hbg
   cases hbg
  ·simp only [if_true]
   rw [hgg] at hΓe
   have hg1':=Good.under hΓe hg5
   have hlok:=opx_ok (Γ:=Γ) hX o ρ _ _ _ _ h5' hg1' hΓe x.w0.heap.size x.R x.Q β a w (fun z hz=>ev_mt' hC z fun t ht=>hsl t (by simp only [List.mem_append]; exact .inl (mem_tmpsOf (by rw [ht] at hz; simpa using hz)))) (fun id b hb hbg=>by
     unfold hpR at hb
     split at hb
     ·exact hC.gm id b hb hbg
     ·split at hb
      ·rename_i hc
       exact hbl id (by simpa using hc) b hb hbg
      ·cases hb) hC.bo hC.kp.size ⟨hG w hC.kp,hC.gl⟩ (fun i hi1 hi2=>hf i hi1 hi2)
   refine hlok next Q fun v w' hpost=>?_
   obtain ⟨β',hst,hsv,hblk⟩:=hpost
   rw [hrb] at hst
   have hxe:XExt β β':=fun i r h1 _=>hst.ext i r h1 (.inr (by simp))
   obtain ⟨W,hW,hkW⟩:=hst.kp
   refine hn v w' β' hxe ⟨(put_tmps a _ _).2.trans hC.size,(hC.df.keep hkW (fun r hr=>by obtain ⟨_,_,_,_,h⟩:=hW r hr; exact h)).put _ _,fun id b hb hbg=>?_,hC.gro,hst.bo,hC.kp.trans hkW fun r hr=>?_,fun g vs hg=>hxe.at (hC.gl g vs hg),fun j r hr=>⟨(hC.ra j r hr).1,hxe.at (hC.ra j r hr).2⟩⟩ (fun i hi=>hst.dom i hi (by simp))
    ⟨fun _=>hsv,fun h=>(by simp only at h; rw [hΓe] at h; cases h)⟩ (fun id b hb hbg=>?_) (fun id b hnb hsmb hb=>?_)
    (fun M es h _=>by
     rw [show insOf _ M = [] from rfl,List.append_nil]
     exact mapMt_ext (Mv.of hC.bo hxe) (live_map (fun r hr=>by obtain ⟨_,_,_,_,hl⟩:=hW r hr; exact hl) hkW) h)
    (fun M hM=>by cases hM)
   ·have hgm:=hC.gm id b hb hbg
    refine blkMt_keep' hxe hC.bo hkW (fun r q hr hq=>?_) hgm
    obtain ⟨id',hid',hβ',hro,_⟩:=hW r hr
    refine hC.bo.apartW (fun e=>?_) hβ' hq hro
    subst e
    obtain ⟨q',hq',hro',_⟩:=blkMt_at hgm
    rw [hβ'] at hq'
    cases hq'
    rw [hro,hC.gro _ b hb] at hro'
    cases hro'
   ·obtain ⟨id',hid',hβ',hro,_⟩:=hW r hr
    rcases hC.bo.may id' r hβ' with h | h
    ·rw [hro] at h; cases h
    ·exact h
   ·obtain ⟨b',hb',he⟩:=l1 id b hb
    have:=hblk _ (List.mem_filter.1 hb').1
    rcases he with rfl | rfl
    ·exact this
    ·exact this
   ·by_cases hs:id ∈ ((r.w.filter (stays x.ng σ.hp (rdIds x.ng σ o))).map (·.1))
    ·obtain ⟨_,b1,b',hb1,hbm,hc1,hr1⟩:=hsm id hs
     have hbb:=hsmb hs
     rw [hb1] at hbb
     simp only [Option.some.injEq] at hbb
     subst hbb
     exact blkMt_g hr1.symm hc1.symm (hblk _ hbm)
    ·refine blkMt_keep' hxe hC.bo hkW (fun r' q hr hq=>?_) hb
     obtain ⟨id',hid',hβ',hro,_⟩:=hW r' hr
     refine hC.bo.apartW (i:=id') (j:=id) (fun e=>?_) hβ' hq hro
     subst e
     obtain ⟨p,hp,he⟩:=List.mem_map.1 hid'
     by_cases hst':stays x.ng σ.hp (rdIds x.ng σ o) p = true
     ·exact hs (List.mem_map.2 ⟨p,List.mem_filter.2 ⟨hp,hst'⟩,he⟩)
     ·exact l2 _ hnb (List.mem_map.2 ⟨p,List.mem_filter.2 ⟨hp,by simpa using hst'⟩,he⟩)

theorem heap_set_other {w:World} {k b:Nat} {o:Obj} (h:k ≠ b):(w.heap.setIfInBounds b o)[k]? = w.heap[k]?:=Array.getElem?_setIfInBounds_ne (fun e=>h e.symm)
theorem set_map_cell {w:World} {b:Nat} {ents ents':Array MapEntry} {c c':Nat} (hb:w.heap[b]? = some (.map ents c)) (a:Addr):({ w with heap:=w.heap.setIfInBounds b (.map ents' c') }:World).cell? a = w.cell? a /\
  ({ w with heap:=w.heap.setIfInBounds b (.map ents' c') }:World).frozen? a = w.frozen? a:=by
 unfold World.cell? World.frozen?
 simp only
 by_cases h:a.block = b
 ·rw [h,hb]
  have hlt:=(Array.getElem?_eq_some_iff.1 hb).1
  have:(w.heap.setIfInBounds b (.map ents' c'))[b]? = some (.map ents' c'):=by simp [hlt]
  rw [this]
  exact ⟨rfl,rfl⟩
 ·rw [heap_set_other h]
  exact ⟨rfl,rfl⟩
theorem set_map_keep {w0 w:World} {R:List Rg} {b:Nat} {ents ents':Array MapEntry} {c c':Nat} (hb:w.heap[b]? = some (.map ents c)) (hk:Keep R w0 w) (hn:w0.heap.size <= b):Keep R w0 { w with heap:=w.heap.setIfInBounds b (.map ents' c') }:=by
 refine ⟨hk.os,hk.tape,hk.output,by simpa using hk.size,fun a ha h=>?_,fun a ha=>?_,fun k h=>?_,fun k h hr=>?_⟩
 ·rw [(set_map_cell hb a).1]; exact hk.cell a ha h
 ·rw [(set_map_cell hb a).2]; exact hk.frz a ha
 ·have:({ w with heap:=w.heap.setIfInBounds b (.map ents' c') }:World).shape? k = w.shape? k:=by
   unfold World.shape?
   simp only
   rw [heap_set_other (by omega)]
  rw [this]; exact hk.shp k h
 ·show (w.heap.setIfInBounds b _)[k]? = _
  rw [heap_set_other (by omega)]
  exact hk.blk k h hr
theorem blkMt_cells {β:Beta} {ρ:Env} {w w':World} (h:∀ a,w'.cell? a = w.cell? a /\ w'.frozen? a = w.frozen? a) {id:Nat} {b:Blk} (hm:blkMt β ρ w id b):blkMt β ρ w' id b:=by
 cases hv:vecOf b.cells with
 | none =>
  obtain ⟨r,hr,hrow,hl,hro,hc,hf⟩:=(blkMt_cs hv).1 hm
  exact (blkMt_cs hv).2 ⟨r,hr,hrow,hl,hro,cellsAt_w (fun j hj=>(h _).1) hc,fun h0 j hj=>by rw [(h _).2]; exact hf h0 j hj⟩
 | some y =>
  obtain ⟨h0,r,cap,l,h1,h2,h3,h4,h5,h6,h7,h8,h9,h10,h11,h12⟩:=(blkMt_row hv).1 hm
  exact (blkMt_row hv).2 ⟨h0,r,cap,l,h1,h2,h3,h4,h5,h6,h7,h8,h9,h10,seqAt_w (fun j hj=>(h _).1) h11,fun j hj=>by rw [(h _).1,(h _).2]; exact h12 j hj⟩
theorem betaOk_cells {N:Nat} {R:List Rg} {Q:Rg -> Prop} {β:Beta} {w w':World} (h:∀ a,w'.cell? a = w.cell? a) (hs:w.heap.size <= w'.heap.size) (hb:BetaOk N R Q β w):BetaOk N R Q β w':=by
 refine ⟨hb.apart,fun i r hi=>by have:=hb.place i r hi; omega,hb.may,fun i r ks l hi hq=>?_,hb.rom,hb.qs,hb.rw⟩
 obtain ⟨h1,h0,h2,h3⟩:=hb.sq i r ks l hi hq
 exact ⟨h1,h0,h2,fun j n hj=>by obtain ⟨ck,v,g1,g2,g3⟩:=h3 j n hj; exact ⟨ck,v,g1,by rw [h]; exact g2,g3⟩⟩
def mpOf (x:SV):Option Nat:=match x with
 | { g:=[],s:=.one false [.mp M] }=>some M
 | _=>none
theorem mpOf_spec {x:SV} {M:Nat} (h:mpOf x = some M):x = { g:=[],s:=.one false [.mp M] }:=by
 unfold mpOf at h
 split at h
 ·simp only [Option.some.injEq] at h
  subst h
  rfl
 ·cases h
inductive MapOp where
 | mak (t:TypeId)
 | ins (t:TypeId) (m:Operand) (key:ByteArray) (v:Operand)
 | look (t:TypeId) (m k:Operand)
def mapOp (o:Oper):Option MapOp:=match o.guard with
 | some _=>none
 | none=>match o.op with
  | .makeMap t none=>some (.mak t)
  | .insert t m (.const (.string key)) v=>some (.ins t m key v)
  | .lookup t m k false=>some (.look t m k)
  | _=>none
theorem mapOp_spec {o:Oper} {x:MapOp} (h:mapOp o = some x):o.guard = none /\ match x with
  | .mak t=>o.op = .makeMap t none
  | .ins t m key v=>o.op = .insert t m (.const (.string key)) v
  | .look t m k=>o.op = .lookup t m k false:=by
 unfold mapOp at h
 split at h
 ·cases h
 ·rename_i hg
  refine ⟨hg,?_⟩
  split at h <;> first | (simp only [Option.some.injEq] at h; subst h; assumption) | cases h
def opMak (o:Oper):M DAct:=do
 let id <- newId
 pure { dst:=o.dst,sv:={ g:=[],s:=.one false [.mp id] },bl:=[],rs:=[],rb:=[],lo:=id,hi:=id + 1,mkm:=some id }
def opIns (P:Program) (ng:Nat) (o:Oper) (σ:St) (t:TypeId) (m:Operand) (key:ByteArray) (v:Operand):M DAct:=do
 let lo <- getId
 let id <- lift (mpOf (ev ng σ m))
 let _ <- lift (strMap P t)
 pure { dst:=o.dst,sv:=anySV,bl:=[],rs:=tmpsOf [m,v],rb:=[],lo:=lo,hi:=lo,ins:=some (id,key,rs [] (ev ng σ v)) }
def keyOf1 (s:S):Option A:=match s with
 | .one false [c]=>asStr c
 | _=>none
theorem keyOf1_spec {s:S} {q:A} (h:keyOf1 s = some q):∃ c,s = .one false [c] /\ asStr c = some q:=by
 unfold keyOf1 at h
 split at h
 ·exact ⟨_,rfl,h⟩
 ·cases h
def opLook (P:Program) (ng:Nat) (o:Oper) (σ:St) (acc:List DAct) (t:TypeId) (m k:Operand):M DAct:=do
 let lo <- getId
 let id <- lift (mpOf (ev ng σ m))
 let e <- lift (strMap P t)
 let z <- lift (zeroS P e)
 let q <- lift (keyOf1 (rs [] (ev ng σ k)))
 let s <- M.mono (lookM q z (insL (fun _=>true) id acc 0))
 let hi <- getId
 pure { dst:=o.dst,sv:={ g:=[],s:=s },bl:=[],rs:=tmpsOf [m,k],rb:=[],lo:=lo,hi:=hi,lk:=[(id,insL (fun _=>true) id acc 0)] }
def opDm (P:Program) (X:Hnd) (gh:Hl) (ng:Nat) (ops:Array Oper) (o:Oper) (σ:St) (acc:List DAct):M DAct :=
 match mapOp o with
 | some (.mak t)=>opMak o
 | some (.ins t m key v)=>opIns P ng o σ t m key v
 | some (.look t m k)=>opLook P ng o σ acc t m k
 | none=>opD P X gh ng ops o σ
theorem wanted_none {o:Oper} (h:o.guard = none) (y:Nat -> Option Bool):Region.wanted o y = true:=by
 unfold Region.wanted
 rw [h]
theorem opDm_ok (hX:HOk P Φ x.gl X) (hG:∀ w,Keep x.R x.w0 w -> Laid x.gl w) {ops:Array Oper} {o:Oper} {σ:St} {acc:List DAct} {c c':Ctr} {d:DAct} {out:List Em} (h:opDm P X x.gh x.ng ops o σ acc c = some (d,c',out)) (hg:Good Φ ρ out) :
  ActOk P x ρ ops o σ d /\ d.lo = c.id /\ d.hi = c'.id /\ ∀ p,p ∈ d.lk -> p.2 = insL (fun _=>true) p.1 acc 0:=by
 cases hmo:mapOp o with
 | none =>
  simp only [opDm,hmo] at h
  obtain ⟨h1,h2,h3⟩:=opD_ok hX hG h hg
  refine ⟨h1,h2,h3,fun p hp=>?_⟩
  rw [opD_lk h] at hp
  cases hp
 | some mo =>
  obtain ⟨hgu,hop⟩:=mapOp_spec hmo
  cases mo with
  | mak t =>
   simp only [opDm,hmo,opMak,newId,Bind.bind,M.bind,Pure.pure,M.pure,Option.some.injEq,Prod.mk.injEq] at h
   obtain ⟨rfl,rfl,rfl⟩:=h
   refine ⟨⟨rfl,by simp,fun i hi=>(by cases hi),fun M hM=>(by simp only [Option.some.injEq] at hM; subst hM; exact ⟨Nat.le_refl _,Nat.lt_succ_self _⟩),fun β a w hC hsl hbl hf _ _ next Q hn=>?_⟩,rfl,rfl,fun p hp=>by cases hp⟩
   rw [wanted_none hgu,if_pos rfl]
   have hrun:(execOp a.eval o).run P w = .ok (.value (.map (some w.heap.size))) (w.alloc (.map #[] 0)):=by
    obtain ⟨dst,op,ty,pos,after,guard⟩:=o
    simp only at hop
    subst hop
    simp [execOp,run_mkMap]
   have hnone:=hf c.id (Nat.le_refl _) (Nat.lt_succ_self _)
   have hext:XExt β (β.set c.id { blk:=w.heap.size,off:=0,len:=1,ro:=false }):=Beta.set_ext _ hnone
   have hkeep:Keep [] w (w.alloc (.map #[] 0)):=Keep.alloc [] w _
   refine OpG.value (Post:=fun v w'=>v = .map (some w.heap.size) /\ w' = w.alloc (.map #[] 0)) hrun ⟨rfl,rfl⟩ next Q fun v w' ⟨hv,hw⟩=>?_
   subst hv hw
   refine hn _ _ (β.set c.id { blk:=w.heap.size,off:=0,len:=1,ro:=false }) hext ⟨(put_tmps a _ _).2.trans hC.size,(hC.df.keep hkeep (fun r hr=>by cases hr)).put _ _,fun id b hb hbg=>?_,hC.gro,hC.bo.alloc hC.kp.size _ 1,hC.kp.trans hkeep (fun r hr=>by cases hr),fun g vs hg=>hext.at (hC.gl g vs hg),fun j r hr=>⟨(hC.ra j r hr).1,hext.at (hC.ra j r hr).2⟩⟩
    (fun i hi=>by unfold Beta.set; rw [if_neg (by simp only at hi; omega)]) ⟨fun _=>mt_of_cell ⟨_,Beta.set_same _ _ _,rfl⟩,fun h=>by cases h⟩ (fun id b hb=>by simp [hpOf] at hb) (fun id b _ _ hb=>?_) (fun M es hm _=>?_) (fun M hM=>?_)
   ·exact blkMt_keep' hext hC.bo hkeep (fun r q hr=>by cases hr) (hC.gm id b hb hbg)
   ·exact blkMt_keep' hext hC.bo hkeep (fun r q hr=>by cases hr) hb
   ·rw [show insOf _ M = [] from rfl,List.append_nil]
    exact mapMt_ext (Mv.of hC.bo hext) (live_map (fun r hr=>by cases hr) hkeep) hm
   ·simp only [Option.some.injEq] at hM
    subst hM
    exact ⟨_,#[],0,⟨Beta.set_same _ _ _,rfl,rfl,rfl⟩,hC.kp.size,heap_alloc_new _ _,fun p hp=>(by cases hp),fun e he=>by simp at he⟩
  | ins t m key v =>
   simp only [opDm,hmo] at h
   unfold opIns at h
   obtain ⟨lo,c1,o1,c2,o2,y,h1,h2,he⟩:=M.bind_inv h
   simp only [Prod.mk.injEq] at he
   obtain ⟨rfl,rfl,rfl⟩:=he
   simp only [getId,Option.some.injEq,Prod.mk.injEq] at h1
   obtain ⟨rfl,rfl,rfl⟩:=h1
   obtain ⟨id,c3,o3,c4,o4,y,h3,h4,he⟩:=M.bind_inv h2
   simp only [Prod.mk.injEq] at he
   obtain ⟨rfl,rfl,rfl⟩:=he
   obtain ⟨id',hid,he⟩:=lift_inv h3
   simp only [Prod.mk.injEq] at he
   obtain ⟨rfl,rfl,rfl⟩:=he
   obtain ⟨e,c5,o5,c6,o6,y,h5,h6,he⟩:=M.bind_inv h4
   simp only [Prod.mk.injEq] at he
   obtain ⟨rfl,rfl,rfl⟩:=he
   obtain ⟨e',hst,he⟩:=lift_inv h5
   simp only [Prod.mk.injEq] at he
   obtain ⟨rfl,rfl,rfl⟩:=he
   have he:=M.pure_inv h6
   simp only [Prod.mk.injEq] at he
   obtain ⟨rfl,rfl,rfl⟩:=he
   refine ⟨⟨rfl,Nat.le_refl _,fun i hi=>(by cases hi),fun M hM=>(by cases hM),fun β a w hC hsl hbl hf _ hins next Q hn=>?_⟩,rfl,rfl,fun p hp=>by cases hp⟩
   rw [wanted_none hgu,if_pos rfl]
   have hmv:=ev_mt' hC m fun t' ht'=>hsl t' (mem_tmpsOf (by simp [ht']))
   rw [mpOf_spec hid] at hmv
   obtain ⟨r,hr,hmv⟩:=mt_cell (s:=.one false [.mp id]) rfl (hmv.1 rfl)
   have hvv:=rs_mt (Γ:=[]) rfl (ev_mt' hC v fun t' ht'=>hsl t' (mem_tmpsOf (by simp [ht'])))
   obtain ⟨es,hes,hnew⟩:=hins id key _ rfl
   obtain ⟨ents,clock,hb,hrun0⟩:=run_ins hst hes hr hnew (a.eval v)
   obtain ⟨w',hw'⟩:∃ w',w' = ({ w with heap:=w.heap.setIfInBounds r.blk (.map (ents.push { key:=.string key,val:=a.eval v,born:=clock }) (clock + 1)) }:World):=⟨_,rfl⟩
   rw [<- hw'] at hrun0
   have hrun:(execOp a.eval o).run P w = .ok .skip w':=by
    obtain ⟨dst,op,ty,pos,after,guard⟩:=o
    simp only at hop
    subst hop
    have hke:a.eval (.const (.string key)) = .string key:=rfl
    simp only [execOp,hmv,hke]
    simp [hrun0]
   have hcell:∀ a,w'.cell? a = w.cell? a /\ w'.frozen? a = w.frozen? a:=fun a=>by rw [hw']; exact set_map_cell hb a
   have hN:x.w0.heap.size <= r.blk:=by
    obtain ⟨r',_,_,g1,g2,_⟩:=hes
    have g1:=g1.1
    rw [hr] at g1
    cases g1
    exact g2
   refine OpG.skip (Post:=fun v w2=>v = undef /\ w2 = w') hrun ⟨rfl,rfl⟩ next Q fun u w2 ⟨hu,hw2⟩=>?_
   subst hu hw2
   refine hn _ _ β (XExt.refl β) ⟨(put_tmps a _ _).2.trans hC.size,Lk.put (hC.df.imp (fun D hD=>by rw [hw']; show (w.heap.setIfInBounds r.blk _)[D]? = _; rw [heap_set_other (fun e=>by subst e; rw [hb] at hD; cases hD)]; exact hD) (fun l r0 hl=>by rw [hw']; show (w.heap.setIfInBounds r.blk _)[l]? = _; rw [heap_set_other (fun e=>by subst e; rw [hb] at hl; cases hl)]; exact hl)) _ _,fun id b hb hbg=>blkMt_cells hcell (hC.gm id b hb hbg),hC.gro,betaOk_cells (fun a=>(hcell a).1) (by rw [hw']; simp) hC.bo,by rw [hw']; exact set_map_keep hb hC.kp hN,hC.gl,hC.ra⟩
    (fun _ _=>rfl) (anySV_mt _) (fun id b hb=>by simp [hpOf] at hb) (fun id b _ _ hb=>blkMt_cells hcell hb) (fun M es' hm' _=>?_) (fun M hM=>by cases hM)
   rw [hw']
   by_cases hMe:M = id
   ·subst hMe
    unfold insOf
    simp only [beq_self_eq_true,if_true]
    exact mapMt_push hm' hr hb key hvv
   ·unfold insOf
    simp only
    rw [if_neg (by simpa using fun e=>hMe (Eq.symm e)),List.append_nil]
    exact mapMt_else hMe hC.bo hes hr _ hm'
  | look t m k =>
   simp only [opDm,hmo] at h
   unfold opLook at h
   obtain ⟨lo,c1,o1,c2,o2,y,h1,h2,he⟩:=M.bind_inv h
   simp only [Prod.mk.injEq] at he
   obtain ⟨rfl,rfl,rfl⟩:=he
   simp only [getId,Option.some.injEq,Prod.mk.injEq] at h1
   obtain ⟨rfl,rfl,rfl⟩:=h1
   obtain ⟨id,c3,o3,c4,o4,y,h3,h4,he⟩:=M.bind_inv h2
   simp only [Prod.mk.injEq] at he
   obtain ⟨rfl,rfl,rfl⟩:=he
   obtain ⟨id',hid,he⟩:=lift_inv h3
   simp only [Prod.mk.injEq] at he
   obtain ⟨rfl,rfl,rfl⟩:=he
   obtain ⟨e,c5,o5,c6,o6,y,h5,h6,he⟩:=M.bind_inv h4
   simp only [Prod.mk.injEq] at he
   obtain ⟨rfl,rfl,rfl⟩:=he
   obtain ⟨e',hst,he⟩:=lift_inv h5
   simp only [Prod.mk.injEq] at he
   obtain ⟨rfl,rfl,rfl⟩:=he
   obtain ⟨z,c7,o7,c8,o8,y,h7,h8,he⟩:=M.bind_inv h6
   simp only [Prod.mk.injEq] at he
   obtain ⟨rfl,rfl,rfl⟩:=he
   obtain ⟨z',hz,he⟩:=lift_inv h7
   simp only [Prod.mk.injEq] at he
   obtain ⟨rfl,rfl,rfl⟩:=he
   obtain ⟨q,c9,o9,c10,o10,y,h9,h10,he⟩:=M.bind_inv h8
   simp only [Prod.mk.injEq] at he
   obtain ⟨rfl,rfl,rfl⟩:=he
   obtain ⟨q',hq,he⟩:=lift_inv h9
   simp only [Prod.mk.injEq] at he
   obtain ⟨rfl,rfl,rfl⟩:=he
   obtain ⟨s,c11,o11,c12,o12,y,h11,h12,he⟩:=M.bind_inv h10
   simp only [Prod.mk.injEq] at he
   obtain ⟨rfl,rfl,rfl⟩:=he
   obtain ⟨h11,le11⟩:=mono_inv h11
   simp only at le11
   obtain ⟨hi,c13,o13,c14,o14,y,h13,h14,he⟩:=M.bind_inv h12
   simp only [Prod.mk.injEq] at he
   obtain ⟨rfl,rfl,rfl⟩:=he
   simp only [getId,Option.some.injEq,Prod.mk.injEq] at h13
   obtain ⟨rfl,rfl,rfl⟩:=h13
   have he:=M.pure_inv h14
   simp only [Prod.mk.injEq] at he
   obtain ⟨rfl,rfl,rfl⟩:=he
   simp only [Good.append] at hg
   have hls:=lookM_snd (Φ:=Φ) (ρ:=ρ) q z _ _ _ _ _ h11 hg.2.2.2.2.2.1
   obtain ⟨es,hese⟩:∃ es,es = insL (fun _=>true) id acc 0:=⟨_,rfl⟩
   rw [<- hese] at hls
   refine ⟨⟨rfl,le11,fun i hi=>(by cases hi),fun M hM=>(by cases hM),fun β a w hC hsl hbl hf hlk _ next Q hn=>?_⟩,rfl,rfl,fun p hp=>by simp only [List.mem_singleton] at hp; rw [hp]⟩
   rw [wanted_none hgu,if_pos rfl]
   have hmv:=ev_mt' hC m fun t' ht'=>hsl t' (mem_tmpsOf (by simp [ht']))
   rw [mpOf_spec hid] at hmv
   obtain ⟨r,hr,hmv⟩:=mt_cell (s:=.one false [.mp id]) rfl (hmv.1 rfl)
   obtain ⟨cc,hcc,hsc⟩:=keyOf1_spec hq
   have hkv:=rs_mt (Γ:=[]) rfl (ev_mt' hC k fun t' ht'=>hsl t' (mem_tmpsOf (by simp [ht'])))
   obtain ⟨str,hks,hqe,_⟩:=asStr_mt hsc (mt_cell hcc hkv)
   obtain ⟨hmm,hnd⟩:=hlk (id,es) (by simp [hese])
   obtain ⟨zv,hzr,hzm⟩:=zeroS_spec hz w
   obtain ⟨v,hrun0,hcase⟩:=run_look hst hmm hr str hzr
   have hsm:s.mt β ρ v:=hls β v (fun k' hk'=>by
    have hkk:k' = str:=encS_inj (by rw [<- hk',hqe])
    subst hkk
    rcases hcase with ⟨p,g1,g2,g3⟩ | ⟨g1,g2⟩
    ·exact .inl ⟨p,g1,g2,g3⟩
    ·exact .inr ⟨g1,by rw [g2]; exact hzm β ρ⟩) ⟨str,hqe⟩ hnd
   have hrun:(execOp a.eval o).run P w = .ok (.value v) w:=by
    obtain ⟨dst,op,ty,pos,after,guard⟩:=o
    simp only at hop
    subst hop
    simp [execOp,hmv,hks,hrun0]
   refine OpG.value (Post:=fun u w2=>u = v /\ w2 = w) hrun ⟨rfl,rfl⟩ next Q fun u w2 ⟨hu,hw2⟩=>?_
   subst hu hw2
   exact hn _ _ β (XExt.refl β) ⟨(put_tmps a _ _).2.trans hC.size,hC.df.put _ _,hC.gm,hC.gro,hC.bo,hC.kp,hC.gl,hC.ra⟩ (fun _ _=>rfl) ⟨fun _=>hsm,fun h=>by cases h⟩ (fun id b hb=>by simp [hpOf] at hb) (fun _ _ _ _ h=>h)
    (fun M es h _=>by rw [show insOf _ M = [] from rfl,List.append_nil]; exact h) (fun M hM=>by cases hM)
end
end Go.Proofs.YtfgbfdlacnihkaaGreatDoor.Sx
namespace Go.Proofs.YtfgbfdlacnihkaaGreatDoor.Sx
open Go

def FR:Option Nat -> Fence
 | none=>Fence.wide
 | some l=>Fence.wide.inRound l
theorem FR_fn (rl:Option Nat) (f:FuncId):(FR rl).fn f:=by cases rl <;> trivial
theorem FR_depth (rl:Option Nat):(FR rl).depth = none:=by cases rl <;> rfl
theorem callsIn_FR {rl:Option Nat} {n:Nat} {P:Program} {f:FuncId} {args:Array Value} {w:World} {R:Ending -> World -> Prop} (h:Calls P f args w R):CallsIn (FR rl) n P f args w R:=by
 cases rl with
 | none=>exact callsIn_wide.2 h
 | some l=>exact (callsIn_wide (n:=n)).2 h
theorem rowsIn_FR {rl:Option Nat} {n:Nat} {P:Program} {row:String} {args:Array Value} {w:World} {R:Value -> World -> Prop} (h:Rows P row args w R):RowsIn (FR rl) n P row args w R:=by
 intro c cs _
 obtain ⟨v,w',h1,h2⟩:=h c cs
 refine ⟨v,w',h1,?_⟩
 cases rl with
 | none=>exact stepsIn_wide.2 h2
 | some l=>exact stepsIn_wide.2 h2
theorem wpIn_of_wp {P:Program} {rl:Option Nat} {n:Nat} {o:Oper} {a:Act} {w:World} {next:Act -> World -> Prop} {Q:Exit -> Act -> World -> Prop} (hd:∀ c,o.op ≠ .defer c) (h:o.wp P a w next Q):o.wpIn (FR rl) n P a w next Q:=by
 refine ⟨fun f _=>FR_fn rl f,?_⟩
 rw [Oper.semAt_eq _ _ _ hd]
 unfold Oper.wp at h
 generalize (execOp a.eval o).run P w = r at h
 cases r with
 | ok n' w' =>
  cases n' with
  | value v=>exact h
  | skip=>exact h
  | defer d=>exact h
  | enter f args=>exact ⟨fun hh=>(by rw [FR_depth] at hh; cases hh),callsIn_FR h⟩
  | row row args=>exact ⟨fun hh=>(by rw [FR_depth] at hh; cases hh),rowsIn_FR h⟩
  | _=>exact h.elim
 | halt hh w' =>
  cases hh with
  | panic v=>exact h
  | _=>exact h.elim
def noDef (ops:List Oper):Bool:=ops.all fun o=>match o.op with | .defer _=>false | _=>true
theorem noDef_spec {ops:List Oper} (h:noDef ops = true) {o:Oper} (ho:o ∈ ops):∀ c,o.op ≠ .defer c:=fun c e=>by
 have:=(List.all_eq_true.1 h) o ho
 rw [e] at this
 cases this
theorem wpListIn_of {P:Program} {rl:Option Nat} {n:Nat} {ops:Array Oper} {Q:Exit -> Act -> World -> Prop} (hQ:¬ LetsOut Q):∀ {l:List Oper} {a:Act} {w:World},noDef l = true -> wpList P ops Q l a w -> wpListIn (FR rl) n P ops Q l a w
 | [],_,_,_,h=>h
 | o :: l,a,w,hd,h=>by
  have hd1:=noDef_spec hd (o:=o) (by simp)
  have hd2:noDef l = true:=by simp only [noDef,List.all_cons,Bool.and_eq_true] at hd; exact hd.2
  unfold wpList at h
  unfold wpListIn
  split
  ·rename_i hw
   rw [if_pos hw] at h
   rcases h with h | h
   ·exact Oper.wpIn_mono (fun a w h=>wpListIn_of hQ hd2 h) (wpIn_of_wp hd1 h)
   ·exact absurd h.2 hQ
  ·rename_i hw
   rw [if_neg hw] at h
   exact ⟨fun f _=>FR_fn rl f,wpListIn_of hQ hd2 h⟩
theorem wpAnyIn_of {P:Program} {rl:Option Nat} {n:Nat} {md:Region.Mode} {ops:Array Oper} {Q:Exit -> Act -> World -> Prop} (hQ:¬ LetsOut Q) (hd:noDef ops.toList = true):∀ {fuel:Nat} {listed:Array Bool} {a:Act} {w:World},wpAny P md ops Q fuel listed a w -> wpAnyIn (FR rl) n P md ops Q fuel listed a w
 | 0,_,_,_,h=>h
 | fuel + 1,listed,a,w,h=>by
  refine ⟨h.1,fun i hi=>?_⟩
  have h2:=h.2 i hi
  unfold wpOp at h2
  unfold wpOpIn
  cases ho:ops[i]? with
  | none=>rw [ho] at h2; exact wpAnyIn_of hQ hd h2
  | some o =>
   rw [ho] at h2
   simp only at h2 ⊢
   have hd1:=noDef_spec hd (o:=o) (by rw [<- Array.getElem?_toList] at ho; exact List.mem_of_getElem? ho)
   split
   ·rename_i hw
    rw [if_pos hw] at h2
    rcases h2 with h2 | h2
    ·exact Oper.wpIn_mono (fun a w h=>wpAnyIn_of hQ hd h) (wpIn_of_wp hd1 h2)
    ·exact absurd h2.2 hQ
   ·rename_i hw
    rw [if_neg hw] at h2
    exact ⟨fun f _=>FR_fn rl f,wpAnyIn_of hQ hd h2⟩
end Go.Proofs.YtfgbfdlacnihkaaGreatDoor.Sx
