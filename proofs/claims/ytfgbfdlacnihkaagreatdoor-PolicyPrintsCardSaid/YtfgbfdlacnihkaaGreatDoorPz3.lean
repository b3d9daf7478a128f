/-
  Merged texts (SxI, SxJ, SxK, SxL). No condition.
-/
import Derived.Test.YtfgbfdlacnihkaaGreatDoorPz2
set_option linter.unusedVariables false
set_option linter.unusedSimpArgs false
namespace Go.Proofs.YtfgbfdlacnihkaaGreatDoor.Sx
open Go

abbrev Fl:=List Int × List Bool
def envOf (is:List Int) (bs:List Bool):Env:={ i:=fun n=>is.getD n 0,b:=fun n=>bs.getD n false }
def padTo {α:Type} (d:α):Nat -> List α -> List α
 | 0,_=>[]
 | n + 1,[]=>d :: padTo d n []
 | n + 1,x :: l=>x :: padTo d n l
def evEm (Φ:Funs):List Em -> List Int -> List Bool -> Fl
 | [],is,bs=>(is,bs)
 | .di _ r :: l,is,bs=>evEm Φ l (is ++ [r.d (envOf is bs)]) bs
 | .db _ r :: l,is,bs=>evEm Φ l is (bs ++ [r.d (envOf is bs)])
 | .call f ai ab _ ni _ nb :: l,is,bs =>
  let o:=Φ f (ai.map (A.d (envOf is bs))) (ab.map (B.d (envOf is bs)))
  evEm Φ l (is ++ padTo 0 ni o.1) (bs ++ padTo false nb o.2)
 | .ob _ _ :: l,is,bs=>evEm Φ l is bs
def obAll (ρ:Env) (l:List Em):Bool:=l.all fun | .ob g b=>!(Gd.d ρ g) || b.d ρ | _=>true

structure Smry where
 em:List Em
 ri:List A
 rb:List B
def Smry.run (Φ:Funs) (pre:Bool) (S:Smry):Fun:=fun is bs =>
 let p:=evEm Φ S.em is bs
 let ρ:=envOf p.1 p.2
 (S.ri.map (A.d ρ),(if pre then [obAll ρ S.em] else []) ++ S.rb.map (B.d ρ))
def Fun0:Funs:=fun _ _ _=>([],[])

inductive Sh where
 | val (agg:Bool) (l:List CK)
 | ptr (l:List CK)

structure Sum where
 args:List Sh
 tup:Bool
 res:List (Bool × List CK)
 pre:Bool
 sl:Option (IntKind × List Int):=none
 inl:Option Smry:=none

def readCells (w:World) (b:Nat):Nat -> Nat -> Option (List Value)
 | _,0=>some []
 | o,n + 1=>match w.cell? ⟨b,o,none⟩,readCells w b (o + 1) n with
  | some v,some vs=>some (v :: vs)
  | _,_=>none

def decV:CK -> Value -> Option Int
 | .int k,.int k' n=>if k' == k && inR k n then some n else none
 | .bool,.bool b=>some (if b then 1 else 0)
 | .str,.string s=>if inR .i64 s.size then some (encS s) else none
 | _,_=>none
def decVs (ks:List CK):Nat -> List Value -> Option (List Int)
 | _,[]=>some []
 | j,v :: vs=>match ks[j % ks.length]?,decVs ks (j + 1) vs with
  | some ck,some l=>(decV ck v).map (· :: l)
  | _,_=>none
def flatSl (w:World) (ks:List CK):Value -> Option (List Int × Int × Option Rg)
 | .slice p len cap=>if Nat.blt cap len then none else if len == 0 then some ([],0,none) else match p with
  | some ⟨b,o,none⟩=>if inR .i64 len then match (readCells w b o (len * ks.length)).bind (decVs ks 0) with
    | some l=>some (l,len,some { blk:=b,off:=o,len:=len * ks.length,ro:=true,sq:=some (ks,l) })
    | none=>none
   else none
  | _=>none
 | _=>none

def flatC (w:World) (ps:List Rg):List CK -> List Value -> Option Fl
 | [],[]=>some ([],[])
 | .int k :: l,v :: vs=>match v,flatC w ps l vs with
  | .int k' n,some (is,bs)=>if k' == k && inR k n then some (n :: is,bs) else none
  | _,_=>none
 | .bool :: l,v :: vs=>match v,flatC w ps l vs with
  | .bool b,some (is,bs)=>some (is,b :: bs)
  | _,_=>none
 | .pt k o :: l,v :: vs=>match v,ps[k]?,flatC w ps l vs with
  | .pointer (some a),some r,some (is,bs)=>if a = ⟨r.blk,r.off + o,none⟩ then some (is,bs) else none
  | _,_,_=>none
 | .str :: l,v :: vs=>match v,flatC w ps l vs with
  | .string s,some (is,bs)=>if inR .i64 s.size then some (encS s :: is,bs) else none
  | _,_=>none
 | .sl ks :: l,v :: vs=>match flatSl w ks v,flatC w ps l vs with
  | some (q,n,_),some (is,bs)=>some (enc q :: n :: is,bs)
  | _,_=>none
 | _,_=>none
def flat1 (w:World) (ps:List Rg) (agg:Bool) (l:List CK) (v:Value):Option Fl :=
 if agg then match v with | .agg vs=>flatC w ps l vs.toList | _=>none
 else match l with | [c]=>flatC w ps [c] [v] | _=>none

def rgC (w:World):List CK -> List Value -> List Rg
 | .sl ks :: l,v :: vs=>(match flatSl w ks v with
   | some (_,_,some r)=>[r]
   | _=>[]) ++ rgC w l vs
 | _ :: l,_ :: vs=>rgC w l vs
 | _,_=>[]
def rg1 (w:World) (agg:Bool) (l:List CK) (v:Value):List Rg :=
 if agg then match v with | .agg vs=>rgC w l vs.toList | _=>[] else rgC w l [v]
def flatArgs:List Sh -> List Value -> World -> Option (List Int × List Bool × List Rg)
 | [],[],_=>some ([],[],[])
 | .val agg l :: ss,v :: vs,w=>match flat1 w [] agg l v,flatArgs ss vs w with
  | some (i,b),some (is,bs,ps)=>some (i ++ is,b ++ bs,ps)
  | _,_=>none
 | .ptr l :: ss,v :: vs,w=>match v,flatArgs ss vs w with
  | .pointer (some ⟨b,o,none⟩),some (is,bs,ps)=>match (readCells w b o l.length).bind (flatC w [] l) with
   | some (i,bb)=>some (i ++ is,bb ++ bs,{ blk:=b,off:=o,len:=l.length,ro:=false } :: ps)
   | none=>none
  | _,_=>none
 | _,_,_=>none
def argRgs:List Sh -> List Value -> World -> List Rg
 | .val agg l :: ss,v :: vs,w=>rg1 w agg l v ++ argRgs ss vs w
 | .ptr _ :: ss,_ :: vs,w=>argRgs ss vs w
 | _,_,_=>[]
def nSl:List CK -> Nat
 | []=>0
 | .sl _ :: l=>nSl l + 1
 | _ :: l=>nSl l
def noSl (l:List CK):Bool:=nSl l == 0
def ptrShapes:List Sh -> List (List CK)
 | []=>[]
 | .ptr l :: ss=>l :: ptrShapes ss
 | .val _ _ :: ss=>ptrShapes ss

def flatPs (w:World):List (List CK) -> List Rg -> Option Fl
 | [],[]=>some ([],[])
 | l :: ls,r :: rs=>match (readCells w r.blk r.off l.length).bind (flatC w [] l),flatPs w ls rs with
  | some (i,b),some (is,bs)=>some (i ++ is,b ++ bs)
  | _,_=>none
 | _,_=>none

def flatTup (w:World) (ps:List Rg):List (Bool × List CK) -> List Value -> Option Fl
 | [],[]=>some ([],[])
 | p :: l,v :: vs=>match flat1 w ps p.1 p.2 v,flatTup w ps l vs with
  | some (i,b),some (is,bs)=>some (i ++ is,b ++ bs)
  | _,_=>none
 | _,_=>none
def flatRes (w:World) (ps:List Rg) (s:Sum) (v:Value):Option Fl :=
 if s.tup then match v with | .tuple vs=>flatTup w ps s.res vs.toList | _=>none
 else match s.res with | [p]=>flat1 w ps p.1 p.2 v | _=>none
def rgTup (w:World):List (Bool × List CK) -> List Value -> List Rg
 | p :: l,v :: vs=>rg1 w p.1 p.2 v ++ rgTup w l vs
 | _,_=>[]
def resRgs (w:World) (s:Sum) (v:Value):List Rg :=
 if s.tup then match v with | .tuple vs=>rgTup w s.res vs.toList | _=>[]
 else match s.res with | [p]=>rg1 w p.1 p.2 v | _=>[]
def apartL:List Rg -> Prop
 | []=>True
 | r :: rs=>(∀ q,q ∈ rs -> r.apart q) /\ apartL rs
def frzL (ps:List Rg) (w:World):Prop:=∀ r,r ∈ ps -> ∀ j,j < r.len -> w.frozen? ⟨r.blk,r.off + j,none⟩ = false

def OutOk (s:Sum) (ps:List Rg) (v:Value) (w':World) (o:Fl):Prop :=
 ∃ r p,flatRes w' ps s v = some r /\ flatPs w' (ptrShapes s.args) ps = some p /\ o.1 = r.1 ++ p.1 /\ (if s.pre then o.2.tail else o.2) = r.2 ++ p.2

abbrev Gl:=List (List Value)
def gRg (g:Nat) (vs:List Value):Rg:={ blk:=g,off:=0,len:=vs.length,ro:=true }
def Laid (gl:Gl) (w:World):Prop:=∀ (g:Nat) (vs:List Value),gl[g]? = some vs -> g < w.heap.size /\ ∀ (j:Nat) (v:Value),vs[j]? = some v -> w.cell? ⟨g,j,none⟩ = some v /\ oneCell v = true
def GB (gl:Gl) (β:Beta) (w:World):Prop:=Laid gl w /\ ∀ (g:Nat) (vs:List Value),gl[g]? = some vs -> β g = some (gRg g vs)

def Contract (P:Program) (gl:Gl) (f:Nat) (s:Sum) (F:Fun):Prop :=
 ∀ (vs:List Value) (w:World) (is:List Int) (bs:List Bool) (ps:List Rg),Laid gl w -> flatArgs s.args vs w = some (is,bs,ps) -> apartL ps -> frzL ps w ->
  (∀ q,q ∈ ps -> ∀ (g:Nat) (vs:List Value),gl[g]? = some vs -> q.apart (gRg g vs)) ->
  (∀ q,q ∈ ps -> ∀ r,r ∈ argRgs s.args vs w -> q.apart r) ->
  (s.pre = true -> (F is bs).2.headD false = true) ->
  Calls P f vs.toArray w fun e w'=>∃ v,e = .returned v /\ Keep ps w w' /\ OutOk s ps v w' (F is bs) /\
   ∀ r,r ∈ resRgs w' s v -> w.heap.size <= r.blk \/ ∃ q,(q ∈ argRgs s.args vs w \/ ∃ (g:Nat) (us:List Value),gl[g]? = some us /\ q = gRg g us) /\ r.within q

def TabContract (P:Program) (gl:Gl) (f:Nat) (p:IntKind × List Int):Prop :=
 ∀ (w:World),Laid gl w -> Calls P f #[] w fun e w'=>∃ b o,e = .returned (.slice (some ⟨b,o,none⟩) p.2.length p.2.length) /\ Keep [] w w' /\ w.heap.size <= b /\ b < w'.heap.size /\
  ∀ (j:Nat) (v:Int),p.2[j]? = some v -> w'.cell? ⟨b,o + j,none⟩ = some (.int p.1 v) /\ InR p.1 v

theorem inR_mk {k:IntKind} {n:Int} (h:InR k n):inR k n = true:=by
 unfold inR; unfold InR at h; simp [h.1,h.2]
theorem readCells_get {w:World} {b:Nat}:∀ {n o:Nat} {vs:List Value},readCells w b o n = some vs -> vs.length = n /\ ∀ j v,vs[j]? = some v -> w.cell? ⟨b,o + j,none⟩ = some v
 | 0,o,vs,h=>by simp [readCells] at h; subst h; simp
 | n + 1,o,vs,h=>by
  unfold readCells at h
  split at h
  ·rename_i v us h1 h2
   simp only [Option.some.injEq] at h
   subst h
   obtain ⟨g1,g2⟩:=readCells_get h2
   refine ⟨by simp [g1],fun j u hj=>?_⟩
   cases j with
   | zero=>simp at hj; subst hj; exact h1
   | succ j=>simp at hj; have:=g2 j u hj; rwa [show o + 1 + j = o + (j + 1) by omega] at this
  ·cases h
theorem readCells_mk {w:World} {b:Nat}:∀ {vs:List Value} {o:Nat},(∀ j v,vs[j]? = some v -> w.cell? ⟨b,o + j,none⟩ = some v) -> readCells w b o vs.length = some vs
 | [],o,h=>rfl
 | v :: vs,o,h=>by
  simp only [List.length_cons]
  unfold readCells
  have h0:=h 0 v (by simp)
  simp only [Nat.add_zero] at h0
  rw [h0,readCells_mk fun j u hj=>by have:=h (j + 1) u (by simpa using hj); rwa [show o + (j + 1) = o + 1 + j by omega] at this]
theorem seq_read {w:World} {b:Nat} {ks:List CK}:∀ {l:List Int} {o j:Nat},(∀ (i:Nat) (n:Int),l[i]? = some n -> ∃ ck v,ks[(j + i) % ks.length]? = some ck /\ w.cell? ⟨b,o + i,none⟩ = some v /\ ckv ck n v) ->
  ∃ us,readCells w b o l.length = some us /\ decVs ks j us = some l
 | [],o,j,_=>⟨[],rfl,rfl⟩
 | n :: l,o,j,h=>by
  obtain ⟨ck,v,h1,h2,h3⟩:=h 0 n (by simp)
  rw [Nat.add_zero] at h1 h2
  obtain ⟨us,g1,g2⟩:=seq_read (ks:=ks) (l:=l) (o:=o + 1) (j:=j + 1) fun i m hm=>by
   obtain ⟨ck,v,h1,h2,h3⟩:=h (i + 1) m (by simpa using hm)
   exact ⟨ck,v,by rw [show j + 1 + i = j + (i + 1) by omega]; exact h1,by rw [show o + 1 + i = o + (i + 1) by omega]; exact h2,h3⟩
  refine ⟨v :: us,?_,?_⟩
  ·simp only [List.length_cons,readCells,h2,g1]
  ·unfold decVs
   rw [h1,g2]
   cases ck with
   | int k =>
    obtain ⟨rfl,h4⟩:=h3
    simp [decV,inR_mk h4]
   | bool =>
    obtain ⟨h4,rfl⟩:=h3
    rcases h4 with rfl | rfl <;> simp [decV]
   | str =>
    obtain ⟨s,rfl,rfl,h4⟩:=h3
    simp [decV,inR_mk h4]
   | pt _ _=>exact h3.elim
   | sl _=>exact h3.elim
theorem seq_of_read {w:World} {b:Nat} {ks:List CK}:∀ {us:List Value} {l:List Int} {o j:Nat},decVs ks j us = some l -> (∀ i v,us[i]? = some v -> w.cell? ⟨b,o + i,none⟩ = some v) -> us.length = l.length /\
  ∀ (i:Nat) (n:Int),l[i]? = some n -> ∃ ck v,ks[(j + i) % ks.length]? = some ck /\ w.cell? ⟨b,o + i,none⟩ = some v /\ ckv ck n v
 | [],l,o,j,h,_=>by simp only [decVs,Option.some.injEq] at h; subst h; exact ⟨rfl,fun i n h=>by simp at h⟩
 | v :: us,l,o,j,h,hc=>by
  unfold decVs at h
  split at h
  ·rename_i ck l' h1 h2
   cases hd:decV ck v with
   | none=>rw [hd] at h; simp at h
   | some m =>
    rw [hd] at h
    simp only [Option.map_some,Option.some.injEq] at h
    subst h
    obtain ⟨e1,e2⟩:=seq_of_read (b:=b) (w:=w) (o:=o + 1) h2 (fun i v hv=>by rw [show o + 1 + i = o + (i + 1) by omega]; exact hc (i + 1) v (by simpa using hv))
    refine ⟨by simp [e1],fun i n hn=>?_⟩
    cases i with
    | zero =>
     simp at hn
     subst hn
     refine ⟨ck,v,by simpa using h1,hc 0 v (by simp),?_⟩
     cases ck with
     | int k =>
      cases v <;> simp only [decV] at hd <;> (try (cases hd; done))
      split at hd
      ·rename_i hk
       simp only [Bool.and_eq_true,beq_iff_eq] at hk
       obtain ⟨rfl,hk⟩:=hk
       cases hd
       exact ⟨rfl,inR_spec hk⟩
      ·cases hd
     | bool =>
      cases v <;> simp only [decV,Option.some.injEq] at hd <;> (try (cases hd; done))
      rename_i bb
      subst hd
      cases bb
      ·exact ⟨.inl rfl,rfl⟩
      ·exact ⟨.inr rfl,rfl⟩
     | str =>
      cases v <;> simp only [decV] at hd <;> (try (cases hd; done))
      rename_i s
      split at hd
      ·rename_i hk
       simp only [Option.some.injEq] at hd
       exact ⟨s,rfl,hd.symm,inR_spec hk⟩
      ·cases hd
     | pt _ _=>simp [decV] at hd
     | sl _=>simp [decV] at hd
    | succ i =>
     obtain ⟨ck,v,g1,g2,g3⟩:=e2 i n (by simpa using hn)
     exact ⟨ck,v,by rw [show j + (i + 1) = j + 1 + i by omega]; exact g1,by rw [show o + (i + 1) = o + 1 + i by omega]; exact g2,g3⟩
  ·cases h
theorem flatSl_sq {w:World} {ks:List CK} {v:Value} {l:List Int} {n:Int} {r:Rg} (h:flatSl w ks v = some (l,n,some r)):r.ro = true /\ r.sq = some (ks,l) /\ l.length = r.len /\ seqAt w r.blk r.off ks l /\ (ks ≠ [] -> r.blk < w.heap.size):=by
 unfold flatSl at h
 split at h
 ·rename_i p len' cap
  split at h
  ·cases h
  split at h
  ·simp only [Option.some.injEq,Prod.mk.injEq] at h
   cases h.2.2
  ·rename_i h0
   simp only [beq_iff_eq] at h0
   split at h
   ·rename_i b o
    split at h
    ·split at h
     ·rename_i l' hl
      simp only [Option.some.injEq,Prod.mk.injEq] at h
      obtain ⟨rfl,rfl,rfl⟩:=h
      cases hrd:readCells w b o (len' * ks.length) with
      | none=>rw [hrd] at hl; simp at hl
      | some us =>
       rw [hrd] at hl
       simp only [Option.bind_some] at hl
       obtain ⟨g1,g2⟩:=readCells_get hrd
       obtain ⟨g3,g4⟩:=seq_of_read (b:=b) (o:=o) (w:=w) hl g2
       refine ⟨rfl,rfl,by simp only; omega,fun i n hn=>by simpa using g4 i n hn,fun hk=>?_⟩
       have:0 < ks.length:=List.length_pos_iff.2 hk
       have:0 < len' * ks.length:=Nat.mul_pos (by omega) this
       have hu:=g2 0 _ (List.getElem?_eq_getElem (by omega))
       exact World.block_lt_of_cell? w _ hu
     ·cases h
    ·cases h
   ·cases h
 ·cases h


theorem flatSl_mk {w:World} {ks:List CK} {b o m cap:Nat} {l:List Int} (hs:seqAt w b o ks l) (hl:l.length = m * ks.length) (hc:m <= cap) (hin:InR .i64 (m:Int)) (hm:m ≠ 0) :
  flatSl w ks (.slice (some ⟨b,o,none⟩) m cap) = some (l,(m:Int),some { blk:=b,off:=o,len:=m * ks.length,ro:=true,sq:=some (ks,l) }):=by
 obtain ⟨us,k1,k2⟩:=seq_read (j:=0) (fun i n hn=>by simpa using hs i n hn)
 unfold flatSl
 have hn0:(m == 0) = false:=by simpa using hm
 have hc':Nat.blt cap m = false:=by
  cases h:Nat.blt cap m
  ·rfl
  ·rw [Nat.blt_eq] at h; omega
 rw [hl] at k1
 simp only [hc',hn0,Bool.false_eq_true,if_false,inR_mk hin,if_true,k1,Option.bind_some,k2]
theorem flatSl_0 {w:World} {ks:List CK} {p:Option Addr} {cap:Nat}:flatSl w ks (.slice p 0 cap) = some ([],0,none):=by
 unfold flatSl
 have hc':Nat.blt cap 0 = false:=by
  cases h:Nat.blt cap 0
  ·rfl
  ·rw [Nat.blt_eq] at h; omega
 simp [hc']
theorem flatSl_src {w:World} {ks:List CK} {l:List Int} {m:Nat} {p:Option Addr} {cap:Nat} (hc:m <= cap) (hl:l.length = m * ks.length) (hin:InR .i64 (m:Int)) (h:m = 0 \/ ∃ b o,p = some ⟨b,o,none⟩ /\ seqAt w b o ks l) :
  ∃ r,flatSl w ks (.slice p m cap) = some (l,(m:Int),r) /\ ∀ r',r = some r' -> m ≠ 0 /\ ∃ b o,p = some ⟨b,o,none⟩ /\ r' = { blk:=b,off:=o,len:=m * ks.length,ro:=true,sq:=some (ks,l) }:=by
 by_cases hm:m = 0
 ·subst hm
  have:l = []:=List.eq_nil_of_length_eq_zero (by simpa using hl)
  subst this
  exact ⟨none,flatSl_0,fun r' h=>by cases h⟩
 ·rcases h with h | ⟨b,o,rfl,hs⟩
  ·exact absurd h hm
  ·exact ⟨_,flatSl_mk hs hl hc hin hm,fun r' h=>⟨hm,b,o,rfl,by cases h; rfl⟩⟩
theorem flatSl_mt {β:Beta} {ρ:Env} {w:World} {ks:List CK} {q len:A} {v:Value} {l:List Int} {n:Int} {r:Option Rg} (h:flatSl w ks v = some (l,n,r)) (hr:∀ r',r = some r' -> ∃ i,β i = some r') (hq:q.d ρ = enc l) (hn:len.d ρ = n) :
  (C.slx ks q len).mt β ρ v:=by
 show slxMt β ks (q.d ρ) (len.d ρ) v
 unfold flatSl at h
 split at h
 ·rename_i p len' cap
  split at h
  ·cases h
  rename_i hbl
  have hcap:len' <= cap:=by
   rcases Nat.lt_or_ge cap len' with h | h
   ·exact absurd (by rw [Nat.blt_eq]; exact h) hbl
   ·exact h
  split at h
  ·rename_i h0
   simp only [beq_iff_eq] at h0
   subst h0
   simp only [Option.some.injEq,Prod.mk.injEq] at h
   obtain ⟨rfl,rfl,rfl⟩:=h
   rw [hq,hn]
   exact ⟨by decide,by unfold InR; decide,p,cap,rfl,hcap,.inl ⟨rfl,rfl⟩⟩
  ·rename_i h0
   simp only [beq_iff_eq] at h0
   split at h
   ·rename_i b o
    split at h
    ·rename_i hin
     split at h
     ·rename_i l' hl
      simp only [Option.some.injEq,Prod.mk.injEq] at h
      obtain ⟨rfl,rfl,rfl⟩:=h
      cases hrd:readCells w b o (len' * ks.length) with
      | none=>rw [hrd] at hl; simp at hl
      | some us =>
       rw [hrd] at hl
       simp only [Option.bind_some] at hl
       obtain ⟨g1,g2⟩:=readCells_get hrd
       obtain ⟨g3,g4⟩:=seq_of_read (b:=b) (o:=o) (w:=w) hl g2
       obtain ⟨i,hi⟩:=hr _ rfl
       rw [hq,hn]
       refine ⟨by omega,inR_spec hin,some ⟨b,o,none⟩,cap,by rw [Int.toNat_natCast],by rw [Int.toNat_natCast]; exact hcap,.inr ⟨i,_,0,l',hi,⟨l',0,rfl,by simp,by simp,fun i n h=>by simpa using h⟩,rfl,by rw [Int.toNat_natCast]; omega,rfl⟩⟩
     ·cases h
    ·cases h
   ·cases h
 ·cases h
def litNum:CK -> C -> Option Int
 | .int k,.int k' (.c n)=>if k' == k then some n else none
 | .bool,.bool (.c b)=>some (if b then 1 else 0)
 | .str,c=>match asStr c with | some (.c n)=>some n | _=>none
 | _,_=>none
theorem litNum_spec {ck:CK} {c:C} {n:Int} (h:litNum ck c = some n) {β:Beta} {ρ:Env} {v:Value} (hm:c.mt β ρ v):ckv ck n v:=by
 unfold litNum at h
 split at h
 ·split at h
  ·rename_i hk; simp only [beq_iff_eq] at hk; subst hk; cases h; exact hm
  ·cases h
 ·rename_i b
  cases h
  rw [show v = _ from hm]
  cases b
  ·exact ⟨.inl rfl,rfl⟩
  ·exact ⟨.inr rfl,rfl⟩
 ·split at h
  ·rename_i n' he
   cases h
   obtain ⟨s,h1,h2,h3⟩:=asStr_mt he hm
   exact ⟨s,h1,h2,h3⟩
  ·cases h
 ·cases h
def litNums:List CK -> List C -> Option (List Int)
 | [],[]=>some []
 | ck :: ks,c :: cs=>match litNum ck c,litNums ks cs with
  | some n,some l=>some (n :: l)
  | _,_=>none
 | _,_=>none
theorem litNums_spec {β:Beta} {ρ:Env}:∀ {ks:List CK} {cs:List C} {l:List Int} {vs:List Value},litNums ks cs = some l -> mtL β ρ cs vs -> l.length = cs.length /\ ks.length = cs.length /\ ∀ (j:Nat) (n:Int),l[j]? = some n -> ∃ ck v,ks[j]? = some ck /\ vs[j]? = some v /\ ckv ck n v
 | [],[],l,vs,h,_=>by simp only [litNums,Option.some.injEq] at h; subst h; exact ⟨rfl,rfl,fun j n h=>by simp at h⟩
 | ck :: ks,c :: cs,l,vs,h,hm=>by
  cases vs with
  | nil=>exact hm.elim
  | cons v vs =>
   unfold litNums at h
   split at h
   ·rename_i n l' h1 h2
    cases h
    obtain ⟨g1,g2,g3⟩:=litNums_spec h2 hm.2
    refine ⟨by simp [g1],by simp [g2],fun j m hj=>?_⟩
    cases j with
    | zero=>simp at hj; subst hj; exact ⟨ck,v,rfl,rfl,litNum_spec h1 hm.1⟩
    | succ j=>simpa using g3 j m (by simpa using hj)
   ·cases h
 | [],_ :: _,_,_,h,_=>by simp [litNums] at h
 | _ :: _,[],_,_,h,_=>by simp [litNums] at h
def slNum (Γ:Gd) (hp:Hp) (ks:List CK) (c:C):Option (A × A) :=
 match c with
 | .slx ls q n=>if cksEq ks ls then some (q,n) else none
 | .slm id ls=>if cksEq ks ls then rowOf Γ hp id ks else none
 | .sli id off n cap=>if inR .i64 n && Nat.ble n cap && Nat.blt 0 ks.length then (match (ldC Γ hp id off (n * ks.length)).bind (litNums (repCK ks n)) with
   | some l=>some (.c (enc l),.c n)
   | none=>none) else none
 | c=>if asEmp c then some (.c 0,.c 0) else none
def slHot (hp:Hp):C -> Nat
 | .slm _ _=>1
 | .sli id _ _ _=>(match hp id with
  | some b=>if b.ro then 0 else 2
  | none=>2)
 | _=>0
theorem slNum_flat {Γ:Gd} {hp:Hp} {ρ:Env} {β:Beta} {w:World} (hΓ:Gd.d ρ Γ = true) (hh:heapMt β ρ hp w) (hq:SqOk β w) {ks:List CK} {c:C} {q n:A} (h:slNum Γ hp ks c = some (q,n)) {v:Value} (hm:c.mt β ρ v) :
  ∃ l r,flatSl w ks v = some (l,n.d ρ,r) /\ enc l = q.d ρ /\ ∀ r',r = some r' -> ∃ i r0,β i = some r0 /\ r'.within r0 /\ (r0.ro = true \/ (r0.row = true /\ slHot hp c = 1) \/ slHot hp c = 2):=by
 unfold slNum at h
 split at h
 ·rename_i ls q' n'
  split at h
  ·rename_i hk
   have hk:=cksEq_sound hk
   subst hk
   cases h
   obtain ⟨h0,hin,p,cap,hv,hcap,h3⟩:=hm
   obtain ⟨m,hm'⟩:=Int.eq_ofNat_of_zero_le h0
   rw [hm',Int.toNat_natCast] at hv hcap
   rw [hm'] at hin ⊢
   subst hv
   rcases h3 with ⟨e1,e2⟩ | ⟨i,r,o,l,hr,hs,e1,e2,e3⟩
   ·have:m = 0:=by omega
    subst this
    exact ⟨[],none,flatSl_0,e1.symm,fun r' h=>by cases h⟩
   ·rw [hm',Int.toNat_natCast] at e2
    obtain ⟨g1,g2,g3,g4⟩:=partSq_seq hq hr hs
    obtain ⟨r2,k1,k2⟩:=flatSl_src hcap e2 hin (.inr ⟨_,_,e3,g4⟩)
    refine ⟨l,r2,k1,e1.symm,fun r' hr'=>?_⟩
    obtain ⟨_,b,o',hp',rfl⟩:=k2 r' hr'
    rw [e3] at hp'
    cases hp'
    exact ⟨i,r,hr,⟨rfl,by simp,by simp only; omega⟩,.inl g1⟩
  ·cases h
 ·rename_i id ls
  split at h
  ·rename_i hk
   have hk:=cksEq_sound hk
   subst hk
   obtain ⟨r,cap,p,hr,hrow,hlen,hcap,hs,hp0⟩:=hm
   obtain ⟨r',cap',l,hr',_,hro,hk0,hlen',hcap',hqe,hne,hin,hll,hsq,_⟩:=rowOf_spec hΓ h hh
   rw [hr] at hr'
   cases hr'
   rw [hne] at hin ⊢
   subst hs
   obtain ⟨r2,k1,k2⟩:=flatSl_src (w:=w) (ks:=ks) (l:=l) (p:=p) hcap hll hin (hp0.elim (fun h0=>.inl (by omega)) (fun h0=>.inr ⟨_,_,h0,hsq⟩))
   refine ⟨l,r2,k1,hqe.symm,fun r' hr'=>?_⟩
   obtain ⟨hm0,b,o',hp',rfl⟩:=k2 r' hr'
   have hp1:=hp0.resolve_left (by omega)
   rw [hp1] at hp'
   cases hp'
   have hmul:r.rn * ks.length <= cap * ks.length:=Nat.mul_le_mul_right _ hcap
   exact ⟨id,r,hr,⟨rfl,by simp,by simp only; omega⟩,.inr (.inl ⟨hrow,rfl⟩)⟩
  ·cases h
 ·rename_i id off m cap
  split at h
  ·rename_i hc
   simp only [Bool.and_eq_true,Nat.ble_eq,Nat.blt_eq] at hc
   obtain ⟨⟨hin,hcap⟩,hkl⟩:=hc
   split at h
   ·rename_i l hl
    cases h
    cases hld:ldC Γ hp id off (m * ks.length) with
    | none=>rw [hld] at hl; simp at hl
    | some cs =>
     rw [hld] at hl
     simp only [Option.bind_some] at hl
     obtain ⟨hlen,r,hr,hcs⟩:=ldC_spec hΓ hh hld
     obtain ⟨r1,hr1,hv⟩:=hm
     rw [hr] at hr1
     cases hr1
     obtain ⟨vs,hvl,hvm,hvc⟩:=cellsAt_values hcs
     obtain ⟨a1,a2,a3⟩:=litNums_spec hl hvm
     have hs:seqAt w r.blk (r.off + off) ks l:=fun j x hj=>by
      obtain ⟨ck,u,e1,e2,e3⟩:=a3 j x hj
      have hjl:j < m * ks.length:=by have:=(List.getElem?_eq_some_iff.1 hj).1; omega
      rw [repCK_get ks hkl m j hjl] at e1
      exact ⟨ck,u,e1,hvc j u e2,e3⟩
     obtain ⟨r2,k1,k2⟩:=flatSl_src (w:=w) (ks:=ks) (l:=l) hcap (by omega) (inR_spec hin) (.inr ⟨_,_,rfl,hs⟩)
     rw [hv]
     refine ⟨l,r2,k1,rfl,fun r' hr'=>?_⟩
     obtain ⟨hm0,b,o',hp',rfl⟩:=k2 r' hr'
     cases hp'
     obtain ⟨b0,hb0,hble⟩:∃ b0,hp id = some b0 /\ Gd.sub b0.g Γ = true /\ off + m * ks.length <= b0.cells.length /\ vecOf b0.cells = none:=by
      unfold ldC at hld
      split at hld
      ·rename_i b0 hb0
       split at hld
       ·rename_i hc
        simp only [Bool.and_eq_true,Nat.ble_eq,Option.isNone_iff_eq_none] at hc
        exact ⟨b0,hb0,hc.1.1,hc.1.2,hc.2⟩
       ·cases hld
      ·cases hld
     obtain ⟨r3,hr3,_,hl3,hro3,_⟩:=(blkMt_cs hble.2.2).1 (hh id b0 hb0 (Gd.sub_d hble.1 hΓ))
     rw [hr] at hr3
     cases hr3
     refine ⟨id,r,hr,⟨rfl,by simp,by simp only; omega⟩,?_⟩
     cases e0:b0.ro with
     | true=>exact .inl (hro3.trans e0)
     | false=>exact .inr (.inr (by unfold slHot; simp only [hb0,e0,Bool.false_eq_true,if_false]))
   ·cases h
  ·cases h
 ·rename_i c hc1 hc2 hc3
  split at h
  ·rename_i he
   cases h
   obtain ⟨p,hv⟩:=asEmp_mt he hm
   rw [hv]
   exact ⟨[],none,flatSl_0,rfl,fun r' h=>by cases h⟩
  ·cases h

def takeC (Γ:Gd) (hp:Hp):List CK -> List C -> Option (List A × List B)
 | [],[]=>some ([],[])
 | .int k :: l,.int k' a :: cs=>match takeC Γ hp l cs with
  | some (aS,bs)=>if k' == k then some (a :: aS,bs) else none
  | none=>none
 | .bool :: l,.bool b :: cs=>match takeC Γ hp l cs with
  | some (aS,bs)=>some (aS,b :: bs)
  | none=>none
 | .str :: l,c :: cs=>match asStr c,takeC Γ hp l cs with
  | some q,some (aS,bs)=>some (q :: aS,bs)
  | _,_=>none
 | .sl ks :: l,c :: cs=>match slNum Γ hp ks c,takeC Γ hp l cs with
  | some p,some (aS,bs)=>some (p.1 :: p.2 :: aS,bs)
  | _,_=>none
 | _,_=>none
def hotL (hp:Hp) (k:Nat):List CK -> List C -> Bool
 | .sl _ :: l,c :: cs=>slHot hp c == k || hotL hp k l cs
 | _ :: l,_ :: cs=>hotL hp k l cs
 | _,_=>false
theorem takeC_flat {Γ:Gd} {hp:Hp} {ρ:Env} {β:Beta} {w:World} (hΓ:Gd.d ρ Γ = true) (hh:heapMt β ρ hp w) (hq:SqOk β w) {ps:List Rg}:∀ {l:List CK} {cs:List C} {aS:List A} {bs:List B} {vs:List Value},takeC Γ hp l cs = some (aS,bs) -> mtL β ρ cs vs ->
  flatC w ps l vs = some (aS.map (A.d ρ),bs.map (B.d ρ)) /\ ∀ r',r' ∈ rgC w l vs -> ∃ i r0,β i = some r0 /\ r'.within r0 /\ (r0.ro = true \/ (r0.row = true /\ hotL hp 1 l cs = true) \/ hotL hp 2 l cs = true)
 | [],[],aS,bs,vs,h,hm=>by
  simp only [takeC,Option.some.injEq,Prod.mk.injEq] at h
  obtain ⟨rfl,rfl⟩:=h
  cases vs with
  | nil=>exact ⟨rfl,fun r' h=>by simp [rgC] at h⟩
  | cons _ _=>exact hm.elim
 | ck :: l,c :: cs,aS,bs,vs,h,hm=>by
  cases vs with
  | nil=>exact hm.elim
  | cons v vs =>
   obtain ⟨h1,h2⟩:=hm
   cases ck with
   | int k =>
    cases c with
    | int k' a =>
     obtain ⟨rfl,h3⟩:=h1
     unfold takeC at h
     split at h
     ·rename_i as' bs' ht
      split at h
      ·rename_i hk
       simp only [beq_iff_eq] at hk
       subst hk
       simp only [Option.some.injEq,Prod.mk.injEq] at h
       obtain ⟨rfl,rfl⟩:=h
       obtain ⟨g1,g2⟩:=takeC_flat hΓ hh hq (ps:=ps) ht h2
       refine ⟨?_,fun r' hr'=>?_⟩
       ·unfold flatC
        rw [g1]
        simp [inR_mk h3]
       ·simpa [hotL] using g2 r' (by simpa [rgC] using hr')
      ·cases h
     ·cases h
    | _=>simp [takeC] at h
   | bool =>
    cases c with
    | bool b =>
     have h1:v = .bool (b.d ρ):=h1
     subst h1
     unfold takeC at h
     split at h
     ·rename_i as' bs' ht
      simp only [Option.some.injEq,Prod.mk.injEq] at h
      obtain ⟨rfl,rfl⟩:=h
      obtain ⟨g1,g2⟩:=takeC_flat hΓ hh hq (ps:=ps) ht h2
      refine ⟨?_,fun r' hr'=>?_⟩
      ·unfold flatC
       rw [g1]
       simp
      ·simpa [hotL] using g2 r' (by simpa [rgC] using hr')
     ·cases h
    | _=>simp [takeC] at h
   | str =>
    unfold takeC at h
    split at h
    ·rename_i q as' bs' hq' ht
     simp only [Option.some.injEq,Prod.mk.injEq] at h
     obtain ⟨rfl,rfl⟩:=h
     obtain ⟨s,rfl,e1,e2⟩:=asStr_mt hq' h1
     obtain ⟨g1,g2⟩:=takeC_flat hΓ hh hq (ps:=ps) ht h2
     refine ⟨?_,fun r' hr'=>?_⟩
     ·unfold flatC
      rw [g1]
      simp [inR_mk e2,e1]
     ·simpa [hotL] using g2 r' (by simpa [rgC] using hr')
    ·cases h
   | pt _ _=>simp [takeC] at h
   | sl ks =>
    unfold takeC at h
    split at h
    ·rename_i p as' bs' hp' ht
     simp only [Option.some.injEq,Prod.mk.injEq] at h
     obtain ⟨rfl,rfl⟩:=h
     obtain ⟨g1,g2⟩:=takeC_flat hΓ hh hq (ps:=ps) ht h2
     obtain ⟨q,r,k1,k2,k3⟩:=slNum_flat hΓ hh hq (q:=p.1) (n:=p.2) hp' h1
     refine ⟨?_,fun r' hr'=>?_⟩
     ·unfold flatC
      rw [k1,g1]
      simp [k2]
     ·unfold rgC at hr'
      rw [k1] at hr'
      rw [List.mem_append] at hr'
      rcases hr' with hr' | hr'
      ·cases r with
       | none=>simp at hr'
       | some r =>
        simp only [List.mem_singleton] at hr'
        obtain ⟨i,r0,e1,e2,e3⟩:=k3 r rfl
        subst hr'
        refine ⟨i,r0,e1,e2,?_⟩
        unfold hotL
        rcases e3 with e3 | ⟨e3,e4⟩ | e3
        ·exact .inl e3
        ·exact .inr (.inl ⟨e3,by simp [e4]⟩)
        ·exact .inr (.inr (by simp [e3]))
      ·obtain ⟨i,r0,e1,e2,e3⟩:=g2 r' hr'
       refine ⟨i,r0,e1,e2,?_⟩
       rcases e3 with e3 | ⟨e3,e4⟩ | e3
       ·exact .inl e3
       ·exact .inr (.inl ⟨e3,by simp [hotL,e4]⟩)
       ·exact .inr (.inr (by simp [hotL,e3]))
    ·cases h
 | [],_ :: _,_,_,_,h,_=>by simp [takeC] at h
 | .int _ :: _,[],_,_,_,h,_=>by simp [takeC] at h
 | .bool :: _,[],_,_,_,h,_=>by simp [takeC] at h
 | .pt _ _ :: _,[],_,_,_,h,_=>by simp [takeC] at h
 | .str :: _,[],_,_,_,h,_=>by simp [takeC] at h
 | .sl _ :: _,[],_,_,_,h,_=>by simp [takeC] at h

def freshC (FI:Nat -> A) (FB:Nat -> B) (pp:List (Nat × Nat)):List CK -> Nat -> Nat -> List C
 | [],_,_=>[]
 | .int k :: l,i,b=>.int k (FI i) :: freshC FI FB pp l (i + 1) b
 | .bool :: l,i,b=>.bool (FB b) :: freshC FI FB pp l i (b + 1)
 | .str :: l,i,b=>.str (FI i) :: freshC FI FB pp l (i + 1) b
 | .pt k o :: l,i,b=>(match pp[k]? with | some (id,off)=>.ptr [] id (off + o) | none=>.junk) :: freshC FI FB pp l i b
 | .sl ks :: l,i,b=>.slx ks (FI i) (FI (i + 1)) :: freshC FI FB pp l (i + 2) b
def nI:List CK -> Nat
 | []=>0
 | .int _ :: l=>nI l + 1
 | .str :: l=>nI l + 1
 | .sl _ :: l=>nI l + 2
 | _ :: l=>nI l
def nB:List CK -> Nat
 | []=>0
 | .bool :: l=>nB l + 1
 | _ :: l=>nB l
theorem flatC_len {w:World} {ps:List Rg}:∀ {l:List CK} {vs:List Value} {f:Fl},flatC w ps l vs = some f -> f.1.length = nI l /\ f.2.length = nB l /\ vs.length = l.length
 | [],[],f,h=>by simp [flatC] at h; subst h; simp [nI,nB]
 | [],_ :: _,f,h=>by simp [flatC] at h
 | .int k :: l,[],f,h=>by simp [flatC] at h
 | .bool :: l,[],f,h=>by simp [flatC] at h
 | .pt _ _ :: l,[],f,h=>by simp [flatC] at h
 | .str :: l,[],f,h=>by simp [flatC] at h
 | .sl _ :: l,[],f,h=>by simp [flatC] at h
 | .sl ks :: l,v :: vs,f,h=>by
  unfold flatC at h
  split at h
  ·rename_i q n _ is bs _ h2
   simp only [Option.some.injEq] at h
   subst h
   have:=flatC_len h2
   simp only [nI,nB,List.length_cons] at this ⊢
   omega
  ·cases h
 | .str :: l,v :: vs,f,h=>by
  unfold flatC at h
  split at h
  ·rename_i s is bs h2
   split at h
   ·simp only [Option.some.injEq] at h
    subst h
    have:=flatC_len h2
    simp only [nI,nB,List.length_cons] at this ⊢
    omega
   ·cases h
  ·cases h
 | .int k :: l,v :: vs,f,h=>by
  unfold flatC at h
  split at h
  ·rename_i k' n is bs h2
   split at h
   ·simp only [Option.some.injEq] at h
    subst h
    have:=flatC_len h2
    simp only [nI,nB,List.length_cons] at this ⊢
    omega
   ·cases h
  ·cases h
 | .bool :: l,v :: vs,f,h=>by
  unfold flatC at h
  split at h
  ·rename_i b is bs h2
   simp only [Option.some.injEq] at h
   subst h
   have:=flatC_len h2
   simp only [nI,nB,List.length_cons] at this ⊢
   omega
  ·cases h
 | .pt k o :: l,v :: vs,f,h=>by
  unfold flatC at h
  split at h
  ·rename_i a r is bs h1 h2
   split at h
   ·simp only [Option.some.injEq] at h
    subst h
    have:=flatC_len h2
    simp only [nI,nB,List.length_cons] at this ⊢
    omega
   ·cases h
  ·cases h
def ppOk (β:Beta):List (Nat × Nat) -> List Rg -> Prop
 | [],[]=>True
 | p :: pp,r :: ps=>(∃ q,β p.1 = some q /\ q.blk = r.blk /\ q.off + p.2 = r.off) /\ ppOk β pp ps
 | _,_=>False
theorem ppOk_get {β:Beta}:∀ {pp:List (Nat × Nat)} {ps:List Rg},ppOk β pp ps -> ∀ {k:Nat} {r:Rg},ps[k]? = some r -> ∃ p q,pp[k]? = some p /\ β p.1 = some q /\ q.blk = r.blk /\ q.off + p.2 = r.off
 | [],[],_,k,r,h=>by simp at h
 | p :: pp,q :: ps,⟨h1,h2⟩,k,r,h=>by
  cases k with
  | zero=>simp at h; subst h; obtain ⟨q',hq⟩:=h1; exact ⟨p,q',by simp,hq⟩
  | succ k=>simp at h; simpa using ppOk_get h2 h
theorem freshC_mt {FI:Nat -> A} {FB:Nat -> B} {β:Beta} {ρ:Env} {w:World} {ps:List Rg} {pp:List (Nat × Nat)} (hpp:ppOk β pp ps):∀ {l:List CK} {i b:Nat} {vs:List Value} {f:Fl},flatC w ps l vs = some f -> (∀ r,r ∈ rgC w l vs -> ∃ i,β i = some r) ->
  (∀ j,j < nI l -> (FI (i + j)).d ρ = f.1.getD j 0) -> (∀ j,j < nB l -> (FB (b + j)).d ρ = f.2.getD j false) -> mtL β ρ (freshC FI FB pp l i b) vs
 | [],i,b,[],f,h,_,_,_=>trivial
 | [],i,b,_ :: _,f,h,_,_,_=>by simp [flatC] at h
 | .int k :: l,i,b,[],f,h,_,_,_=>by simp [flatC] at h
 | .bool :: l,i,b,[],f,h,_,_,_=>by simp [flatC] at h
 | .pt _ _ :: l,i,b,[],f,h,_,_,_=>by simp [flatC] at h
 | .str :: l,i,b,[],f,h,_,_,_=>by simp [flatC] at h
 | .sl _ :: l,i,b,[],f,h,_,_,_=>by simp [flatC] at h
 | .sl ks :: l,i,b,v :: vs,f,h,hsl,h1,h2=>by
  unfold flatC at h
  split at h
  ·rename_i q n r is bs hs hf
   simp only [Option.some.injEq] at h
   subst h
   have e0:=h1 0 (by simp [nI])
   have e1:=h1 1 (by simp [nI])
   simp only [Nat.add_zero,List.getD_cons_zero] at e0
   simp only [List.getD_cons_succ,List.getD_cons_zero] at e1
   refine ⟨flatSl_mt hs (fun r' hr'=>hsl r' (by unfold rgC; rw [hs,hr']; simp)) e0 e1,freshC_mt hpp hf (fun r hr=>hsl r (by unfold rgC; simp [hr])) (fun j hj=>?_) (fun j hj=>h2 j (by simpa [nB] using hj))⟩
   have:=h1 (j + 2) (by simp [nI]; omega)
   rw [show i + 2 + j = i + (j + 2) by omega,this]
   simp
  ·cases h
 | .str :: l,i,b,v :: vs,f,h,hsl,h1,h2=>by
  unfold flatC at h
  split at h
  ·rename_i s is bs hf
   split at h
   ·rename_i hc
    simp only [Option.some.injEq] at h
    subst h
    have e0:=h1 0 (by simp [nI])
    simp only [Nat.add_zero,List.getD_cons_zero] at e0
    refine ⟨⟨s,rfl,e0,inR_spec hc⟩,freshC_mt hpp hf (fun r hr=>hsl r (by unfold rgC; exact hr)) (fun j hj=>?_) (fun j hj=>?_)⟩
    ·have:=h1 (j + 1) (by simp [nI]; omega)
     rw [show i + 1 + j = i + (j + 1) by omega,this]
     simp
    ·exact h2 j (by simpa [nB] using hj)
   ·cases h
  ·cases h
 | .int k :: l,i,b,v :: vs,f,h,hsl,h1,h2=>by
  unfold flatC at h
  split at h
  ·rename_i k' n is bs hf
   split at h
   ·rename_i hc
    simp only [Bool.and_eq_true,beq_iff_eq] at hc
    obtain ⟨rfl,hr⟩:=hc
    simp only [Option.some.injEq] at h
    subst h
    have e0:=h1 0 (by simp [nI])
    simp only [Nat.add_zero,List.getD_cons_zero] at e0
    refine ⟨⟨?_,?_⟩,freshC_mt hpp hf (fun r hr=>hsl r (by unfold rgC; exact hr)) (fun j hj=>?_) (fun j hj=>?_)⟩
    ·simp [e0]
    ·simp only [e0]; exact inR_spec hr
    ·have:=h1 (j + 1) (by simp [nI]; omega)
     rw [show i + 1 + j = i + (j + 1) by omega,this]
     simp
    ·exact h2 j (by simpa [nB] using hj)
   ·cases h
  ·cases h
 | .bool :: l,i,b,v :: vs,f,h,hsl,h1,h2=>by
  unfold flatC at h
  split at h
  ·rename_i x is bs hf
   simp only [Option.some.injEq] at h
   subst h
   have e0:=h2 0 (by simp [nB])
   simp only [Nat.add_zero,List.getD_cons_zero] at e0
   refine ⟨?_,freshC_mt hpp hf (fun r hr=>hsl r (by unfold rgC; exact hr)) (fun j hj=>h1 j (by simpa [nI] using hj)) (fun j hj=>?_)⟩
   ·show Value.bool x = .bool ((FB b).d ρ)
    simp [e0]
   ·have:=h2 (j + 1) (by simp [nB]; omega)
    rw [show b + 1 + j = b + (j + 1) by omega,this]
    simp
  ·cases h
 | .pt k o :: l,i,b,v :: vs,f,h,hsl,h1,h2=>by
  unfold flatC at h
  split at h
  ·rename_i a r is bs hr hf
   split at h
   ·rename_i ha
    simp only [Option.some.injEq] at h
    subst h
    obtain ⟨p,q,hp,hq,hq1,hq2⟩:=ppOk_get hpp hr
    refine ⟨?_,freshC_mt hpp hf (fun r hr=>hsl r (by unfold rgC; exact hr)) (fun j hj=>h1 j (by simpa [nI] using hj)) (fun j hj=>h2 j (by simpa [nB] using hj))⟩
    rw [hp]
    refine ⟨q,hq,?_⟩
    subst ha
    simp only [pick]
    rw [hq1,<- hq2,Nat.add_assoc]
   ·cases h
  ·cases h
theorem flatC_oneCell {w:World} {ps:List Rg}:∀ {l:List CK} {vs:List Value} {f:Fl},flatC w ps l vs = some f -> ∀ v,v ∈ vs -> oneCell v = true
 | [],[],f,h,v,hv=>by cases hv
 | [],_ :: _,f,h,_,_=>by simp [flatC] at h
 | .int k :: l,[],f,h,_,_=>by simp [flatC] at h
 | .bool :: l,[],f,h,_,_=>by simp [flatC] at h
 | .pt _ _ :: l,[],f,h,_,_=>by simp [flatC] at h
 | .str :: l,[],f,h,_,_=>by simp [flatC] at h
 | .sl _ :: l,[],f,h,_,_=>by simp [flatC] at h
 | .sl ks :: l,u :: vs,f,h,v,hv=>by
  unfold flatC at h
  split at h
  ·rename_i q n r is bs hs h2
   rcases List.mem_cons.1 hv with rfl | hv
   ·exact C.mt_one (flatSl_mt (β:=fun _=>r) (ρ:={ i:=fun _=>0,b:=fun _=>false }) (q:=.c (enc q)) (len:=.c n) hs (fun r' hr'=>⟨0,hr'⟩) rfl rfl)
   ·exact flatC_oneCell h2 v hv
  ·cases h
 | .str :: l,u :: vs,f,h,v,hv=>by
  unfold flatC at h
  split at h
  ·rename_i s is bs h2
   rcases List.mem_cons.1 hv with rfl | hv
   ·rfl
   ·split at h
    ·exact flatC_oneCell h2 v hv
    ·cases h
  ·cases h
 | .int k :: l,u :: vs,f,h,v,hv=>by
  unfold flatC at h
  split at h
  ·rename_i k' n is bs h2
   rcases List.mem_cons.1 hv with rfl | hv
   ·rfl
   ·exact flatC_oneCell h2 v hv
  ·cases h
 | .bool :: l,u :: vs,f,h,v,hv=>by
  unfold flatC at h
  split at h
  ·rename_i b is bs h2
   rcases List.mem_cons.1 hv with rfl | hv
   ·rfl
   ·exact flatC_oneCell h2 v hv
  ·cases h
 | .pt k o :: l,u :: vs,f,h,v,hv=>by
  unfold flatC at h
  split at h
  ·rename_i a r is bs h1 h2
   rcases List.mem_cons.1 hv with rfl | hv
   ·rfl
   ·exact flatC_oneCell h2 v hv
  ·cases h
theorem cellsAt_of_read {β:Beta} {ρ:Env} {w:World} {b o n:Nat} {vs:List Value} (h:readCells w b o n = some vs) {l:List C} (hm:mtL β ρ l vs):cellsAt β ρ w b o l:=by
 rw [cellsAt_iff]
 intro j c hj
 obtain ⟨v,hv,hc⟩:=mtL_get hm j c hj
 exact ⟨v,(readCells_get h).2 j v hv,hc⟩
theorem freshC_length (FI:Nat -> A) (FB:Nat -> B) (pp:List (Nat × Nat)):∀ (l:List CK) (i b:Nat),(freshC FI FB pp l i b).length = l.length
 | [],_,_=>rfl
 | .int _ :: l,i,b=>by simp [freshC,freshC_length FI FB pp l]
 | .bool :: l,i,b=>by simp [freshC,freshC_length FI FB pp l]
 | .pt _ _ :: l,i,b=>by simp [freshC,freshC_length FI FB pp l]
 | .str :: l,i,b=>by simp [freshC,freshC_length FI FB pp l]
 | .sl _ :: l,i,b=>by simp [freshC,freshC_length FI FB pp l]
theorem rgC_noSl {w:World}:∀ {l:List CK} {vs:List Value},nSl l = 0 -> rgC w l vs = []
 | [],_,_=>by simp [rgC]
 | .sl _ :: l,_,h=>by simp [nSl] at h
 | .int _ :: l,[],_=>by simp [rgC]
 | .bool :: l,[],_=>by simp [rgC]
 | .pt _ _ :: l,[],_=>by simp [rgC]
 | .str :: l,[],_=>by simp [rgC]
 | .int _ :: l,v :: vs,h=>by rw [rgC]; exact rgC_noSl (by simpa [nSl] using h); all_goals simp
 | .bool :: l,v :: vs,h=>by rw [rgC]; exact rgC_noSl (by simpa [nSl] using h); all_goals simp
 | .pt _ _ :: l,v :: vs,h=>by rw [rgC]; exact rgC_noSl (by simpa [nSl] using h); all_goals simp
 | .str :: l,v :: vs,h=>by rw [rgC]; exact rgC_noSl (by simpa [nSl] using h); all_goals simp
theorem rgC_sq {w:World}:∀ {l:List CK} {vs:List Value} {r:Rg},r ∈ rgC w l vs -> r.ro = true /\ r.row = false /\ ∃ ks q,r.sq = some (ks,q) /\ q.length = r.len /\ seqAt w r.blk r.off ks q
 | [],_,_,h=>by simp [rgC] at h
 | .sl ks :: l,v :: vs,r,h=>by
  unfold rgC at h
  rw [List.mem_append] at h
  rcases h with h | h
  ·split at h
   ·rename_i q n r' hs
    simp only [List.mem_singleton] at h
    subst h
    obtain ⟨h1,h2,h3,h4,_⟩:=flatSl_sq hs
    refine ⟨h1,?_,ks,_,h2,h3,h4⟩
    unfold flatSl at hs
    split at hs
    ·split at hs
     ·cases hs
     split at hs
     ·simp only [Option.some.injEq,Prod.mk.injEq] at hs; cases hs.2.2
     ·split at hs
      ·split at hs
       ·split at hs
        ·simp only [Option.some.injEq,Prod.mk.injEq] at hs
         rw [<- hs.2.2]
        ·cases hs
       ·cases hs
      ·cases hs
    ·cases hs
   ·simp at h
  ·exact rgC_sq h
 | .sl ks :: l,[],r,h=>by simp [rgC] at h
 | .int _ :: l,[],_,h=>by simp [rgC] at h
 | .bool :: l,[],_,h=>by simp [rgC] at h
 | .pt _ _ :: l,[],_,h=>by simp [rgC] at h
 | .str :: l,[],_,h=>by simp [rgC] at h
 | .int _ :: l,v :: vs,r,h=>rgC_sq (l:=l) (by unfold rgC at h; exact h)
 | .bool :: l,v :: vs,r,h=>rgC_sq (l:=l) (by unfold rgC at h; exact h)
 | .pt _ _ :: l,v :: vs,r,h=>rgC_sq (l:=l) (by unfold rgC at h; exact h)
 | .str :: l,v :: vs,r,h=>rgC_sq (l:=l) (by unfold rgC at h; exact h)
end Go.Proofs.YtfgbfdlacnihkaaGreatDoor.Sx
namespace Go.Proofs.YtfgbfdlacnihkaaGreatDoor.Sx
open Go

abbrev PP:=List (Nat × Nat × Nat)

def ptrOf:S -> Option (Nat × Nat)
 | .one false [.ptr [] id off]=>some (id,off)
 | _=>none
theorem ptrOf_spec {s:S} {p:Nat × Nat} (h:ptrOf s = some p):s = .one false [.ptr [] p.1 p.2]:=by
 unfold ptrOf at h
 split at h
 ·cases h; rfl
 ·cases h
def valOf:S -> Option (Bool × List C)
 | .one agg cs=>some (agg,cs)
 | _=>none
theorem valOf_spec {s:S} {p:Bool × List C} (h:valOf s = some p):s = .one p.1 p.2:=by
 unfold valOf at h
 split at h
 ·cases h; rfl
 ·cases h
def takeArgs (Γ:Gd) (hp:Hp):List Sh -> List S -> Option (List A × List B × PP)
 | [],[]=>some ([],[],[])
 | .val agg l :: ss,x :: xs=>match valOf x,takeArgs Γ hp ss xs with
  | some (agg',cs),some (aS,bs,pp)=>match takeC Γ hp l cs with
   | some (a,b)=>if agg == agg' && (agg || l.length == 1) then some (a ++ aS,b ++ bs,pp) else none
   | none=>none
  | _,_=>none
 | .ptr l :: ss,x :: xs=>match ptrOf x,takeArgs Γ hp ss xs with
  | some (id,off),some (aS,bs,pp)=>match (ldC Γ hp id off l.length).bind (takeC Γ hp l) with
   | some (a,b)=>if chk Γ hp l.length id off then some (a ++ aS,b ++ bs,(id,off,l.length) :: pp) else none
   | none=>none
  | _,_=>none
 | _,_=>none
def hotA (hp:Hp) (k:Nat):List Sh -> List S -> Bool
 | .val _ l :: ss,x :: xs=>(match valOf x with | some (_,cs)=>hotL hp k l cs | none=>false) || hotA hp k ss xs
 | _ :: ss,_ :: xs=>hotA hp k ss xs
 | _,_=>false

def ppR (β:Beta):PP -> List Rg -> Prop
 | [],[]=>True
 | p :: pp,q :: ps=>(∃ r,β p.1 = some r /\ q = { blk:=r.blk,off:=r.off + p.2.1,len:=p.2.2,ro:=false } /\ p.2.1 + p.2.2 <= r.len /\ r.ro = false /\ r.row = false) /\ ppR β pp ps
 | _,_=>False

def mtAll (β:Beta) (ρ:Env):List S -> List Value -> Prop
 | [],[]=>True
 | s :: ss,v :: vs=>s.mt β ρ v /\ mtAll β ρ ss vs
 | _,_=>False

theorem chk_spec {Γ:Gd} {hp:Hp} {ρ:Env} {β:Beta} {w:World} (hΓ:Gd.d ρ Γ = true) (hh:heapMt β ρ hp w) {n i o:Nat} (h:chk Γ hp n i o = true) :
  ∃ b r,hp i = some b /\ Gd.d ρ b.g = true /\ β i = some r /\ o + n <= r.len /\ (r.ro = false /\ r.row = false) /\ ∀ j,j < n -> w.frozen? ⟨r.blk,r.off + o + j,none⟩ = false:=by
 unfold chk at h
 split at h
 ·rename_i b hb
  simp only [Bool.and_eq_true,Bool.not_eq_true',Nat.ble_eq,Option.isNone_iff_eq_none] at h
  obtain ⟨h,hvn⟩:=h
  have hg:=Gd.sub_d h.1.1 hΓ
  obtain ⟨r,hr,hrow,hl,hro,hc,hf⟩:=(blkMt_cs hvn).1 (hh i b hb hg)
  refine ⟨b,r,hb,hg,hr,by omega,⟨hro.trans h.1.2,hrow⟩,fun j hj=>?_⟩
  rw [Nat.add_assoc]
  exact hf h.1.2 _ (by omega)
 ·cases h

theorem takeArgs_flat {Γ:Gd} {hp:Hp} {ρ:Env} {β:Beta} {w:World} (hΓ:Gd.d ρ Γ = true) (hh:heapMt β ρ hp w) (hsq:SqOk β w):∀ {ss:List Sh} {xs:List S} {vs:List Value} {aS:List A} {bs:List B} {pp:PP},
  takeArgs Γ hp ss xs = some (aS,bs,pp) -> mtAll β ρ xs vs -> ∃ ps,flatArgs ss vs w = some (aS.map (A.d ρ),bs.map (B.d ρ),ps) /\ ppR β pp ps /\ frzL ps w /\
   ∀ r,r ∈ argRgs ss vs w -> ∃ i r0,β i = some r0 /\ r.within r0 /\ (r0.ro = true \/ (r0.row = true /\ hotA hp 1 ss xs = true) \/ hotA hp 2 ss xs = true)
 | [],[],vs,aS,bs,pp,h,hm=>by
  simp only [takeArgs,Option.some.injEq,Prod.mk.injEq] at h
  obtain ⟨rfl,rfl,rfl⟩:=h
  cases vs with
  | nil=>exact ⟨[],rfl,trivial,fun r hr=>(by cases hr),fun r hr=>(by simp [argRgs] at hr)⟩
  | cons _ _=>exact hm.elim
 | .val agg l :: ss,x :: xs,vs,aS,bs,pp,h,hm=>by
  cases vs with
  | nil=>exact hm.elim
  | cons v vs =>
   obtain ⟨h1,h2⟩:=hm
   unfold takeArgs at h
   split at h
   ·rename_i agg' cs as' bs' pp' hx hr
    split at h
    ·rename_i a b ht
     split at h
     ·rename_i hc
      simp only [Bool.and_eq_true,beq_iff_eq] at hc
      obtain ⟨rfl,hc⟩:=hc
      simp only [Option.some.injEq,Prod.mk.injEq] at h
      obtain ⟨rfl,rfl,rfl⟩:=h
      obtain ⟨ps,g1,g2,g3,g4⟩:=takeArgs_flat hΓ hh hsq hr h2
      rw [valOf_spec hx] at h1
      have hf:flat1 w [] agg l v = some (a.map (A.d ρ),b.map (B.d ρ)) /\ ∀ r',r' ∈ rg1 w agg l v -> ∃ i r0,β i = some r0 /\ r'.within r0 /\ (r0.ro = true \/ (r0.row = true /\ hotL hp 1 l cs = true) \/ hotL hp 2 l cs = true):=by
       unfold flat1 rg1
       cases agg
       ·obtain ⟨c,e,hcm⟩:=h1
        simp only at e
        subst e
        simp only [Bool.false_or,beq_iff_eq] at hc
        match l,hc,ht with
        | [ck],_,ht =>
         simp only [Bool.false_eq_true,if_false]
         exact takeC_flat hΓ hh hsq (vs:=[v]) ht ⟨hcm,trivial⟩
       ·obtain ⟨us,rfl,hcm⟩:=h1
        simp only [if_true]
        exact takeC_flat hΓ hh hsq ht hcm
      refine ⟨ps,?_,g2,g3,fun r hr=>?_⟩
      ·unfold flatArgs
       rw [hf.1,g1]
       simp
      ·unfold argRgs at hr
       rw [List.mem_append] at hr
       unfold hotA
       rw [hx]
       rcases hr with hr | hr
       ·obtain ⟨i,r0,e1,e2,e3⟩:=hf.2 r hr
        refine ⟨i,r0,e1,e2,?_⟩
        rcases e3 with e3 | ⟨e3,e4⟩ | e3
        ·exact .inl e3
        ·exact .inr (.inl ⟨e3,by simp [e4]⟩)
        ·exact .inr (.inr (by simp [e3]))
       ·obtain ⟨i,r0,e1,e2,e3⟩:=g4 r hr
        refine ⟨i,r0,e1,e2,?_⟩
        rcases e3 with e3 | ⟨e3,e4⟩ | e3
        ·exact .inl e3
        ·exact .inr (.inl ⟨e3,by simp [e4]⟩)
        ·exact .inr (.inr (by simp [e3]))
     ·cases h
    ·cases h
   ·cases h
 | .ptr l :: ss,x :: xs,vs,aS,bs,pp,h,hm=>by
  cases vs with
  | nil=>exact hm.elim
  | cons v vs =>
   obtain ⟨h1,h2⟩:=hm
   unfold takeArgs at h
   split at h
   ·rename_i id off as' bs' pp' hx hr
    rw [ptrOf_spec hx] at h1
    split at h
    ·rename_i a b ht
     split at h
     ·rename_i hc
      simp only [Option.some.injEq,Prod.mk.injEq] at h
      obtain ⟨rfl,rfl,rfl⟩:=h
      obtain ⟨ps,g1,g2,g3,g4⟩:=takeArgs_flat hΓ hh hsq hr h2
      obtain ⟨bk,r,hb,hg,hβ,hle,hro,hf⟩:=chk_spec hΓ hh hc
      cases hl:ldC Γ hp id off l.length with
      | none=>rw [hl] at ht; simp at ht
      | some cs =>
       rw [hl] at ht
       simp only [Option.bind_some] at ht
       obtain ⟨hlen,r',hr',hcs⟩:=ldC_spec hΓ hh hl
       rw [hβ] at hr'
       cases hr'
       obtain ⟨us,hul,hum,hu⟩:=cellsAt_values hcs
       obtain ⟨r'',hr'',hv⟩:=mt_cell (s:=.one false [.ptr [] id off]) rfl h1
       simp only [pick] at hr'' hv
       rw [hβ] at hr''
       cases hr''
       refine ⟨{ blk:=r.blk,off:=r.off + off,len:=l.length,ro:=false } :: ps,?_,⟨⟨r,hβ,rfl,hle,hro⟩,g2⟩,?_,fun r hr=>?_⟩
       ·unfold flatArgs
        subst hv
        simp only [g1]
        have hrd:readCells w r.blk (r.off + off) l.length = some us:=by
         rw [<- hlen,<- hul]; exact readCells_mk hu
        rw [hrd]
        simp only [Option.bind_some]
        rw [(takeC_flat hΓ hh hsq (ps:=[]) ht hum).1]
        simp
       ·intro q hq j hj
        rcases List.mem_cons.1 hq with rfl | hq
        ·exact hf j hj
        ·exact g3 q hq j hj
       ·simpa [hotA] using g4 r (by simpa [argRgs] using hr)
     ·cases h
    ·cases h
   ·cases h
 | [],_ :: _,_,_,_,_,h,_=>by simp [takeArgs] at h
 | .val _ _ :: _,[],_,_,_,_,h,_=>by simp [takeArgs] at h
 | .ptr _ :: _,[],_,_,_,_,h,_=>by simp [takeArgs] at h

def apartS:PP -> Bool
 | []=>true
 | p :: pp=>(pp.all fun q=>!(p.1 == q.1) || Nat.ble (p.2.1 + p.2.2) q.2.1 || Nat.ble (q.2.1 + q.2.2) p.2.1) && apartS pp
theorem ppR_mem {β:Beta}:∀ {pp:PP} {ps:List Rg},ppR β pp ps -> ∀ q,q ∈ ps -> ∃ p r,p ∈ pp /\ β p.1 = some r /\ q = { blk:=r.blk,off:=r.off + p.2.1,len:=p.2.2,ro:=false } /\ p.2.1 + p.2.2 <= r.len /\ r.ro = false /\ r.row = false
 | [],[],_,q,h=>by cases h
 | p :: pp,q' :: ps,⟨h1,h2⟩,q,h=>by
  rcases List.mem_cons.1 h with rfl | h
  ·obtain ⟨r,hr⟩:=h1; exact ⟨p,r,by simp,hr⟩
  ·obtain ⟨p',r,hp,hr⟩:=ppR_mem h2 q h; exact ⟨p',r,by simp [hp],hr⟩
theorem apartL_of {N:Nat} {R:List Rg} {Q:Rg -> Prop} {β:Beta} {w:World} (hb:BetaOk N R Q β w):∀ {pp:PP} {ps:List Rg},ppR β pp ps -> apartS pp = true -> apartL ps
 | [],[],_,_=>trivial
 | p :: pp,q :: ps,⟨⟨r,hr,hq,hle,hro,_⟩,h2⟩,h=>by
  unfold apartS at h
  simp only [Bool.and_eq_true,List.all_eq_true] at h
  refine ⟨fun q' hq'=>?_,apartL_of hb h2 h.2⟩
  obtain ⟨p',r',hp',hr',rfl,hle',_⟩:=ppR_mem h2 q' hq'
  subst hq
  have hs:=h.1 p' hp'
  simp only [Bool.or_eq_true,Bool.not_eq_true',beq_eq_false_iff_ne,ne_eq,Nat.ble_eq] at hs
  unfold Rg.apart
  simp only
  by_cases e:p.1 = p'.1
  ·rw [e] at hr
   rw [hr] at hr'
   cases hr'
   omega
  ·have:=(hb.apart _ _ _ _ e hr hr').resolve_left fun hh=>by rw [hh.1] at hro; cases hro
   unfold Rg.apart at this
   omega

def junkAll:Hp -> PP -> Option Hp
 | hp,[]=>some hp
 | hp,(id,off,n) :: l=>match hp id with
  | some b=>if Nat.ble (off + n) b.cells.length && (vecOf b.cells).isNone then junkAll (hp.set id { b with cells:=setAt b.cells off (List.replicate n .junk) }) l else none
  | none=>none
theorem heapMt_set {β:Beta} {ρ:Env} {hp:Hp} {w:World} (hh:heapMt β ρ hp w) {id:Nat} {b:Blk} (hb:Gd.d ρ b.g = true -> blkMt β ρ w id b):heapMt β ρ (hp.set id b) w:=by
 intro j bj hj hg
 unfold Hp.set at hj
 by_cases e:j = id
 ·subst e
  simp only [BEq.rfl,if_true,Option.some.injEq] at hj
  subst hj
  exact hb hg
 ·have:(j == id) = false:=by simpa using e
  rw [this] at hj
  exact hh j bj hj hg
theorem junkAll_heap {β:Beta} {ρ:Env} {w:World}:∀ {pp:PP} {hp hp0:Hp},junkAll hp pp = some hp0 -> heapMt β ρ hp w -> heapMt β ρ hp0 w
 | [],hp,hp0,h,hh=>by simp only [junkAll,Option.some.injEq] at h; exact h ▸ hh
 | (id,off,n) :: l,hp,hp0,h,hh=>by
  unfold junkAll at h
  split at h
  ·rename_i b hb
   split at h
   ·rename_i hle
    simp only [Bool.and_eq_true,Nat.ble_eq,Option.isNone_iff_eq_none] at hle
    obtain ⟨hle,hvn⟩:=hle
    refine junkAll_heap h (heapMt_set hh fun hg=>?_)
    have hm:=hh id b hb hg
    refine blk_setAt hvn (by simpa using hle) hm (fun r hr=>?_) (fun _ _ _ _ _=>rfl) (fun _ _ _=>rfl)
    obtain ⟨r',hr',_,hl,_,hc,_⟩:=(blkMt_cs hvn).1 hm
    rw [hr] at hr'
    cases hr'
    rw [cellsAt_iff] at *
    intro j c hj
    rw [List.getElem?_replicate] at hj
    split at hj
    ·rename_i hjn
     simp only [Option.some.injEq] at hj
     subst hj
     obtain ⟨v,hv,hm⟩:=hc (off + j) _ (List.getElem?_eq_getElem (by omega))
     exact ⟨v,by rw [Nat.add_assoc]; exact hv,C.mt_oneCell hm⟩
    ·cases hj
   ·cases h
  ·cases h
def Junk (hp:Hp) (p:Nat × Nat × Nat):Prop:=∀ b,hp p.1 = some b -> ∀ j,p.2.1 <= j -> j < p.2.1 + p.2.2 -> b.cells[j]? = some .junk
theorem setAt_get {l z:List C} {off j:Nat} (hle:off + z.length <= l.length):(setAt l off z)[j]? = if j < off then l[j]? else if j < off + z.length then z[j - off]? else l[j]?:=by
 unfold setAt
 rw [List.append_assoc]
 split
 ·rename_i h1
  rw [List.getElem?_append_left (by simp; omega),List.getElem?_take,if_pos h1]
 ·rename_i h1
  rw [List.getElem?_append_right (by simp; omega)]
  simp only [List.length_take,Nat.min_eq_left (show off <= l.length by omega)]
  split
  ·rename_i h2
   rw [List.getElem?_append_left (by omega)]
  ·rename_i h2
   rw [List.getElem?_append_right (by omega),List.getElem?_drop]
   congr 1
   omega
theorem junkAll_junk:∀ {pp:PP} {hp hp0:Hp} {done:PP},junkAll hp pp = some hp0 -> (∀ p,p ∈ done -> Junk hp p) -> ∀ p,p ∈ done ++ pp -> Junk hp0 p
 | [],hp,hp0,done,h,hd,p,hp'=>by simp only [junkAll,Option.some.injEq] at h; subst h; exact hd p (by simpa using hp')
 | (id,off,n) :: l,hp,hp0,done,h,hd,p,hp'=>by
  unfold junkAll at h
  split at h
  ·rename_i b hb
   split at h
   ·rename_i hle
    simp only [Bool.and_eq_true,Nat.ble_eq,Option.isNone_iff_eq_none] at hle
    obtain ⟨hle,hvn⟩:=hle
    refine junkAll_junk (done:=done ++ [(id,off,n)]) h (fun q hq=>?_) p (by simpa using hp')
    intro b' hb' j h1 h2
    unfold Hp.set at hb'
    by_cases e:q.1 = id
    ·rw [e] at hb'
     simp only [BEq.rfl,if_true,Option.some.injEq] at hb'
     subst hb'
     simp only
     rw [setAt_get (by simpa using hle)]
     simp only [List.length_replicate]
     rcases List.mem_append.1 hq with hq | hq
     ·have:=hd q hq b (by rw [e]; exact hb) j h1 h2
      split
      ·exact this
      ·split
       ·rw [List.getElem?_replicate,if_pos (by omega)]
       ·exact this
     ·simp only [List.mem_singleton] at hq
      subst hq
      simp only at h1 h2
      rw [if_neg (by omega),if_pos h2,List.getElem?_replicate,if_pos (by omega)]
    ·have:(q.1 == id) = false:=by simpa using e
     rw [this] at hb'
     rcases List.mem_append.1 hq with hq | hq
     ·exact hd q hq b' hb' j h1 h2
     ·simp only [List.mem_singleton] at hq
      subst hq
      exact absurd rfl e
   ·cases h
  ·cases h
def lensOk:List (List CK) -> List Rg -> Prop
 | [],[]=>True
 | l :: ls,r :: rs=>r.len = l.length /\ lensOk ls rs
 | _,_=>False
theorem flatArgs_lens {w:World}:∀ {ss:List Sh} {vs:List Value} {is:List Int} {bs:List Bool} {ps:List Rg},flatArgs ss vs w = some (is,bs,ps) -> lensOk (ptrShapes ss) ps
 | [],[],is,bs,ps,h=>by
  simp only [flatArgs,Option.some.injEq,Prod.mk.injEq] at h
  obtain ⟨_,_,rfl⟩:=h
  exact trivial
 | .val agg l :: ss,v :: vs,is,bs,ps,h=>by
  unfold flatArgs at h
  split at h
  ·rename_i i b is' bs' ps' h1 h2
   simp only [Option.some.injEq,Prod.mk.injEq] at h
   obtain ⟨_,_,rfl⟩:=h
   exact flatArgs_lens (ss:=ss) h2
  ·cases h
 | .ptr l :: ss,v :: vs,is,bs,ps,h=>by
  unfold flatArgs at h
  split at h
  ·rename_i b o is' bs' ps' h2
   split at h
   ·simp only [Option.some.injEq,Prod.mk.injEq] at h
    obtain ⟨_,_,rfl⟩:=h
    exact ⟨rfl,flatArgs_lens h2⟩
   ·cases h
  ·cases h
 | [],_ :: _,_,_,_,h=>by simp [flatArgs] at h
 | .val _ _ :: _,[],_,_,_,h=>by simp [flatArgs] at h
 | .ptr _ :: _,[],_,_,_,h=>by simp [flatArgs] at h
theorem flatPs_cells {w:World}:∀ {ls:List (List CK)} {ps:List Rg} {f:Fl},flatPs w ls ps = some f -> lensOk ls ps -> ∀ q,q ∈ ps -> ∀ j,j < q.len -> ∃ v,w.cell? ⟨q.blk,q.off + j,none⟩ = some v /\ oneCell v = true
 | [],[],f,h,_,q,hq,_,_=>by cases hq
 | l :: ls,r :: rs,f,h,⟨hl,hls⟩,q,hq,j,hj=>by
  unfold flatPs at h
  split at h
  ·rename_i i b is bs h1 h2
   rcases List.mem_cons.1 hq with rfl | hq
   ·cases hr:readCells w q.blk q.off l.length with
    | none=>rw [hr] at h1; simp at h1
    | some vs =>
     rw [hr] at h1
     simp only [Option.bind_some] at h1
     obtain ⟨g1,g2⟩:=readCells_get hr
     have hlt:j < vs.length:=by omega
     exact ⟨vs[j],g2 j _ (List.getElem?_eq_getElem hlt),flatC_oneCell h1 _ (List.getElem_mem hlt)⟩
   ·exact flatPs_cells h2 hls q hq j hj
  ·cases h
 | [],_ :: _,f,h,_,_,_,_,_=>by simp [flatPs] at h
 | _ :: _,[],f,h,_,_,_,_,_=>by simp [flatPs] at h

theorem junk_move {N:Nat} {R:List Rg} {Q:Rg -> Prop} {β:Beta} {ρ:Env} {w w':World} {hp:Hp} {pp:PP} {ps:List Rg} (hb:BetaOk N R Q β w) (hh:heapMt β ρ hp w) (hj:∀ p,p ∈ pp -> Junk hp p) (hpp:ppR β pp ps) (hk:Keep ps w w')
  (hc:∀ q,q ∈ ps -> ∀ j,j < q.len -> ∃ v,w'.cell? ⟨q.blk,q.off + j,none⟩ = some v /\ oneCell v = true):heapMt β ρ hp w':=by
 intro id b hb' hg
 cases hv:vecOf b.cells with
 | some y =>
  have hm:=hh id b hb' hg
  have hm2:=blkMt_jk (β:=β) (β':=β) (ρ:=ρ) (w:=w) (w':=w') (p:=fun _=>true) (Mv.of hb (ExtP.refl _ β)) (.inr rfl) (fun r hr j hj=>?_) hm
  ·rwa [Blk.jk_true] at hm2
  ·obtain ⟨_,r1,_,_,hr1,hrow,_⟩:=(blkMt_row hv).1 hm
   rw [hr] at hr1
   cases hr1
   have hpl:=(hb.place id r hr).resolve_left (by omega)
   refine ⟨hk.cell _ hpl fun q hq hi=>?_,hk.frz _ hpl⟩
   obtain ⟨p,r',hp',hr',rfl,hle,hro',hrow'⟩:=ppR_mem hpp q hq
   unfold inRg at hi
   simp only at hi
   have hne:p.1 ≠ id:=fun e=>by rw [e,hr] at hr'; cases hr'; rw [hrow] at hrow'; cases hrow'
   have:=(hb.apart _ _ _ _ hne hr' hr).resolve_left fun hh=>by rw [hh.1] at hro'; cases hro'
   unfold Rg.apart at this
   omega
 | none =>
 obtain ⟨r,hr,hrow,hl,hro,hcs,hf⟩:=(blkMt_cs hv).1 (hh id b hb' hg)
 by_cases h00:b.cells.length = 0
 ·exact (blkMt_cs hv).2 ⟨r,hr,hrow,hl,hro,by rw [List.eq_nil_of_length_eq_zero h00]; trivial,fun _ j hj=>by omega⟩
 have hpl:=(hb.place id r hr).resolve_left (by omega)
 refine (blkMt_cs hv).2 ⟨r,hr,hrow,hl,hro,?_,fun h0 j hj=>(hk.frz _ hpl).trans (hf h0 j hj)⟩
 rw [cellsAt_iff] at *
 intro j c hjc
 have hjl:=(List.getElem?_eq_some_iff.1 hjc).1
 by_cases hin:∃ q,q ∈ ps /\ inRg q ⟨r.blk,r.off + j,none⟩
 ·obtain ⟨q,hq,hi⟩:=hin
  obtain ⟨p,r',hp',hr',rfl,hle,hro',_⟩:=ppR_mem hpp q hq
  unfold inRg at hi
  simp only at hi
  have hid:p.1 = id:=by
   apply Classical.byContradiction
   intro hne
   have:=(hb.apart _ _ _ _ hne hr' hr).resolve_left fun hh=>by rw [hh.1] at hro'; cases hro'
   unfold Rg.apart at this
   omega
  subst hid
  rw [hr] at hr'
  cases hr'
  have:=hj p hp' b hb' j (by omega) (by omega)
  rw [hjc] at this
  simp only [Option.some.injEq] at this
  subst this
  obtain ⟨v,hv,ho⟩:=hc _ hq (j - p.2.1) (by simp only; omega)
  simp only at hv
  rw [show r.off + p.2.1 + (j - p.2.1) = r.off + j by omega] at hv
  exact ⟨v,hv,ho⟩
 ·obtain ⟨v,hv,hm⟩:=hcs j c hjc
  exact ⟨v,(hk.cell _ hpl fun q hq hi=>hin ⟨q,hq,hi⟩).trans hv,hm⟩

def fillAll (FI:Nat -> A) (FB:Nat -> B):Hp -> PP -> List (List CK) -> Nat -> Nat -> Option Hp
 | hp,[],[],_,_=>some hp
 | hp,(id,off,n) :: l,ck :: cks,i,b=>match hp id with
  | some bk=>if Nat.ble (off + ck.length) bk.cells.length && (vecOf bk.cells).isNone && noSl ck then fillAll FI FB (hp.set id { bk with cells:=setAt bk.cells off (freshC FI FB [] ck i b) }) l cks (i + nI ck) (b + nB ck) else none
  | none=>none
 | _,_,_,_,_=>none
theorem getD_append_left {α:Type} (l m:List α) (j:Nat) (d:α) (h:j < l.length):(l ++ m).getD j d = l.getD j d:=by
 simp [List.getD_eq_getElem?_getD,List.getElem?_append_left h]
theorem getD_append_right {α:Type} (l m:List α) (j:Nat) (d:α):(l ++ m).getD (l.length + j) d = m.getD j d:=by
 rw [List.getD_eq_getElem?_getD,List.getElem?_append_right (by omega),Nat.add_sub_cancel_left,<- List.getD_eq_getElem?_getD]
def sumI:List (List CK) -> Nat
 | []=>0
 | l :: ls=>nI l + sumI ls
def sumB:List (List CK) -> Nat
 | []=>0
 | l :: ls=>nB l + sumB ls
theorem flatPs_len {w:World}:∀ {ls:List (List CK)} {ps:List Rg} {f:Fl},flatPs w ls ps = some f -> f.1.length = sumI ls /\ f.2.length = sumB ls
 | [],[],f,h=>by simp only [flatPs,Option.some.injEq] at h; subst h; exact ⟨rfl,rfl⟩
 | l :: ls,r :: rs,f,h=>by
  unfold flatPs at h
  split at h
  ·rename_i i b is bs h1 h2
   simp only [Option.some.injEq] at h
   subst h
   cases hr:readCells w r.blk r.off l.length with
   | none=>rw [hr] at h1; simp at h1
   | some vs =>
    rw [hr] at h1
    simp only [Option.bind_some] at h1
    have e1:=flatC_len h1
    have e2:=flatPs_len h2
    simp only [sumI,sumB,List.length_append] at e1 e2 ⊢
    omega
  ·cases h
 | [],_ :: _,f,h=>by simp [flatPs] at h
 | _ :: _,[],f,h=>by simp [flatPs] at h
theorem fillAll_heap {FI:Nat -> A} {FB:Nat -> B} {β:Beta} {ρ:Env} {w:World}:∀ {pp:PP} {ps:List Rg} {ls:List (List CK)} {hp hp1:Hp} {i b:Nat} {f:Fl},fillAll FI FB hp pp ls i b = some hp1 -> ppR β pp ps -> flatPs w ls ps = some f ->
  (∀ j,j < sumI ls -> (FI (i + j)).d ρ = f.1.getD j 0) -> (∀ j,j < sumB ls -> (FB (b + j)).d ρ = f.2.getD j false) -> heapMt β ρ hp w -> heapMt β ρ hp1 w
 | [],[],[],hp,hp1,i,b,f,h,_,_,_,_,hh=>by simp only [fillAll,Option.some.injEq] at h; exact h ▸ hh
 | (id,off,n) :: pp,q :: ps,ck :: cks,hp,hp1,i,b,f,h,⟨⟨r,hr,hq,hle2,hro,_⟩,hpp⟩,hf,hi,hbo,hh=>by
  unfold fillAll at h
  split at h
  ·rename_i bk hbk
   split at h
   ·rename_i hle
    simp only [Bool.and_eq_true,Nat.ble_eq,Option.isNone_iff_eq_none] at hle
    obtain ⟨⟨hle,hvn⟩,hns⟩:=hle
    unfold flatPs at hf
    split at hf
    ·rename_i i1 b1 is bs h1 h2
     simp only [Option.some.injEq] at hf
     subst hf
     cases hrd:readCells w q.blk q.off ck.length with
     | none=>rw [hrd] at h1; simp at h1
     | some vs =>
      rw [hrd] at h1
      simp only [Option.bind_some] at h1
      have e1:=flatC_len h1
      have hm:=freshC_mt (FI:=FI) (FB:=FB) (β:=β) (ρ:=ρ) (w:=w) (ps:=[]) (pp:=[]) trivial (i:=i) (b:=b) h1 (fun r hr=>by rw [rgC_noSl (by unfold noSl at hns; simpa using hns)] at hr; cases hr)
       (fun j hj=>by have:=hi j (by simp only [sumI]; omega); rwa [getD_append_left _ _ _ _ (by simp only at e1; omega)] at this)
       (fun j hj=>by have:=hbo j (by simp only [sumB]; omega); rwa [getD_append_left _ _ _ _ (by simp only at e1; omega)] at this)
      refine fillAll_heap h hpp h2 (fun j hj=>?_) (fun j hj=>?_) (heapMt_set hh fun hg=>?_)
      ·have:=hi (nI ck + j) (by simp only [sumI]; omega)
       rw [show i + nI ck + j = i + (nI ck + j) by omega,this]
       simp only at e1
       rw [<- e1.1,getD_append_right]
      ·have:=hbo (nB ck + j) (by simp only [sumB]; omega)
       rw [show b + nB ck + j = b + (nB ck + j) by omega,this]
       simp only at e1
       rw [<- e1.2.1,getD_append_right]
      ·refine blk_setAt hvn (by rw [freshC_length]; exact hle) (hh id bk hbk hg) (fun r' hr'=>?_) (fun _ _ _ _ _=>rfl) (fun _ _ _=>rfl)
       simp only at hr hq hr'
       rw [hr] at hr'
       cases hr'
       subst hq
       exact cellsAt_of_read hrd hm
    ·cases hf
   ·cases h
  ·cases h
 | [],[],_ :: _,_,_,_,_,_,h,_,_,_,_,_=>by simp [fillAll] at h
 | _ :: _,_,[],_,_,_,_,_,h,_,_,_,_,_=>by simp [fillAll] at h
 | [],_ :: _,_,_,_,_,_,_,_,hpp,_,_,_,_=>hpp.elim
 | _ :: _,[],_ :: _,_,_,_,_,_,_,hpp,_,_,_,_=>hpp.elim

def freshT (FI:Nat -> A) (FB:Nat -> B) (pp:List (Nat × Nat)):List (Bool × List CK) -> Nat -> Nat -> List (Bool × List C)
 | [],_,_=>[]
 | p :: l,i,b=>(p.1,freshC FI FB pp p.2 i b) :: freshT FI FB pp l (i + nI p.2) (b + nB p.2)
def freshS (FI:Nat -> A) (FB:Nat -> B) (pp:List (Nat × Nat)) (s:Sum) (i b:Nat):S :=
 if s.tup then .tup (freshT FI FB pp s.res i b) else match s.res with
  | [p]=>.one p.1 (freshC FI FB pp p.2 i b)
  | _=>.any
def resI:List (Bool × List CK) -> Nat
 | []=>0
 | p :: l=>nI p.2 + resI l
def resB:List (Bool × List CK) -> Nat
 | []=>0
 | p :: l=>nB p.2 + resB l
theorem flat1_inv {w:World} {ps:List Rg} {agg:Bool} {l:List CK} {v:Value} {f:Fl} (h:flat1 w ps agg l v = some f):(∃ vs,flatC w ps l vs = some f /\ (if agg then v = .agg vs.toArray else vs = [v]) /\ rg1 w agg l v = rgC w l vs):=by
 unfold flat1 at h
 cases agg
 ·simp only [Bool.false_eq_true,if_false] at h
  split at h
  ·exact ⟨[v],h,by simp,by simp [rg1]⟩
  ·cases h
 ·simp only [if_true] at h
  split at h
  ·rename_i vs; exact ⟨vs.toList,h,by simp,by simp [rg1]⟩
  ·cases h
theorem fresh1_mt {FI:Nat -> A} {FB:Nat -> B} {β:Beta} {ρ:Env} {w:World} {ps:List Rg} {pp:List (Nat × Nat)} (hpp:ppOk β pp ps) {agg:Bool} {l:List CK} {v:Value} {f:Fl} {i b:Nat} (h:flat1 w ps agg l v = some f) (hsl:∀ r,r ∈ rg1 w agg l v -> ∃ i,β i = some r)
  (hi:∀ j,j < nI l -> (FI (i + j)).d ρ = f.1.getD j 0) (hb:∀ j,j < nB l -> (FB (b + j)).d ρ = f.2.getD j false):mt1 β ρ agg (freshC FI FB pp l i b) v /\ f.1.length = nI l /\ f.2.length = nB l:=by
 obtain ⟨vs,hf,hv,hrg⟩:=flat1_inv h
 have hm:=freshC_mt hpp hf (fun r hr=>hsl r (by rw [hrg]; exact hr)) hi hb
 have hl:=flatC_len hf
 refine ⟨?_,hl.1,hl.2.1⟩
 unfold mt1
 cases agg
 ·simp only [Bool.false_eq_true,if_false] at hv ⊢
  subst hv
  match hc:freshC FI FB pp l i b,hm with
  | [c],hm=>exact ⟨c,rfl,hm.1⟩
 ·simp only [if_true] at hv ⊢
  exact ⟨vs.toArray,hv,by simpa using hm⟩
theorem freshT_mt {FI:Nat -> A} {FB:Nat -> B} {β:Beta} {ρ:Env} {w:World} {ps:List Rg} {pp:List (Nat × Nat)} (hpp:ppOk β pp ps):∀ {l:List (Bool × List CK)} {vs:List Value} {f:Fl} {i b:Nat},flatTup w ps l vs = some f -> (∀ r,r ∈ rgTup w l vs -> ∃ i,β i = some r) ->
  (∀ j,j < resI l -> (FI (i + j)).d ρ = f.1.getD j 0) -> (∀ j,j < resB l -> (FB (b + j)).d ρ = f.2.getD j false) -> mtT β ρ (freshT FI FB pp l i b) vs /\ f.1.length = resI l /\ f.2.length = resB l
 | [],[],f,i,b,h,_,_,_=>by simp only [flatTup,Option.some.injEq] at h; subst h; exact ⟨trivial,rfl,rfl⟩
 | p :: l,v :: vs,f,i,b,h,hsl,hi,hb=>by
  unfold flatTup at h
  split at h
  ·rename_i i1 b1 is bs h1 h2
   simp only [Option.some.injEq] at h
   subst h
   have hl:i1.length = nI p.2 /\ b1.length = nB p.2:=by
    obtain ⟨us,hf,_,_⟩:=flat1_inv h1
    have:=flatC_len hf
    exact ⟨this.1,this.2.1⟩
   obtain ⟨g1,_,_⟩:=fresh1_mt (ρ:=ρ) (i:=i) (b:=b) hpp h1 (fun r hr=>hsl r (by unfold rgTup; simp [hr]))
    (fun j hj=>by have:=hi j (by simp only [resI]; omega); rwa [getD_append_left _ _ _ _ (by omega)] at this)
    (fun j hj=>by have:=hb j (by simp only [resB]; omega); rwa [getD_append_left _ _ _ _ (by omega)] at this)
   obtain ⟨g2,g3,g4⟩:=freshT_mt (i:=i + nI p.2) (b:=b + nB p.2) hpp h2 (fun r hr=>hsl r (by unfold rgTup; simp [hr]))
    (fun j hj=>by
     have:=hi (nI p.2 + j) (by simp only [resI]; omega)
     rw [show i + nI p.2 + j = i + (nI p.2 + j) by omega,this,<- hl.1,getD_append_right])
    (fun j hj=>by
     have:=hb (nB p.2 + j) (by simp only [resB]; omega)
     rw [show b + nB p.2 + j = b + (nB p.2 + j) by omega,this,<- hl.2,getD_append_right])
   refine ⟨⟨g1,g2⟩,?_,?_⟩
   ·simp only [resI,List.length_append] at g3 ⊢; omega
   ·simp only [resB,List.length_append] at g4 ⊢; omega
  ·cases h
 | [],_ :: _,f,_,_,h,_,_,_=>by simp [flatTup] at h
 | _ :: _,[],f,_,_,h,_,_,_=>by simp [flatTup] at h
theorem freshS_mt {FI:Nat -> A} {FB:Nat -> B} {β:Beta} {ρ:Env} {w:World} {ps:List Rg} {pp:List (Nat × Nat)} (hpp:ppOk β pp ps) {s:Sum} {v:Value} {f:Fl} {i b:Nat} (h:flatRes w ps s v = some f) (hsl:∀ r,r ∈ resRgs w s v -> ∃ i,β i = some r)
  (hi:∀ j,j < resI s.res -> (FI (i + j)).d ρ = f.1.getD j 0) (hb:∀ j,j < resB s.res -> (FB (b + j)).d ρ = f.2.getD j false):(freshS FI FB pp s i b).mt β ρ v /\ f.1.length = resI s.res /\ f.2.length = resB s.res:=by
 unfold flatRes at h
 unfold resRgs at hsl
 unfold freshS
 split at h
 ·rename_i ht
  rw [if_pos ht] at hsl ⊢
  split at h
  ·rename_i vs
   obtain ⟨g1,g2⟩:=freshT_mt (i:=i) (b:=b) hpp h hsl hi hb
   exact ⟨⟨vs,rfl,g1⟩,g2⟩
  ·cases h
 ·rename_i ht
  rw [if_neg ht] at hsl ⊢
  split at h
  ·rename_i p hres
   rw [hres] at hi hb hsl ⊢
   simp only [resI,resB,Nat.add_zero] at hi hb ⊢
   exact fresh1_mt hpp h hsl hi hb
  ·cases h
end Go.Proofs.YtfgbfdlacnihkaaGreatDoor.Sx
namespace Go.Proofs.YtfgbfdlacnihkaaGreatDoor.Sx
open Go

def newCall (f:Nat) (ai:List A) (ab:List B) (ni nb:Nat):M (Nat × Nat):=fun c =>
 some ((c.i,c.b),{ c with i:=c.i + ni,b:=c.b + nb },[.call f ai ab c.i ni c.b nb])
theorem newCall_snd {Φ:Funs} {ρ:Env} (f:Nat) (ai:List A) (ab:List B) (ni nb:Nat):Snd Φ ρ (newCall f ai ab ni nb) (fun p =>
  (∀ j,j < ni -> ρ.i (p.1 + j) = (Φ f (ai.map (A.d ρ)) (ab.map (B.d ρ))).1.getD j 0) /\ (∀ j,j < nb -> ρ.b (p.2 + j) = (Φ f (ai.map (A.d ρ)) (ab.map (B.d ρ))).2.getD j false)):=by
 intro c x c' o he hg
 simp only [newCall,Option.some.injEq,Prod.mk.injEq] at he
 obtain ⟨rfl,rfl,rfl⟩:=he
 exact hg (.call f ai ab c.i ni c.b nb) (by simp)

abbrev Sums:=Nat -> Option Sum

def AllOk (P:Program) (Φ:Funs) (gl:Gl) (X:Sums):Prop :=
 ∀ f s,X f = some s -> (match s.sl with | none=>Contract P gl f s (Φ f) | some p=>TabContract P gl f p) /\ (∀ args w,(callFunc f args).run P w = .ok (.enter f args) w) /\
  ∀ S,s.inl = some S -> s.pre = false /\ ∀ is bs,Φ f is bs = S.run Fun0 false is bs

def A.sub (is:List A):A -> A
 | .v n=>is.getD n (.c 0)
 | .c k=>.c k
def B.sub (bs:List B):B -> B
 | .v n=>bs.getD n (.c false)
 | .c k=>.c k
def mkTab (l:List Int) (a:A):M A :=
 match a with
 | .c k=>pure (.c (l.getD k.toNat 0))
 | a=>newI (.tab l a)
theorem mkTab_snd {Φ:Funs} {ρ:Env} (l:List Int) (a:A):Snd Φ ρ (mkTab l a) (fun x=>x.d ρ = l.getD (a.d ρ).toNat 0):=by
 unfold mkTab
 split
 ·exact Snd.pure rfl
 ·exact newI_snd _
def instI (is:List A) (bs:List B):RI -> M A
 | .ar op k a b=>mkAr op k (a.sub is) (b.sub is)
 | .cv k a=>mkCv k (a.sub is)
 | .ite c a b=>mkIteI (c.sub bs) (a.sub is) (b.sub is)
 | .mn a b=>mkMn (a.sub is) (b.sub is)
 | .mx a b=>mkMx (a.sub is) (b.sub is)
 | .tab l a=>mkTab l (a.sub is)
 | .get q a s k=>mkGet (q.sub is) (a.sub is) s k
 | .lenq q s=>mkLenq (q.sub is) s
 | .rep n s=>mkRep (n.sub is) s
 | .setq q a s k x=>mkSetq (q.sub is) (a.sub is) s k (x.sub is)
 | .cat p q=>mkCat (p.sub is) (q.sub is)
 | .sub q a b s=>mkSub (q.sub is) (a.sub is) (b.sub is) s
 | .lst l=>mkLst (l.map fun a=>a.sub is)
 | .b2i b=>mkB2i (b.sub bs)
def instB (is:List A) (bs:List B):RB -> M B
 | .cm op a b=>mkCm op (a.sub is) (b.sub is)
 | .not a=>mkNot (a.sub bs)
 | .and a b=>mkAnd (a.sub bs) (b.sub bs)
 | .or a b=>mkOr (a.sub bs) (b.sub bs)
 | .eqb a b=>mkEqb (a.sub bs) (b.sub bs)
 | .ite c a b=>mkIteB (c.sub bs) (a.sub bs) (b.sub bs)
 | .getb q a s k=>mkGetb (q.sub is) (a.sub is) s k
def instE:List Em -> List A -> List B -> M (List A × List B)
 | [],is,bs=>pure (is,bs)
 | .di _ r :: l,is,bs=>do
  let a <- instI is bs r
  instE l (is ++ [a]) bs
 | .db _ r :: l,is,bs=>do
  let b <- instB is bs r
  instE l is (bs ++ [b])
 | .ob _ _ :: l,is,bs=>instE l is bs
 | .call _ _ _ _ _ _ _ :: _,_,_=>M.fail
def instS (S:Smry) (ai:List A) (ab:List B):M ((Nat -> A) × (Nat -> B)):=do
 let p <- instE S.em ai ab
 pure (fun j=>(S.ri.getD j (.c 0)).sub p.1,fun j=>(S.rb.getD j (.c false)).sub p.2)
theorem map_getD {α β:Type} (f:α -> β) (l:List α) (n:Nat) (d:α):(l.map f).getD n (f d) = f (l.getD n d):=by
 simp only [List.getD_eq_getElem?_getD,List.getElem?_map]
 cases l[n]? <;> rfl
section
variable {Φ:Funs} {ρ:Env}
theorem A.sub_d (is:List A) (bs:List Bool) (a:A):(a.sub is).d ρ = a.d (envOf (is.map (A.d ρ)) bs):=by
 cases a with
 | v n=>exact (map_getD (A.d ρ) is n (.c 0)).symm
 | c k=>rfl
theorem B.sub_d (is:List Int) (bs:List B) (a:B):(a.sub bs).d ρ = a.d (envOf is (bs.map (B.d ρ))):=by
 cases a with
 | v n=>exact (map_getD (B.d ρ) bs n (.c false)).symm
 | c k=>rfl
theorem instI_snd (is:List A) (bs:List B) (r:RI):Snd Φ ρ (instI is bs r) (fun x=>x.d ρ = r.d (envOf (is.map (A.d ρ)) (bs.map (B.d ρ)))):=by
 have h1:=fun a=>A.sub_d (ρ:=ρ) is (bs.map (B.d ρ)) a
 have h2:=fun a=>B.sub_d (ρ:=ρ) (is.map (A.d ρ)) bs a
 cases r with
 | ar op k a b=>exact (mkAr_snd _ _ _ _).mono fun x hx=>by rw [hx,h1,h1]; rfl
 | cv k a=>exact (mkCv_snd _ _).mono fun x hx=>by rw [hx,h1]; rfl
 | ite c a b=>exact (mkIteI_snd _ _ _).mono fun x hx=>by rw [hx,h1,h1,h2]; rfl
 | mn a b=>exact (mkMn_snd _ _).mono fun x hx=>by rw [hx,h1,h1]; rfl
 | mx a b=>exact (mkMx_snd _ _).mono fun x hx=>by rw [hx,h1,h1]; rfl
 | tab l a=>exact (mkTab_snd _ _).mono fun x hx=>by rw [hx,h1]; rfl
 | get q a s k=>exact (mkGet_snd _ _ _ _).mono fun x hx=>by rw [hx]; simp only [RI.d,h1]
 | lenq q s=>exact (mkLenq_snd _ _).mono fun x hx=>by rw [hx]; simp only [RI.d,h1]
 | rep n s=>exact (mkRep_snd _ _).mono fun x hx=>by rw [hx]; simp only [RI.d,h1]
 | setq q a s k x=>exact (mkSetq_snd _ _ _ _ _).mono fun x hx=>by rw [hx]; simp only [RI.d,h1]
 | cat p q=>exact (mkCat_snd _ _).mono fun x hx=>by rw [hx]; simp only [RI.d,h1]
 | sub q a b s=>exact (mkSub_snd _ _ _ _).mono fun x hx=>by rw [hx]; simp only [RI.d,h1]
 | lst l=>exact (mkLst_snd _).mono fun x hx=>by rw [hx,List.map_map]; simp only [RI.d]; congr 2; funext a; exact h1 a
 | b2i b=>exact (mkB2i_snd _).mono fun x hx=>by rw [hx]; simp only [RI.d,h2]
theorem instB_snd (is:List A) (bs:List B) (r:RB):Snd Φ ρ (instB is bs r) (fun x=>x.d ρ = r.d (envOf (is.map (A.d ρ)) (bs.map (B.d ρ)))):=by
 have h1:=fun a=>A.sub_d (ρ:=ρ) is (bs.map (B.d ρ)) a
 have h2:=fun a=>B.sub_d (ρ:=ρ) (is.map (A.d ρ)) bs a
 cases r with
 | cm op a b=>exact (mkCm_snd _ _ _).mono fun x hx=>by rw [hx,h1,h1]; rfl
 | not a=>exact (mkNot_snd _).mono fun x hx=>by rw [hx,h2]; rfl
 | and a b=>exact (mkAnd_snd _ _).mono fun x hx=>by rw [hx,h2,h2]; rfl
 | or a b=>exact (mkOr_snd _ _).mono fun x hx=>by rw [hx,h2,h2]; rfl
 | eqb a b=>exact (mkEqb_snd _ _).mono fun x hx=>by rw [hx,h2,h2]; rfl
 | ite c a b=>exact (mkIteB_snd _ _ _).mono fun x hx=>by rw [hx,h2,h2,h2]; rfl
 | getb q a s k=>exact (mkGetb_snd _ _ _ _).mono fun x hx=>by rw [hx]; simp only [RB.d,h1]
theorem instE_snd:∀ (l:List Em) (is:List A) (bs:List B),Snd Φ ρ (instE l is bs) (fun p=>(p.1.map (A.d ρ),p.2.map (B.d ρ)) = evEm Fun0 l (is.map (A.d ρ)) (bs.map (B.d ρ)))
 | [],is,bs=>Snd.pure rfl
 | .di _ r :: l,is,bs=>by
  unfold instE
  refine Snd.bind (instI_snd is bs r) fun a ha=>(instE_snd l _ _).mono fun p hp=>?_
  rw [hp,evEm,List.map_append,List.map_singleton,ha]
 | .db _ r :: l,is,bs=>by
  unfold instE
  refine Snd.bind (instB_snd is bs r) fun a ha=>(instE_snd l _ _).mono fun p hp=>?_
  rw [hp,evEm,List.map_append,List.map_singleton,ha]
 | .ob _ _ :: l,is,bs=>by
  unfold instE
  exact (instE_snd l _ _).mono fun p hp=>by rw [hp,evEm]
 | .call _ _ _ _ _ _ _ :: _,_,_=>Snd.fail
theorem instS_snd (S:Smry) (ai:List A) (ab:List B):Snd Φ ρ (instS S ai ab) (fun p =>
  (∀ j,(p.1 j).d ρ = (S.run Fun0 false (ai.map (A.d ρ)) (ab.map (B.d ρ))).1.getD j 0) /\ (∀ j,(p.2 j).d ρ = (S.run Fun0 false (ai.map (A.d ρ)) (ab.map (B.d ρ))).2.getD j false)):=by
 unfold instS
 refine Snd.bind (instE_snd S.em ai ab) fun p hp=>Snd.pure ⟨fun j=>?_,fun j=>?_⟩
 ·simp only [Smry.run,<- hp]
  rw [A.sub_d p.1 (p.2.map (B.d ρ))]
  exact (map_getD (A.d (envOf (p.1.map (A.d ρ)) (p.2.map (B.d ρ)))) S.ri j (.c 0)).symm
 ·simp only [Smry.run,<- hp,Bool.false_eq_true,if_false,List.nil_append]
  rw [B.sub_d (p.1.map (A.d ρ)) p.2]
  exact (map_getD (B.d (envOf (p.1.map (A.d ρ)) (p.2.map (B.d ρ)))) S.rb j (.c false)).symm
end
def callM (s:Sum) (f:Nat) (ai:List A) (ab:List B) (ni nb:Nat):M ((Nat -> A) × (Nat -> B)) :=
 match s.inl with
 | some S=>instS S ai ab
 | none=>do
  let n <- newCall f ai ab ni nb
  pure (fun j=>.v (n.1 + j),fun j=>.v (n.2 + j))

def ppIds:PP -> List Nat
 | []=>[]
 | p :: l=>if (ppIds l).contains p.1 then ppIds l else p.1 :: ppIds l
theorem ppIds_mem:∀ {pp:PP} {p:Nat × Nat × Nat},p ∈ pp -> p.1 ∈ ppIds pp
 | q :: l,p,h=>by
  unfold ppIds
  rcases List.mem_cons.1 h with rfl | h
  ·split
   ·rename_i hc; simpa using hc
   ·simp
  ·have:=ppIds_mem h
   split
   ·exact this
   ·simp [this]

def nSlR:List (Bool × List CK) -> Nat
 | []=>0
 | p :: l=>nSl p.2 + nSlR l
def xCall0 (X:Sums) (Γ:Gd) (hp:Hp) (f:Nat) (xs:List S):M Res:=do
 let s <- lift (X f)
 let t <- lift (takeArgs Γ hp s.args xs)
 let hp0 <- lift (junkAll hp t.2.2)
 if apartS t.2.2 && s.sl.isNone && ((ptrShapes s.args).all fun l=>!l.isEmpty) && (nSlR s.res == 0 || !(hotA hp 1 s.args xs || hotA hp 2 s.args xs)) && (t.2.2.isEmpty || !hotA hp 2 s.args xs) then do
  let ls:=ptrShapes s.args
  let pb:=if s.pre then 1 else 0
  let n <- callM s f t.1 t.2.1 (resI s.res + sumI ls) (pb + (resB s.res + sumB ls))
  oblige (if s.pre then n.2 0 else .c true)
  let hp1 <- lift (fillAll n.1 n.2 hp0 t.2.2 ls (resI s.res) (pb + resB s.res))
  if gOk Γ hp1 (ppIds t.2.2) then
   pure { s:=freshS n.1 n.2 (t.2.2.map fun p=>(p.1,p.2.1)) s 0 pb,w:=collectW hp1 (ppIds t.2.2) }
  else M.fail
 else M.fail
def newIds (k:Nat):M Unit:=fun c=>some ((),{ c with id:=c.id + k },[])
def xCall (X:Sums) (Γ:Gd) (hp:Hp) (f:Nat) (xs:List S):M Res:=do
 let s <- lift (X f)
 let r <- sameId (xCall0 X Γ hp f xs)
 newIds (nSlR s.res)
 pure r

def bindL (β:Beta):Nat -> List Rg -> Beta
 | _,[]=>β
 | lo,r :: rs=>bindL (β.set lo r) (lo + 1) rs
theorem bindL_ok {N:Nat} {R:List Rg} {Q:Rg -> Prop} {w:World}:∀ {rs:List Rg} {β:Beta} {lo:Nat},BetaOk N R Q β w ->
  (∀ r,r ∈ rs -> r.ro = true /\ r.row = false /\ (r.len = 0 \/ r.blk < w.heap.size) /\ (N <= r.blk \/ Q r) /\ (∀ ks l,r.sq = some (ks,l) -> l.length = r.len /\ seqAt w r.blk r.off ks l) /\ ∀ j q,β j = some q -> q.ro = false -> r.apart q) ->
  (∀ i,lo <= i -> i < lo + rs.length -> β i = none) ->
  BetaOk N R Q (bindL β lo rs) w /\ (∀ i r,β i = some r -> bindL β lo rs i = some r) /\ (∀ i,(i < lo \/ lo + rs.length <= i) -> bindL β lo rs i = β i) /\ ∀ r,r ∈ rs -> ∃ i,bindL β lo rs i = some r
 | [],β,lo,hb,_,_=>⟨hb,fun _ _ h=>h,fun _ _=>rfl,by simp⟩
 | r :: rs,β,lo,hb,h,hf=>by
  obtain ⟨h1,h2,h3,h4,h5,h6⟩:=h r (by simp)
  have hb1:BetaOk N R Q (β.set lo r) w:=hb.bind (W:=[]) (by simp) (Keep.refl _ _) (fun j q hj hq=>by
   cases e:q.ro
   ·exact .inr (h6 j q hq e)
   ·exact .inl ⟨h1,rfl⟩) h3 (.inl h1) (fun ks l hs=>⟨h1,h2,h5 ks l hs⟩) (fun _=>h4) (fun e=>by rw [h2] at e; cases e)
  obtain ⟨g1,g2,g3,g4⟩:=bindL_ok (lo:=lo + 1) (rs:=rs) hb1 (fun q hq=>by
   obtain ⟨k1,k2,k3,k4,k5,k6⟩:=h q (by simp [hq])
   refine ⟨k1,k2,k3,k4,k5,fun j p hp hro=>?_⟩
   unfold Beta.set at hp
   split at hp
   ·cases hp; rw [h1] at hro; cases hro
   ·exact k6 j p hp hro) (fun i hi hi2=>by
   rw [Beta.set_other _ _ (by omega)]
   exact hf i (by omega) (by simp; omega))
  refine ⟨g1,fun i q hi=>g2 i q ?_,fun i hi=>?_,fun q hq=>?_⟩
  ·by_cases e:i = lo
   ·subst e
    have:=hf i (Nat.le_refl _) (by simp)
    rw [hi] at this
    cases this
   ·rw [Beta.set_other _ _ e]; exact hi
  ·simp only [List.length_cons] at hi
   show bindL (β.set lo r) (lo + 1) rs i = β i
   rw [g3 i (by omega),Beta.set_other _ _ (by omega)]
  ·rcases List.mem_cons.1 hq with rfl | hq
   ·exact ⟨lo,g2 lo q (Beta.set_same _ _ _)⟩
   ·exact g4 q hq
theorem rgC_len {w:World}:∀ {l:List CK} {vs:List Value},(rgC w l vs).length <= nSl l
 | [],_=>by simp [rgC]
 | .sl ks :: l,[]=>by simp [rgC]
 | .int _ :: l,[]=>by simp [rgC]
 | .bool :: l,[]=>by simp [rgC]
 | .pt _ _ :: l,[]=>by simp [rgC]
 | .str :: l,[]=>by simp [rgC]
 | .sl ks :: l,v :: vs=>by
  have:=rgC_len (w:=w) (l:=l) (vs:=vs)
  unfold rgC nSl
  rw [List.length_append]
  split <;> simp <;> omega
 | .int _ :: l,v :: vs=>by have:=rgC_len (w:=w) (l:=l) (vs:=vs); unfold rgC nSl; exact this
 | .bool :: l,v :: vs=>by have:=rgC_len (w:=w) (l:=l) (vs:=vs); unfold rgC nSl; exact this
 | .pt _ _ :: l,v :: vs=>by have:=rgC_len (w:=w) (l:=l) (vs:=vs); unfold rgC nSl; exact this
 | .str :: l,v :: vs=>by have:=rgC_len (w:=w) (l:=l) (vs:=vs); unfold rgC nSl; exact this
theorem rg1_len {w:World} {agg:Bool} {l:List CK} {v:Value}:(rg1 w agg l v).length <= nSl l:=by
 unfold rg1
 split
 ·split
  ·exact rgC_len
  ·simp
 ·exact rgC_len
theorem resRgs_len {w:World} {s:Sum} {v:Value}:(resRgs w s v).length <= nSlR s.res:=by
 unfold resRgs
 have:∀ (l:List (Bool × List CK)) (vs:List Value),(rgTup w l vs).length <= nSlR l:=by
  intro l
  induction l with
  | nil=>intro vs; simp [rgTup]
  | cons p l ih =>
   intro vs
   cases vs with
   | nil=>simp [rgTup]
   | cons v vs =>
    unfold rgTup nSlR
    rw [List.length_append]
    have h1:=rg1_len (w:=w) (agg:=p.1) (l:=p.2) (v:=v)
    have h2:=ih vs
    omega
 split
 ·split
  ·exact this _ _
  ·simp
 ·split
  ·rename_i p hp
   rw [hp]
   unfold nSlR
   have:=rg1_len (w:=w) (agg:=p.1) (l:=p.2) (v:=v)
   omega
  ·simp
theorem rg1_sq {w:World} {agg:Bool} {l:List CK} {v:Value} {r:Rg} (h:r ∈ rg1 w agg l v):r.ro = true /\ r.row = false /\ ∃ ks q,r.sq = some (ks,q) /\ q.length = r.len /\ seqAt w r.blk r.off ks q:=by
 unfold rg1 at h
 split at h
 ·split at h
  ·exact rgC_sq h
  ·cases h
 ·exact rgC_sq h
theorem resRgs_sq {w:World} {s:Sum} {v:Value} {r:Rg} (h:r ∈ resRgs w s v):r.ro = true /\ r.row = false /\ ∃ ks q,r.sq = some (ks,q) /\ q.length = r.len /\ seqAt w r.blk r.off ks q:=by
 unfold resRgs at h
 have:∀ (l:List (Bool × List CK)) (vs:List Value),r ∈ rgTup w l vs -> r.ro = true /\ r.row = false /\ ∃ ks q,r.sq = some (ks,q) /\ q.length = r.len /\ seqAt w r.blk r.off ks q:=by
  intro l
  induction l with
  | nil=>intro vs h; simp [rgTup] at h
  | cons p l ih =>
   intro vs h
   cases vs with
   | nil=>simp [rgTup] at h
   | cons v vs =>
    unfold rgTup at h
    rcases List.mem_append.1 h with h | h
    ·exact rg1_sq h
    ·exact ih vs h
 split at h
 ·split at h
  ·exact this _ _ h
  ·cases h
 ·split at h
  ·exact rg1_sq h
  ·cases h
theorem rg_place {w:World} {r:Rg} {ks:List CK} {q:List Int} (h1:q.length = r.len) (h2:seqAt w r.blk r.off ks q):r.len = 0 \/ r.blk < w.heap.size:=by
 by_cases h:r.len = 0
 ·exact .inl h
 ·obtain ⟨ck,v,_,e2,_⟩:=h2 0 _ (List.getElem?_eq_getElem (show 0 < q.length by omega))
  exact .inr (World.block_lt_of_cell? w _ e2)

def tabBlk (p:IntKind × List Int):Blk:={ g:=[],ro:=true,cells:=p.2.map fun n=>.int p.1 (.c n) }
def xCallT (p:IntKind × List Int) (xs:List S):M Res:=if xs.isEmpty then do
  let id <- newId
  pure { s:=.one false [.sli id 0 p.2.length p.2.length],w:=[(id,tabBlk p)] }
 else M.fail
def xCallA (X:Sums) (Γ:Gd) (hp:Hp) (f:Nat) (xs:List S):M Res:=match (X f).bind (·.sl) with
 | some p=>xCallT p xs
 | none=>xCall X Γ hp f xs

theorem ppOk_of {β:Beta}:∀ {pp:PP} {ps:List Rg},ppR β pp ps -> ppOk β (pp.map fun p=>(p.1,p.2.1)) ps
 | [],[],_=>trivial
 | p :: pp,q :: ps,⟨⟨r,hr,hq,_,_,_⟩,h⟩=>⟨⟨r,hr,by rw [hq],by rw [hq]⟩,ppOk_of h⟩
theorem flatArgs_mem' {w:World}:∀ {ss:List Sh} {vs:List Value} {is:List Int} {bs:List Bool} {ps:List Rg},flatArgs ss vs w = some (is,bs,ps) -> ((ptrShapes ss).all fun l=>!l.isEmpty) = true ->
  ∀ r,r ∈ ps -> (r.ro = false /\ r.sq = none /\ r.row = false) /\ ∃ v,w.cell? ⟨r.blk,r.off,none⟩ = some v
 | [],[],is,bs,ps,h,_,r,hr=>by
  simp only [flatArgs,Option.some.injEq,Prod.mk.injEq] at h
  obtain ⟨_,_,rfl⟩:=h
  cases hr
 | .val agg l :: ss,v :: vs,is,bs,ps,h,hne,r,hr=>by
  unfold flatArgs at h
  split at h
  ·rename_i h2
   simp only [Option.some.injEq,Prod.mk.injEq] at h
   obtain ⟨_,_,rfl⟩:=h
   exact flatArgs_mem' (ss:=ss) h2 hne r hr
  ·cases h
 | .ptr l :: ss,v :: vs,is,bs,ps,h,hne,r,hr=>by
  simp only [ptrShapes,List.all_cons,Bool.and_eq_true,Bool.not_eq_true'] at hne
  unfold flatArgs at h
  split at h
  ·rename_i b o is' bs' ps' h2
   split at h
   ·rename_i i bb h1
    simp only [Option.some.injEq,Prod.mk.injEq] at h
    obtain ⟨_,_,rfl⟩:=h
    rcases List.mem_cons.1 hr with rfl | hr
    ·refine ⟨⟨rfl,rfl,rfl⟩,?_⟩
     cases hrd:readCells w b o l.length with
     | none=>rw [hrd] at h1; simp at h1
     | some us =>
      obtain ⟨e1,e2⟩:=readCells_get hrd
      have hpos:0 < us.length:=by
       rw [e1]
       cases l with
       | nil=>simp at hne
       | cons _ _=>simp
      exact ⟨us[0],by have:=e2 0 _ (List.getElem?_eq_getElem hpos); simpa using this⟩
    ·exact flatArgs_mem' (ss:=ss) h2 hne.2 r hr
   ·cases h
  ·cases h
 | [],_ :: _,_,_,_,h,_,_,_=>by simp [flatArgs] at h
 | .val _ _ :: _,[],_,_,_,h,_,_,_=>by simp [flatArgs] at h
 | .ptr _ :: _,[],_,_,_,h,_,_,_=>by simp [flatArgs] at h
theorem mtAll_map {β:Beta} {ρ:Env} {f:Operand -> S} {ev:Operand -> Value}:∀ {l:List Operand},(∀ x,x ∈ l -> (f x).mt β ρ (ev x)) -> mtAll β ρ (l.map f) (l.map ev)
 | [],_=>trivial
 | x :: l,h=>⟨h x (by simp),mtAll_map fun y hy=>h y (by simp [hy])⟩
theorem getD_tail (l:List Bool) (j:Nat):l.tail.getD j false = l.getD (1 + j) false:=by
 cases l with
 | nil=>simp
 | cons x l=>simp [Nat.add_comm 1 j]

section
variable {P:Program} {Φ:Funs} {gl:Gl} {Γ:Gd} {hp:Hp} {rv:Operand -> SV} {dst:Option Tmp} {ty:TypeId} {pos:String} {after:Array Edge} {guard:Option (Nat × Bool)}

theorem callM_snd {X:Sums} (hX:AllOk P Φ gl X) {f:Nat} {s:Sum} (hs:X f = some s) (ρ:Env) (ai:List A) (ab:List B) (ni nb:Nat):Snd Φ ρ (callM s f ai ab ni nb) (fun p =>
  (∀ j,j < ni -> (p.1 j).d ρ = (Φ f (ai.map (A.d ρ)) (ab.map (B.d ρ))).1.getD j 0) /\ (∀ j,j < nb -> (p.2 j).d ρ = (Φ f (ai.map (A.d ρ)) (ab.map (B.d ρ))).2.getD j false)):=by
 unfold callM
 split
 ·rename_i S hS
  have h:=((hX f s hs).2.2 S hS).2
  exact (instS_snd S ai ab).mono fun p hp=>⟨fun j _=>by rw [hp.1,h],fun j _=>by rw [hp.2,h]⟩
 ·exact Snd.bind (newCall_snd f ai ab ni nb) fun n hn=>Snd.pure ⟨hn.1,hn.2⟩
def CallTo (P:Program) (gl:Gl) (hp:Hp) (f:Nat) (xs:List S) (ρ:Env) (Post:Nat -> List Rg -> (Rg -> Prop) -> Beta -> World -> Value -> World -> Prop):Prop :=
 ∀ (N:Nat) (R:List Rg) (Q:Rg -> Prop) (β:Beta) (w:World) (vs:List Value),mtAll β ρ xs vs -> heapMt β ρ hp w -> BetaOk N R Q β w -> N <= w.heap.size -> GB gl β w ->
  (∀ args w,(callFunc f args).run P w = .ok (.enter f args) w) /\ Calls P f vs.toArray w fun e w'=>∃ v,e = .returned v /\ Post N R Q β w v w'
theorem call_snd {X:Sums} (hX:AllOk P Φ gl X) (f:Nat) (xs:List S) (ρ:Env) (hΓ:Gd.d ρ Γ = true):Snd Φ ρ (xCall0 X Γ hp f xs) (fun res=>CallTo P gl hp f xs ρ (fun N R Q β w v w'=>∀ s,X f = some s -> ∀ lo hi,lo + nSlR s.res <= hi -> (∀ i,lo <= i -> i < hi -> β i = none) -> RPost N R Q ρ β w lo hi res v w')):=by
 unfold xCall0
 refine Snd.bind (lift_snd _) fun s hs=>Snd.bind (lift_snd _) fun t ht=>Snd.bind (lift_snd _) fun hp0 hj=>?_
 obtain ⟨ai,ab,pp⟩:=t
 simp only at ht hj ⊢
 split
 ·rename_i hap
  simp only [Bool.and_eq_true,Option.isNone_iff_eq_none] at hap
  obtain ⟨⟨⟨⟨hap,hsl⟩,hne0⟩,hhot⟩,hhot2⟩:=hap
  refine Snd.bind (callM_snd hX hs ρ ai ab _ _) fun n hn=>Snd.bind (oblige_snd _) fun _ hpre=>Snd.bind (lift_snd _) fun hp1 hf=>?_
  obtain ⟨n1,n2⟩:=n
  obtain ⟨hn1,hn2⟩:=hn
  simp only at hn1 hn2 hpre hf ⊢
  split
  ·rename_i hgo
   refine Snd.pure fun N R Q β w vs hm hh hb hN hG=>?_
   obtain ⟨ps,hfl,hppr,hfz,hsli⟩:=takeArgs_flat hΓ hh hb.sq ht hm
   have hapl:=apartL_of hb hppr hap
   obtain ⟨hcon,hcall,_⟩:=hX f s hs
   rw [hsl] at hcon
   have hlens:=flatArgs_lens hfl
   have hc:=hcon _ w _ _ ps hG.1 hfl hapl hfz (fun q hq g vs hgv=>by
    obtain ⟨p',r',hp',hβ,rfl,hle,hro,_⟩:=ppR_mem hppr q hq
    have hβg:=hG.2 g vs hgv
    have hne:p'.1 ≠ g:=fun e=>by
     rw [e,hβg] at hβ
     simp only [Option.some.injEq] at hβ
     rw [<- hβ] at hro
     cases hro
    have:=(hb.apart _ _ _ _ hne hβ hβg).resolve_left fun hh=>by rw [hh.1] at hro; cases hro
    unfold Rg.apart at *
    simp only at *
    omega) (fun q hq r hr=>by
    obtain ⟨p',r',hp',hβ,rfl,hle,hro,hrow⟩:=ppR_mem hppr q hq
    obtain ⟨i,r0,hi,hwi,hi0⟩:=hsli r hr
    have hne:p'.1 ≠ i:=fun e=>by
     rw [e,hi] at hβ
     simp only [Option.some.injEq] at hβ
     rcases hi0 with hi0 | ⟨hi0,_⟩ | hi0
     ·rw [<- hβ,hi0] at hro
      cases hro
     ·rw [<- hβ,hi0] at hrow
      cases hrow
     ·rw [hi0] at hhot2
      cases pp with
      | nil=>cases hp'
      | cons _ _=>simp at hhot2
    have:=(hb.apart _ _ _ _ hne hβ hi).resolve_left fun hh=>by rw [hh.1] at hro; cases hro
    unfold Rg.within at hwi
    unfold Rg.apart at *
    simp only at *
    omega) (fun hp=>by
    have h0:=hn2 0 (by rw [if_pos hp]; omega)
    rw [hp] at hpre
    simp only [if_true] at hpre h0
    rw [h0] at hpre
    rw [<- hpre]
    cases (Φ f (ai.map (A.d ρ)) (ab.map (B.d ρ))).2 <;> simp)
   refine ⟨hcall,?_⟩
   ·refine Calls.mono hc fun e w' he=>?_
    obtain ⟨v,rfl,hkeep,⟨r,p,hr,hp2,ho1,ho2⟩,hrg⟩:=he
    refine ⟨v,rfl,fun s' hs' lo hi hlh hfree=>?_⟩
    rw [hs] at hs'
    cases hs'
    have hplen:=flatPs_len hp2
    have hrl:r.1.length = resI s.res /\ r.2.length = resB s.res:=by
     unfold flatRes at hr
     split at hr
     ·split at hr
      ·rename_i vs
       have:∀ {l:List (Bool × List CK)} {vs:List Value} {f:Fl},flatTup w' ps l vs = some f -> f.1.length = resI l /\ f.2.length = resB l:=by
        intro l
        induction l with
        | nil=>intro vs f h; cases vs <;> simp [flatTup] at h; subst h; exact ⟨rfl,rfl⟩
        | cons q l ih =>
         intro vs f h
         cases vs with
         | nil=>simp [flatTup] at h
         | cons v vs =>
          unfold flatTup at h
          split at h
          ·rename_i i1 b1 is bs h1 h2
           simp only [Option.some.injEq] at h
           subst h
           obtain ⟨us,hf1,_,_⟩:=flat1_inv h1
           have e1:=flatC_len hf1
           have e2:=ih h2
           simp only [resI,resB,List.length_append] at e1 e2 ⊢
           omega
          ·cases h
       exact this hr
      ·cases hr
     ·split at hr
      ·rename_i q hq
       obtain ⟨us,hf1,_,_⟩:=flat1_inv hr
       have e1:=flatC_len hf1
       rw [hq]
       simp only [resI,resB]
       omega
      ·cases hr
    have k1:∀ j,j < resI s.res -> (n1 (0 + j)).d ρ = r.1.getD j 0:=fun j hj=>by
     rw [Nat.zero_add,hn1 j (by omega),ho1,getD_append_left _ _ _ _ (by omega)]
    have k2:∀ j,j < resB s.res -> (n2 ((if s.pre then 1 else 0) + j)).d ρ = r.2.getD j false:=fun j hj=>by
     rw [hn2 _ (by omega)]
     split at ho2
     ·rename_i hp
      rw [if_pos hp,<- getD_tail,ho2,getD_append_left _ _ _ _ (by omega)]
     ·rename_i hp
      rw [if_neg hp,Nat.zero_add,ho2,getD_append_left _ _ _ _ (by omega)]
    have k3:∀ j,j < sumI (ptrShapes s.args) -> (n1 (resI s.res + j)).d ρ = p.1.getD j 0:=fun j hj=>by
     rw [hn1 _ (by omega),ho1,<- hrl.1,getD_append_right]
    have k4:∀ j,j < sumB (ptrShapes s.args) -> (n2 ((if s.pre then 1 else 0) + resB s.res + j)).d ρ = p.2.getD j false:=fun j hj=>by
     rw [Nat.add_assoc,hn2 _ (by omega)]
     split at ho2
     ·rename_i hp
      rw [if_pos hp,<- getD_tail,ho2,<- hrl.2,getD_append_right]
     ·rename_i hp
      rw [if_neg hp,Nat.zero_add,ho2,<- hrl.2,getD_append_right]
    have hh0:=junkAll_heap hj hh
    have hjk:=junkAll_junk (done:=[]) hj (fun p hp=>by cases hp)
    simp only [List.nil_append] at hjk
    have hh1:=junk_move hb hh0 hjk hppr hkeep (flatPs_cells hp2 hlens)
    have hh2:=fillAll_heap hf hppr hp2 k3 k4 hh1
    have hKW:Keep ((ppIds pp).filterMap β) w w':=by
     refine (Keep.refl _ w).trans hkeep fun q hq=>?_
     obtain ⟨p',r',hp',hβ,rfl,hle,_,_⟩:=ppR_mem hppr q hq
     exact .inr ⟨r',List.mem_filterMap.2 ⟨p'.1,ppIds_mem hp',hβ⟩,rfl,by simp,by simp only; omega⟩
    have hWW:∀ q,q ∈ (ppIds pp).filterMap β -> ∃ id,id ∈ (collectW hp1 (ppIds pp)).map (·.1) /\ β id = some q /\ q.ro = false /\ ∃ j v,w.cell? ⟨q.blk,j,none⟩ = some v:=by
     intro q hq
     rw [List.mem_filterMap] at hq
     obtain ⟨id,hid,hβ⟩:=hq
     have hsome:(hp1 id).isSome = true:=by
      have:=(List.all_eq_true.1 hgo) _ hid
      cases hx:hp1 id with
      | none=>rw [hx] at this; cases this
      | some b=>rfl
     refine ⟨id,collectW_ids hid hsome,hβ,?_⟩
     have hlv:=flatArgs_mem' hfl hne0
     have hmem:∃ p,p ∈ pp /\ p.1 = id:=by
      clear hKW hgo hf hjk hj hap ht hppr hh0 hh1 hh2 hhot2 hsli
      induction pp with
      | nil=>simp [ppIds] at hid
      | cons p pp ih =>
       unfold ppIds at hid
       split at hid
       ·obtain ⟨q,hq,he⟩:=ih hid; exact ⟨q,by simp [hq],he⟩
       ·rcases List.mem_cons.1 hid with rfl | hid
        ·exact ⟨p,by simp,rfl⟩
        ·obtain ⟨q,hq,he⟩:=ih hid; exact ⟨q,by simp [hq],he⟩
     obtain ⟨p',hp',rfl⟩:=hmem
     have:∀ {pp:PP} {ps:List Rg},ppR β pp ps -> (∀ r,r ∈ ps -> (r.ro = false /\ r.sq = none /\ r.row = false) /\ ∃ v,w.cell? ⟨r.blk,r.off,none⟩ = some v) -> ∀ p,p ∈ pp -> ∃ r,β p.1 = some r /\ r.ro = false /\ ∃ j v,w.cell? ⟨r.blk,j,none⟩ = some v:=by
      intro pp
      induction pp with
      | nil=>intro ps _ _ p hp; cases hp
      | cons p0 pp ih =>
       intro ps h hl p hp
       cases ps with
       | nil=>exact h.elim
       | cons q0 ps =>
        obtain ⟨⟨r,hr,hq0,_,hro,_⟩,h2⟩:=h
        rcases List.mem_cons.1 hp with rfl | hp
        ·obtain ⟨_,v,hv⟩:=hl q0 (by simp)
         rw [hq0] at hv
         exact ⟨r,hr,hro,_,v,hv⟩
        ·exact ih h2 (fun r hr=>hl r (by simp [hr])) p hp
     obtain ⟨r',hr',hro⟩:=this hppr hlv p' hp'
     rw [hβ] at hr'
     cases hr'
     exact hro
    have hbk:BetaOk N R Q β w':=hb.keep (fun q hq=>by obtain ⟨id,_,h1,h2,_⟩:=hWW q hq; exact ⟨id,h1,h2⟩) hKW
    have hlen:=resRgs_len (w:=w') (s:=s) (v:=v)
    obtain ⟨b1,b2,b3,b4⟩:=bindL_ok (rs:=resRgs w' s v) (lo:=lo) hbk (fun q hq=>by
     obtain ⟨e1,e2,ks,l,e3,e4,e5⟩:=resRgs_sq hq
     have hcase:(w.heap.size <= q.blk) \/ ∃ i r0,β i = some r0 /\ q.within r0 /\ r0.ro = true:=by
      rcases hrg q hq with h | ⟨q',h1 | ⟨g,us,h1,rfl⟩,h2⟩
      ·exact .inl h
      ·obtain ⟨i,r0,k1,k2,k3⟩:=hsli q' h1
       refine .inr ⟨i,r0,k1,Rg.within_trans h2 k2,?_⟩
       rcases k3 with k3 | ⟨_,k3⟩ | k3
       ·exact k3
       ·exfalso
        have hpos:nSlR s.res ≠ 0:=by
         have:0 < (resRgs w' s v).length:=List.length_pos_of_mem hq
         omega
        simp [k3,hpos] at hhot
       ·exfalso
        have hpos:nSlR s.res ≠ 0:=by
         have:0 < (resRgs w' s v).length:=List.length_pos_of_mem hq
         omega
        simp [k3,hpos] at hhot
      ·exact .inr ⟨g,_,hG.2 g us h1,h2,rfl⟩
     refine ⟨e1,e2,rg_place e4 e5,?_,fun ks' l' hs'=>?_,fun j p' hj hro=>?_⟩
     ·rcases hcase with h | ⟨i,r0,k1,k2,k3⟩
      ·exact .inl (Nat.le_trans hN h)
      ·rcases hb.rom i r0 k1 k3 with h | h
       ·exact .inl (by rw [k2.1]; exact h)
       ·exact .inr (hb.qs _ _ h k2)
     ·rw [e3] at hs'
      cases hs'
      exact ⟨e4,e5⟩
     ·rcases hcase with h | ⟨i,r0,k1,k2,k3⟩
      ·exact hb.new_apart h hj
      ·have hne:i ≠ j:=fun e=>by rw [e,hj] at k1; cases k1; rw [k3] at hro; cases hro
       exact Rg.within_apart k2 ((hb.apart i j r0 p' hne k1 hj).resolve_left fun hh=>by rw [hh.2] at hro; cases hro)) (fun i hi1 hi2=>hfree i hi1 (by omega))
    have hmv:Mv (fun _=>true) β (bindL β lo (resRgs w' s v)):=Mv.of hb (fun i r hi _=>b2 i r hi)
    have hppr':ppOk (bindL β lo (resRgs w' s v)) (pp.map fun p=>(p.1,p.2.1)) ps:=by
     have:∀ {l:List (Nat × Nat)} {ps:List Rg},ppOk β l ps -> ppOk (bindL β lo (resRgs w' s v)) l ps:=by
      intro l
      induction l with
      | nil=>intro ps h; cases ps with | nil=>trivial | cons _ _=>exact h.elim
      | cons p l ih =>
       intro ps h
       cases ps with
       | nil=>exact h.elim
       | cons r ps=>obtain ⟨⟨q,hq,h1⟩,h2⟩:=h; exact ⟨⟨q,b2 _ _ hq,h1⟩,ih h2⟩
     exact this (ppOk_of hppr)
    have hfr:=freshS_mt (FI:=n1) (FB:=n2) (ρ:=ρ) (i:=0) (b:=if s.pre then 1 else 0) hppr' hr b4 k1 k2
    refine ⟨bindL β lo (resRgs w' s v),⟨fun i r hi _=>b2 i r hi,b1,⟨_,hWW,hKW⟩,fun i hi' _=>b3 i (by omega),by simp⟩,hfr.1,fun q hq=>?_⟩
    ·obtain ⟨h1,h2⟩:=collectW_mem hq
     have:=(List.all_eq_true.1 hgo) _ h1
     rw [h2] at this
     have hm:=hh2 _ _ h2 (Gd.sub_d this hΓ)
     have hm2:=blkMt_jk hmv (w:=w') (w':=w') (.inr rfl) (fun _ _ _ _=>⟨rfl,rfl⟩) hm
     rwa [Blk.jk_true] at hm2
  ·exact Snd.fail
 ·exact Snd.fail

theorem ok_callT {X:Sums} (hX:AllOk P Φ gl X) (f:Nat) {s:Sum} {p:IntKind × List Int} (hs:X f = some s) (hsl:s.sl = some p) (xs:List S) {ρ:Env} {c c':Ctr} {res:Res} {out:List Em} (he:xCallT p xs c = some (res,c',out)) {N:Nat} {R:List Rg} {Q:Rg -> Prop} {β:Beta} {w:World} {vs:List Value}
  (hm:mtAll β ρ xs vs) (hb:BetaOk N R Q β w) (hN:N <= w.heap.size) (hG:GB gl β w) (hf:∀ i,c.id <= i -> i < c'.id -> β i = none) :
  (∀ args w,(callFunc f args).run P w = .ok (.enter f args) w) /\ Calls P f vs.toArray w fun e w'=>∃ v,e = .returned v /\ RPost N R Q ρ β w c.id c'.id res v w':=by
 unfold xCallT at he
 split at he
 ·rename_i hem
  simp only [newId,Bind.bind,M.bind,Pure.pure,M.pure,Option.some.injEq,Prod.mk.injEq] at he
  obtain ⟨rfl,rfl,rfl⟩:=he
  obtain ⟨hcon,hcall,_⟩:=hX f s hs
  rw [hsl] at hcon
  have hcon:=hcon w hG.1
  have hargs:vs = []:=by
   simp only [List.isEmpty_iff] at hem
   subst hem
   cases vs with
   | nil=>rfl
   | cons _ _=>exact hm.elim
  subst hargs
  refine ⟨hcall,?_⟩
  ·refine Calls.mono hcon fun e w' he=>?_
   obtain ⟨b,o,rfl,hkeep,hb1,hb2,hcells⟩:=he
   have hfree:=hf c.id (Nat.le_refl _) (by simp)
   refine ⟨_,rfl,β.set c.id { blk:=b,off:=o,len:=p.2.length,ro:=true },⟨Beta.set_ext _ hfree,?_,⟨[],by simp,hkeep⟩,fun i hi _=>Beta.set_other _ _ (by simp only at hi; omega),by simp⟩,⟨_,rfl,_,Beta.set_same _ _ _,by simp⟩,fun q hq=>?_⟩
   ·exact hb.bind (W:=[]) (by simp) hkeep (fun j q _ hj=>.inr (hb.new_apart hb1 hj)) (.inr hb2) (.inl rfl) (by simp) (fun _=>.inl (Nat.le_trans hN hb1)) (by simp)
   ·simp only [List.mem_singleton] at hq
    subst hq
    refine blkMt_mk ⟨_,Beta.set_same _ _ _,rfl,by simp [tabBlk],rfl,?_,fun h=>by cases h⟩
    rw [cellsAt_iff]
    intro j cc hj
    simp only [tabBlk,List.getElem?_map] at hj
    cases hv:p.2[j]? with
    | none=>rw [hv] at hj; simp at hj
    | some v =>
     rw [hv] at hj
     simp only [Option.map_some,Option.some.injEq] at hj
     subst hj
     obtain ⟨h1,h2⟩:=hcells j v hv
     exact ⟨_,h1,rfl,h2⟩
 ·simp [M.fail] at he
abbrev Hnd:=Nat -> Gd -> Hp -> List S -> M Res
def HOk (P:Program) (Φ:Funs) (gl:Gl) (H:Hnd):Prop :=
 ∀ (f:Nat) (Γ:Gd) (hp:Hp) (xs:List S) (ρ:Env) (c:Ctr) (res:Res) (c':Ctr) (out:List Em),H f Γ hp xs c = some (res,c',out) -> Good Φ ρ out -> Gd.d ρ Γ = true ->
  ∀ (N:Nat) (R:List Rg) (Q:Rg -> Prop) (β:Beta) (w:World) (vs:List Value),mtAll β ρ xs vs -> heapMt β ρ hp w -> BetaOk N R Q β w -> N <= w.heap.size -> GB gl β w -> (∀ i,c.id <= i -> i < c'.id -> β i = none) ->
  (∀ args w,(callFunc f args).run P w = .ok (.enter f args) w) /\ Calls P f vs.toArray w fun e w'=>∃ v,e = .returned v /\ RPost N R Q ρ β w c.id c'.id res v w'
def hnd0 (X:Sums):Hnd:=fun f Γ hp xs=>xCallA X Γ hp f xs
theorem hnd0_ok {X:Sums} (hX:AllOk P Φ gl X):HOk P Φ gl (hnd0 X):=by
 intro f Γ hp xs ρ c res c' out he hg hΓ N R Q β w vs hm hh hb hN hG hf
 unfold hnd0 xCallA at he
 have hnone:(∀ p,(X f).bind (·.sl) = some p -> False) -> (match (X f).bind (·.sl) with | some p=>xCallT p xs | none=>xCall X Γ hp f xs) = xCall X Γ hp f xs:=fun h=>by
  cases hh:(X f).bind (·.sl) with
  | none=>rfl
  | some p=>exact (h p hh).elim
 by_cases hc:∃ p,(X f).bind (·.sl) = some p
 ·obtain ⟨p,hp⟩:=hc
  rw [hp] at he
  cases hs:X f with
  | none=>rw [hs] at hp; cases hp
  | some s =>
   rw [hs] at hp
   exact ok_callT hX f hs hp xs he hm hb hN hG hf
 ·rw [hnone fun p hp=>hc ⟨p,hp⟩] at he
  unfold xCall at he
  obtain ⟨s,hs,he⟩:=snd_lift_inv he
  obtain ⟨r,c1,o1,c2,o2,y,g1,g2,e1⟩:=M.bind_inv he
  obtain ⟨_,c3,o3,c4,o4,y2,g3,g4,e2⟩:=M.bind_inv g2
  have g4:=M.pure_inv g4
  simp only [newIds,Option.some.injEq,Prod.mk.injEq] at g3
  obtain ⟨_,rfl,rfl⟩:=g3
  simp only [Prod.mk.injEq] at g4 e2 e1
  obtain ⟨rfl,rfl,rfl⟩:=g4
  obtain ⟨rfl,rfl,rfl⟩:=e2
  obtain ⟨rfl,rfl,rfl⟩:=e1
  obtain ⟨g1,hid⟩:=sameId_inv g1
  obtain ⟨h1,h2⟩:=call_snd hX f xs ρ hΓ c _ _ _ g1 (Good.append.1 hg).1 N R Q β w vs hm hh hb hN hG
  exact ⟨h1,Calls.mono h2 fun e w' ⟨v,hv,hp⟩=>⟨v,hv,hp s hs _ _ (by simp only; omega) hf⟩⟩

end
end Go.Proofs.YtfgbfdlacnihkaaGreatDoor.Sx
namespace Go.Proofs.YtfgbfdlacnihkaaGreatDoor.Sx
open Go

abbrev Hl:=List (Nat × Blk)
def hpOf:Hl -> Hp
 | [],_=>none
 | (i,b) :: l,id=>if i == id then some b else hpOf l id

structure Js where
 b:B:=.c true
 a:A:=.c 0
structure St where
 tm:List SV
 hp:Hl
 rb:List Nat:=[]
 js:Js:={}
structure LpRec where
 l:Nat
 rc:Loop
 jl:List Code
 fix:Option LoopState:=none
def pickJ:List Code -> Nat -> Code
 | [],_=>.ret
 | [c],_=>c
 | c :: l,0=>c
 | _ :: l,n + 1=>pickJ l n
def LpRec.at (r:LpRec) (b:Bool) (n:Int):Loop :=
 match r.fix with
 | some st=>{ r.rc with state:=st,pending:=none }
 | none=>if b then { r.rc with state:=.ready,pending:=none } else { r.rc with state:=.done,pending:=some (pickJ r.jl n.toNat) }

def ghOf:Gl -> Nat -> Hl
 | [],_=>[]
 | vs :: l,g=>(g,{ g:=[],ro:=true,cells:=vs.map ofC }) :: ghOf l (g + 1)
structure Cx where
 w0:World
 R:List Rg
 gl:Gl
 gr:List Rg
 Q:Rg -> Prop
 b0:Beta
 gi:Nat -> Nat
 lr:Option LpRec:=none
 ds:List Nat:=[]
 rl:Option Nat:=none
def Cx.ng (x:Cx):Nat:=x.gl.length
def Cx.gh (x:Cx):Hl:=ghOf x.gl 0
def hpX (gh:Hl) (ng:Nat) (hp:Hl):Hp:=fun i=>if Nat.blt i ng then hpOf gh i else hpOf hp i

def Marks (N:Nat) (w:World):List Deferred -> Prop
 | []=>True
 | d :: l=>∃ D,d = { target:=.collected D,args:=#[] } /\ N <= D /\ w.heap[D]? = some (.deferred (some [])) /\ (∀ e,e ∈ l -> e.target ≠ .collected D) /\ Marks N w l
structure Lk (x:Cx) (ρ:Env) (js:Js) (dl:List Deferred) (w:World):Prop where
 rc:∀ r,x.lr = some r -> x.w0.heap.size <= r.l /\ w.heap[r.l]? = some (.loop (r.at (js.b.d ρ) (js.a.d ρ)))
 ds:∀ D,D ∈ x.ds -> x.w0.heap.size <= D /\ w.heap[D]? = some (.deferred (some []))
 ma:Marks x.w0.heap.size w dl
 nm:x.lr.isSome = true -> dl = []
theorem Marks.imp {N:Nat} {w w':World} (h:∀ D:Nat,w.heap[D]? = some (.deferred (some [])) -> w'.heap[D]? = some (.deferred (some []))):∀ {l:List Deferred},Marks N w l -> Marks N w' l
 | [],_=>trivial
 | _ :: _,⟨D,h1,h2,h3,h4,h5⟩=>⟨D,h1,h2,h D h3,h4,Marks.imp h h5⟩
theorem Lk.imp {x:Cx} {ρ:Env} {js:Js} {dl:List Deferred} {w w':World} (hd:∀ D:Nat,w.heap[D]? = some (.deferred (some [])) -> w'.heap[D]? = some (.deferred (some []))) (hl:∀ (l:Nat) (r:Loop),w.heap[l]? = some (.loop r) -> w'.heap[l]? = some (.loop r))
  (h:Lk x ρ js dl w):Lk x ρ js dl w':=⟨fun r hr=>⟨(h.rc r hr).1,hl _ _ (h.rc r hr).2⟩,fun D hD=>⟨(h.ds D hD).1,hd D (h.ds D hD).2⟩,h.ma.imp hd,h.nm⟩
theorem Lk.keep {x:Cx} {ρ:Env} {js:Js} {dl:List Deferred} {w w':World} {W:List Rg} (hk:Keep W w w') (hW:∀ r,r ∈ W -> ∃ j v,w.cell? ⟨r.blk,j,none⟩ = some v) (h:Lk x ρ js dl w):Lk x ρ js dl w':=by
 have key:∀ (k:Nat) (o:Obj),w.heap[k]? = some o -> (∀ c e f,o ≠ .cells c e f) -> w'.heap[k]? = some o:=fun k o hk0 hc=>by
  rw [hk.blk k (Array.getElem?_eq_some_iff.1 hk0).1 fun r hr _ e=>?_]
  ·exact hk0
  ·obtain ⟨j,v,hv⟩:=hW r hr
   subst e
   unfold World.cell? at hv
   rw [hk0] at hv
   cases o <;> simp at hv
   exact hc _ _ _ rfl
 exact h.imp (fun D hD=>key D _ hD (fun c e f h=>by cases h)) (fun l r hl=>key l _ hl (fun c e f h=>by cases h))
theorem Lk.nil {x:Cx} {ρ:Env} {w:World} (h1:x.lr = none) (h2:x.ds = []) (js:Js):Lk x ρ js [] w:=⟨fun r hr=>(by rw [h1] at hr; cases hr),fun D hD=>(by rw [h2] at hD; cases hD),trivial,fun _=>rfl⟩
theorem Lk.js {x:Cx} {ρ ρ':Env} {js js':Js} {dl:List Deferred} {w:World} (hb:js'.b.d ρ' = js.b.d ρ) (ha:js'.a.d ρ' = js.a.d ρ) (h:Lk x ρ js dl w):Lk x ρ' js' dl w:=⟨fun r hr=>by rw [hb,ha]; exact h.rc r hr,h.ds,h.ma,h.nm⟩
structure Rel (x:Cx) (ρ:Env) (β:Beta) (σ:St) (a:Act) (w:World):Prop where
 size:a.tmps.size = σ.tm.length
 slot:∀ (t:Nat) (v:SV),σ.tm[t]? = some v -> v.mt β ρ (a.tmps.getD t undef)
 df:Lk x ρ σ.js a.defers w
 hm:heapMt β ρ (hpOf σ.hp) w
 gm:heapMt β ρ (hpOf x.gh) w
 gro:∀ id b,hpOf x.gh id = some b -> b.ro = true
 bo:BetaOk x.w0.heap.size x.R x.Q β w
 kp:Keep x.R x.w0 w
 gl:∀ (g:Nat) (vs:List Value),x.gl[g]? = some vs -> β g = some (gRg g vs)
 ra:∀ (j:Nat) (r:Rg),x.gr[j]? = some r -> r.row = false /\ β (x.gi j) = some r
 eb:ExtP (fun i=>!σ.rb.contains i) x.b0 β

def ev (ng:Nat) (σ:St):Operand -> SV
 | .tmp t=>σ.tm.getD t anySV
 | .const v=>{ g:=[],s:=ofV v }
 | .global g=>if Nat.blt g ng then { g:=[],s:=.one false [.ptr [] g 0] } else anySV
 | .func f=>if f == yieldN then { g:=[],s:=.one false [.val (.func (.func f) #[] #[])] } else { g:=[],s:=.one false [.fn [] (some (f,[]))] }
theorem anySV_mt {β:Beta} {ρ:Env} (v:Value):anySV.mt β ρ v:=⟨fun _=>trivial,fun h=>(by cases h)⟩
theorem ev_mt {x:Cx} {ρ:Env} {β:Beta} {σ:St} {a:Act} {w:World} (h:Rel x ρ β σ a w) (o:Operand):(ev x.ng σ o).mt β ρ (a.eval o):=by
 cases o with
 | tmp t =>
  show (σ.tm.getD t anySV).mt β ρ (a.tmps.getD t undef)
  rw [List.getD_eq_getElem?_getD]
  cases ht:σ.tm[t]? with
  | none=>exact anySV_mt _
  | some v=>exact h.slot t v ht
 | const v=>exact ⟨fun _=>ofV_mt v,fun h=>(by cases h)⟩
 | global g =>
  show (if Nat.blt g x.ng then ({ g:=[],s:=.one false [.ptr [] g 0] }:SV) else anySV).mt β ρ (.pointer (some ⟨g,0,none⟩))
  split
  ·rename_i hg
   simp only [Nat.blt_eq] at hg
   exact ⟨fun _=>⟨_,rfl,_,h.gl g _ (List.getElem?_eq_getElem hg),by simp [pick,gRg]⟩,fun h=>(by cases h)⟩
  ·exact anySV_mt _
 | func f =>
  show (if f == yieldN then ({ g:=[],s:=.one false [.val (.func (.func f) #[] #[])] }:SV) else { g:=[],s:=.one false [.fn [] (some (f,[]))] }).mt β ρ (.func (.func f) #[] #[])
  split
  ·exact ⟨fun _=>⟨_,rfl,rfl,rfl⟩,fun h=>(by cases h)⟩
  ·rename_i hf
   exact ⟨fun _=>⟨_,rfl,[],(fvVal_ne (by simpa using hf) []).symm,trivial⟩,fun h=>(by cases h)⟩

theorem Rel.hx {x:Cx} {ρ:Env} {β:Beta} {σ:St} {a:Act} {w:World} (h:Rel x ρ β σ a w):heapMt β ρ (hpX x.gh x.ng σ.hp) w:=by
 intro id b hb hg
 unfold hpX at hb
 split at hb
 ·exact h.gm id b hb hg
 ·exact h.hm id b hb hg

def normG:Gd -> Option Gd
 | []=>some []
 | (b,k) :: g=>match normG g with
  | none=>none
  | some g'=>match b with
   | .c x=>if x == k then some g' else none
   | b=>some ((b,k) :: g')
theorem normG_none {ρ:Env}:∀ {g:Gd},normG g = none -> Gd.d ρ g = false
 | [],h=>by simp [normG] at h
 | (b,k) :: g,h=>by
  unfold normG at h
  rw [Gd.d_cons]
  split at h
  ·rename_i h1
   simp [normG_none (ρ:=ρ) h1]
  ·split at h
   ·rename_i x
    split at h
    ·cases h
    ·rename_i hx
     have:(x == k) = false:=by simpa using hx
     simp [this]
   ·cases h
theorem normG_some {ρ:Env}:∀ {g g':Gd},normG g = some g' -> Gd.d ρ g' = Gd.d ρ g
 | [],g',h=>by simp only [normG,Option.some.injEq] at h; subst h; rfl
 | (b,k) :: g,g',h=>by
  unfold normG at h
  rw [Gd.d_cons]
  split at h
  ·cases h
  ·rename_i g1 h1
   have ih:=normG_some (ρ:=ρ) h1
   split at h
   ·rename_i x
    split at h
    ·rename_i hx
     simp only [Option.some.injEq] at h
     subst h
     simp only [beq_iff_eq] at hx
     simp [ih,hx]
    ·cases h
   ·simp only [Option.some.injEq] at h
    subst h
    simp [ih]

def gdOf (ops:Array Oper) (σ:St) (o:Oper):Option Gd :=
 match o.guard with
 | none=>some []
 | some (j,want)=>match (ops[j]?).bind (·.dst) with
  | none=>none
  | some t=>match σ.tm[t]? with
   | some { g:=g,s:=.one false [.bool b] }=>some (g ++ [(b,want)])
   | some { g:=(.c true,false) :: _,s:=_ }=>some [(.c true,false)]
   | _=>none
theorem gdOf_wanted {x:Cx} {ρ:Env} {β:Beta} {σ:St} {a:Act} {w:World} (h:Rel x ρ β σ a w) {ops:Array Oper} {o:Oper} {g:Gd} (hg:gdOf ops σ o = some g) :
  Region.wanted o (yielded ops a.tmps) = Gd.d ρ g:=by
 unfold gdOf at hg
 unfold Region.wanted
 split at hg
 ·rename_i h1
  simp only [Option.some.injEq] at hg
  subst hg
  rw [h1]
  rfl
 ·rename_i j want h1
  rw [h1]
  simp only
  split at hg
  ·cases hg
  ·rename_i t ht
   split at hg
   ·rename_i g' b hsv
    simp only [Option.some.injEq] at hg
    subst hg
    have hlt:t < a.tmps.size:=by rw [h.size]; exact (List.getElem?_eq_some_iff.1 hsv).1
    have hm:=h.slot t _ hsv
    unfold yielded
    rw [ht]
    simp only [Option.bind_some]
    have hget:a.tmps[t]? = some (a.tmps.getD t undef):=by simp [hlt]
    rw [hget]
    cases hgd:Gd.d ρ g'
    ·have:=hm.2 hgd
     rw [this]
     simp [undef,hgd]
    ·have:=mt_bool rfl (hm.1 hgd)
     rw [this]
     simp [hgd]
   ·rename_i g' sg' hsv
    simp only [Option.some.injEq] at hg
    subst hg
    have hlt:t < a.tmps.size:=by rw [h.size]; exact (List.getElem?_eq_some_iff.1 hsv).1
    have hm:=h.slot t _ hsv
    unfold yielded
    rw [ht]
    simp only [Option.bind_some]
    have hget:a.tmps[t]? = some (a.tmps.getD t undef):=by simp [hlt]
    rw [hget]
    have hgd:∀ l:Gd,Gd.d ρ ((.c true,false) :: l) = false:=fun l=>by rw [Gd.d_cons]; rfl
    rw [hm.2 (hgd _),hgd]
    simp [undef]
   ·cases hg

def gAtom:Gd -> M B
 | []=>pure (.c true)
 | (b,k) :: g=>do
  let x <- (if k then pure b else mkNot b)
  let y <- gAtom g
  mkAnd x y
theorem gAtom_snd {Φ:Funs} {ρ:Env}:∀ g,Snd Φ ρ (gAtom g) (fun b=>b.d ρ = Gd.d ρ g)
 | []=>Snd.pure rfl
 | (b,k) :: g=>by
  unfold gAtom
  refine Snd.bind (p:=fun x=>x.d ρ = (b.d ρ == k)) ?_ fun x hx=>Snd.bind (gAtom_snd g) fun y hy=>(mkAnd_snd x y).mono fun z hz=>?_
  ·cases k
   ·simp only [Bool.false_eq_true,if_false]
    exact (mkNot_snd b).mono fun z hz=>by rw [hz]; cases b.d ρ <;> rfl
   ·simp only [if_true]
    exact Snd.pure (by cases b.d ρ <;> rfl)
  ·rw [hz,hx,hy,Gd.d_cons]

def muxBl (b:B) (x y:List C):M (List C) :=
 match vecOf x,vecOf y with
 | some p,some q=>if cksEq p.1 q.1 then do
   let s <- mkIteI b p.2.1 q.2.1
   let n <- mkIteI b p.2.2 q.2.2
   pure [.vec p.1 s n]
  else M.fail
 | none,none=>muxL b x y
 | _,_=>M.fail
theorem muxBl_snd {Φ:Funs} {ρ:Env} (b:B) (x y:List C):Snd Φ ρ (muxBl b x y) (fun z=>z.length = x.length /\ x.length = y.length /\ ∀ β w id g g' ro,(if b.d ρ then blkMt β ρ w id { g:=g,ro:=ro,cells:=x } else blkMt β ρ w id { g:=g,ro:=ro,cells:=y }) -> blkMt β ρ w id { g:=g',ro:=ro,cells:=z }):=by
 unfold muxBl
 split
 ·rename_i p q hp hq
  split
  ·rename_i hk
   have hk:=cksEq_sound hk
   refine Snd.bind (mkIteI_snd b _ _) fun s hs=>Snd.bind (mkIteI_snd b _ _) fun n hn=>Snd.pure ?_
   have ep:=vecOf_spec hp
   have eq:=vecOf_spec hq
   refine ⟨by rw [ep]; rfl,by rw [ep,eq]; rfl,fun β w id g g' ro h=>?_⟩
   refine (blkMt_row (x:=(p.1,s,n)) rfl).2 ?_
   split at h
   ·rename_i hb
    obtain ⟨h0,r,cap,l,h1,h2,h3,h4,h5,h6,h7,h8,h9,h10⟩:=(blkMt_row hp).1 h
    exact ⟨h0,r,cap,l,h1,h2,h3,h4,h5,h6,by rw [hs,if_pos hb]; exact h7,by rw [hn,if_pos hb]; exact h8,by rw [hn,if_pos hb]; exact h9,h10⟩
   ·rename_i hb
    obtain ⟨h0,r,cap,l,h1,h2,h3,h4,h5,h6,h7,h8,h9,h10⟩:=(blkMt_row hq).1 h
    rw [<- hk] at h4 h5 h10
    exact ⟨h0,r,cap,l,h1,h2,h3,h4,h5,h6,by rw [hs,if_neg hb]; exact h7,by rw [hn,if_neg hb]; exact h8,by rw [hn,if_neg hb]; exact h9,h10⟩
  ·exact Snd.fail
 ·rename_i hp hq
  refine (muxL_snd b x y).mono fun z hz=>⟨hz.1,hz.2.1,fun β w id g g' ro h=>?_⟩
  obtain ⟨z1,z2,_,z4⟩:=hz
  refine blkMt_mk ?_
  split at h
  ·rename_i hb
   obtain ⟨r,hr,h1,h2,h3,h4,h5⟩:=(blkMt_cs hp).1 h
   exact ⟨r,hr,h1,by simp only at h2 ⊢; omega,h3,z4 _ _ _ _ (by rw [if_pos hb]; exact h4),fun h0 j hj=>h5 h0 j (by simp only at hj ⊢; omega)⟩
  ·rename_i hb
   obtain ⟨r,hr,h1,h2,h3,h4,h5⟩:=(blkMt_cs hq).1 h
   exact ⟨r,hr,h1,by simp only at h2 ⊢; omega,h3,z4 _ _ _ _ (by rw [if_neg hb]; exact h4),fun h0 j hj=>h5 h0 j (by simp only at hj ⊢; omega)⟩
 ·exact Snd.fail
theorem blkMt_g {β:Beta} {ρ:Env} {w:World} {id:Nat} {b b':Blk} (h1:b.ro = b'.ro) (h2:b.cells = b'.cells) (h:blkMt β ρ w id b):blkMt β ρ w id b':=by
 unfold blkMt at *
 rw [<- h1,<- h2]
 exact h
def pOf (rb:List Nat):Nat -> Bool:=fun i=>!rb.contains i
def jkTm (rb:List Nat) (tm:List SV):List SV:=if rb.isEmpty then tm else tm.map (SV.jk (pOf rb))
def jkHp (rb:List Nat) (hp:Hl):Hl:=if rb.isEmpty then hp else hp.map fun p=>(p.1,p.2.jk (pOf rb))
theorem pOf_nil:pOf [] = fun _=>true:=by funext i; simp [pOf]
theorem jkTm_get {rb:List Nat} {tm:List SV} {t:Nat}:(jkTm rb tm)[t]? = (tm[t]?).map (SV.jk (pOf rb)):=by
 unfold jkTm
 cases rb with
 | nil =>
  simp only [List.isEmpty_nil,if_true,pOf_nil]
  cases tm[t]? with
  | none=>rfl
  | some v=>simp [SV.jk_true]
 | cons x l=>simp
theorem jkTm_len {rb:List Nat} {tm:List SV}:(jkTm rb tm).length = tm.length:=by
 unfold jkTm; split <;> simp
theorem jkHp_of {rb:List Nat}:∀ {hp:Hl} {id:Nat},hpOf (jkHp rb hp) id = (hpOf hp id).map (Blk.jk (pOf rb)):=by
 intro hp id
 unfold jkHp
 cases rb with
 | nil =>
  simp only [List.isEmpty_nil,if_true,pOf_nil]
  cases hpOf hp id with
  | none=>rfl
  | some b=>simp [Blk.jk_true]
 | cons x l =>
  simp only [List.isEmpty_cons,Bool.false_eq_true,if_false]
  induction hp with
  | nil=>rfl
  | cons p hp ih =>
   obtain ⟨i,b⟩:=p
   simp only [List.map_cons,hpOf]
   split
   ·rfl
   ·exact ih

def layB (Γ:Gd) (sel:B) (hp:Hl):List (Nat × Blk) -> M Hl
 | []=>pure hp
 | (id,b) :: l=>do
  let hp' <- layB Γ sel hp l
  if Γ.isEmpty then pure ((id,b) :: hp') else
  match hpOf hp id with
  | none=>if b.g.isEmpty then pure ((id,{ b with g:=Γ }) :: hp') else M.fail
  | some old=>if b.g.isEmpty && Gd.sub Γ old.g then pure ((id,{ b with g:=Γ }) :: hp') else do
   let z <- muxBl sel b.cells old.cells
   if Gd.sub old.g b.g && Gd.sub b.g old.g && b.ro == old.ro then pure ((id,{ old with cells:=z }) :: hp') else M.fail
theorem layB_step {ρ:Env} {hp hp':Hl} {id:Nat} {b b':Blk} {l:List (Nat × Blk)}
  (hih:∀ (β:Beta) (w:World) (keep:Nat -> Prop),(∀ p,p ∈ l -> blkMt β ρ w p.1 p.2) -> (∀ id b,hpOf hp id = some b -> id ∉ l.map (·.1) -> keep id -> Gd.d ρ b.g = true -> blkMt β ρ w id b) ->
    ∀ id b,hpOf hp' id = some b -> keep id -> Gd.d ρ b.g = true -> blkMt β ρ w id b)
  (hb':∀ (β:Beta) (w:World),blkMt β ρ w id b -> Gd.d ρ b'.g = true -> blkMt β ρ w id b') (β:Beta) (w:World) (keep:Nat -> Prop) (h1:∀ p,p ∈ (id,b) :: l -> blkMt β ρ w p.1 p.2)
  (h2:∀ i c,hpOf hp i = some c -> i ∉ ((id,b) :: l).map (·.1) -> keep i -> Gd.d ρ c.g = true -> blkMt β ρ w i c):∀ i c,hpOf ((id,b') :: hp') i = some c -> keep i -> Gd.d ρ c.g = true -> blkMt β ρ w i c:=by
 intro i c hc hk hg
 unfold hpOf at hc
 split at hc
 ·rename_i he
  simp only [beq_iff_eq] at he
  subst he
  simp only [Option.some.injEq] at hc
  subst hc
  exact hb' β w (h1 (id,b) (List.mem_cons.2 (.inl rfl))) hg
 ·rename_i he
  have hne:i ≠ id:=by intro e; subst e; simp at he
  exact hih β w (fun i=>keep i /\ i ≠ id) (fun p hp=>h1 p (by simp [hp])) (fun i c hc hn hk hg=>h2 i c hc (by simp only [List.map_cons,List.mem_cons,not_or]; exact ⟨hk.2,hn⟩) hk.1 hg) i c hc ⟨hk,hne⟩ hg
theorem layB_ran' {Φ:Funs} {ρ:Env} {Γ:Gd} {sel:B} (hΓ:Gd.d ρ Γ = true) (hsel:sel.d ρ = true) {hp:Hl}:∀ (l:List (Nat × Blk)),
  Snd Φ ρ (layB Γ sel hp l) (fun hp'=>∀ (β:Beta) (w:World) (keep:Nat -> Prop),(∀ p,p ∈ l -> blkMt β ρ w p.1 p.2) -> (∀ id b,hpOf hp id = some b -> id ∉ l.map (·.1) -> keep id -> Gd.d ρ b.g = true -> blkMt β ρ w id b) ->
    ∀ id b,hpOf hp' id = some b -> keep id -> Gd.d ρ b.g = true -> blkMt β ρ w id b)
 | []=>Snd.pure fun β w keep _ h id b hb hk hg=>h id b hb (by simp) hk hg
 | (id,b) :: l=>by
  unfold layB
  refine Snd.bind (layB_ran' hΓ hsel l) fun hp' hih=>?_
  split
  ·exact Snd.pure (layB_step hih fun β w h _=>h)
  ·split
   ·split
    ·exact Snd.pure (layB_step hih fun β w h _=>h)
    ·exact Snd.fail
   ·rename_i old hold
    split
    ·exact Snd.pure (layB_step hih fun β w h _=>h)
    refine Snd.bind (muxBl_snd sel b.cells old.cells) fun z hz=>?_
    split
    ·rename_i hc
     simp only [Bool.and_eq_true,beq_iff_eq] at hc
     obtain ⟨⟨_,hs2⟩,hro⟩:=hc
     refine Snd.pure (layB_step hih fun β w h hg=>?_)
     have:=hz.2.2 β w id [] old.g old.ro (by rw [if_pos hsel]; exact blkMt_g hro rfl h)
     exact this
    ·exact Snd.fail
theorem layB_ran {Φ:Funs} {ρ:Env} {Γ:Gd} {sel:B} (hΓ:Gd.d ρ Γ = true) (hsel:sel.d ρ = true) {hp:Hl} (l:List (Nat × Blk)) :
  Snd Φ ρ (layB Γ sel hp l) (fun hp'=>∀ (β:Beta) (w:World),(∀ p,p ∈ l -> blkMt β ρ w p.1 p.2) -> (∀ id b,hpOf hp id = some b -> id ∉ l.map (·.1) -> Gd.d ρ b.g = true -> blkMt β ρ w id b) -> heapMt β ρ (hpOf hp') w) :=
 (layB_ran' hΓ hsel l).mono fun hp' h β w h1 h2 id b hb hg=>h β w (fun _=>True) h1 (fun id b hb hn _ hg=>h2 id b hb hn hg) id b hb trivial hg
theorem layB_idle {Φ:Funs} {ρ:Env} {Γ:Gd} {sel:B} (hΓ:Gd.d ρ Γ = false) (hsel:sel.d ρ = false) {hp:Hl}:∀ (l:List (Nat × Blk)),
  Snd Φ ρ (layB Γ sel hp l) (fun hp'=>∀ β w,heapMt β ρ (hpOf hp) w -> heapMt β ρ (hpOf hp') w)
 | []=>Snd.pure fun β w h=>h
 | (id,b) :: l=>by
  unfold layB
  refine Snd.bind (layB_idle hΓ hsel l) fun hp' hih=>?_
  have hne:Γ.isEmpty = false:=by cases Γ; simp at hΓ; rfl
  rw [hne]
  simp only [Bool.false_eq_true,if_false]
  split
  ·split
   ·refine Snd.pure fun β w h i c hc hg=>?_
    unfold hpOf at hc
    split at hc
    ·simp only [Option.some.injEq] at hc
     subst hc
     simp only at hg
     rw [hΓ] at hg
     cases hg
    ·exact hih β w h i c hc hg
   ·exact Snd.fail
  ·rename_i old hold
   split
   ·refine Snd.pure fun β w h i c hc hg=>?_
    unfold hpOf at hc
    split at hc
    ·simp only [Option.some.injEq] at hc
     subst hc
     simp only at hg
     rw [hΓ] at hg
     cases hg
    ·exact hih β w h i c hc hg
   refine Snd.bind (muxBl_snd sel b.cells old.cells) fun z hz=>?_
   split
   ·refine Snd.pure fun β w h i c hc hg=>?_
    unfold hpOf at hc
    split at hc
    ·rename_i he
     simp only [beq_iff_eq] at he
     subst he
     simp only [Option.some.injEq] at hc
     subst hc
     exact hz.2.2 β w id old.g old.g old.ro (by rw [if_neg (by simp [hsel])]; exact h id old hold hg)
    ·exact hih β w h i c hc hg
   ·exact Snd.fail

def undefSV:SV:={ g:=[(.c true,false)],s:=.any }
theorem undefSV_mt {β:Beta} {ρ:Env}:undefSV.mt β ρ undef:=⟨fun h=>(by cases h),fun _=>rfl⟩
def setT (tm:List SV) (dst:Option Tmp) (v:SV):Option (List SV) :=
 match dst with
 | none=>some tm
 | some d=>if Nat.blt d tm.length then some (tm.set d v) else none
theorem put_tmps (a:Act) (d:Option Tmp) (v:Value):(a.put d v).defers = a.defers /\ (a.put d v).tmps.size = a.tmps.size:=by
 cases d <;> simp [Act.put]
theorem Lk.put {x:Cx} {ρ:Env} {js:Js} {a:Act} {w:World} (h:Lk x ρ js a.defers w) (d:Option Tmp) (v:Value):Lk x ρ js (a.put d v).defers w:=by
 rw [(put_tmps a d v).1]; exact h
theorem slot_put {β:Beta} {ρ:Env} {a:Act} {tm tm':List SV} {dst:Option Tmp} {sv:SV} {v:Value} (hs:a.tmps.size = tm.length) (h:∀ (t:Nat) (x:SV),tm[t]? = some x -> x.mt β ρ (a.tmps.getD t undef))
  (ht:setT tm dst sv = some tm') (hv:sv.mt β ρ v):(a.put dst v).tmps.size = tm'.length /\ ∀ (t:Nat) (x:SV),tm'[t]? = some x -> x.mt β ρ ((a.put dst v).tmps.getD t undef):=by
 unfold setT at ht
 cases dst with
 | none =>
  simp only [Option.some.injEq] at ht
  subst ht
  exact ⟨hs,h⟩
 | some d =>
  simp only at ht
  split at ht
  ·rename_i hd
   simp only [Nat.blt_eq] at hd
   simp only [Option.some.injEq] at ht
   subst ht
   refine ⟨by simp [Act.put,hs],fun t x hx=>?_⟩
   rw [List.getElem?_set] at hx
   simp only [Act.put]
   split at hx
   ·rename_i e
    subst e
    simp only [Option.some.injEq] at hx
    subst hx
    simpa [hs,hd] using hv
   ·rename_i e
    have:=h t x hx
    simpa [Array.getElem?_setIfInBounds_ne e] using this
  ·cases ht

def Fresh (β:Beta) (c:Ctr):Prop:=∀ i,c.id <= i -> β i = none

end Go.Proofs.YtfgbfdlacnihkaaGreatDoor.Sx
