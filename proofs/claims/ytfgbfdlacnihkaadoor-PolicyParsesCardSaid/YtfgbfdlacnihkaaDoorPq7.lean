/-
  Merged texts (SxT, SxU, SxY, SxZ, PoL, PoR, PoN, PoF, PoG, PoC, SxCw, PoK, SxCx, PoM, SxSo, SxRf, SxRg, SxRh). No condition.
-/
import Derived.KernelRfl
import Derived.ProofKit
import Derived.WideKeyArgs
import Derived.LaidLaws
import Derived.Handed
import Derived.OpenShut
import Derived.Shelf.Strings.Search3
import Derived.Shelf.Strings.Cut
import Derived.Shelf.Strings.Runes
import Derived.Shelf.Strings.BuilderK
import Derived.Shelf.Strings.Repeat
import Derived.Test.YtfgbfdlacnihkaaDoorChecked
import Derived.WalkKit
import Derived.BigCall
import Derived.Deep.Draws
import Derived.Laws.Runes
import Derived.WalkMore
import Derived.Deep.RegionWith
import Derived.LoopN
import Derived.Laws.BytesString
import Derived.Laws.IdiomStrings
import Derived.Lib.IndexBytes
import Derived.Shelf.SlLaysE0
import Derived.Shelf.RegionOpenPlain
import Derived.Deep.LoopGhost
import Derived.Lib.Walk
import Derived.Lib.SliceRun
import Derived.Shelf.Spec.SlicesGrow
import Derived.Laws.AppendOwn
import Derived.Shelf.SlSortCmp.NoneTotal
import Derived.Test.YtfgbfdlacnihkaaDoorPq2
import Derived.Test.YtfgbfdlacnihkaaDoorPq3
import Derived.Test.YtfgbfdlacnihkaaDoorPq6
set_option linter.unusedVariables false
set_option linter.unusedSimpArgs false
namespace Go.Proofs.YtfgbfdlacnihkaaDoor.Sx
open Go

def Em.eqn (Φ:Funs) (ρ:Env):Em -> Prop
 | .di n r=>ρ.i n = r.d ρ
 | .db n r=>ρ.b n = r.d ρ
 | .call f ai ab i0 ni b0 nb =>
  (∀ j,j < ni -> ρ.i (i0 + j) = (Φ f (ai.map (A.d ρ)) (ab.map (B.d ρ))).1.getD j 0) /\
  (∀ j,j < nb -> ρ.b (b0 + j) = (Φ f (ai.map (A.d ρ)) (ab.map (B.d ρ))).2.getD j false)
 | .ob _ _=>True
def eqns (Φ:Funs) (ρ:Env):List Em -> Prop
 | []=>True
 | e :: l=>e.eqn Φ ρ /\ eqns Φ ρ l
theorem eqns_of {Φ:Funs} {ρ:Env}:∀ {l:List Em},(∀ e,e ∈ l -> match e with | .ob _ _=>True | e=>e.ok Φ ρ) -> eqns Φ ρ l
 | [],_=>trivial
 | e :: l,h=>by
  refine ⟨?_,eqns_of fun e he=>h e (by simp [he])⟩
  have:=h e (by simp)
  cases e with
  | di n r=>exact this
  | db n r=>exact this
  | call f ai ab i0 ni b0 nb=>exact this
  | ob g b=>trivial
def headsI (ρ:Env):List Int -> Nat -> Prop
 | [],_=>True
 | x :: l,n=>ρ.i n = x /\ headsI ρ l (n + 1)
def headsB (ρ:Env):List Bool -> Nat -> Prop
 | [],_=>True
 | x :: l,n=>ρ.b n = x /\ headsB ρ l (n + 1)
theorem headsI_of {ρ:Env}:∀ {l:List Int} {k:Nat},(∀ n,n < l.length -> ρ.i (k + n) = l.getD n 0) -> headsI ρ l k
 | [],_,_=>trivial
 | x :: l,k,h=>⟨by simpa using h 0 (by simp),headsI_of fun n hn=>by have:=h (n + 1) (by simpa using hn); rw [show k + 1 + n = k + (n + 1) by omega,this]; simp⟩
theorem headsB_of {ρ:Env}:∀ {l:List Bool} {k:Nat},(∀ n,n < l.length -> ρ.b (k + n) = l.getD n false) -> headsB ρ l k
 | [],_,_=>trivial
 | x :: l,k,h=>⟨by simpa using h 0 (by simp),headsB_of fun n hn=>by have:=h (n + 1) (by simpa using hn); rw [show k + 1 + n = k + (n + 1) by omega,this]; simp⟩
theorem wrap_i64 (n:Int):IntKind.wrap .i64 n = if n % 18446744073709551616 >= 9223372036854775808 then n % 18446744073709551616 - 18446744073709551616 else n % 18446744073709551616:=by simp [IntKind.wrap,IntKind.signed,IntKind.bits]
def allR (f:Nat -> Bool):Nat -> Nat -> Bool
 | 0,lo=>f lo
 | k + 1,lo=>allR f k lo && allR f k (lo + 2 ^ k)
theorem wrap_i64_in {n:Int} (h1:-9223372036854775808 <= n) (h2:n < 9223372036854775808):IntKind.wrap .i64 n = n:=by
 rw [wrap_i64]
 split <;> omega
end Go.Proofs.YtfgbfdlacnihkaaDoor.Sx
namespace Go.Proofs.YtfgbfdlacnihkaaDoor.Sx
open Go Go.ChangeShapes Go.WideShapes Go.ChangeAt Go.RowKit

def shOf (P:Program) (t:TypeId):Option Sh:=match P.underlying t with
 | some .bool=>some (.val false [.bool])
 | some (.int k)=>some (.val false [.int k])
 | some (.struct _)=>(ckOf P 8 t).map (.val true ·)
 | some (.array _ _)=>(ckOf P 8 t).map (.val true ·)
 | some .string=>some (.val false [.str])
 | some (.slice _)=>(ckOf P 8 t).map (.val false ·)
 | _=>none
def shsOf (P:Program):List TypeId -> Option (List Sh)
 | []=>some []
 | t :: ts=>match shOf P t,shsOf P ts with
  | some s,some ss=>some (s :: ss)
  | _,_=>none

theorem flatC_append {w:World} {ps:List Rg}:∀ {l1:List CK} {v1:List Value} {l2:List CK} {v2:List Value} {f1 f2:Fl},flatC w ps l1 v1 = some f1 -> flatC w ps l2 v2 = some f2 -> ∃ f,flatC w ps (l1 ++ l2) (v1 ++ v2) = some f
 | [],[],l2,v2,f1,f2,_,h2=>⟨f2,h2⟩
 | .int k :: l1,v :: v1,l2,v2,f1,f2,h1,h2=>by
  unfold flatC at h1
  split at h1
  ·rename_i k' n is bs hv
   split at h1
   ·rename_i hc
    obtain ⟨f,hf⟩:=flatC_append hv h2
    refine ⟨(n :: f.1,f.2),?_⟩
    simp only [List.cons_append,flatC,hf]
    rw [if_pos hc]
   ·cases h1
  ·cases h1
 | .bool :: l1,v :: v1,l2,v2,f1,f2,h1,h2=>by
  unfold flatC at h1
  split at h1
  ·rename_i b is bs hv
   obtain ⟨f,hf⟩:=flatC_append hv h2
   exact ⟨(f.1,b :: f.2),by simp only [List.cons_append,flatC,hf]⟩
  ·cases h1
 | .pt k o :: l1,v :: v1,l2,v2,f1,f2,h1,h2=>by
  unfold flatC at h1
  split at h1
  ·rename_i a r is bs hr hv
   split at h1
   ·rename_i hc
    obtain ⟨f,hf⟩:=flatC_append hv h2
    refine ⟨(f.1,f.2),?_⟩
    simp only [List.cons_append,flatC,hf,hr]
    rw [if_pos hc]
   ·cases h1
  ·cases h1
 | .str :: l1,v :: v1,l2,v2,f1,f2,h1,h2=>by
  unfold flatC at h1
  split at h1
  ·rename_i s is bs hv
   split at h1
   ·rename_i hc
    obtain ⟨f,hf⟩:=flatC_append hv h2
    refine ⟨(encS s :: f.1,f.2),?_⟩
    simp only [List.cons_append,flatC,hf]
    rw [if_pos hc]
   ·cases h1
  ·cases h1
 | .sl ks :: l1,v :: v1,l2,v2,f1,f2,h1,h2=>by
  unfold flatC at h1
  split at h1
  ·rename_i q n r is bs hs hv
   obtain ⟨f,hf⟩:=flatC_append hv h2
   exact ⟨(enc q :: n :: f.1,f.2),by simp only [List.cons_append,flatC,hf,hs]⟩
  ·cases h1
 | .sl _ :: _,[],_,_,_,_,h1,_=>by simp [flatC] at h1
 | .str :: _,[],_,_,_,_,h1,_=>by simp [flatC] at h1
 | [],_ :: _,_,_,_,_,h1,_=>by simp [flatC] at h1
 | .int _ :: _,[],_,_,_,_,h1,_=>by simp [flatC] at h1
 | .bool :: _,[],_,_,_,_,h1,_=>by simp [flatC] at h1
 | .pt _ _ :: _,[],_,_,_,_,h1,_=>by simp [flatC] at h1

section
variable {H:Type} {enc:TypeId × Value -> H} {P:Program} {w:World} {base:Nat} {spare:Nat -> Bool} {held:Bool}
theorem ckFields_flat {g:TypeId -> Option (List CK)} {n:Nat} (hg:∀ (t:TypeId) (l:List CK) (cs:List Value) (x:DataW H × List MemPlace),g t = some l -> DataW.trod enc P w base spare held n t cs = some x -> ∃ f,flatC w [] l cs = some f) {cs:List Value}:∀ {fs:List Field} {off:Nat} {l:List CK},
  ckFields P g fs off = some l -> (∀ f,f ∈ fs -> ∃ x,DataW.trod enc P w base spare held n f.type ((cs.drop f.offset).take (P.cellsOf f.type)) = some x) -> ∃ f,flatC w [] l ((cs.drop off).take l.length) = some f
 | [],off,l,h,_=>by
  simp only [ckFields,Option.some.injEq] at h
  subst h
  exact ⟨_,rfl⟩
 | f :: fs,off,l,h,hx=>by
  unfold ckFields at h
  split at h
  ·rename_i ho
   simp only [beq_iff_eq] at ho
   split at h
   ·rename_i l1 hl1
    split at h
    ·rename_i hlen
     simp only [beq_iff_eq] at hlen
     split at h
     ·rename_i r hr
      simp only [Option.some.injEq] at h
      subst h
      obtain ⟨x,hx1⟩:=hx f (by simp)
      obtain ⟨f1,hf1⟩:=hg _ _ _ _ hl1 hx1
      obtain ⟨f2,hf2⟩:=ckFields_flat hg hr (fun g hm=>hx g (by simp [hm]))
      obtain ⟨f3,hf3⟩:=flatC_append hf1 hf2
      refine ⟨f3,?_⟩
      rw [List.length_append,List.take_add,List.drop_drop,<- ho,hlen]
      rw [<- ho,hlen] at hf3
      exact hf3
     ·cases h
    ·cases h
   ·cases h
  ·cases h
theorem repCK_flat {l:List CK} {cs:List Value}:∀ {m off:Nat},(∀ i,i < m -> ∃ f,flatC w [] l ((cs.drop (off + i * l.length)).take l.length) = some f) -> ∃ f,flatC w [] (repCK l m) ((cs.drop off).take (m * l.length)) = some f
 | 0,off,_=>⟨_,by simp [repCK]; rfl⟩
 | m + 1,off,h=>by
  obtain ⟨f1,hf1⟩:=h 0 (by omega)
  obtain ⟨f2,hf2⟩:=repCK_flat (l:=l) (cs:=cs) (m:=m) (off:=off + l.length) (fun i hi=>by
   have:=h (i + 1) (by omega)
   rwa [show off + (i + 1) * l.length = off + l.length + i * l.length by rw [Nat.add_mul]; omega] at this)
  simp only [Nat.zero_mul,Nat.add_zero] at hf1
  obtain ⟨f3,hf3⟩:=flatC_append hf1 hf2
  refine ⟨f3,?_⟩
  rw [show (m + 1) * l.length = l.length + m * l.length by rw [Nat.add_mul]; omega,List.take_add,List.drop_drop]
  exact hf3
theorem flatC_dec:∀ {l:List CK} {vs:List Value} {f:Fl},flatC w [] l vs = some f -> l.all ckPlain = true -> vs.length = l.length /\ ∀ (k:Nat) (ck:CK),l[k]? = some ck -> ∃ v n,vs[k]? = some v /\ decV ck v = some n
 | [],[],f,h,_=>⟨rfl,fun k ck hk=>by simp at hk⟩
 | .int kd :: l,v :: vs,f,h,hp=>by
  unfold flatC at h
  split at h
  ·rename_i k' n is bs hf
   split at h
   ·rename_i hc
    obtain ⟨h1,h2⟩:=flatC_dec hf (by simpa [ckPlain] using hp)
    refine ⟨by simp [h1],fun k ck hk=>?_⟩
    cases k with
    | zero=>simp at hk; subst hk; exact ⟨_,n,by simp; rfl,by simp only [decV]; rw [if_pos hc]⟩
    | succ k=>simp at hk; simpa using h2 k ck hk
   ·cases h
  ·cases h
 | .bool :: l,v :: vs,f,h,hp=>by
  unfold flatC at h
  split at h
  ·rename_i b is bs hf
   obtain ⟨h1,h2⟩:=flatC_dec hf (by simpa [ckPlain] using hp)
   refine ⟨by simp [h1],fun k ck hk=>?_⟩
   cases k with
   | zero=>simp at hk; subst hk; exact ⟨_,_,by simp; rfl,rfl⟩
   | succ k=>simp at hk; simpa using h2 k ck hk
  ·cases h
 | .pt k o :: l,v :: vs,f,h,hp=>by
  unfold flatC at h
  split at h
  ·rename_i a r is bs hr hf
   simp at hr
  ·cases h
 | .str :: l,v :: vs,f,h,hp=>by
  unfold flatC at h
  split at h
  ·rename_i s is bs hf
   split at h
   ·rename_i hc
    obtain ⟨h1,h2⟩:=flatC_dec hf (by simpa [ckPlain] using hp)
    refine ⟨by simp [h1],fun k ck hk=>?_⟩
    cases k with
    | zero=>simp at hk; subst hk; exact ⟨_,encS s,by simp; rfl,by simp only [decV]; rw [if_pos hc]⟩
    | succ k=>simp at hk; simpa using h2 k ck hk
   ·cases h
  ·cases h
 | .sl _ :: _,_,f,h,hp=>by simp [ckPlain] at hp
 | .str :: _,[],f,h,_=>by simp [flatC] at h
 | [],_ :: _,f,h,_=>by simp [flatC] at h
 | .int _ :: _,[],f,h,_=>by simp [flatC] at h
 | .bool :: _,[],f,h,_=>by simp [flatC] at h
 | .pt _ _ :: _,[],f,h,_=>by simp [flatC] at h
theorem read_dec {ks:List CK} {b:Nat} {w:World}:∀ {n o j:Nat},(∀ i,i < n -> ∃ ck v m,ks[(j + i) % ks.length]? = some ck /\ w.cell? ⟨b,o + i,none⟩ = some v /\ decV ck v = some m) -> ∃ us l,readCells w b o n = some us /\ decVs ks j us = some l
 | 0,o,j,_=>⟨[],[],rfl,rfl⟩
 | n + 1,o,j,h=>by
  obtain ⟨ck,v,m,h1,h2,h3⟩:=h 0 (by omega)
  rw [Nat.add_zero] at h1 h2
  obtain ⟨us,l,g1,g2⟩:=read_dec (ks:=ks) (b:=b) (w:=w) (n:=n) (o:=o + 1) (j:=j + 1) fun i hi=>by
   obtain ⟨ck,v,m,h1,h2,h3⟩:=h (i + 1) (by omega)
   exact ⟨ck,v,m,by rw [show j + 1 + i = j + (i + 1) by omega]; exact h1,by rw [show o + 1 + i = o + (i + 1) by omega]; exact h2,h3⟩
  exact ⟨v :: us,m :: l,by simp only [readCells,h2,g1],by simp only [decVs,h1,g2,h3,Option.map_some]⟩
theorem cells?_get {w:World} {base:Nat} {a:Addr} {n:Nat} {cs:List Value} (h:w.cells? base a n = some cs):∀ k,k < n -> ∃ v,cs[k]? = some v /\ w.cell? (a.add k) = some v:=by
 unfold World.cells? at h
 split at h
 ·intro k hk
  have:=mapM_some_get h k k (by simp [hk])
  have hl:=mapM_some_length h
  simp at hl
  have hkl:k < cs.length:=by omega
  exact ⟨cs[k],List.getElem?_eq_getElem hkl,by rw [this]; exact List.getElem?_eq_getElem hkl⟩
 ·cases h
theorem flatSl_trod {fuel:Nat} {t e:TypeId} {ks:List CK} {v:Value} {x:DataW H × List MemPlace} (ht:P.underlying t = some (.slice e)) (hk:∀ (n:Nat) (cs:List Value) (x:DataW H × List MemPlace),DataW.trod enc P w base spare held n e cs = some x -> ∃ f,flatC w [] ks cs = some f) (hpl:ks.all ckPlain = true) (hlen:ks.length = P.cellsOf e) (hne:ks ≠ [])
  (h:DataW.trod enc P w base spare held fuel t [v] = some x):∃ l n r,flatSl w ks v = some (l,n,r):=by
 rcases DataW.trod_slice ht h with ⟨h1,_⟩ | ⟨a,len,cap,elems,rest,n,rfl,h1,_,_,hl,hc,hlc,hel,_⟩
 ·simp only [List.cons.injEq,and_true] at h1
  subst h1
  exact ⟨[],0,none,flatSl_0⟩
 ·simp only [List.cons.injEq,and_true] at h1
  subst h1
  have hpos:0 < ks.length:=List.length_pos_iff.2 hne
  by_cases h0:len = 0
  ·subst h0
   exact ⟨[],0,none,flatSl_0⟩
  ·-- an element's cells
   have cell:∀ i,i < len -> ∀ k,k < ks.length -> ∃ ck v m,ks[k]? = some ck /\ w.cell? ((a.add (i * P.cellsOf e)).add k) = some v /\ decV ck v = some m:=by
    intro i hi k hkl
    have h2:=hel i hi
    cases hcs:w.cells? base (a.add (i * P.cellsOf e)) (P.cellsOf e) with
    | none =>
     rw [hcs] at h2
     simp only [Option.bind_none] at h2
     have:elems[i]? = none:=h2.symm
     rw [List.getElem?_eq_none_iff] at this
     omega
    | some cs =>
     rw [hcs] at h2
     simp only [Option.bind_some] at h2
     have hi':i < elems.length:=by omega
     rw [List.getElem?_eq_getElem hi'] at h2
     obtain ⟨f,hf⟩:=hk _ _ _ h2
     obtain ⟨g1,g2⟩:=flatC_dec hf hpl
     obtain ⟨v,m,g3,g4⟩:=g2 k _ (List.getElem?_eq_getElem hkl)
     obtain ⟨v',g5,g6⟩:=cells?_get hcs k (by omega)
     rw [g3] at g5
     cases g5
     exact ⟨_,v,m,List.getElem?_eq_getElem hkl,g6,g4⟩
   have hspot:a.spot = none:=by
    obtain ⟨ck,v,m,_,hv,_⟩:=cell 0 (by omega) 0 hpos
    simp only [Nat.zero_mul,Addr.add,if_true] at hv
    unfold World.cell? at hv
    split at hv
    ·split at hv
     ·cases hv
     ·rename_i hs; simpa using hs
    ·cases hv
   obtain ⟨b,o,sp⟩:=a
   simp only at hspot
   subst hspot
   obtain ⟨us,l,g1,g2⟩:=read_dec (ks:=ks) (b:=b) (w:=w) (n:=len * ks.length) (o:=o) (j:=0) fun i hi=>by
    have hdiv:i / ks.length < len:=(Nat.div_lt_iff_lt_mul hpos).2 hi
    have hmod:i % ks.length < ks.length:=Nat.mod_lt _ hpos
    obtain ⟨ck,v,m,k1,k2,k3⟩:=cell (i / ks.length) hdiv (i % ks.length) hmod
    refine ⟨ck,v,m,by rw [Nat.zero_add]; exact k1,?_,k3⟩
    rw [add_lit,add_lit,<- hlen] at k2
    have:=Nat.div_add_mod i ks.length
    rw [Nat.mul_comm] at this
    rwa [Nat.add_assoc,this] at k2
   have hin:inR .i64 (len:Int) = true:=by
    refine inR_mk ⟨?_,?_⟩
    ·show -9223372036854775808 <= (len:Int); omega
    ·show (len:Int) <= 9223372036854775807
     unfold maxLen at hc
     omega
   refine ⟨l,len,some { blk:=b,off:=o,len:=len * ks.length,ro:=true,sq:=some (ks,l) },?_⟩
   unfold flatSl
   have:(len == 0) = false:=by simpa using h0
   have hblt:Nat.blt cap len = false:=by
    cases h:Nat.blt cap len
    ·rfl
    ·rw [Nat.blt_eq] at h; omega
   simp only [hblt,this,Bool.false_eq_true,if_false,hin,if_true,g1,Option.bind_some,g2]

theorem ckOf_flat:∀ (m:Nat) (n:Nat) (t:TypeId) (l:List CK) (cs:List Value) (x:DataW H × List MemPlace),ckOf P m t = some l -> DataW.trod enc P w base spare held n t cs = some x -> ∃ f,flatC w [] l cs = some f
 | 0,n,t,l,cs,x,h,_=>by simp [ckOf] at h
 | m + 1,n,t,l,cs,x,h,hx=>by
  unfold ckOf at h
  split at h
  ·rename_i ht
   simp only [Option.some.injEq] at h
   subst h
   obtain ⟨b,rfl,_⟩:=DataW.trod_bool ht hx
   exact ⟨_,rfl⟩
  ·rename_i k ht
   simp only [Option.some.injEq] at h
   subst h
   obtain ⟨v,rfl,_,hwf⟩:=DataW.trod_int ht hx
   refine ⟨([v],[]),?_⟩
   have:inR k v = true:=by simpa [Lit.wf,inR] using hwf
   simp [flatC,this]
  ·rename_i ht
   simp only [Option.some.injEq] at h
   subst h
   obtain ⟨s,rfl,_,hs⟩:=DataW.trod_string ht hx
   have:inR .i64 (s.size:Int) = true:=by
    refine inR_mk ⟨?_,?_⟩
    ·show -9223372036854775808 <= (s.size:Int); omega
    ·show (s.size:Int) <= 9223372036854775807
     unfold maxLen at hs
     omega
   exact ⟨([encS s],[]),by simp [flatC,this]⟩
  ·rename_i e ht
   split at h
   ·rename_i ks hks
    split at h
    ·rename_i hc
     simp only [Bool.and_eq_true,beq_iff_eq,Bool.not_eq_true',List.isEmpty_eq_false_iff] at hc
     simp only [Option.some.injEq] at h
     subst h
     have hcs:∃ v,cs = [v]:=by
      rcases DataW.trod_slice ht hx with ⟨h1,_⟩ | ⟨_,_,_,_,_,_,_,h1,_⟩ <;> exact ⟨_,h1⟩
     obtain ⟨v,rfl⟩:=hcs
     obtain ⟨l,m,q,hq⟩:=flatSl_trod ht (fun n' cs x hx=>ckOf_flat m n' e ks cs x hks hx) hc.2 hc.1.1 hc.1.2 hx
     exact ⟨(Sx.enc l :: m :: [],[]),by simp [flatC,hq]⟩
    ·cases h
   ·cases h
  ·rename_i fs ht
   split at h
   ·rename_i l' hl
    split at h
    ·rename_i hlen
     simp only [beq_iff_eq] at hlen
     simp only [Option.some.injEq] at h
     subst h
     obtain ⟨xs,n',rfl,_,hcs,hxl,hf⟩:=DataW.trod_struct ht hx
     have:=ckFields_flat (cs:=cs) (fun t l cs x h1 h2=>ckOf_flat m n' t l cs x h1 h2) hl (fun f hm=>by
      obtain ⟨i,hi⟩:=List.getElem?_of_mem hm
      have hi':fs[i]? = some f:=by simpa using hi
      have:=hf i f hi'
      have hlt:i < xs.length:=by rw [hxl]; exact (Array.getElem?_eq_some_iff.1 hi').1
      exact ⟨xs[i],by rw [this]; exact List.getElem?_eq_getElem hlt⟩)
     simpa [hlen,<- hcs] using this
    ·cases h
   ·cases h
  ·rename_i k e ht
   split at h
   ·rename_i l' hl
    split at h
    ·rename_i hc
     simp only [Bool.and_eq_true,beq_iff_eq] at hc
     simp only [Option.some.injEq] at h
     subst h
     obtain ⟨xs,n',rfl,_,hcs,hxl,hf⟩:=DataW.trod_array ht hx
     have:=repCK_flat (l:=l') (cs:=cs) (m:=k) (off:=0) (fun i hi=>by
      have h1:=hf i hi
      have hlt:i < xs.length:=by omega
      rw [List.getElem?_eq_getElem hlt] at h1
      rw [Nat.zero_add,hc.1]
      exact ckOf_flat m n' e l' _ _ hl h1)
     rw [hc.2,<- hcs] at this
     simpa using this
    ·cases h
   ·cases h
  ·cases h

theorem shOf_flat {r:Reach} {b0:Nat} {t:TypeId} {s:Sh} {v:Value} {d:DataW H} {p:List MemPlace} (h:shOf P t = some s) (hv:Value.okWide P w r b0 t v) (hd:DataW.Trod enc P w base spare held t v d p):∃ agg l f,s = .val agg l /\ flat1 w [] agg l v = some f:=by
 obtain ⟨n,hn⟩:=hd
 unfold shOf at h
 split at h
 ·rename_i ht
  simp only [Option.some.injEq] at h
  subst h
  obtain ⟨b,rfl⟩:=okWide_bool ht hv
  exact ⟨_,_,_,rfl,rfl⟩
 ·rename_i k ht
  simp only [Option.some.injEq] at h
  subst h
  obtain ⟨m,rfl⟩:=okWide_int ht hv
  obtain ⟨m',hm,_,hwf⟩:=DataW.trod_int ht hn
  have e:m = m':=by simpa [Value.cells] using hm
  subst e
  have:inR k m = true:=by simpa [Lit.wf,inR] using hwf
  exact ⟨_,_,([m],[]),rfl,by simp [flat1,flatC,this]⟩
 ·rename_i fs ht
  cases hc:ckOf P 8 t with
  | none=>rw [hc] at h; cases h
  | some l =>
   rw [hc] at h
   simp only [Option.map_some,Option.some.injEq] at h
   subst h
   obtain ⟨cs,rfl,_⟩:=okWide_struct ht hv
   obtain ⟨f,hf⟩:=ckOf_flat 8 _ _ _ _ _ hc hn
   exact ⟨_,_,f,rfl,hf⟩
 ·rename_i k e ht
  cases hc:ckOf P 8 t with
  | none=>rw [hc] at h; cases h
  | some l =>
   rw [hc] at h
   simp only [Option.map_some,Option.some.injEq] at h
   subst h
   obtain ⟨f,hf⟩:=ckOf_flat 8 _ _ _ _ _ hc hn
   obtain ⟨_,_,_,_,hcs,_⟩:=DataW.trod_array ht hn
   have hagg:∃ cs,v = .agg cs:=by
    simp only [Value.okWide,ht] at hv
    obtain ⟨cs,h1,_⟩:=hv
    exact ⟨cs,h1⟩
   obtain ⟨cs,rfl⟩:=hagg
   exact ⟨_,_,f,rfl,hf⟩
 ·rename_i ht
  simp only [Option.some.injEq] at h
  subst h
  obtain ⟨s,hs,_,hm⟩:=DataW.trod_string ht hn
  have hv':∃ s,v = .string s:=by
   cases v <;> simp_all [Value.okWide,Value.cells,Cell.okWide,Cell.ok]
  obtain ⟨s',rfl⟩:=hv'
  have e:s' = s:=by simpa [Value.cells] using hs
  subst e
  have:inR .i64 (s'.size:Int) = true:=by
   refine inR_mk ⟨?_,?_⟩
   ·show -9223372036854775808 <= (s'.size:Int); omega
   ·show (s'.size:Int) <= 9223372036854775807
    unfold maxLen at hm
    omega
  exact ⟨_,_,([encS s'],[]),rfl,by simp [flat1,flatC,this]⟩
 ·rename_i e ht
  cases hc:ckOf P 8 t with
  | none=>rw [hc] at h; cases h
  | some l =>
   rw [hc] at h
   simp only [Option.map_some,Option.some.injEq] at h
   subst h
   obtain ⟨a,len,cap,rfl⟩:=okWide_slice ht hv
   obtain ⟨f,hf⟩:=ckOf_flat 8 _ _ _ _ _ hc hn
   refine ⟨_,_,f,rfl,?_⟩
   have hl:∃ ck,l = [ck]:=by
    unfold ckOf at hc
    simp only [ht] at hc
    split at hc
    ·split at hc
     ·simp only [Option.some.injEq] at hc; exact ⟨_,hc.symm⟩
     ·cases hc
    ·cases hc
   obtain ⟨ck,rfl⟩:=hl
   simpa [flat1,Value.cells] using hf
 ·cases h

theorem flat_of_trod {r:Reach} {b0:Nat}:∀ {ts:List TypeId} {ss:List Sh} {vs:List Value} {ds:List (DataW H)} {p:List MemPlace},shsOf P ts = some ss -> (∀ (j:Nat) t v,ts[j]? = some t -> vs[j]? = some v -> Value.okWide P w r b0 t v) ->
  DataW.TrodAll enc P w base spare held ts vs ds p -> ∃ is bs,flatArgs ss vs w = some (is,bs,[]) /\ ptrShapes ss = []
 | [],ss,vs,ds,p,h,_,hA=>by
  simp only [shsOf,Option.some.injEq] at h
  subst h
  obtain ⟨rfl,_,_⟩:=trodAll_nil hA
  exact ⟨[],[],rfl,rfl⟩
 | t :: ts,ss,vs,ds,p,h,hv,hA=>by
  unfold shsOf at h
  split at h
  ·rename_i s ss' hs hss
   simp only [Option.some.injEq] at h
   subst h
   obtain ⟨v,vs',d,ds',p',q,rfl,rfl,rfl,h1,h2⟩:=trodAll_cons hA
   obtain ⟨is,bs,hr,hp⟩:=flat_of_trod hss (fun j t v hj hvj=>hv (j + 1) t v (by simpa using hj) (by simpa using hvj)) h2
   obtain ⟨agg,l,f,rfl,hf⟩:=shOf_flat hs (hv 0 t v (by simp) (by simp)) h1
   refine ⟨f.1 ++ is,f.2 ++ bs,?_,hp⟩
   simp only [flatArgs,hf,hr]
  ·cases h

theorem trodAll_len:∀ {ts:List TypeId} {vs:List Value} {ds:List (DataW H)} {p:List MemPlace},DataW.TrodAll enc P w base spare held ts vs ds p -> vs.length = ts.length /\ ds.length = ts.length
 | [],vs,ds,p,h=>by obtain ⟨rfl,rfl,_⟩:=trodAll_nil h; exact ⟨rfl,rfl⟩
 | t :: ts,vs,ds,p,h=>by
  obtain ⟨v,vs',d,ds',p',q,rfl,rfl,rfl,_,h2⟩:=trodAll_cons h
  have:=trodAll_len h2
  simp [this.1,this.2]
theorem trodAll_stays (hl:laidOutB P = true) {W W':World} {sp':Nat -> Bool}:∀ {ts:List TypeId} {vs:List Value} {ds:List (DataW H)} {ps:List MemPlace},(∀ t,t ∈ ts -> P.readableRec t = true /\ t < P.types.size) ->
  DataW.TrodAll enc P W base (fun _=>true) true ts vs ds ps -> (∀ p ∈ ps,W.sameAt W' p) -> (∀ p ∈ ps,sp' p.block = true) -> DataW.TrodAll enc P W' base sp' true ts vs ds ps
 | [],vs,ds,ps,_,h,_,_=>by obtain ⟨rfl,rfl,rfl⟩:=trodAll_nil h; exact trodAll_mk0
 | t :: ts,vs,ds,ps,hr,h,hs,hp=>by
  obtain ⟨v,vs',d,ds',p',q,rfl,rfl,rfl,h1,h2⟩:=trodAll_cons h
  obtain ⟨hr1,hr2⟩:=hr t (by simp)
  exact trodAll_cons_mk (WideElems.Trod_stays hl hr1 hr2 h1 (fun p hm=>hs p (by simp [hm])) (fun p hm=>hp p (by simp [hm])))
   (trodAll_stays hl (fun t hm=>hr t (by simp [hm])) h2 (fun p hm=>hs p (by simp [hm])) (fun p hm=>hp p (by simp [hm])))
end

def inCK:CK -> Int -> Prop
 | .int k,m=>InR k m
 | .bool,m=>m = 0 \/ m = 1
 | .pt _ _,_=>False
 | .str,m=>∃ s:ByteArray,m = encS s /\ InR .i64 s.size
 | .sl _,_=>False
def slRng (ks:List CK) (q n:Int):Prop:=0 <= n /\ n <= 9223372036854775807 /\ ∃ l,q = enc l /\ l.length = n.toNat * ks.length /\ ∀ (j:Nat) (m:Int),l[j]? = some m -> ∃ ck,ks[j % ks.length]? = some ck /\ inCK ck m
def rngC:List CK -> List Int -> Prop
 | [],[]=>True
 | .int k :: l,n :: is=>(k.min <= n /\ n <= k.max) /\ rngC l is
 | .bool :: l,is=>rngC l is
 | .pt _ _ :: l,is=>rngC l is
 | .str :: l,n :: is=>(∃ s:ByteArray,n = encS s /\ InR .i64 s.size) /\ rngC l is
 | .sl ks :: l,q :: n :: is=>slRng ks q n /\ rngC l is
 | _,_=>False
def rngK:List CK -> (List Int -> Prop) -> List Int -> Prop
 | [],k,is=>k is
 | .int kd :: l,k,n :: is=>(kd.min <= n /\ n <= kd.max) /\ rngK l k is
 | .int _ :: _,_,[]=>False
 | .bool :: l,k,is=>rngK l k is
 | .pt _ _ :: l,k,is=>rngK l k is
 | .str :: l,k,n :: is=>(∃ s:ByteArray,n = encS s /\ InR .i64 s.size) /\ rngK l k is
 | .str :: _,_,[]=>False
 | .sl ks :: l,k,q :: n :: is=>slRng ks q n /\ rngK l k is
 | .sl _ :: _,_,[]=>False
 | .sl _ :: _,_,[_]=>False
def rngA:List Sh -> List Int -> Prop
 | [],is=>is = []
 | .val _ l :: ss,is=>rngK l (rngA ss) is
 | .ptr l :: ss,is=>rngK l (rngA ss) is
theorem rngK_of {k:List Int -> Prop}:∀ {l:List CK} {i1 i2:List Int},rngC l i1 -> k i2 -> rngK l k (i1 ++ i2)
 | [],[],i2,_,h=>h
 | .int kd :: l,n :: i1,i2,h1,h2=>⟨h1.1,rngK_of h1.2 h2⟩
 | .bool :: l,i1,i2,h1,h2=>rngK_of (l:=l) (by cases i1 <;> exact h1) h2
 | .pt _ _ :: l,i1,i2,h1,h2=>rngK_of (l:=l) (by cases i1 <;> exact h1) h2
 | .str :: l,n :: i1,i2,h1,h2=>⟨h1.1,rngK_of h1.2 h2⟩
 | .sl ks :: l,q :: n :: i1,i2,h1,h2=>⟨h1.1,rngK_of h1.2 h2⟩
 | .sl _ :: _,[],_,h,_=>h.elim
 | .sl _ :: _,[_],_,h,_=>h.elim
 | .str :: _,[],_,h,_=>h.elim
 | [],_ :: _,_,h,_=>h.elim
 | .int _ :: _,[],_,h,_=>h.elim
theorem flatSl_rng {w:World} {ks:List CK} {v:Value} {l:List Int} {n:Int} {r:Option Rg} (h:flatSl w ks v = some (l,n,r)):slRng ks (enc l) n:=by
 unfold flatSl at h
 split at h
 ·rename_i p len cap
  split at h
  ·cases h
  split at h
  ·simp only [Option.some.injEq,Prod.mk.injEq] at h
   obtain ⟨rfl,rfl,rfl⟩:=h
   exact ⟨by omega,by omega,[],rfl,by simp,fun j m hj=>by simp at hj⟩
  ·split at h
   ·rename_i b o
    split at h
    ·rename_i hin
     split at h
     ·rename_i l' hl
      simp only [Option.some.injEq,Prod.mk.injEq] at h
      obtain ⟨rfl,rfl,rfl⟩:=h
      cases hrd:readCells w b o (len * ks.length) with
      | none=>rw [hrd] at hl; simp at hl
      | some us =>
       rw [hrd] at hl
       simp only [Option.bind_some] at hl
       obtain ⟨g1,g2⟩:=readCells_get hrd
       obtain ⟨g3,g4⟩:=seq_of_read (b:=b) (o:=o) (w:=w) hl g2
       refine ⟨by omega,(inR_spec hin).2,l',rfl,by rw [Int.toNat_natCast]; omega,fun j m hj=>?_⟩
       obtain ⟨ck,v,k1,k2,k3⟩:=g4 j m hj
       refine ⟨ck,by simpa using k1,?_⟩
       cases ck with
       | int k=>exact k3.2
       | bool=>exact k3.1
       | str=>obtain ⟨s,_,k4,k5⟩:=k3; exact ⟨s,k4,k5⟩
       | pt _ _=>exact k3
       | sl _=>exact k3
     ·cases h
    ·cases h
   ·cases h
 ·cases h
theorem flatC_rng {w:World} {ps:List Rg}:∀ {l:List CK} {vs:List Value} {f:Fl},flatC w ps l vs = some f -> rngC l f.1
 | [],[],f,h=>by simp only [flatC,Option.some.injEq] at h; subst h; trivial
 | .int k :: l,v :: vs,f,h=>by
  unfold flatC at h
  split at h
  ·rename_i k' n is bs hv
   split at h
   ·rename_i hc
    simp only [Option.some.injEq] at h
    subst h
    simp only [Bool.and_eq_true,beq_iff_eq] at hc
    have h2:=hc.2
    simp only [inR,Bool.and_eq_true,decide_eq_true_eq] at h2
    exact ⟨h2,flatC_rng hv⟩
   ·cases h
  ·cases h
 | .bool :: l,v :: vs,f,h=>by
  unfold flatC at h
  split at h
  ·rename_i b is bs hv
   simp only [Option.some.injEq] at h
   subst h
   have:=flatC_rng hv
   cases is <;> exact this
  ·cases h
 | .pt k o :: l,v :: vs,f,h=>by
  unfold flatC at h
  split at h
  ·rename_i a r is bs hr hv
   split at h
   ·simp only [Option.some.injEq] at h
    subst h
    have:=flatC_rng hv
    cases is <;> exact this
   ·cases h
  ·cases h
 | .str :: l,v :: vs,f,h=>by
  unfold flatC at h
  split at h
  ·rename_i s is bs hv
   split at h
   ·rename_i hc
    simp only [Option.some.injEq] at h
    subst h
    exact ⟨⟨s,rfl,inR_spec hc⟩,flatC_rng hv⟩
   ·cases h
  ·cases h
 | .sl ks :: l,v :: vs,f,h=>by
  unfold flatC at h
  split at h
  ·rename_i q n r is bs hs hv
   simp only [Option.some.injEq] at h
   subst h
   exact ⟨flatSl_rng hs,flatC_rng hv⟩
  ·cases h
 | .sl _ :: _,[],_,h=>by simp [flatC] at h
 | .str :: _,[],_,h=>by simp [flatC] at h
 | [],_ :: _,_,h=>by simp [flatC] at h
 | .int _ :: _,[],_,h=>by simp [flatC] at h
 | .bool :: _,[],_,h=>by simp [flatC] at h
 | .pt _ _ :: _,[],_,h=>by simp [flatC] at h
theorem flatArgs_rng {w:World}:∀ {ss:List Sh} {vs:List Value} {is:List Int} {bs:List Bool} {ps:List Rg},flatArgs ss vs w = some (is,bs,ps) -> rngA ss is
 | [],[],is,bs,ps,h=>by
  simp only [flatArgs,Option.some.injEq,Prod.mk.injEq] at h
  exact h.1.symm
 | .val agg l :: ss,v :: vs,is,bs,ps,h=>by
  unfold flatArgs at h
  split at h
  ·rename_i i b is' bs' ps' h1 h2
   simp only [Option.some.injEq,Prod.mk.injEq] at h
   obtain ⟨rfl,_⟩:=h
   obtain ⟨us,hf,_⟩:=flat1_inv h1
   exact rngK_of (flatC_rng hf) (flatArgs_rng h2)
  ·cases h
 | .ptr l :: ss,v :: vs,is,bs,ps,h=>by
  unfold flatArgs at h
  split at h
  ·rename_i b o is' bs' ps' h2
   split at h
   ·rename_i i bb h1
    simp only [Option.some.injEq,Prod.mk.injEq] at h
    obtain ⟨rfl,_⟩:=h
    cases hr:readCells w b o l.length with
    | none=>rw [hr] at h1; simp at h1
    | some us =>
     rw [hr] at h1
     simp only [Option.bind_some] at h1
     exact rngK_of (flatC_rng h1) (flatArgs_rng h2)
   ·cases h
  ·cases h
 | [],_ :: _,_,_,_,h=>by simp [flatArgs] at h
 | .val _ _ :: _,[],_,_,_,h=>by simp [flatArgs] at h
 | .ptr _ :: _,[],_,_,_,h=>by simp [flatArgs] at h
theorem len_cons {α:Type} {l:List α} {n:Nat} (h:l.length = n + 1):∃ a t,l = a :: t /\ t.length = n:=by
 cases l with
 | nil=>simp at h
 | cons a t=>exact ⟨a,t,rfl,by simpa using h⟩
theorem len_nil {α:Type} {l:List α} (h:l.length = 0):l = []:=List.eq_nil_of_length_eq_zero h
theorem Keep.sameAt {w w':World} (h:Keep [] w w') {p:MemPlace} (hp:p.block < w.heap.size):w.sameAt w' p:=by
 cases p with
 | cell b off=>exact h.cell ⟨b,off,none⟩ hp fun r hr=>by cases hr
 | map b=>exact h.blk b hp fun r hr=>by cases hr
theorem Keep.keptBut {w w':World} (h:Keep [] w w') (may:MemPlace -> Prop):w.keptBut w' may:=by
 refine ⟨h.os,h.output,fun i hi=>?_⟩
 rw [h.blk i hi fun r hr=>by cases hr]
 cases hw:w.heap[i]? with
 | none=>trivial
 | some o =>
  cases o <;> simp

theorem trod_ints {H:Type} {enc:TypeId × Value -> H} {P:Program} {w:World} {base:Nat} {spare:Nat -> Bool} {held:Bool} {fuel:Nat} {t e:TypeId} {n:Nat} {k:IntKind} (ht:P.underlying t = some (.array n e)) (he:P.underlying e = some (.int k)) (hc:P.cellsOf e = 1) (hct:P.cellsOf t = n)
  {l:List Int} {cs:List Value} {p:List MemPlace} (h:DataW.trod enc P w base spare held fuel t cs = some (.agg (l.map fun m=>.lit (.int k m)),p)):cs = l.map (Value.int k):=by
 obtain ⟨xs,m,rfl,hx,hcs,hxl,hf⟩:=DataW.trod_array ht h
 obtain ⟨hx1,_⟩:=Prod.mk.inj hx
 simp only [DataW.agg.injEq] at hx1
 have hll:l.length = n:=by
  have:=congrArg List.length hx1
  simpa [hxl] using this
 apply List.ext_getElem?
 intro i
 by_cases hi:i < n
 ·have h1:=hf i hi
  have hix:i < xs.length:=by omega
  rw [List.getElem?_eq_getElem hix,hc,Nat.mul_one] at h1
  obtain ⟨v,hv,hxv,_⟩:=DataW.trod_int he h1
  have hil:i < l.length:=by omega
  have e1:(l.map fun m=>(DataW.lit (.int k m):DataW H))[i]? = (xs.map (·.1))[i]?:=by rw [hx1]
  rw [List.getElem?_map,List.getElem?_map,List.getElem?_eq_getElem hix,List.getElem?_eq_getElem hil] at e1
  simp only [Option.map_some,Option.some.injEq,hxv,DataW.lit.injEq,Lit.int.injEq,true_and] at e1
  have hic:i < cs.length:=by omega
  have e2:cs[i]? = some (.int k v):=by
   have:=congrArg (·[0]?) hv
   simpa [List.getElem?_take,List.getElem?_drop] using this
  rw [e2,List.getElem?_map,List.getElem?_eq_getElem hil,e1]
  rfl
 ·rw [List.getElem?_eq_none (by omega),List.getElem?_eq_none (by simp; omega)]

theorem law_post {P:Program} {fn:Func} {s:ChangeSpec} {H:Type} {enc:TypeId × Value -> H} {W W':World} {args:Array Value} {ds gs:List (DataW H)} {before p:List MemPlace} (hl:laidOutB P = true) (hpar:∀ t,t ∈ fn.params.toList -> P.readableRec t = true /\ t < P.types.size)
  {tb:TypeId} (hres:fn.resultTypes = #[tb]) (hb:P.underlying tb = some .bool) (hvars:s.vars = []) (hW:DataW.Whole enc P fn.params.toList s.vars false W args.toList ds gs before) (hA:DataW.TrodAll enc P W 0 (fun _=>true) true fn.params.toList args.toList ds p) (hbe:before = p) (hgs:gs = [])
  (hfn:s.fn H (ds ++ []) = { results:=[.lit (.bool true)],args:=ds }) (hk:Keep [] W W'):s.post enc P fn false true false false W args (.bool true) W':=by
 subst hbe hgs
 have hlt:∀ x ∈ before,x.block < W.heap.size:=fun x hx=>hW.lt x hx
 have hsame:∀ x ∈ before,W.sameAt W' x:=fun x hx=>hk.sameAt (hlt x hx)
 refine ⟨ds,[],before,[],before,[],hW,?_,?_,?_,?_,fun h=>by cases h⟩
 ·rw [hfn,hres]
  exact trodAll_mk1 (shut_bool hb true)
 ·rw [hfn]
  exact trodAll_stays hl hpar hA hsame (fun x hx=>by simpa using hlt x hx)
 ·rw [hvars,hfn]
  rfl
 ·exact hk.keptBut _
end Go.Proofs.YtfgbfdlacnihkaaDoor.Sx
namespace Go.Proofs.YtfgbfdlacnihkaaDoor.Sx
open Go

theorem Smry.run_specT {Φ:Funs} {S:Smry} {is:List Int} {bs:List Bool} (hw:wsEm S.em is.length bs.length = true):∃ ρ:Env,S.run Φ true is bs = (S.ri.map (A.d ρ),obAll ρ S.em :: S.rb.map (B.d ρ)) /\ headsI ρ is 0 /\ headsB ρ bs 0 /\ eqns Φ ρ S.em:=by
 obtain ⟨h1,h2⟩:=evEm_spec Φ S.em is bs hw
 refine ⟨envOf (evEm Φ S.em is bs).1 (evEm Φ S.em is bs).2,rfl,headsI_of fun n hn=>?_,headsB_of fun n hn=>?_,eqns_of fun e he=>?_⟩
 ·rw [Nat.zero_add]; exact h1.1 n hn
 ·rw [Nat.zero_add]; exact h1.2 n hn
 ·have:=h2 e he
  cases e <;> simp_all

def obs (ρ:Env):List Em -> Bool
 | []=>true
 | .ob g b :: l=>(!(Gd.d ρ g) || b.d ρ) && obs ρ l
 | .di _ _ :: l=>obs ρ l
 | .db _ _ :: l=>obs ρ l
 | .call _ _ _ _ _ _ _ :: l=>obs ρ l
theorem obAll_eq {ρ:Env}:∀ {l:List Em},obAll ρ l = obs ρ l
 | []=>rfl
 | e :: l=>by
  have ih:=obAll_eq (ρ:=ρ) (l:=l)
  unfold obAll at ih ⊢
  cases e <;> simp [obs,ih]

theorem loop_rule {F:Fun} {nI nB:Nat} (Inv:List Int -> List Bool -> Prop) (mu:List Int -> List Bool -> Nat) (Post:Fl -> Prop)
  (step:∀ is bs,Inv is bs -> ∃ c rb,(F is bs).2 = true :: c :: rb /\ (c = false -> Post ((F is bs).1.drop nI,rb.drop nB)) /\
   (c = true -> Inv ((F is bs).1.take nI) (rb.take nB) /\ mu ((F is bs).1.take nI) (rb.take nB) < mu is bs)) :
  ∀ is bs,Inv is bs -> ∃ o,loopF F nI nB is bs = (o.1,true :: o.2) /\ Post o:=by
 have key:∀ n is bs,mu is bs <= n -> Inv is bs -> ∃ m o,LRun F nI nB m is bs o /\ Post o:=by
  intro n
  induction n with
  | zero =>
   intro is bs hn hi
   obtain ⟨c,rb,h1,h2,h3⟩:=step is bs hi
   cases c
   ·exact ⟨1,_,.stop h1,h2 rfl⟩
   ·have:=(h3 rfl).2; omega
  | succ n ih =>
   intro is bs hn hi
   obtain ⟨c,rb,h1,h2,h3⟩:=step is bs hi
   cases c
   ·exact ⟨1,_,.stop h1,h2 rfl⟩
   ·obtain ⟨h4,h5⟩:=h3 rfl
    obtain ⟨m,o,h6,h7⟩:=ih _ _ (by omega) h4
    exact ⟨m + 1,o,.turn h1 h6,h7⟩
 intro is bs hi
 obtain ⟨m,o,h1,h2⟩:=key _ is bs (Nat.le_refl _) hi
 exact ⟨o,loopF_of h1,h2⟩

theorem cm_eql (x y:Int):cmB .eql x y = (x == y):=rfl
theorem cm_neq (x y:Int):cmB .neq x y = (x != y):=rfl
theorem cm_lss (x y:Int):cmB .lss x y = decide (x < y):=rfl
theorem cm_leq (x y:Int):cmB .leq x y = decide (x <= y):=rfl
theorem cm_gtr (x y:Int):cmB .gtr x y = decide (y < x):=rfl
theorem cm_geq (x y:Int):cmB .geq x y = decide (y <= x):=rfl
def upto (p:Nat -> Prop):Nat -> Nat -> Prop
 | _,0=>True
 | k,n + 1=>p k /\ upto p (k + 1) n
theorem upto_of {p:Nat -> Prop}:∀ {n k:Nat},(∀ j,k <= j -> j < k + n -> p j) -> upto p k n
 | 0,_,_=>trivial
 | n + 1,k,h=>⟨h k (Nat.le_refl _) (by omega),upto_of fun j h1 h2=>h j (by omega) (by omega)⟩
theorem of_upto {p:Nat -> Prop}:∀ {n k:Nat},upto p k n -> ∀ j,k <= j -> j < k + n -> p j
 | 0,k,_,j,h1,h2=>by omega
 | n + 1,k,h,j,h1,h2=>by
  rcases Nat.eq_or_lt_of_le h1 with e | e
  ·subst e; exact h.1
  ·exact of_upto h.2 j e (by omega)
theorem ltn {p:Nat -> Prop} (n:Nat):(∀ j,j < n -> p j) ↔ upto p 0 n :=
 ⟨fun h=>upto_of fun j _ h2=>h j (by omega),fun h j hj=>of_upto h j (Nat.zero_le _) (by omega)⟩
end Go.Proofs.YtfgbfdlacnihkaaDoor.Sx
namespace Go.Proofs.YtfgbfdlacnihkaaDoor.Sx
open Go

theorem oneCell_ints {k:IntKind} {l:List Int} {j:Nat} {v:Value} (h:(l.map (Value.int k))[j]? = some v):oneCell v = true:=by
 rw [List.getElem?_map] at h
 cases hl:l[j]? with
 | none=>rw [hl] at h; simp at h
 | some m=>rw [hl] at h; simp only [Option.map_some,Option.some.injEq] at h; subst h; rfl

theorem out_trueP {s:Sum} {v:Value} {w':World} (ht:s.tup = false) (hr:s.res = [(false,[.bool])]) (hp:s.pre = true) (hps:ptrShapes s.args = []) (h:OutOk s [] v w' ([],[true,true])):v = .bool true:=by
 obtain ⟨r,p,h1,h2,h3,h4⟩:=h
 unfold flatRes at h1
 rw [ht,hr] at h1
 rw [hps] at h2
 simp only [flatPs,Option.some.injEq] at h2
 subst h2
 rw [hp] at h4
 simp only [if_true,Bool.false_eq_true,if_false,List.append_nil,List.tail_cons] at h4 h1
 obtain ⟨us,hf,hu⟩:=flat1_inv h1
 simp only [Bool.false_eq_true,if_false] at hu hf
 replace hu:=hu.1
 subst hu
 unfold flatC at hf
 split at hf
 ·rename_i b is bs hb
  simp only [Option.some.injEq] at hf
  subst hf
  simp only [flatC,Option.some.injEq,Prod.mk.injEq] at hb
  obtain ⟨_,rfl⟩:=hb
  have h5:(true:Bool) = b:=by simpa using h4
  rw [<- h5]
 ·cases hf
end Go.Proofs.YtfgbfdlacnihkaaDoor.Sx
namespace Go.Proofs
open Go.Shelf Go.RowKit Go.Lib
def Tryd.lays143_ren:Go.Shelf.Ren:=⟨fun | 143=>47 | 219=>48 | 217=>62 | 225=>63 | 224=>64 | 267=>65 | 266=>79 | 314=>80 | n=>n,fun | 9=>9 | 3=>3 | 4=>4 | 5=>5 | 46=>37 | 146=>124 | 51=>123 | n=>n,fun | 1=>0 | n=>n⟩
theorem Tryd.lays143:Go.Proofs.Lays.n143 Tryd.prog Tryd.lays143_ren:={
 mixed:=by kernel_rfl
 f143:=Tryd.func47.trans (congrArg some (by kernel_rfl))
 f217:=Tryd.func62.trans (congrArg some (by kernel_rfl))
 f219:=Tryd.func48.trans (congrArg some (by kernel_rfl))
 f224:=Tryd.func64.trans (congrArg some (by kernel_rfl))
 f225:=Tryd.func63.trans (congrArg some (by kernel_rfl))
 f266:=Tryd.func79.trans (congrArg some (by kernel_rfl))
 f267:=Tryd.func65.trans (congrArg some (by kernel_rfl))
 f314:=Tryd.func80.trans (congrArg some (by kernel_rfl))
 t3:=Tryd.underlying3
 a3:=Tryd.isAgg3
 z3:=Tryd.sizeOf3
 v3:=Tryd.zeroValue3
 t4:=Tryd.underlying4
 a4:=Tryd.isAgg4
 z4:=Tryd.sizeOf4
 v4:=Tryd.zeroValue4
 t5:=Tryd.underlying5
 a5:=Tryd.isAgg5
 z5:=Tryd.sizeOf5
 v5:=Tryd.zeroValue5
 t9:=Tryd.underlying9
 a9:=Tryd.isAgg9
 z9:=Tryd.sizeOf9
 v9:=Tryd.zeroValue9
 t46:=Tryd.underlying37
 a46:=Tryd.isAgg37
 z46:=Tryd.sizeOf37
 v46:=Tryd.zeroValue37
 t51:=Tryd.underlying123
 a51:=Tryd.isAgg123
 z51:=Tryd.sizeOf123
 v51:=Tryd.zeroValue123
 t146:=Tryd.underlying124
 a146:=Tryd.isAgg124
 z146:=Tryd.sizeOf124
 v146:=Tryd.zeroValue124
 g1:=by kernel_rfl }
def Tryd.lays145_ren:Go.Shelf.Ren:=⟨fun | 145=>17 | 220=>31 | 219=>48 | 217=>62 | 225=>63 | 224=>64 | 267=>65 | 266=>79 | 314=>80 | n=>n,fun | 9=>9 | 4=>4 | 59=>49 | 3=>3 | 5=>5 | 46=>37 | 146=>124 | 51=>123 | n=>n,fun | 1=>0 | n=>n⟩
theorem Tryd.lays145:Go.Proofs.Lays.n145 Tryd.prog Tryd.lays145_ren:={
 mixed:=by kernel_rfl
 f145:=Tryd.func17.trans (congrArg some (by kernel_rfl))
 f217:=Tryd.func62.trans (congrArg some (by kernel_rfl))
 f219:=Tryd.func48.trans (congrArg some (by kernel_rfl))
 f220:=Tryd.func31.trans (congrArg some (by kernel_rfl))
 f224:=Tryd.func64.trans (congrArg some (by kernel_rfl))
 f225:=Tryd.func63.trans (congrArg some (by kernel_rfl))
 f266:=Tryd.func79.trans (congrArg some (by kernel_rfl))
 f267:=Tryd.func65.trans (congrArg some (by kernel_rfl))
 f314:=Tryd.func80.trans (congrArg some (by kernel_rfl))
 t3:=Tryd.underlying3
 a3:=Tryd.isAgg3
 z3:=Tryd.sizeOf3
 v3:=Tryd.zeroValue3
 t4:=Tryd.underlying4
 a4:=Tryd.isAgg4
 z4:=Tryd.sizeOf4
 v4:=Tryd.zeroValue4
 t5:=Tryd.underlying5
 a5:=Tryd.isAgg5
 z5:=Tryd.sizeOf5
 v5:=Tryd.zeroValue5
 t9:=Tryd.underlying9
 a9:=Tryd.isAgg9
 z9:=Tryd.sizeOf9
 v9:=Tryd.zeroValue9
 t46:=Tryd.underlying37
 a46:=Tryd.isAgg37
 z46:=Tryd.sizeOf37
 v46:=Tryd.zeroValue37
 t51:=Tryd.underlying123
 a51:=Tryd.isAgg123
 z51:=Tryd.sizeOf123
 v51:=Tryd.zeroValue123
 t59:=Tryd.underlying49
 a59:=Tryd.isAgg49
 z59:=Tryd.sizeOf49
 v59:=Tryd.zeroValue49
 t146:=Tryd.underlying124
 a146:=Tryd.isAgg124
 z146:=Tryd.sizeOf124
 v146:=Tryd.zeroValue124
 g1:=by kernel_rfl }
def Tryd.lays152_ren:Go.Shelf.Ren:=⟨fun | 152=>49 | 137=>66 | 119=>67 | 224=>64 | 225=>63 | 217=>62 | 266=>79 | n=>n,fun | 9=>9 | 21=>21 | 3=>3 | 4=>4 | 5=>5 | 0=>0 | 46=>37 | n=>n,fun | n=>n⟩
theorem Tryd.lays152:Go.Proofs.Lays.n152 Tryd.prog Tryd.lays152_ren:={
 mixed:=by kernel_rfl
 f119:=Tryd.func67.trans (congrArg some (by kernel_rfl))
 f137:=Tryd.func66.trans (congrArg some (by kernel_rfl))
 f152:=Tryd.func49.trans (congrArg some (by kernel_rfl))
 f217:=Tryd.func62.trans (congrArg some (by kernel_rfl))
 f224:=Tryd.func64.trans (congrArg some (by kernel_rfl))
 f225:=Tryd.func63.trans (congrArg some (by kernel_rfl))
 f266:=Tryd.func79.trans (congrArg some (by kernel_rfl))
 t0:=Tryd.underlying0
 a0:=Tryd.isAgg0
 z0:=Tryd.sizeOf0
 v0:=Tryd.zeroValue0
 t3:=Tryd.underlying3
 a3:=Tryd.isAgg3
 z3:=Tryd.sizeOf3
 v3:=Tryd.zeroValue3
 t4:=Tryd.underlying4
 a4:=Tryd.isAgg4
 z4:=Tryd.sizeOf4
 v4:=Tryd.zeroValue4
 t5:=Tryd.underlying5
 a5:=Tryd.isAgg5
 z5:=Tryd.sizeOf5
 v5:=Tryd.zeroValue5
 t9:=Tryd.underlying9
 a9:=Tryd.isAgg9
 z9:=Tryd.sizeOf9
 v9:=Tryd.zeroValue9
 t21:=Tryd.underlying21
 a21:=Tryd.isAgg21
 z21:=Tryd.sizeOf21
 v21:=Tryd.zeroValue21
 t46:=Tryd.underlying37
 a46:=Tryd.isAgg37
 z46:=Tryd.sizeOf37
 v46:=Tryd.zeroValue37 }
def Tryd.lays105_ren:Go.Shelf.Ren:=⟨fun | 105=>59 | 212=>75 | 99=>76 | 165=>77 | 166=>37 | 170=>78 | 169=>39 | 263=>88 | 264=>89 | 206=>90 | 240=>57 | 241=>91 | 276=>73 | 277=>106 | n=>n,fun | 9=>9 | 3=>3 | 4=>4 | 20=>20 | 0=>0 | 46=>37 | 109=>115 | 5=>5 | 72=>76 | 76=>80 | 51=>123 | 146=>124 | 53=>102 | 148=>135 | 70=>73 | 37=>74 | 75=>79 | 127=>104 | 164=>113 | 80=>83 | n=>n,fun | n=>n⟩
theorem Tryd.lays105:Go.Proofs.Lays.n105 Tryd.prog Tryd.lays105_ren:={
 mixed:=by kernel_rfl
 f99:=Tryd.func76.trans (congrArg some (by kernel_rfl))
 f105:=Tryd.func59.trans (congrArg some (by kernel_rfl))
 f165:=Tryd.func77.trans (congrArg some (by kernel_rfl))
 f166:=Tryd.func37.trans (congrArg some (by kernel_rfl))
 f169:=Tryd.func39.trans (congrArg some (by kernel_rfl))
 f170:=Tryd.func78.trans (congrArg some (by kernel_rfl))
 f206:=Tryd.func90.trans (congrArg some (by kernel_rfl))
 f212:=Tryd.func75.trans (congrArg some (by kernel_rfl))
 f240:=Tryd.func57.trans (congrArg some (by kernel_rfl))
 f241:=Tryd.func91.trans (congrArg some (by kernel_rfl))
 f263:=Tryd.func88.trans (congrArg some (by kernel_rfl))
 f264:=Tryd.func89.trans (congrArg some (by kernel_rfl))
 f276:=Tryd.func73.trans (congrArg some (by kernel_rfl))
 f277:=Tryd.func106.trans (congrArg some (by kernel_rfl))
 t0:=Tryd.underlying0
 a0:=Tryd.isAgg0
 z0:=Tryd.sizeOf0
 v0:=Tryd.zeroValue0
 t3:=Tryd.underlying3
 a3:=Tryd.isAgg3
 z3:=Tryd.sizeOf3
 v3:=Tryd.zeroValue3
 t4:=Tryd.underlying4
 a4:=Tryd.isAgg4
 z4:=Tryd.sizeOf4
 v4:=Tryd.zeroValue4
 t5:=Tryd.underlying5
 a5:=Tryd.isAgg5
 z5:=Tryd.sizeOf5
 v5:=Tryd.zeroValue5
 t9:=Tryd.underlying9
 a9:=Tryd.isAgg9
 z9:=Tryd.sizeOf9
 v9:=Tryd.zeroValue9
 t20:=Tryd.underlying20
 a20:=Tryd.isAgg20
 z20:=Tryd.sizeOf20
 v20:=Tryd.zeroValue20
 t37:=Tryd.underlying74
 a37:=Tryd.isAgg74
 z37:=Tryd.sizeOf74
 v37:=Tryd.zeroValue74
 t46:=Tryd.underlying37
 a46:=Tryd.isAgg37
 z46:=Tryd.sizeOf37
 v46:=Tryd.zeroValue37
 t51:=Tryd.underlying123
 a51:=Tryd.isAgg123
 z51:=Tryd.sizeOf123
 v51:=Tryd.zeroValue123
 t53:=Tryd.underlying102
 a53:=Tryd.isAgg102
 z53:=Tryd.sizeOf102
 v53:=Tryd.zeroValue102
 t70:=Tryd.underlying73
 a70:=Tryd.isAgg73
 z70:=Tryd.sizeOf73
 v70:=Tryd.zeroValue73
 t72:=Tryd.underlying76
 a72:=Tryd.isAgg76
 z72:=Tryd.sizeOf76
 v72:=Tryd.zeroValue76
 t75:=Tryd.underlying79
 a75:=Tryd.isAgg79
 z75:=Tryd.sizeOf79
 v75:=Tryd.zeroValue79
 t76:=Tryd.underlying80
 a76:=Tryd.isAgg80
 z76:=Tryd.sizeOf80
 v76:=Tryd.zeroValue80
 t109:=Tryd.underlying115
 a109:=Tryd.isAgg115
 z109:=Tryd.sizeOf115
 v109:=Tryd.zeroValue115
 t127:=Tryd.underlying104
 a127:=Tryd.isAgg104
 z127:=Tryd.sizeOf104
 v127:=Tryd.zeroValue104
 t146:=Tryd.underlying124
 a146:=Tryd.isAgg124
 z146:=Tryd.sizeOf124
 v146:=Tryd.zeroValue124
 t148:=Tryd.underlying135
 a148:=Tryd.isAgg135
 z148:=Tryd.sizeOf135
 v148:=Tryd.zeroValue135
 t164:=Tryd.underlying113
 a164:=Tryd.isAgg113
 z164:=Tryd.sizeOf113
 v164:=Tryd.zeroValue113 }
end Go.Proofs
namespace Go.Proofs
open Go.Shelf Go.RowKit Go.Lib
def Tryd.hexs:ByteArray:=⟨#[48,49,50,51,52,53,54,55,56,57,97,98,99,100,101,102]⟩
theorem Tryd.validRune (r:Int) (w:World) (h1:128 <= r) (h2:r <= 2147483647):Calls Tryd.prog 67 #[.int .i32 r] w fun e w'=>e = .returned (.bool (decide (r < 55296) || (decide (57343 < r) && decide (r <= 1114111)))) /\ w' = w:=by
 go_enter Tryd.func67,Tryd.ntmps67
 go_wp2
 all_goals (
  go_ret
  refine ⟨?_,rfl⟩
  simp_all <;> omega)
theorem Tryd.hexs_dec:∀ p:Fin 16,(Utf8.decode Tryd.hexs p.val).1 < 128 /\ (Utf8.decode Tryd.hexs p.val).2 = 1:=by decide
set_option maxHeartbeats 4000000 in
set_option maxRecDepth 1000000 in
theorem Tryd.indexRune_err (w:World):Calls Tryd.prog 49 #[.string Tryd.hexs,.int .i32 65533] w fun e w'=>e = .returned (.int .i64 (-1)) /\ Below w.heap.size w w':=by
 go_enter Tryd.func49,Tryd.ntmps49
 go_wp2
 go_loopw [] (fun wr=>∃ pos:Nat,pos <= 16 /\ wr.heap[w.heap.size]? = some (.stringIter Tryd.hexs pos) /\ Below w.heap.size w wr) (fun wr=>16 - wr.iterPos w.heap.size)
 case atStart =>
  refine ⟨0,by omega,?_,(Below.refl _ w).alloc (Nat.le_refl _) _⟩
  simpa using World.iter_heap w Tryd.hexs 0
 case round =>
  obtain ⟨pos,hp16,hit,hbw⟩:=hrel
  have hsz:w.heap.size < wr.heap.size:=(Array.getElem?_eq_some_iff.1 hit).1
  by_cases hp:pos < Tryd.hexs.size
  ·have hnx:∀ ty,(Instr.next (.pointer (some ⟨w.heap.size,0,none⟩)) true ty).run Tryd.prog wr = _:=fun ty=>Lib.run_next_any_at wr w.heap.size Tryd.hexs pos ty hit hp
   obtain ⟨hd1,hd2⟩:=Tryd.hexs_dec ⟨pos,hp⟩
   simp only at hd1 hd2
   have hne:¬ (((Utf8.decode Tryd.hexs pos).1:Nat):Int) = 65533:=by omega
   have hit2:=Lib.iterAt_heap wr w.heap.size Tryd.hexs pos (pos + (Utf8.decode Tryd.hexs pos).2) hit
   have hbw2:=Lib.below_iterAt hbw (k:=w.heap.size) (Nat.le_refl _) Tryd.hexs (pos + (Utf8.decode Tryd.hexs pos).2)
   rw [hd2] at hit2 hbw2
   have hp':pos < 16:=hp
   go_wp2
   go_roundw
   case rel=>exact ⟨pos + 1,by omega,hit2,hbw2⟩
   case measure =>
    simp only [World.iterPos,hit2,hit]
    omega
  ·have hnx:∀ ty,(Instr.next (.pointer (some ⟨w.heap.size,0,none⟩)) true ty).run Tryd.prog wr = _:=fun ty=>Lib.run_next_end_at wr w.heap.size Tryd.hexs pos ty hit hp
   go_wp2
   go_ret
   exact ⟨rfl,hbw⟩
theorem Tryd.lays137:Lays.n137 Tryd.prog Tryd.lays152_ren:={ Tryd.lays152 with }
theorem Tryd.indexByte (s:ByteArray) (c:Int) (w:World):Calls Tryd.prog 66 #[.string s,.int .u8 c] w fun e w'=>e = .returned (.int .i64 (Lib.indexByte s.data.toList c.toNat.toUInt8)) /\ w' = w:=Any.strings_IndexByte Tryd.lays137 s c w
theorem Tryd.indexByte_none:∀ (l:List UInt8) (c:UInt8),(∀ b,b ∈ l -> b ≠ c) -> Lib.indexByte l c = -1
 | [],_,_=>rfl
 | b :: l,c,h=>by
  unfold Lib.indexByte
  rw [if_neg (by simp; exact h b (by simp)),Tryd.indexByte_none l c fun x hx=>h x (by simp [hx])]
  simp
theorem Tryd.hexs_low:∀ b,b ∈ Tryd.hexs.data.toList -> b.toNat < 128:=by decide
theorem Tryd.hexs_part (c:UInt8) (hc:128 <= c.toNat) (i k:Nat):Lib.indexByte ((Tryd.hexs.data.toList.drop i).take k) c = -1 :=
 Tryd.indexByte_none _ _ fun b hb e=>by
  have:=Tryd.hexs_low b (List.mem_of_mem_drop (List.mem_of_mem_take hb))
  subst e
  omega
theorem Tryd.encode_high (r:Int) (h1:128 <= r) (h2:r <= 2147483647) (hb:(decide (r < 55296) || (decide (57343 < r) && decide (r <= 1114111))) = true) :
  (∃ x y:UInt8,Utf8.encode r = ⟨#[x,y]⟩ /\ 128 <= y.toNat) \/ (∃ x y z:UInt8,Utf8.encode r = ⟨#[x,y,z]⟩ /\ 128 <= z.toNat) \/ (∃ x y z v:UInt8,Utf8.encode r = ⟨#[x,y,z,v]⟩ /\ 128 <= v.toNat):=by
 have hv:Utf8.valid r = true:=by
  unfold Utf8.valid
  simp only [Bool.or_eq_true,Bool.and_eq_true,decide_eq_true_eq] at hb ⊢
  omega
 have key:∀ m:Nat,128 <= (UInt8.ofNat (128 + m % 64)).toNat:=fun m=>by
  rw [UInt8.toNat_ofNat']
  omega
 unfold Utf8.encode
 simp only [hv,if_true]
 by_cases c1:r.toNat < 2048
 ·left
  rw [if_neg (by omega),if_pos c1]
  exact ⟨_,_,rfl,key _⟩
 ·right
  by_cases c2:r.toNat < 65536
  ·left
   rw [if_neg (by omega),if_neg c1,if_pos c2]
   exact ⟨_,_,_,rfl,key _⟩
  ·right
   rw [if_neg (by omega),if_neg c1,if_neg c2]
   exact ⟨_,_,_,_,rfl,key _⟩
set_option maxHeartbeats 4000000 in
set_option maxRecDepth 1000000 in
theorem Tryd.indexRune_high (r:Int) (w:World) (h1:128 <= r) (h2:r <= 2147483647) (h3:r ≠ 65533):Calls Tryd.prog 49 #[.string Tryd.hexs,.int .i32 r] w fun e w'=>e = .returned (.int .i64 (-1)) /\ Below w.heap.size w w':=by
 have hv:=Tryd.validRune r w h1 (by omega)
 generalize hb:(decide (r < 55296) || (decide (57343 < r) && decide (r <= 1114111))) = b at hv
 cases b
 ·go_enter Tryd.func49,Tryd.ntmps49
  go_wp2_with (go_at_call 67; refine hv.mono ?_; rintro e w' ⟨rfl,rfl⟩)
  go_ret
  exact ⟨rfl,Below.refl _ _⟩
 ·have hsz:Tryd.hexs.size = 16:=by decide
  have mixed:Tryd.prog.follows .mixedOrders = true:=by kernel_rfl
  rcases Tryd.encode_high r h1 h2 hb with ⟨x,y,hE,hy⟩ | ⟨x,y,z,hE,hy⟩ | ⟨x,y,z,v,hE,hy⟩
  ·go_enter Tryd.func49,Tryd.ntmps49
   go_wp2_with (go_at_call 67; refine hv.mono ?_; rintro e w' ⟨rfl,rfl⟩)
   have hlt:1 < ({ data:=#[x,y] }:ByteArray).size:=by show 1 < 2; omega
   have hne:¬ ((Tryd.hexs[1].toNat:Int) = ((({ data:=#[x,y] }:ByteArray)[1]'hlt).toNat:Int)):=by
    show ¬ ((49:Nat):Int) = (y.toNat:Int)
    omega
   have hib:Lib.indexByte (List.take 14 (List.drop 2 Tryd.hexs.data.toList)) (({ data:=#[x,y] }:ByteArray)[1]'hlt) = -1:=Tryd.hexs_part y hy 2 14
   go_step3
   go_wp2
   refine wp_loop_rounds 1 ?_
   rw [rounds_succ]
   go_wp2
   go_step3
   go_wp2
   go_region_o
   go_wp2
   go_region_with (go_at_call 66; refine (Tryd.indexByte _ _ _).mono ?_; rintro e w' ⟨rfl,rfl⟩)
   go_wp2
   all_goals (
    simp only [Exit.noGoto,Exit.inBlock,Exit.then]
    go_ret
    exact ⟨rfl,((Below.refl _ _).drew).drew⟩)
  ·go_enter Tryd.func49,Tryd.ntmps49
   go_wp2_with (go_at_call 67; refine hv.mono ?_; rintro e w' ⟨rfl,rfl⟩)
   have hlt:2 < ({ data:=#[x,y,z] }:ByteArray).size:=by show 2 < 3; omega
   have hne:¬ ((Tryd.hexs[2].toNat:Int) = ((({ data:=#[x,y,z] }:ByteArray)[2]'hlt).toNat:Int)):=by
    show ¬ ((50:Nat):Int) = (z.toNat:Int)
    omega
   have hib:Lib.indexByte (List.take 13 (List.drop 3 Tryd.hexs.data.toList)) (({ data:=#[x,y,z] }:ByteArray)[2]'hlt) = -1:=Tryd.hexs_part z hy 3 13
   go_step3
   go_wp2
   refine wp_loop_rounds 1 ?_
   rw [rounds_succ]
   go_wp2
   go_step3
   go_wp2
   go_region_o
   go_wp2
   go_region_with (go_at_call 66; refine (Tryd.indexByte _ _ _).mono ?_; rintro e w' ⟨rfl,rfl⟩)
   go_wp2
   all_goals (
    simp only [Exit.noGoto,Exit.inBlock,Exit.then]
    go_ret
    exact ⟨rfl,((Below.refl _ _).drew).drew⟩)
  ·go_enter Tryd.func49,Tryd.ntmps49
   go_wp2_with (go_at_call 67; refine hv.mono ?_; rintro e w' ⟨rfl,rfl⟩)
   have hlt:3 < ({ data:=#[x,y,z,v] }:ByteArray).size:=by show 3 < 4; omega
   have hne:¬ ((Tryd.hexs[3].toNat:Int) = ((({ data:=#[x,y,z,v] }:ByteArray)[3]'hlt).toNat:Int)):=by
    show ¬ ((51:Nat):Int) = (v.toNat:Int)
    omega
   have hib:Lib.indexByte (List.take 12 (List.drop 4 Tryd.hexs.data.toList)) (({ data:=#[x,y,z,v] }:ByteArray)[3]'hlt) = -1:=Tryd.hexs_part v hy 4 12
   go_step3
   go_wp2
   refine wp_loop_rounds 1 ?_
   rw [rounds_succ]
   go_wp2
   go_step3
   go_wp2
   go_region_o
   go_wp2
   go_region_with (go_at_call 66; refine (Tryd.indexByte _ _ _).mono ?_; rintro e w' ⟨rfl,rfl⟩)
   go_wp2
   all_goals (
    simp only [Exit.noGoto,Exit.inBlock,Exit.then]
    go_ret
    exact ⟨rfl,((Below.refl _ _).drew).drew⟩)
end Go.Proofs
namespace Go.Proofs
open Go.Shelf Go.RowKit Go.Lib
def Tryd.hexR (r:Nat):Int:=if r < 128 then Lib.indexByte Tryd.hexs.data.toList (UInt8.ofNat r) else -1
theorem Tryd.indexRune (r:Nat) (w:World) (h2:r <= 2147483647):Calls Tryd.prog 49 #[.string Tryd.hexs,.int .i32 (r:Int)] w fun e w'=>e = .returned (.int .i64 (Tryd.hexR r)) /\ Below w.heap.size w w':=by
 unfold Tryd.hexR
 by_cases h:r < 128
 ·rw [if_pos h]
  refine (Any.strings_IndexRune_ascii Tryd.lays152 Tryd.hexs (r:Int) w (by omega) (by omega)).mono ?_
  rintro e w' ⟨rfl,rfl⟩
  exact ⟨by simp,Below.refl _ _⟩
 ·rw [if_neg h]
  by_cases h3:(r:Int) = 65533
  ·rw [h3]; exact Tryd.indexRune_err w
  ·exact Tryd.indexRune_high r w (by omega) (by omega) h3
theorem Tryd.indexByte_lt:∀ (l:List UInt8) (c:UInt8),Lib.indexByte l c < max l.length 1
 | [],c=>by show (-1:Int) < _; omega
 | b :: l,c=>by
  have:=Tryd.indexByte_lt l c
  unfold Lib.indexByte
  rw [List.length_cons]
  split
  ·omega
  ·split
   ·omega
   ·rename_i h1 h2
    have h3:Lib.indexByte l c ≠ -1:=by simpa using h2
    cases l with
    | nil=>exact (h3 rfl).elim
    | cons x l=>rw [List.length_cons] at *; omega
theorem Tryd.hexR_lt (r:Nat):Tryd.hexR r < 16:=by
 unfold Tryd.hexR
 split
 ·exact Tryd.indexByte_lt _ _
 ·omega
theorem Tryd.or64 (a b:Nat) (ha:a < 4611686018427387904) (hb:b < 4611686018427387904):bits .or .i64 (a:Int) (b:Int) = ((a ||| b:Nat):Int):=by
 have hx:a ||| b < 2 ^ 62:=Nat.or_lt_two_pow (by omega) (by omega)
 have h1:(BitVec.ofInt 64 (a:Int)).toNat = a:=by
  rw [BitVec.ofInt_natCast,BitVec.toNat_ofNat]; exact Nat.mod_eq_of_lt (by omega)
 have h2:(BitVec.ofInt 64 (b:Int)).toNat = b:=by
  rw [BitVec.ofInt_natCast,BitVec.toNat_ofNat]; exact Nat.mod_eq_of_lt (by omega)
 show IntKind.i64.wrap ((BitVec.ofInt 64 (a:Int) ||| BitVec.ofInt 64 (b:Int)).toNat:Int) = _
 rw [BitVec.toNat_or,h1,h2,IntKind.wrap_i64]
 omega
theorem Tryd.digit (n d:Int) (hn:0 <= n) (hn4:n < 65536) (hd:0 <= d) (hd16:d < 16):bits .or .i64 (wrap64 (n * 16)) d = n * 16 + d:=by
 have hw:wrap64 (n * 16) = n * 16:=by unfold wrap64; omega
 rw [hw]
 obtain ⟨a,rfl⟩:=Int.eq_ofNat_of_zero_le hn
 obtain ⟨b,rfl⟩:=Int.eq_ofNat_of_zero_le hd
 have:=Tryd.or64 (2 ^ 4 * a) b (by omega) (by omega)
 rw [<- Nat.two_pow_add_eq_or_of_lt (by omega)] at this
 rw [show ((a:Int) * 16) = ((2 ^ 4 * a:Nat):Int) by omega,this]
 omega
theorem Tryd.pow16 {a b:Nat} (h:a <= b):(16:Int) ^ a <= 16 ^ b:=by
 have:(16:Nat) ^ a <= 16 ^ b:=Nat.pow_le_pow_right (by decide) h
 exact_mod_cast this
theorem Tryd.width_pos (s:ByteArray) (pos:Nat) (h:pos < s.size):1 <= (Utf8.decode s pos).2:=by
 by_cases ha:(s[pos]'h).toNat < 128
 ·rw [decode_ascii s pos h ha]
  exact Nat.le_refl _
 ·exact (decode_high s pos h (by omega)).2
theorem Tryd.indexRune' (r:Nat) (w:World) (h2:r <= 2147483647):Calls Tryd.prog 49 #[.string ⟨#[48,49,50,51,52,53,54,55,56,57,97,98,99,100,101,102]⟩,.int .i32 (r:Int)] w fun e w'=>e = .returned (.int .i64 (Tryd.hexR r)) /\ Below w.heap.size w w':=Tryd.indexRune r w h2
def Tryd.numFrom (s:ByteArray):Nat -> Nat -> Int -> Option Int
 | 0,_,n=>some n
 | k + 1,pos,n=>if pos < s.size then (if Tryd.hexR (Utf8.decode s pos).1 < 0 then none else Tryd.numFrom s k (pos + (Utf8.decode s pos).2) (n * 16 + Tryd.hexR (Utf8.decode s pos).1)) else some n
def Tryd.num (s:ByteArray):Option Int:=if s.size < 1 \/ 4 < s.size then none else Tryd.numFrom s s.size 0 0
def Tryd.numV (o:Option Int):Value:=match o with | some n=>.tuple #[.int .i64 n,.bool true] | none=>.tuple #[.int .i64 0,.bool false]
set_option maxHeartbeats 4000000 in
set_option maxRecDepth 1000000 in
theorem Tryd.number (s:ByteArray) (w:World):Calls Tryd.prog 32 #[.string s] w fun e w'=>e = .returned (Tryd.numV (Tryd.num s)) /\ Below w.heap.size w w':=by
 by_cases h1:s.size < 1
 ·have:Tryd.num s = none:=by unfold Tryd.num; rw [if_pos (.inl h1)]
  rw [this]
  go_enter Tryd.func32,Tryd.ntmps32
  go_wp2
  go_ret2
  exact ⟨rfl,Below.refl _ _⟩
 by_cases h4:4 < s.size
 ·have:Tryd.num s = none:=by unfold Tryd.num; rw [if_pos (.inr h4)]
  rw [this]
  go_enter Tryd.func32,Tryd.ntmps32
  go_wp2
  go_ret2
  exact ⟨rfl,Below.refl _ _⟩
 have hnum:Tryd.num s = Tryd.numFrom s s.size 0 0:=by unfold Tryd.num; rw [if_neg (by omega)]
 rw [hnum]
 go_enter Tryd.func32,Tryd.ntmps32
 go_wp2
 go_loopw [4] (fun v wr=>∃ (pos fuel:Nat) (n:Int),v = .int .i64 n /\ 0 <= n /\ n < 16 ^ pos /\ s.size <= pos + fuel /\ Tryd.numFrom s fuel pos n = Tryd.numFrom s s.size 0 0 /\ wr.heap[w.heap.size]? = some (.stringIter s pos) /\ Below w.heap.size w wr) (fun _ wr=>s.size - wr.iterPos w.heap.size)
 case atStart =>
  refine ⟨0,s.size,0,rfl,by omega,by omega,by omega,rfl,?_,(Below.refl _ w).alloc (Nat.le_refl _) _⟩
  simpa using World.iter_heap w s 0
 case round =>
  obtain ⟨pos,fuel,n,rfl,hn0,hn1,hfu,hrec,hit,hbw⟩:=hrel
  have hsz:w.heap.size < wr.heap.size:=(Array.getElem?_eq_some_iff.1 hit).1
  by_cases hp:pos < s.size
  ·have hnx:∀ ty,(Instr.next (.pointer (some ⟨w.heap.size,0,none⟩)) true ty).run Tryd.prog wr = _:=fun ty=>Lib.run_next_any_at wr w.heap.size s pos ty hit hp
   obtain ⟨f,rfl⟩:∃ f,fuel = f + 1:=⟨fuel - 1,by omega⟩
   have hd1:=decode_le s pos
   have hit2:=Lib.iterAt_heap wr w.heap.size s pos (pos + (Utf8.decode s pos).2) hit
   have hbw2:=Lib.below_iterAt hbw (k:=w.heap.size) (Nat.le_refl _) s (pos + (Utf8.decode s pos).2)
   rw [Tryd.numFrom,if_pos hp] at hrec
   have hd16:=Tryd.hexR_lt (Utf8.decode s pos).1
   have hwp:=Tryd.width_pos s pos hp
   generalize hdd:Utf8.decode s pos = dd at hd1 hit2 hbw2 hrec hd16 hnx hwp
   obtain ⟨r,k⟩:=dd
   simp only at hd1 hit2 hbw2 hrec hd16 hnx hwp
   by_cases hneg:Tryd.hexR r < 0
   ·rw [if_pos hneg] at hrec
    rw [<- hrec]
    go_wp2_with (go_at_call 49; refine (Tryd.indexRune' r _ (by omega)).mono ?_)
    rintro e W1 ⟨rfl,b1⟩
    go_wp2
    go_ret2
    refine ⟨by rw [<- hrec]; rfl,hbw2.trans (b1.mono ?_)⟩
    rw [Lib.iterAt_size]; omega
   ·rw [if_neg hneg] at hrec
    go_wp2_with (go_at_call 49; refine (Tryd.indexRune' r _ (by omega)).mono ?_; rintro e W1 ⟨rfl,b1⟩)
    have hit3:W1.heap[w.heap.size]? = some (.stringIter s (pos + k)):=by
     rw [b1.block _ (by rw [Lib.iterAt_size]; exact hsz)]
     exact hit2
    have hn4:n < 65536:=by
     have:(16:Int) ^ pos <= 16 ^ 4:=Tryd.pow16 (by omega)
     omega
    refine ⟨⟨pos + k,f,n * 16 + Tryd.hexR r,?_,by omega,?_,by omega,hrec,hit3,hbw2.trans (b1.mono ?_)⟩,?_⟩
    ·rw [Tryd.digit n _ hn0 hn4 (by omega) hd16]
    ·have h5:(16:Int) ^ (pos + 1) <= 16 ^ (pos + k):=Tryd.pow16 (by omega)
     rw [Int.pow_succ] at h5
     omega
    ·rw [Lib.iterAt_size]; omega
    ·simp only [World.iterPos,hit3,hit]
     omega
  ·have hnx:∀ ty,(Instr.next (.pointer (some ⟨w.heap.size,0,none⟩)) true ty).run Tryd.prog wr = _:=fun ty=>Lib.run_next_end_at wr w.heap.size s pos ty hit hp
   go_wp2
   go_ret2
   refine ⟨?_,hbw⟩
   rw [<- hrec]
   cases fuel with
   | zero=>rfl
   | succ f=>rw [Tryd.numFrom,if_neg hp]; rfl
end Go.Proofs
namespace Go.Proofs
open Go.Shelf Go.RowKit Go.Lib
theorem Tryd.isPow (w:World):Calls Tryd.prog 104 #[.int .i64 16] w fun e w'=>e = .returned (.bool true) /\ w' = w:=by
 go_enter Tryd.func104,Tryd.ntmps104
 go_wp2
 go_ret
 exact ⟨rfl,rfl⟩
theorem Tryd.tz (w:World) (hg:w.cell? ⟨5,15,none⟩ = some (.int .u8 4)):Calls Tryd.prog 105 #[.int .u64 16] w fun e w'=>e = .returned (.int .i64 4) /\ w' = w:=by
 have hix:IntKind.u64.wrap (bits BinOp.and IntKind.u64 16 (IntKind.u64.wrap (-16)) * 285870213051353865) / 288230376151711744 = 15:=by decide
 go_enter Tryd.func105,Tryd.ntmps105
 go_wp2
 go_ret
 exact ⟨rfl,rfl⟩
theorem Tryd.cell_alloc {w:World} {a:Addr} {v:Value} (o:Obj) (h:w.cell? a = some v):(w.alloc o).cell? a = some v:=by
 have hlt:=World.block_lt_of_cell? w a h
 rw [<- h]
 exact YtfgbfdlacnihkaaDoor.Sx.cell?_of_blk (Below.heap_alloc w o _ hlt)
theorem Tryd.conv (l:List UInt8) (k:Nat) (hk:l.length = k) (w:World) (a:Addr) (cap:Nat) (hc:∀ j (hj:j < l.length),w.cell? (a.add j) = some (.int .u8 (l[j].toNat:Int))) :
  (convert 74 9 (.slice (some a) k cap)).run Tryd.prog w = .ok (.string ⟨l.toArray⟩) w:=by
 subst hk
 exact run_convert_bytes_back w 74 9 5 a cap l Tryd.underlying74 Tryd.underlying5 Tryd.underlying9 hc
theorem Tryd.cell_new (w:World) (cs:Array Value) (t:TypeId) (off:Nat):(w.alloc (.cells cs t)).cell? ⟨w.heap.size,off,none⟩ = cs[off]?:=World.cell?_alloc_at cs t _ off rfl
theorem Tryd.z65:Tryd.zeroCells147.size = 65:=by kernel_rfl
def Tryd.digs:ByteArray:=⟨#[48,49,50,51,52,53,54,55,56,57,97,98,99,100,101,102,103,104,105,106,107,108,109,110,111,112,113,114,115,116,117,118,119,120,121,122]⟩
def Tryd.hx (k:Nat):UInt8:=if h:k < Tryd.digs.size then Tryd.digs[k] else 0
theorem Tryd.hx_eq {k:Nat} (h:k < 36):Tryd.hx k = Tryd.digs[k]'h:=dif_pos h
theorem Tryd.and15 (x:Int) (h0:0 <= x) (h:x < 18446744073709551616):bits BinOp.and IntKind.u64 x 15 = x % 16:=by
 obtain ⟨n,rfl⟩:=Int.eq_ofNat_of_zero_le h0
 have:=bits_and_u64_nat n 15 (by omega) (by omega)
 rw [show ((15:Nat):Int) = 15 from rfl] at this
 rw [this,show (15:Nat) = 2 ^ 4 - 1 from rfl,Nat.and_two_pow_sub_one_eq_mod]
 omega
set_option maxHeartbeats 8000000 in
set_option maxRecDepth 1000000 in
theorem Tryd.bits1 (n:Nat) (w:World) (hg:w.cell? ⟨5,15,none⟩ = some (.int .u8 4)) (hn:n < 16):Calls Tryd.prog 87 #[.slice none 0 0,.int .u64 n,.int .i64 16,.bool false,.bool false] w fun e w'=>e = .returned (.tuple #[.slice none 0 0,.string ⟨[Tryd.hx (n)].toArray⟩]) /\ Below w.heap.size w w':=by
 have hg1:∀ o,(w.alloc o).cell? ⟨5,15,none⟩ = some (.int .u8 4):=fun o=>Tryd.cell_alloc o hg
 have e0:=Tryd.hx_eq (k:=n) (by omega)
 go_enter Tryd.func87,Tryd.ntmps87
 go_wp2_with (first | (go_at_call 104; refine (Tryd.isPow _).mono ?_; rintro e w' ⟨rfl,rfl⟩) | (go_at_call 105; refine (Tryd.tz _ (hg1 _)).mono ?_; rintro e w' ⟨rfl,rfl⟩))
 refine wp_loop_rounds 1 ?_
 rw [rounds_succ]
 have hlt:¬ ((n:Int) >= 16):=by omega
 have hma:(n:Int) < 36:=by omega
 have hmb:0 <= (n:Int):=by omega
 go_wp2
 rw [Tryd.conv [Tryd.hx (n)] 1 rfl _ _ _ ?hc]
 case hc =>
  have hz:=Tryd.z65
  generalize Tryd.zeroCells147 = Z at hz ⊢
  intro j hj
  match j,hj with
  | 0,_ =>
   show World.cell? _ ⟨_,64,none⟩ = some (.int .u8 ((Tryd.hx (n)).toNat:Int))
   rw [Tryd.cell_new,e0]
   simp [Array.getElem?_setIfInBounds,hz]
   try rfl
 go_wp2
 go_ret2
 exact ⟨by rw [e0]; rfl,(Below.refl _ w).alloc (Nat.le_refl _) _⟩
set_option maxHeartbeats 8000000 in
set_option maxRecDepth 1000000 in
theorem Tryd.bits2 (n:Nat) (w:World) (hg:w.cell? ⟨5,15,none⟩ = some (.int .u8 4)) (h0:16 <= n) (hn:n < 256):Calls Tryd.prog 87 #[.slice none 0 0,.int .u64 n,.int .i64 16,.bool false,.bool false] w fun e w'=>e = .returned (.tuple #[.slice none 0 0,.string ⟨[Tryd.hx (n / 16),Tryd.hx (n % 16)].toArray⟩]) /\ Below w.heap.size w w':=by
 have hg1:∀ o,(w.alloc o).cell? ⟨5,15,none⟩ = some (.int .u8 4):=fun o=>Tryd.cell_alloc o hg
 have e0:=Tryd.hx_eq (k:=n / 16) (by omega)
 have e1:=Tryd.hx_eq (k:=n % 16) (by omega)
 go_enter Tryd.func87,Tryd.ntmps87
 go_wp2_with (first | (go_at_call 104; refine (Tryd.isPow _).mono ?_; rintro e w' ⟨rfl,rfl⟩) | (go_at_call 105; refine (Tryd.tz _ (hg1 _)).mono ?_; rintro e w' ⟨rfl,rfl⟩))
 refine wp_loop_rounds 2 ?_
 rw [rounds_succ]
 have hge0:(n:Int) >= 16:=by omega
 have ha0:=Tryd.and15 ((n:Int)) (by omega) (by omega)
 have hm0:(n:Int) % 16 < 36:=by omega
 have hp0:0 <= (n:Int) % 16:=by omega
 go_wp2
 rw [rounds_succ]
 have hlt:¬ ((n:Int) / 16 >= 16):=by omega
 have hma:(n:Int) / 16 < 36:=by omega
 have hmb:0 <= (n:Int) / 16:=by omega
 go_wp2
 rw [Tryd.conv [Tryd.hx (n / 16),Tryd.hx (n % 16)] 2 rfl _ _ _ ?hc]
 case hc =>
  have hz:=Tryd.z65
  generalize Tryd.zeroCells147 = Z at hz ⊢
  intro j hj
  match j,hj with
  | 0,_ =>
   show World.cell? _ ⟨_,63,none⟩ = some (.int .u8 ((Tryd.hx (n / 16)).toNat:Int))
   rw [Tryd.cell_new,e0]
   simp [Array.getElem?_setIfInBounds,hz]
   try rfl
  | 1,_ =>
   show World.cell? _ ⟨_,64,none⟩ = some (.int .u8 ((Tryd.hx (n % 16)).toNat:Int))
   rw [Tryd.cell_new,e1]
   simp [Array.getElem?_setIfInBounds,hz]
   try rfl
 go_wp2
 go_ret2
 exact ⟨by rw [e0,e1]; rfl,(Below.refl _ w).alloc (Nat.le_refl _) _⟩
set_option maxHeartbeats 8000000 in
set_option maxRecDepth 1000000 in
theorem Tryd.bits3 (n:Nat) (w:World) (hg:w.cell? ⟨5,15,none⟩ = some (.int .u8 4)) (h0:256 <= n) (hn:n < 4096):Calls Tryd.prog 87 #[.slice none 0 0,.int .u64 n,.int .i64 16,.bool false,.bool false] w fun e w'=>e = .returned (.tuple #[.slice none 0 0,.string ⟨[Tryd.hx (n / 16 / 16),Tryd.hx (n / 16 % 16),Tryd.hx (n % 16)].toArray⟩]) /\ Below w.heap.size w w':=by
 have hg1:∀ o,(w.alloc o).cell? ⟨5,15,none⟩ = some (.int .u8 4):=fun o=>Tryd.cell_alloc o hg
 have e0:=Tryd.hx_eq (k:=n / 16 / 16) (by omega)
 have e1:=Tryd.hx_eq (k:=n / 16 % 16) (by omega)
 have e2:=Tryd.hx_eq (k:=n % 16) (by omega)
 go_enter Tryd.func87,Tryd.ntmps87
 go_wp2_with (first | (go_at_call 104; refine (Tryd.isPow _).mono ?_; rintro e w' ⟨rfl,rfl⟩) | (go_at_call 105; refine (Tryd.tz _ (hg1 _)).mono ?_; rintro e w' ⟨rfl,rfl⟩))
 refine wp_loop_rounds 3 ?_
 rw [rounds_succ]
 have hge0:(n:Int) >= 16:=by omega
 have ha0:=Tryd.and15 ((n:Int)) (by omega) (by omega)
 have hm0:(n:Int) % 16 < 36:=by omega
 have hp0:0 <= (n:Int) % 16:=by omega
 go_wp2
 rw [rounds_succ]
 have hge1:(n:Int) / 16 >= 16:=by omega
 have ha1:=Tryd.and15 ((n:Int) / 16) (by omega) (by omega)
 have hm1:(n:Int) / 16 % 16 < 36:=by omega
 have hp1:0 <= (n:Int) / 16 % 16:=by omega
 go_wp2
 rw [rounds_succ]
 have hlt:¬ ((n:Int) / 16 / 16 >= 16):=by omega
 have hma:(n:Int) / 16 / 16 < 36:=by omega
 have hmb:0 <= (n:Int) / 16 / 16:=by omega
 go_wp2
 rw [Tryd.conv [Tryd.hx (n / 16 / 16),Tryd.hx (n / 16 % 16),Tryd.hx (n % 16)] 3 rfl _ _ _ ?hc]
 case hc =>
  have hz:=Tryd.z65
  generalize Tryd.zeroCells147 = Z at hz ⊢
  intro j hj
  match j,hj with
  | 0,_ =>
   show World.cell? _ ⟨_,62,none⟩ = some (.int .u8 ((Tryd.hx (n / 16 / 16)).toNat:Int))
   rw [Tryd.cell_new,e0]
   simp [Array.getElem?_setIfInBounds,hz]
   try rfl
  | 1,_ =>
   show World.cell? _ ⟨_,63,none⟩ = some (.int .u8 ((Tryd.hx (n / 16 % 16)).toNat:Int))
   rw [Tryd.cell_new,e1]
   simp [Array.getElem?_setIfInBounds,hz]
   try rfl
  | 2,_ =>
   show World.cell? _ ⟨_,64,none⟩ = some (.int .u8 ((Tryd.hx (n % 16)).toNat:Int))
   rw [Tryd.cell_new,e2]
   simp [Array.getElem?_setIfInBounds,hz]
   try rfl
 go_wp2
 go_ret2
 exact ⟨by rw [e0,e1,e2]; rfl,(Below.refl _ w).alloc (Nat.le_refl _) _⟩
set_option maxHeartbeats 8000000 in
set_option maxRecDepth 1000000 in
theorem Tryd.bits4 (n:Nat) (w:World) (hg:w.cell? ⟨5,15,none⟩ = some (.int .u8 4)) (h0:4096 <= n) (hn:n < 65536):Calls Tryd.prog 87 #[.slice none 0 0,.int .u64 n,.int .i64 16,.bool false,.bool false] w fun e w'=>e = .returned (.tuple #[.slice none 0 0,.string ⟨[Tryd.hx (n / 16 / 16 / 16),Tryd.hx (n / 16 / 16 % 16),Tryd.hx (n / 16 % 16),Tryd.hx (n % 16)].toArray⟩]) /\ Below w.heap.size w w':=by
 have hg1:∀ o,(w.alloc o).cell? ⟨5,15,none⟩ = some (.int .u8 4):=fun o=>Tryd.cell_alloc o hg
 have e0:=Tryd.hx_eq (k:=n / 16 / 16 / 16) (by omega)
 have e1:=Tryd.hx_eq (k:=n / 16 / 16 % 16) (by omega)
 have e2:=Tryd.hx_eq (k:=n / 16 % 16) (by omega)
 have e3:=Tryd.hx_eq (k:=n % 16) (by omega)
 go_enter Tryd.func87,Tryd.ntmps87
 go_wp2_with (first | (go_at_call 104; refine (Tryd.isPow _).mono ?_; rintro e w' ⟨rfl,rfl⟩) | (go_at_call 105; refine (Tryd.tz _ (hg1 _)).mono ?_; rintro e w' ⟨rfl,rfl⟩))
 refine wp_loop_rounds 4 ?_
 rw [rounds_succ]
 have hge0:(n:Int) >= 16:=by omega
 have ha0:=Tryd.and15 ((n:Int)) (by omega) (by omega)
 have hm0:(n:Int) % 16 < 36:=by omega
 have hp0:0 <= (n:Int) % 16:=by omega
 go_wp2
 rw [rounds_succ]
 have hge1:(n:Int) / 16 >= 16:=by omega
 have ha1:=Tryd.and15 ((n:Int) / 16) (by omega) (by omega)
 have hm1:(n:Int) / 16 % 16 < 36:=by omega
 have hp1:0 <= (n:Int) / 16 % 16:=by omega
 go_wp2
 rw [rounds_succ]
 have hge2:(n:Int) / 16 / 16 >= 16:=by omega
 have ha2:=Tryd.and15 ((n:Int) / 16 / 16) (by omega) (by omega)
 have hm2:(n:Int) / 16 / 16 % 16 < 36:=by omega
 have hp2:0 <= (n:Int) / 16 / 16 % 16:=by omega
 go_wp2
 rw [rounds_succ]
 have hlt:¬ ((n:Int) / 16 / 16 / 16 >= 16):=by omega
 have hma:(n:Int) / 16 / 16 / 16 < 36:=by omega
 have hmb:0 <= (n:Int) / 16 / 16 / 16:=by omega
 go_wp2
 rw [Tryd.conv [Tryd.hx (n / 16 / 16 / 16),Tryd.hx (n / 16 / 16 % 16),Tryd.hx (n / 16 % 16),Tryd.hx (n % 16)] 4 rfl _ _ _ ?hc]
 case hc =>
  have hz:=Tryd.z65
  generalize Tryd.zeroCells147 = Z at hz ⊢
  intro j hj
  match j,hj with
  | 0,_ =>
   show World.cell? _ ⟨_,61,none⟩ = some (.int .u8 ((Tryd.hx (n / 16 / 16 / 16)).toNat:Int))
   rw [Tryd.cell_new,e0]
   simp [Array.getElem?_setIfInBounds,hz]
   try rfl
  | 1,_ =>
   show World.cell? _ ⟨_,62,none⟩ = some (.int .u8 ((Tryd.hx (n / 16 / 16 % 16)).toNat:Int))
   rw [Tryd.cell_new,e1]
   simp [Array.getElem?_setIfInBounds,hz]
   try rfl
  | 2,_ =>
   show World.cell? _ ⟨_,63,none⟩ = some (.int .u8 ((Tryd.hx (n / 16 % 16)).toNat:Int))
   rw [Tryd.cell_new,e2]
   simp [Array.getElem?_setIfInBounds,hz]
   try rfl
  | 3,_ =>
   show World.cell? _ ⟨_,64,none⟩ = some (.int .u8 ((Tryd.hx (n % 16)).toNat:Int))
   rw [Tryd.cell_new,e3]
   simp [Array.getElem?_setIfInBounds,hz]
   try rfl
 go_wp2
 go_ret2
 exact ⟨by rw [e0,e1,e2,e3]; rfl,(Below.refl _ w).alloc (Nat.le_refl _) _⟩
end Go.Proofs
namespace Go.Proofs
open Go.Shelf Go.RowKit Go.Lib
def Tryd.fmtL (n:Nat):List UInt8 :=
 if n < 16 then [Tryd.hx n] else if n < 256 then [Tryd.hx (n / 16),Tryd.hx (n % 16)] else if n < 4096 then [Tryd.hx (n / 16 / 16),Tryd.hx (n / 16 % 16),Tryd.hx (n % 16)]
 else [Tryd.hx (n / 16 / 16 / 16),Tryd.hx (n / 16 / 16 % 16),Tryd.hx (n / 16 % 16),Tryd.hx (n % 16)]
theorem Tryd.fmtBits (n:Nat) (w:World) (hg:w.cell? ⟨5,15,none⟩ = some (.int .u8 4)) (hn:n < 65536):Calls Tryd.prog 87 #[.slice none 0 0,.int .u64 n,.int .i64 16,.bool false,.bool false] w fun e w'=>e = .returned (.tuple #[.slice none 0 0,.string ⟨(Tryd.fmtL n).toArray⟩]) /\ Below w.heap.size w w':=by
 unfold Tryd.fmtL
 by_cases h1:n < 16
 ·rw [if_pos h1]; exact Tryd.bits1 n w hg h1
 rw [if_neg h1]
 by_cases h2:n < 256
 ·rw [if_pos h2]; exact Tryd.bits2 n w hg (by omega) h2
 rw [if_neg h2]
 by_cases h3:n < 4096
 ·rw [if_pos h3]; exact Tryd.bits3 n w hg (by omega) h3
 rw [if_neg h3]
 exact Tryd.bits4 n w hg (by omega) hn
theorem Tryd.fmtInner (n:Nat) (w:World) (hg:w.cell? ⟨5,15,none⟩ = some (.int .u8 4)) (hn:n < 65536):Calls Tryd.prog 74 #[.int .u64 n,.int .i64 16] w fun e w'=>e = .returned (.string ⟨(Tryd.fmtL n).toArray⟩) /\ Below w.heap.size w w':=by
 go_enter Tryd.func74,Tryd.ntmps74
 go_wp2_with (go_at_call 87; refine (Tryd.fmtBits n _ hg hn).mono ?_; rintro e w' ⟨rfl,hb⟩)
 go_ret
 exact ⟨rfl,hb⟩
theorem Tryd.fmt (n:Nat) (w:World) (hg:w.cell? ⟨5,15,none⟩ = some (.int .u8 4)) (hn:n < 65536):Calls Tryd.prog 58 #[.int .u64 n,.int .i64 16] w fun e w'=>e = .returned (.string ⟨(Tryd.fmtL n).toArray⟩) /\ Below w.heap.size w w':=by
 go_enter Tryd.func58,Tryd.ntmps58
 go_wp2_with (go_at_call 74; refine (Tryd.fmtInner n _ hg hn).mono ?_; rintro e w' ⟨rfl,hb⟩)
 go_ret
 exact ⟨rfl,hb⟩
theorem Tryd.extra105:Builder.Extra Tryd.prog Tryd.lays105_ren:={
 sizeBuilder:=by kernel_rfl
 liesBuilder:=by kernel_rfl
 t5:=Tryd.underlying5
 a5:=Tryd.isAgg5
 z5:=Tryd.sizeOf5
 v5:=Tryd.zeroValue5
 infoByte:=by kernel_rfl
 cellsByte:=by kernel_rfl
 sizeByte:=by kernel_rfl
 neB5:=by decide }
theorem Tryd.rep (c:Nat) (w:World) (hc:c <= 3):Calls Tryd.prog 59 #[.string ⟨#[48]⟩,.int .i64 c] w fun e w'=>e = .returned (.string ⟨(List.replicate c 48).toArray⟩) /\ Below w.heap.size w w':=by
 have h:=Any.strings_Repeat Tryd.lays105 Tryd.extra105 ⟨#[48]⟩ c w (by omega) (by show 1 * c <= _; omega)
 have e:Lib.repeatL (⟨#[48]⟩:ByteArray).data.toList c = List.replicate c 48:=by
  match c,hc with
  | 0,_=>rfl
  | 1,_=>rfl
  | 2,_=>rfl
  | 3,_=>rfl
 rw [e] at h
 exact h
def Tryd.hex4 (n:Nat):List UInt8:=List.replicate (4 - (Tryd.fmtL n).length) 48 ++ Tryd.fmtL n
theorem Tryd.fmtL_len {n:Nat}:1 <= (Tryd.fmtL n).length /\ (Tryd.fmtL n).length <= 4:=by
 unfold Tryd.fmtL
 split
 ·simp
 ·split
  ·simp
  ·split <;> simp
theorem Tryd.four (n:Nat) (w:World) (hg:w.cell? ⟨5,15,none⟩ = some (.int .u8 4)) (hn:n < 65536):Calls Tryd.prog 38 #[.int .i64 n] w fun e w'=>e = .returned (.string ⟨(Tryd.hex4 n).toArray⟩) /\ Below w.heap.size w w':=by
 have hw:IntKind.u64.wrap (n:Int) = n:=by rw [IntKind.wrap_u64]; omega
 obtain ⟨l1,l2⟩:=Tryd.fmtL_len (n:=n)
 unfold Tryd.hex4
 generalize hL:Tryd.fmtL n = L at l1 l2
 have hf:=fun w hg=>Tryd.fmt n w hg hn
 rw [hL] at hf
 go_enter Tryd.func38,Tryd.ntmps38
 have hmax:max (4 - (L.length:Int)) 0 = ((4 - L.length:Nat):Int):=by omega
 have hr:=fun w=>Tryd.rep (4 - L.length) w (by omega)
 rw [<- hmax] at hr
 clear hmax
 go_wp2_with (first | (go_at_call 58; refine (hf _ hg).mono ?_; rintro e w' ⟨rfl,hb⟩) | (go_at_call 59; refine (hr _).mono ?_; rintro e w' ⟨rfl,hb2⟩))
 go_ret
 refine ⟨?_,hb.trans (hb2.mono hb.size)⟩
 have e:(⟨Array.replicate (4 - L.length) 48⟩:ByteArray) ++ ⟨L.toArray⟩ = ⟨(List.replicate (4 - L.length) 48 ++ L).toArray⟩:=by
  apply ByteArray.ext
  simp [ByteArray.data_append]
 rw [<- e]
 rfl
end Go.Proofs
namespace Go.Proofs.YtfgbfdlacnihkaaDoor.Po
open Go Go.Proofs Go.RowKit Go.Proofs.YtfgbfdlacnihkaaDoor.Sx

def dB64:List Value:=[0,1,56,2,57,49,28,3,61,58,42,50,38,29,17,4,62,47,59,36,45,43,51,22,53,39,33,30,24,18,12,5,63,55,48,27,60,41,37,16,46,35,44,21,52,32,23,11,54,26,40,15,34,20,31,10,25,14,19,9,13,8,7,6].map fun n:Nat=>.int .u8 (n:Int)
def gl (m:Int):Gl:=[[.int .i64 m],[],[],[],[],dB64]
variable {m:Int}
def byt (l:List Int):List UInt8:=l.map fun x=>UInt8.ofNat x.toNat
theorem byt_bytesI (s:ByteArray):byt (bytesI s) = s.data.toList:=by
 unfold byt bytesI
 rw [List.map_map]
 conv=>rhs; rw [<- List.map_id s.data.toList]
 refine List.map_congr_left fun b _=>?_
 show UInt8.ofNat (((b.toNat:Nat):Int)).toNat = b
 rw [Int.toNat_natCast]
 exact UInt8.ofNat_toNat
def ubyt (l:List UInt8):List Int:=l.map fun b=>(b.toNat:Int)
theorem encS_mk (l:List UInt8):encS ⟨l.toArray⟩ = enc (ubyt l):=by
 unfold encS bytesI ubyt
 rfl
theorem below_keep {w w':World} (h:Below w.heap.size w w'):Keep [] w w':=Keep.of_blocks h.os h.tape h.output h.size fun k hk=>h.block k hk
theorem flat_str {ss:List Sh} {vs:List Value} {w:World} {is:List Int} {bs:List Bool} {ps:List Rg} (h:flatArgs (.val false [.str] :: ss) vs w = some (is,bs,ps)) :
  ∃ (s:ByteArray) (us:List Value) (js:List Int),vs = .string s :: us /\ is = encS s :: js /\ flatArgs ss us w = some (js,bs,ps) /\ InR .i64 s.size:=by
 cases vs with
 | nil=>simp [flatArgs] at h
 | cons v vs =>
  cases v with
  | string s =>
   by_cases hr:inR .i64 s.size = true
   ·cases hf:flatArgs ss vs w with
    | none=>simp [flatArgs,flat1,flatC,hr,hf] at h
    | some p =>
     obtain ⟨i,b,q⟩:=p
     simp [flatArgs,flat1,flatC,hr,hf] at h
     obtain ⟨rfl,rfl,rfl⟩:=h
     exact ⟨s,vs,i,rfl,rfl,hf,inR_spec hr⟩
   ·simp [flatArgs,flat1,flatC,hr] at h
  | _=>simp [flatArgs,flat1,flatC] at h
theorem flat_nil {vs:List Value} {w:World} {is:List Int} {bs:List Bool} {ps:List Rg} (h:flatArgs [] vs w = some (is,bs,ps)):vs = [] /\ is = [] /\ bs = [] /\ ps = []:=by
 cases vs with
 | nil=>simp [flatArgs] at h; exact ⟨rfl,h.1,h.2.1,h.2.2⟩
 | cons v vs=>simp [flatArgs] at h
theorem flat_str1 {vs:List Value} {w:World} {is:List Int} {bs:List Bool} {ps:List Rg} (h:flatArgs [.val false [.str]] vs w = some (is,bs,ps)):∃ s:ByteArray,vs = [.string s] /\ is = [encS s] /\ bs = [] /\ ps = [] /\ InR .i64 s.size:=by
 obtain ⟨s,us,js,rfl,rfl,h,hs⟩:=flat_str h
 obtain ⟨rfl,rfl,rfl,rfl⟩:=flat_nil h
 exact ⟨s,rfl,rfl,rfl,rfl,hs⟩
theorem flat_str2 {vs:List Value} {w:World} {is:List Int} {bs:List Bool} {ps:List Rg} (h:flatArgs [.val false [.str],.val false [.str]] vs w = some (is,bs,ps)):∃ s t:ByteArray,vs = [.string s,.string t] /\ is = [encS s,encS t] /\ bs = [] /\ ps = [] /\ InR .i64 s.size /\ InR .i64 t.size:=by
 obtain ⟨s,us,js,rfl,rfl,h,hs⟩:=flat_str h
 obtain ⟨t,rfl,rfl,rfl,rfl,ht⟩:=flat_str1 h
 exact ⟨s,t,rfl,rfl,rfl,rfl,hs,ht⟩
def s47:Sum:={ args:=[.val false [.str],.val false [.str]],tup:=false,res:=[(false,[.int .i64])],pre:=true }
def F47:Fun:=fun is _=>([Lib.index (byt (dec (is.getD 0 0))) (byt (dec (is.getD 1 0)))],[decide ((dec (is.getD 0 0)).length < 4294967281)])
theorem c47:Contract Tryd.prog (gl m) 47 s47 F47:=by
 intro vs w is bs ps hL hfl ha hz h1 h2 hpre
 obtain ⟨s,t,rfl,rfl,rfl,rfl,hs,ht⟩:=flat_str2 hfl
 have hF:F47 [encS s,encS t] [] = ([Lib.index s.data.toList t.data.toList],[decide (s.size < 4294967281)]):=by
  unfold F47
  simp only [List.getD_cons_zero,List.getD_cons_succ,encS_len]
  unfold encS
  rw [dec_enc,dec_enc,byt_bytesI,byt_bytesI]
 have hp:=hpre rfl
 rw [hF] at hp ⊢
 have hsz:s.size < 4294967281:=of_decide_eq_true hp
 refine (Any.strings_Index Tryd.lays143 s t m w hsz ((hL 0 _ rfl).2 0 _ rfl).1).mono ?_
 rintro e w' ⟨rfl,rfl⟩
 have hr:inR .i64 (Lib.index s.data.toList t.data.toList) = true:=by
  have a1:=Lib.index_ge s.data.toList t.data.toList
  have a2:=Lib.index_le s.data.toList t.data.toList
  have a3:s.data.toList.length = s.size:=by simp
  exact inR_mk ⟨by show (-9223372036854775808:Int) <= _; omega,by show _ <= (9223372036854775807:Int); omega⟩
 refine ⟨_,rfl,Keep.refl _ _,⟨([Lib.index s.data.toList t.data.toList],[]),([],[]),?_,?_,by simp,?_⟩,fun r hr=>?_⟩
 ·simp [flatRes,s47,flat1,flatC,hr]
 ·rfl
 ·simp [hsz,s47]
 ·simp [resRgs,s47,rg1,rgC] at hr
def s17:Sum:={ args:=[.val false [.str],.val false [.str]],tup:=true,res:=[(false,[.str]),(false,[.str]),(false,[.bool])],pre:=true }
def cutP (is:List Int):List UInt8 × List UInt8 × Bool:=Lib.cut (byt (dec (is.getD 0 0))) (byt (dec (is.getD 1 0)))
def F17:Fun:=fun is _=>([enc (ubyt (cutP is).1),enc (ubyt (cutP is).2.1)],[decide ((dec (is.getD 0 0)).length < 4294967281),(cutP is).2.2])
theorem cut_len (s t:List UInt8):(Lib.cut s t).1.length <= s.length /\ (Lib.cut s t).2.1.length <= s.length:=by
 unfold Lib.cut
 split
 ·simp only [List.length_take,List.length_drop]; omega
 ·simp
theorem c17:Contract Tryd.prog (gl m) 17 s17 F17:=by
 intro vs w is bs ps hL hfl ha hz h1 h2 hpre
 obtain ⟨s,t,rfl,rfl,rfl,rfl,hs,ht⟩:=flat_str2 hfl
 have hC:cutP [encS s,encS t] = Lib.cut s.data.toList t.data.toList:=by
  unfold cutP
  simp only [List.getD_cons_zero,List.getD_cons_succ]
  unfold encS
  rw [dec_enc,dec_enc,byt_bytesI,byt_bytesI]
 have hF:F17 [encS s,encS t] [] = ([enc (ubyt (Lib.cut s.data.toList t.data.toList).1),enc (ubyt (Lib.cut s.data.toList t.data.toList).2.1)],[decide (s.size < 4294967281),(Lib.cut s.data.toList t.data.toList).2.2]):=by
  unfold F17
  rw [hC]
  simp only [List.getD_cons_zero,encS_len]
 have hp:=hpre rfl
 rw [hF] at hp ⊢
 have hsz:s.size < 4294967281:=of_decide_eq_true hp
 refine (Any.strings_Cut Tryd.lays145 s t m w hsz ((hL 0 _ rfl).2 0 _ rfl).1).mono ?_
 rintro e w' ⟨rfl,n,rfl⟩
 obtain ⟨l1,l2⟩:=cut_len s.data.toList t.data.toList
 have a3:s.data.toList.length = s.size:=by simp
 generalize Lib.cut s.data.toList t.data.toList = c at l1 l2
 have hr1:inR .i64 ((⟨c.1.toArray⟩:ByteArray).size:Int) = true:=inR_mk ⟨by show (-9223372036854775808:Int) <= _; omega,by
  show ((c.1.toArray.size:Nat):Int) <= 9223372036854775807
  simp; omega⟩
 have hr2:inR .i64 ((⟨c.2.1.toArray⟩:ByteArray).size:Int) = true:=inR_mk ⟨by show (-9223372036854775808:Int) <= _; omega,by
  show ((c.2.1.toArray.size:Nat):Int) <= 9223372036854775807
  simp; omega⟩
 refine ⟨_,rfl,Keep.of_blocks rfl rfl rfl (Nat.le_refl _) (fun _ _=>rfl),⟨([enc (ubyt c.1),enc (ubyt c.2.1)],[c.2.2]),([],[]),?_,?_,by simp,?_⟩,fun r hr=>?_⟩
 ·simp [flatRes,s17,flatTup,flat1,flatC,hr1,hr2,encS_mk]
 ·rfl
 ·simp [hsz,s17]
 ·simp [resRgs,s17,rgTup,rg1,rgC] at hr
def s32:Sum:={ args:=[.val false [.str]],tup:=true,res:=[(false,[.int .i64]),(false,[.bool])],pre:=false }
def numO (is:List Int):Option Int:=Tryd.num ⟨(byt (dec (is.getD 0 0))).toArray⟩
def F32:Fun:=fun is _=>([(numO is).getD 0],[(numO is).isSome])
theorem numFrom_lt (s:ByteArray):∀ (k pos j:Nat) (n r:Int),0 <= n -> n < 16 ^ j -> Tryd.numFrom s k pos n = some r -> 0 <= r /\ r < 16 ^ (j + k)
 | 0,pos,j,n,r,h0,h1,h=>by
  rw [Tryd.numFrom] at h
  cases h
  exact ⟨h0,h1⟩
 | k + 1,pos,j,n,r,h0,h1,h=>by
  rw [Tryd.numFrom] at h
  split at h
  ·split at h
   ·cases h
   ·rename_i hd
    have hl:=Tryd.hexR_lt (Utf8.decode s pos).1
    have:=numFrom_lt s k _ (j + 1) _ r (by omega) (by rw [Int.pow_succ]; omega) h
    rw [show j + (k + 1) = j + 1 + k by omega]
    exact this
  ·cases h
   have:=Tryd.pow16 (show j <= j + (k + 1) by omega)
   exact ⟨h0,by omega⟩
theorem num_lt {s:ByteArray} {r:Int} (h:Tryd.num s = some r):0 <= r /\ r < 65536:=by
 unfold Tryd.num at h
 split at h
 ·cases h
 ·rename_i hs
  have:=numFrom_lt s s.size 0 0 0 r (by omega) (by omega) h
  have h4:=Tryd.pow16 (show 0 + s.size <= 4 by omega)
  exact ⟨this.1,by omega⟩
theorem c32:Contract Tryd.prog (gl m) 32 s32 F32:=by
 intro vs w is bs ps hL hfl ha hz h1 h2 hpre
 obtain ⟨s,rfl,rfl,rfl,rfl,hs⟩:=flat_str1 hfl
 have hC:numO [encS s] = Tryd.num s:=by
  unfold numO
  simp only [List.getD_cons_zero]
  unfold encS
  rw [dec_enc,byt_bytesI]
 have hF:F32 [encS s] [] = ([(Tryd.num s).getD 0],[(Tryd.num s).isSome]):=by
  unfold F32
  rw [hC]
 rw [hF]
 refine (Tryd.number s w).mono ?_
 rintro e w' ⟨rfl,hb⟩
 have hr:inR .i64 ((Tryd.num s).getD 0) = true:=by
  cases hn:Tryd.num s with
  | none=>decide
  | some n =>
   have:=num_lt hn
   exact inR_mk ⟨by show (-9223372036854775808:Int) <= n; omega,by show n <= (9223372036854775807:Int); omega⟩
 refine ⟨_,rfl,below_keep hb,⟨([(Tryd.num s).getD 0],[(Tryd.num s).isSome]),([],[]),?_,?_,by simp,?_⟩,fun r hr=>?_⟩
 ·cases hn:Tryd.num s with
  | none=>simp [flatRes,s32,flatTup,flat1,flatC,Tryd.numV]; decide
  | some n=>rw [hn] at hr; simp at hr; simp [flatRes,s32,flatTup,flat1,flatC,Tryd.numV,hr]
 ·rfl
 ·simp [s32]
 ·cases hn:Tryd.num s <;> rw [hn] at hr <;> simp [resRgs,s32,rgTup,rg1,rgC,Tryd.numV] at hr
theorem flat_int {ss:List Sh} {k:IntKind} {vs:List Value} {w:World} {is:List Int} {bs:List Bool} {ps:List Rg} (h:flatArgs (.val false [.int k] :: ss) vs w = some (is,bs,ps)) :
  ∃ (n:Int) (us:List Value) (js:List Int),vs = .int k n :: us /\ is = n :: js /\ flatArgs ss us w = some (js,bs,ps) /\ InR k n:=by
 cases vs with
 | nil=>simp [flatArgs] at h
 | cons v vs =>
  cases v with
  | int k' n =>
   by_cases hr:(k' == k && inR k n) = true
   ·cases hf:flatArgs ss vs w with
    | none=>simp [flatArgs,flat1,flatC,hr,hf] at h
    | some p =>
     obtain ⟨i,b,q⟩:=p
     rw [Bool.and_eq_true,beq_iff_eq] at hr
     obtain ⟨rfl,hr⟩:=hr
     simp [flatArgs,flat1,flatC,hr,hf] at h
     obtain ⟨rfl,rfl,rfl⟩:=h
     exact ⟨n,vs,i,rfl,rfl,hf,inR_spec hr⟩
   ·simp [flatArgs,flat1,flatC,hr] at h
  | _=>simp [flatArgs,flat1,flatC] at h
def s38:Sum:={ args:=[.val false [.int .i64]],tup:=false,res:=[(false,[.str])],pre:=true }
def F38:Fun:=fun is _=>([enc (ubyt (Tryd.hex4 (is.getD 0 0).toNat))],[decide (0 <= is.getD 0 0) && decide (is.getD 0 0 < 65536)])
theorem hex4_len (n:Nat):(Tryd.hex4 n).length = 4:=by
 obtain ⟨l1,l2⟩:=Tryd.fmtL_len (n:=n)
 unfold Tryd.hex4
 rw [List.length_append,List.length_replicate]
 omega
theorem c38:Contract Tryd.prog (gl m) 38 s38 F38:=by
 intro vs w is bs ps hL hfl ha hz h1 h2 hpre
 obtain ⟨n,us,js,rfl,rfl,hfl,hn⟩:=flat_int hfl
 obtain ⟨rfl,rfl,rfl,rfl⟩:=flat_nil hfl
 have hp:=hpre rfl
 have hp:(decide (0 <= n) && decide (n < 65536)) = true:=hp
 rw [Bool.and_eq_true,decide_eq_true_eq,decide_eq_true_eq] at hp
 obtain ⟨k,rfl⟩:=Int.eq_ofNat_of_zero_le hp.1
 refine (Tryd.four k w ((hL 5 _ rfl).2 15 (.int .u8 4) rfl).1 (by omega)).mono ?_
 rintro e w' ⟨rfl,hb⟩
 have hr:inR .i64 ((⟨(Tryd.hex4 k).toArray⟩:ByteArray).size:Int) = true:=inR_mk (by
  show InR .i64 (((Tryd.hex4 k).toArray.size:Nat):Int)
  rw [List.size_toArray,hex4_len]
  exact ⟨by decide,by decide⟩)
 refine ⟨_,rfl,below_keep hb,⟨([enc (ubyt (Tryd.hex4 k))],[]),([],[]),?_,?_,by simp [F38],?_⟩,fun r hr=>?_⟩
 ·simp [flatRes,s38,flat1,flatC,hr,encS_mk]
 ·rfl
 ·simp [s38,F38]
 ·simp [resRgs,s38,rg1,rgC] at hr
end Go.Proofs.YtfgbfdlacnihkaaDoor.Po
namespace Go.Proofs.YtfgbfdlacnihkaaDoor.Sx
open Go Go.Shelf Go.RowKit Go.Lib
theorem wpList_append_run {P:Program} {w:World} {ops:Array Oper} {rest:List Oper} {o:Oper} {a:Act} {Q:Exit -> Act -> World -> Prop} (hgd:o.guard = none) (s x:Operand) (t:TypeId)
  (ho:o.op = .call { callee:=.builtin .append,args:=#[s,x],argTypes:=#[t,t] }) {v' v1 v2:Value} {w':World} (h1:a.eval s = v1) (h2:a.eval x = v2) {ty:TypeId} (hty:o.type = ty)
  (hr:(Builtin.append_ #[t,t] ty #[v1,v2]).run P w = .ok v' w') (h:wpList P ops Q rest (a.put o.dst v') w'):wpList P ops Q (o :: rest) a w:=by
 subst h1 h2 hty
 refine wpList_plain hgd fun next hK=>?_
 obtain ⟨dst,op,ty,pos,after,guard⟩:=o
 simp only at ho
 subst ho
 exact OpG.value (Post:=fun v u=>v = v' /\ u = w') (execOp_append hr) ⟨rfl,rfl⟩ next Q fun v u hv=>by
  obtain ⟨rfl,rfl⟩:=hv
  exact hK _ _ h
section
variable {P:Program} {ρ:Go.Shelf.Ren} {ks:List CK} {bytes:Nat} {i:TypeInfo} {z:Value}
end
end Go.Proofs.YtfgbfdlacnihkaaDoor.Sx
namespace Go.Proofs
open Go.Shelf Go.RowKit Go.Lib
def Tryd.laysGrow_ren:Go.Shelf.Ren:=⟨fun | 4=>42 | n=>n,fun | 22=>23 | 25=>52 | 3=>3 | 4=>4 | 9=>9 | 20=>20 | 0=>0 | 2=>3 | n=>n,fun | n=>n⟩
theorem Tryd.laysGrow:Go.Proofs.Lays8.n4 Tryd.prog Tryd.laysGrow_ren:={
 mixed:=by kernel_rfl
 f4:=⟨Tryd.f42.name,by decide,Tryd.func42.trans (congrArg some (by kernel_rfl))⟩
 t0:=Tryd.underlying0
 a0:=Tryd.isAgg0
 z0:=Tryd.sizeOf0
 v0:=Tryd.zeroValue0
 t3:=Tryd.underlying3
 a3:=Tryd.isAgg3
 z3:=Tryd.sizeOf3
 v3:=Tryd.zeroValue3
 t4:=Tryd.underlying4
 a4:=Tryd.isAgg4
 z4:=Tryd.sizeOf4
 v4:=Tryd.zeroValue4
 t9:=Tryd.underlying9
 a9:=Tryd.isAgg9
 z9:=Tryd.sizeOf9
 v9:=Tryd.zeroValue9
 t20:=Tryd.underlying20
 a20:=Tryd.isAgg20
 z20:=Tryd.sizeOf20
 v20:=Tryd.zeroValue20
 t22:=Tryd.underlying23
 a22:=Tryd.isAgg23
 z22:=Tryd.sizeOf23
 v22:=Tryd.zeroValue23 }
theorem Tryd.grow0 (w:World):Calls Tryd.prog 42 #[.slice none 0 0,.int .i64 0] w fun e w'=>e = .returned (.slice none 0 0) /\ w' = w :=
 Any8.slices_Grow_room Tryd.laysGrow none 0 0 0 w (Nat.le_refl _) (by omega) (by omega) (Nat.le_refl _)
set_option maxHeartbeats 4000000 in
set_option maxRecDepth 1000000 in
theorem Tryd.concat_run (b o c0 n1 n2 c1 c2:Nat) (p1 p2:Option Addr) (w wg w1 w2:World) (g g1 g2:Value) (hn1:n1 <= 2305843009213693952) (hn2:n2 <= 2305843009213693952)
  (h1:w.cell? ⟨b,o,none⟩ = some (.slice p1 n1 c1)) (h2:w.cell? ⟨b,o + 1,none⟩ = some (.slice p2 n2 c2))
  (hG:Calls Tryd.prog 42 #[.slice none 0 0,.int .i64 ((n1:Int) + (n2:Int))] w fun e w'=>e = .returned g /\ w' = wg)
  (h3:wg.cell? ⟨b,o,none⟩ = some (.slice p1 n1 c1)) (h4:w1.cell? ⟨b,o + 1,none⟩ = some (.slice p2 n2 c2))
  (hr1:(Builtin.append_ #[23,23] 23 #[g,.slice p1 n1 c1]).run Tryd.prog wg = .ok g1 w1) (hr2:(Builtin.append_ #[23,23] 23 #[g1,.slice p2 n2 c2]).run Tryd.prog w1 = .ok g2 w2) :
  Calls Tryd.prog 26 #[.slice (some ⟨b,o,none⟩) 2 c0] w fun e w'=>e = .returned g2 /\ w' = w2:=by
 have A1:Aside ((Builtin.append_ #[23,23] 23 #[g,.slice p1 n1 c1]).run Tryd.prog wg = .ok g1 w1):=hr1
 have A2:Aside ((Builtin.append_ #[23,23] 23 #[g1,.slice p2 n2 c2]).run Tryd.prog w1 = .ok g2 w2):=hr2
 clear hr1 hr2
 have k1:wrap64 (n1:Int) = n1:=by unfold wrap64; omega
 have k2:wrap64 ((n1:Int) + (n2:Int)) = (n1:Int) + (n2:Int):=by unfold wrap64; omega
 have k3:¬ (n1:Int) < 0:=by omega
 have k4:¬ (n1:Int) + (n2:Int) < 0:=by omega
 go_enter Tryd.func26,Tryd.ntmps26
 go_wp2
 refine wp_loop_rounds 3 ?_
 rw [rounds_succ]
 go_wp2
 rw [rounds_succ]
 go_wp2
 rw [rounds_succ]
 go_wp2_with (go_at_call 42; refine hG.mono ?_; rintro e w' ⟨rfl,rfl⟩)
 refine wp_loop_rounds 3 ?_
 rw [rounds_succ]
 go_wp2_with (at_builtin; refine YtfgbfdlacnihkaaDoor.Sx.wpList_append_run rfl _ _ 23 rfl rfl rfl rfl A1.out ?_)
 rw [rounds_succ]
 go_wp2_with (at_builtin; refine YtfgbfdlacnihkaaDoor.Sx.wpList_append_run rfl _ _ 23 rfl rfl rfl rfl A2.out ?_)
 rw [rounds_succ]
 go_wp2
 go_ret
 exact ⟨rfl,rfl⟩
end Go.Proofs
namespace Go.Proofs.YtfgbfdlacnihkaaDoor.Sx
open Go Go.Shelf
section
variable {P:Program} {Φ:Funs} {gl:Gl} {H:Hnd}
end
end Go.Proofs.YtfgbfdlacnihkaaDoor.Sx
namespace Go.Proofs.YtfgbfdlacnihkaaDoor.Sx
open Go Go.Shelf
def RowAt (w:World) (b:Nat) (ks:List CK) (cap:Nat) (l:List Int) (n:Nat):Prop :=
 l.length = n * ks.length /\ n <= cap /\ seqAt w b 0 ks l /\ ∀ j,j < cap * ks.length -> (∃ v,w.cell? ⟨b,0 + j,none⟩ = some v /\ oneCell v = true) /\ w.frozen? ⟨b,0 + j,none⟩ = false
theorem SrcOk.keep {w w':World} {ks:List CK} {l:List Int} {m:Nat} {v:Value} (h:SrcOk w ks l m v) (hk:Keep [] w w'):SrcOk w' ks l m v:=by
 obtain ⟨p,cap,hv,hl,h⟩:=h
 refine ⟨p,cap,hv,hl,h.imp id ?_⟩
 rintro ⟨b,o,hp,hs⟩
 refine ⟨b,o,hp,fun j n hj=>?_⟩
 obtain ⟨ck,u,h1,h2,h3⟩:=hs j n hj
 exact ⟨ck,u,h1,by rw [hk.cell _ (World.block_lt_of_cell? w _ h2) (by simp)]; exact h2,h3⟩
section
variable {P:Program} {t ty:TypeId} {ks:List CK} {bytes:Nat} {e:TypeId} {i:TypeInfo} {z:Value}
theorem app_run (T:RowTy P t ks bytes e i z) {w:World} {b cap n m:Nat} {l lx:List Int} {v:Value} (hr:RowAt w b ks cap l n) (hs:SrcOk w ks lx m v) (hroom:n + m <= cap) :
  ∃ w',(Builtin.append_ #[t,t] ty #[.slice (some ⟨b,0,none⟩) n cap,v]).run P w = .ok (.slice (some ⟨b,0,none⟩) (n + m) cap) w' /\ Keep [rowRg b (cap * ks.length) 0] w w' /\ RowAt w' b ks cap (l ++ lx) (n + m):=by
 obtain ⟨p',capx,rfl,hlx,hpx⟩:=hs
 obtain ⟨hll,hn,hsq,hcells⟩:=hr
 by_cases hm0:m = 0
 ·subst hm0
  have hlx0:lx = []:=List.eq_nil_of_length_eq_zero (by simpa using hlx)
  subst hlx0
  refine ⟨w,append_zero T _ p' n cap capx hn,Keep.refl _ _,?_⟩
  rw [List.append_nil]
  exact ⟨hll,hn,hsq,hcells⟩
 ·obtain ⟨bx,ox,rfl,hsx⟩:=hpx.resolve_left hm0
  have hkl:=T.klen
  obtain ⟨news,hn1,hn2,hn3,hn4⟩:=seqAt_vals hsx
  have hmulr:(n + m) * ks.length <= cap * ks.length:=Nat.mul_le_mul_right _ hroom
  rw [Nat.add_mul] at hmulr
  have hm1:1 * ks.length <= m * ks.length:=Nat.mul_le_mul_right _ (by omega)
  obtain ⟨w',g1,g2,g3,g4⟩:=run_storeCells (P:=P) (b:=b) (o:=n * ks.length) news 0 w hn4 (fun j hj=>by
   obtain ⟨⟨u,hu,_⟩,hfz⟩:=hcells (n * ks.length + j) (by omega)
   rw [show n * ks.length + 0 + j = 0 + (n * ks.length + j) by omega]
   exact ⟨⟨u,hu⟩,hfz⟩)
  have hpl:b < w.heap.size:=by
   obtain ⟨⟨u,hu,_⟩,_⟩:=hcells 0 (by omega)
   exact World.block_lt_of_cell? w ⟨b,_,none⟩ hu
  have hkeep:Keep [rowRg b (cap * ks.length) 0] w w':=by
   refine (Keep.refl [rowRg b (cap * ks.length) 0] w).trans g3 fun q' hq'=>?_
   simp only [List.mem_singleton] at hq'
   subst hq'
   refine .inr ⟨rowRg b (cap * ks.length) 0,by simp,rfl,?_,?_⟩ <;> simp only [rowRg] <;> omega
  refine ⟨w',append_room T (by rw [hn1,hlx]) (fun j u hj=>by rw [add_addr]; exact hn2 j u hj) hroom (by rw [add_addr,Nat.zero_add]; exact g1),hkeep,by rw [List.length_append,hll,hlx,Nat.add_mul],hroom,fun j x' hj=>?_,fun j hj=>⟨?_,(hkeep.frz _ hpl).trans (hcells j hj).2⟩⟩
  ·by_cases h1:j < l.length
   ·rw [List.getElem?_append_left h1] at hj
    obtain ⟨ck,v,e1,e2,e3⟩:=hsq j x' hj
    refine ⟨ck,v,e1,?_,e3⟩
    rw [g4 _ (by unfold inRg; simp only; omega)]
    exact e2
   ·rw [List.getElem?_append_right (by omega)] at hj
    obtain ⟨ck,v,e1,e2,e3⟩:=hn3 _ x' hj
    refine ⟨ck,v,?_,?_,e3⟩
    ·rw [<- e1,hll]
     congr 1
     obtain ⟨d,rfl⟩:∃ d,j = n * ks.length + d:=⟨j - n * ks.length,by omega⟩
     rw [show n * ks.length + d - n * ks.length = d by omega,Nat.mul_comm,Nat.mul_add_mod]
    ·have:=g2 _ _ e2
     rwa [show n * ks.length + 0 + (j - l.length) = 0 + j by omega] at this
  ·by_cases h1:n * ks.length <= j /\ j < n * ks.length + news.length
   ·obtain ⟨u,hu⟩:∃ u,news[j - n * ks.length]? = some u:=⟨_,List.getElem?_eq_getElem (by omega)⟩
    refine ⟨u,?_,hn4 u (List.mem_of_getElem? hu)⟩
    have:=g2 _ _ hu
    rwa [show n * ks.length + 0 + (j - n * ks.length) = 0 + j by omega] at this
   ·obtain ⟨u,hu,ho⟩:=(hcells j hj).1
    refine ⟨u,?_,ho⟩
    rw [g4 _ (by unfold inRg; simp only; omega)]
    exact hu
theorem rowAt_zero (T:RowTy P t ks bytes e i z) (w:World) (a n cap:Nat) (h:a + n <= cap) (ha:a = 0) :
  RowAt (w.alloc (.cells (([]:List Value).toArray ++ Builtin.zeroCells z.cells (a + n - 0) ++ Builtin.zeroCells z.cells (cap - (a + n))) e)) w.heap.size ks cap [] 0:=by
 have hz:∀ (k:Nat),(Builtin.zeroCells z.cells k).size = k * z.cells.size:=fun k=>by simp [Builtin.zeroCells]
 refine ⟨by simp,Nat.zero_le _,fun j x hj=>by simp at hj,fun j hj=>?_⟩
 have hs:(([]:List Value).toArray ++ Builtin.zeroCells z.cells (a + n - 0) ++ Builtin.zeroCells z.cells (cap - (a + n))).size = cap * ks.length:=by
  rw [Array.size_append,Array.size_append,hz,hz,T.zs,List.size_toArray,List.length_nil,Nat.zero_add,<- Nat.add_mul]
  congr 1
  omega
 have ho:∀ (j:Nat) (v:Value),(([]:List Value).toArray ++ Builtin.zeroCells z.cells (a + n - 0) ++ Builtin.zeroCells z.cells (cap - (a + n)))[j]? = some v -> oneCell v = true:=by
  intro j v hv
  have hm:∀ (k:Nat),v ∈ Builtin.zeroCells z.cells k -> oneCell v = true:=fun k hk=>by
   obtain ⟨j',hj'⟩:=Array.mem_iff_getElem?.1 hk
   have hkl:=T.klen
   obtain ⟨ck,_,h3⟩:=T.zv _ _ (zc_get (by rw [T.zs]; exact hkl) hj')
   exact ckv_one h3
  have:=Array.mem_of_getElem? hv
  simp only [Array.mem_append,List.mem_toArray,List.not_mem_nil,false_or] at this
  rcases this with h | h <;> exact hm _ h
 generalize ([]:List Value).toArray ++ Builtin.zeroCells z.cells (a + n - 0) ++ Builtin.zeroCells z.cells (cap - (a + n)) = arr at hs ho
 have hj':j < arr.size:=by rw [hs]; exact hj
 refine ⟨⟨arr[j],by simp [hj'],ho j _ (by simp [hj'])⟩,by simp⟩
end
theorem step_rowK {N:Nat} {R:List Rg} {Q:Rg -> Prop} {β:Beta} {w w2:World} {lo hi id:Nat} (hlo:lo <= id) (hhi:id < hi) (hn:β id = none) (hb:BetaOk N R Q β w) (hN:N <= w.heap.size) (len m:Nat)
  (hk:Keep [] w w2) (hs:w.heap.size < w2.heap.size):Step N R Q β w [id] [] lo hi (β.set id (rowRg w.heap.size len m)) w2:=by
 refine ⟨Beta.set_ext _ hn,?_,⟨[],by simp,hk⟩,fun i hi' _=>Beta.set_other _ _ (by omega),by simp⟩
 exact hb.bind (W:=[]) (by simp) hk (fun j q _ hj=>.inr (hb.new_apart (by simp [rowRg]) hj)) (.inr (by simp [rowRg]; exact hs)) (.inr (.inl (by simp [rowRg]; omega))) (by simp [rowRg]) (by simp [rowRg]) (by simp [rowRg])
def concatM (P:Program) (t:TypeId) (Γ:Gd) (hp:Hp) (xs:List S):M Res:=match xs with
 | [.one false [.sli id off 2 _]]=>do
  let p <- lift (rowTy P t)
  let cs <- lift (ldC Γ hp id off 2)
  let r <- sameId (do
   let r1 <- srcOf Γ hp p.1 (.one false [cs.getD 0 .junk])
   let b1 <- mkCm .leq r1.2 (.c (appK p.2))
   oblige b1
   let r2 <- srcOf Γ hp p.1 (.one false [cs.getD 1 .junk])
   let b2 <- mkCm .leq r2.2 (.c (appK p.2))
   oblige b2
   let q <- mkCat r1.1 r2.1
   let n <- mkAr .add .i64 r1.2 r2.2
   pure (q,n))
  Sx.withId fun id2=>pure { s:=.one false [.slm id2 p.1],w:=rowW id2 p.1 r.1 r.2 }
 | _=>M.fail
def concatH (P:Program) (f:Nat) (t:TypeId) (H:Hnd):Hnd:=fun g Γ hp xs=>if g == f then concatM P t Γ hp xs else H g Γ hp xs
set_option maxHeartbeats 2000000 in
theorem concatH_ok {Φ:Funs} {gl:Gl} {H:Hnd} (hH:HOk Tryd.prog Φ gl H):HOk Tryd.prog Φ gl (concatH Tryd.prog 26 23 H):=by
 intro f Γ hp xs ρ c res c' out he hg hΓ N R Q β w vs hm hh hb hN hG hf
 unfold concatH at he
 split at he
 case isFalse=>exact hH f Γ hp xs ρ c res c' out he hg hΓ N R Q β w vs hm hh hb hN hG hf
 rename_i hfe
 have hfe:f = 26:=by simpa using hfe
 subst hfe
 refine ⟨fun args w=>by kernel_rfl,?_⟩
 unfold concatM at he
 split at he
 case h_2=>simp [M.fail] at he
 rename_i sid off ccap
 obtain ⟨p,c1,o1,c2,o2,y,g1,g2,e1⟩:=M.bind_inv he
 simp only [Prod.mk.injEq] at e1
 obtain ⟨rfl,rfl,rfl⟩:=e1
 obtain ⟨p',hp',e1⟩:=lift_inv g1
 simp only [Prod.mk.injEq] at e1
 obtain ⟨rfl,rfl,rfl⟩:=e1
 obtain ⟨ks,bytes⟩:=p
 obtain ⟨cs,c1,o1,c2,o2,y,g1,g2,e1⟩:=M.bind_inv g2
 simp only [Prod.mk.injEq] at e1
 obtain ⟨rfl,rfl,rfl⟩:=e1
 obtain ⟨cs',hcs,e1⟩:=lift_inv g1
 simp only [Prod.mk.injEq] at e1
 obtain ⟨rfl,rfl,rfl⟩:=e1
 obtain ⟨hcl,sr,hsr,hca⟩:=ldC_spec hΓ hh hcs
 obtain ⟨x1,x2,rfl⟩:∃ x1 x2,cs = [x1,x2]:=by
  match cs,hcl with
  | [x1,x2],_=>exact ⟨x1,x2,rfl⟩
 simp only [List.getD_cons_zero,List.getD_cons_succ] at g2
 rw [cellsAt_iff] at hca
 obtain ⟨u1,hu1,hx1⟩:=hca 0 x1 rfl
 obtain ⟨u2,hu2,hx2⟩:=hca 1 x2 rfl
 obtain ⟨e,i,z,T⟩:=rowTy_spec hp'
 have hee:e = 52:=by
  have h1:=T.ut
  rw [Tryd.underlying23] at h1
  simp only [Option.some.injEq,TypeDesc.slice.injEq] at h1
  exact h1.symm
 subst hee
 obtain ⟨rr,c3,o3,c4,o4,y,g3,g4,e1⟩:=M.bind_inv g2
 simp only [Prod.mk.injEq] at e1
 obtain ⟨rfl,rfl,rfl⟩:=e1
 obtain ⟨g3,hid⟩:=sameId_inv g3
 simp only [List.nil_append] at hg
 obtain ⟨hg3,hg4⟩:=Good.append.1 hg
 have hsrc:=(show Snd Φ ρ (do
   let r1 <- srcOf Γ hp ks (.one false [x1])
   let b1 <- mkCm .leq r1.2 (.c (appK bytes))
   oblige b1
   let r2 <- srcOf Γ hp ks (.one false [x2])
   let b2 <- mkCm .leq r2.2 (.c (appK bytes))
   oblige b2
   let q <- mkCat r1.1 r2.1
   let n <- mkAr .add .i64 r1.2 r2.2
   pure (q,n):M (A × A)) (fun r=>∃ r1 r2:A × A,r1.2.d ρ <= (appK bytes:Nat) /\ r2.2.d ρ <= (appK bytes:Nat) /\
    (∀ β w v,(S.one false [x1]).mt β ρ v -> heapMt β ρ hp w -> SqOk β w -> ∃ l m,r1.1.d ρ = enc l /\ r1.2.d ρ = ((m:Nat):Int) /\ InR .i64 (m:Int) /\ SrcOk w ks l m v) /\
    (∀ β w v,(S.one false [x2]).mt β ρ v -> heapMt β ρ hp w -> SqOk β w -> ∃ l m,r2.1.d ρ = enc l /\ r2.2.d ρ = ((m:Nat):Int) /\ InR .i64 (m:Int) /\ SrcOk w ks l m v) /\
    r.1.d ρ = enc (dec (r1.1.d ρ) ++ dec (r2.1.d ρ)) /\ r.2.d ρ = arI .add .i64 (r1.2.d ρ) (r2.2.d ρ)) from
  Snd.bind (srcOf_snd hΓ T.klen _) fun r1 hr1=>Snd.bind (mkCm_snd _ _ _) fun b1 e1=>Snd.bind (oblige_snd b1) fun _ e2 =>
  Snd.bind (srcOf_snd hΓ T.klen _) fun r2 hr2=>Snd.bind (mkCm_snd _ _ _) fun b2 e3=>Snd.bind (oblige_snd b2) fun _ e4=>Snd.bind (mkCat_snd _ _) fun q hq=>Snd.bind (mkAr_snd _ _ _ _) fun n hn =>
  Snd.pure ⟨r1,r2,by rw [e1] at e2; exact of_decide_eq_true e2,by rw [e3] at e4; exact of_decide_eq_true e4,hr1,hr2,hq,hn⟩) _ _ _ _ g3 hg3
 obtain ⟨r1,r2,hb1,hb2,hs1,hs2,hq,hn⟩:=hsrc
 match vs,hm with
 | [v],hm =>
 obtain ⟨cc,hcc,hmv⟩:∃ c,[C.sli sid off 2 ccap] = [c] /\ c.mt β ρ v:=hm.1
 cases hcc
 obtain ⟨sr',hsr',rfl⟩:=hmv
 rw [hsr] at hsr'
 cases hsr'
 obtain ⟨l1,m1,hq1,hn1,hin1,S1⟩:=hs1 β w u1 ⟨_,rfl,hx1⟩ hh hb.sq
 obtain ⟨l2,m2,hq2,hn2,hin2,S2⟩:=hs2 β w u2 ⟨_,rfl,hx2⟩ hh hb.sq
 obtain ⟨hK,hK2⟩:=appK_le (n:=m1) (m:=m2) (bytes:=bytes) (by omega) (by omega) T.b0
 have hqd:rr.1.d ρ = enc (l1 ++ l2):=by rw [hq,hq1,hq2,dec_enc,dec_enc]
 have hnd:rr.2.d ρ = ((m1 + m2:Nat):Int):=by
  rw [hn,hn1,hn2]
  show IntKind.wrap .i64 _ = _
  rw [IntKind.wrap_i64]
  omega
 have hinn:InR .i64 ((m1 + m2:Nat):Int):=⟨by show (-9223372036854775808:Int) <= _; omega,by show _ <= (9223372036854775807:Int); omega⟩
 unfold Sx.withId at g4
 obtain ⟨x1',c5,o5,c6,o6,y1,f1,f2,e1⟩:=M.bind_inv g4
 simp only [newId,Option.some.injEq,Prod.mk.injEq] at f1
 obtain ⟨rfl,rfl,rfl⟩:=f1
 obtain ⟨r3,c7,o7,c8,o8,y2,f3,f4,e2⟩:=M.bind_inv f2
 have f3:=M.pure_inv f3
 simp only [Prod.mk.injEq] at f3
 obtain ⟨rfl,rfl,rfl⟩:=f3
 obtain ⟨hi,c9,o9,c10,o10,y3,f5,f6,e3⟩:=M.bind_inv f4
 simp only [getId,Option.some.injEq,Prod.mk.injEq] at f5
 obtain ⟨rfl,rfl,rfl⟩:=f5
 split at f6
 case isFalse=>cases f6
 have e4:=M.pure_inv f6
 simp only [Prod.mk.injEq] at e4 e3 e2 e1
 obtain ⟨rfl,rfl,rfl⟩:=e4
 obtain ⟨rfl,rfl,rfl⟩:=e3
 obtain ⟨rfl,rfl,rfl⟩:=e2
 obtain ⟨rfl,rfl,rfl⟩:=e1
 have hlo:c1.id <= c3.id:=by omega
 have hhi:c3.id < c3.id + 1:=by omega
 have hfr:=hf c3.id hlo hhi
 obtain ⟨p1,k1,rfl,hl1,hp1⟩:=id S1
 obtain ⟨p2,k2,rfl,hl2,hp2⟩:=id S2
 rw [Nat.add_zero] at hu1
 by_cases h0:m1 + m2 = 0
 ·obtain rfl:m1 = 0:=by omega
  obtain rfl:m2 = 0:=by omega
  obtain rfl:l1 = []:=List.eq_nil_of_length_eq_zero (by simpa using hl1)
  obtain rfl:l2 = []:=List.eq_nil_of_length_eq_zero (by simpa using hl2)
  refine Calls.mono (Tryd.concat_run _ _ ccap 0 0 k1 k2 p1 p2 w w w w _ _ _ (by omega) (by omega) hu1 hu2 (Tryd.grow0 w) hu1 hu2 (append_zero T none p1 0 0 k1 (Nat.le_refl _)) (append_zero T none p2 0 0 k2 (Nat.le_refl _))) fun e u h=>?_
  obtain ⟨rfl,rfl⟩:=h
  exact ⟨_,rfl,_,step_rowNil hlo hhi hfr hb hN,slm_nil _ none,rowW_mt (row_nil T.ne _ (by simpa using hqd) (by simpa using hnd))⟩
 ·have hG0:=Any8.slices_Grow_grow (P:=Tryd.prog) Tryd.laysGrow i z T.info T.zero (by rw [T.size]; exact T.klen) none 0 0 (m1 + m2) [] w (Nat.le_refl _) (by omega) (by rw [T.by_]; simpa using hK) (by omega) (by simp) (fun _=>rfl) (by simp)
  have hcap:0 + (m1 + m2) <= grownCap w (0 + (m1 + m2)) 0 52:=by simp [grownCap,Question.cut]
  have hR0:=rowAt_zero T w.drew 0 (m1 + m2) (grownCap w (0 + (m1 + m2)) 0 52) hcap rfl
  have hkg:Keep [] w (w.drew.alloc (.cells (([]:List Value).toArray ++ Builtin.zeroCells z.cells (0 + (m1 + m2) - 0) ++ Builtin.zeroCells z.cells (grownCap w (0 + (m1 + m2)) 0 52 - (0 + (m1 + m2)))) 52)) :=
   (Keep.drew [] w).trans (Keep.alloc [] _ _) (by simp)
  have hsg:w.heap.size < (w.drew.alloc (.cells (([]:List Value).toArray ++ Builtin.zeroCells z.cells (0 + (m1 + m2) - 0) ++ Builtin.zeroCells z.cells (grownCap w (0 + (m1 + m2)) 0 52 - (0 + (m1 + m2)))) 52)).heap.size:=by simp
  have hG1:Calls Tryd.prog 42 #[.slice none 0 0,.int .i64 ((m1:Int) + (m2:Int))] w fun e w'=>e = .returned (.slice (some ⟨w.heap.size,0,none⟩) 0 (grownCap w (0 + (m1 + m2)) 0 52)) /\
    w' = (w.drew.alloc (.cells (([]:List Value).toArray ++ Builtin.zeroCells z.cells (0 + (m1 + m2) - 0) ++ Builtin.zeroCells z.cells (grownCap w (0 + (m1 + m2)) 0 52 - (0 + (m1 + m2)))) 52)):=hG0
  generalize grownCap w (0 + (m1 + m2)) 0 52 = cap at hG1 hcap hR0 hkg hsg
  generalize w.drew.alloc (.cells (([]:List Value).toArray ++ Builtin.zeroCells z.cells (0 + (m1 + m2) - 0) ++ Builtin.zeroCells z.cells (cap - (0 + (m1 + m2)))) 52) = wg at hG1 hR0 hkg hsg
  have hR0:RowAt wg w.heap.size ks cap [] 0:=hR0
  obtain ⟨w1,a1,a2,a3⟩:=app_run (ty:=23) T hR0 (S1.keep hkg) (by omega)
  have hk1:Keep [] w w1:=hkg.trans a2 (fun r hr=>.inl (by simp only [List.mem_singleton] at hr; subst hr; exact Nat.le_refl _))
  obtain ⟨w2,b1,b2,b3⟩:=app_run (ty:=23) T a3 (S2.keep hk1) (by omega)
  have hk2:Keep [] w w2:=hk1.trans b2 (fun r hr=>.inl (by simp only [List.mem_singleton] at hr; subst hr; exact Nat.le_refl _))
  have hs2:w.heap.size < w2.heap.size:=Nat.lt_of_lt_of_le hsg (Nat.le_trans a2.size b2.size)
  refine Calls.mono (Tryd.concat_run _ _ ccap m1 m2 k1 k2 p1 p2 w wg w1 w2 _ _ _ (by omega) (by omega) hu1 hu2 hG1
   (by rw [hkg.cell _ (World.block_lt_of_cell? w _ hu1) (by simp)]; exact hu1) (by rw [hk1.cell _ (World.block_lt_of_cell? w _ hu2) (by simp)]; exact hu2) a1 b1) fun e u h=>?_
  obtain ⟨rfl,rfl⟩:=h
  obtain ⟨d1,d2,d3,d4⟩:=b3
  simp only [Nat.zero_add,List.nil_append] at d1 d2 d3 d4 ⊢
  refine ⟨_,rfl,_,step_rowK hlo hhi hfr hb hN (cap * ks.length) (m1 + m2) hk2 hs2,slm_new d2,rowW_mt ?_⟩
  exact ⟨_,cap,l1 ++ l2,Beta.set_same _ _ _,rfl,rfl,T.ne,rfl,d2,hqd,hnd,by rw [hnd]; exact hinn,d1,d3,fun j hj=>by
   have:=d4 j hj
   simpa [rowRg] using this⟩
end Go.Proofs.YtfgbfdlacnihkaaDoor.Sx
namespace Go.Proofs.YtfgbfdlacnihkaaDoor.Sx
open Go Go.Shelf

def encR (p:Int × Int):List Value:=[.int .i64 p.1,.int .i64 p.2]
def cfR (x y:Int × Int):Int:=if x.1 < y.1 then -1 else if x.1 = y.1 then 0 else 1
theorem ltR (x y:Int × Int):ltOf cfR x y = decide (x.1 < y.1):=by
 unfold ltOf cfR
 by_cases h:x.1 < y.1
 ·simp [h]
 ·by_cases h2:x.1 = y.1 <;> simp [h,h2]
theorem swoR:Sort.SWO (ltOf cfR) :=
 ⟨fun x=>by rw [ltR]; simp,fun x y z=>by simp only [ltR,decide_eq_true_eq]; omega,fun x y z=>by simp only [ltR,decide_eq_false_iff_not]; omega⟩
def pairs:List Int -> List (Int × Int)
 | a :: b :: l=>(a,b) :: pairs l
 | _=>[]
def flat2:List (Int × Int) -> List Int
 | []=>[]
 | p :: l=>p.1 :: p.2 :: flat2 l
theorem pairs_len:∀ {l:List Int} {n:Nat},l.length = n * 2 -> (pairs l).length = n
 | [],n,h=>by simp at h; simp [pairs]; omega
 | [_],n,h=>by simp at h; omega
 | a :: b :: l,0,h=>by simp at h
 | a :: b :: l,n + 1,h=>by simp only [pairs,List.length_cons]; rw [pairs_len (n:=n) (by simp at h; omega)]
theorem flat2_len:∀ l:List (Int × Int),(flat2 l).length = l.length * 2
 | []=>rfl
 | p :: l=>by simp only [flat2,List.length_cons,flat2_len l]; omega
theorem pairs_get:∀ {l:List Int} {n i:Nat} {p:Int × Int},l.length = n * 2 -> (pairs l)[i]? = some p -> l[i * 2]? = some p.1 /\ l[i * 2 + 1]? = some p.2
 | [],n,i,p,_,h=>by simp [pairs] at h
 | [_],n,i,p,h,_=>by simp at h; omega
 | a :: b :: l,0,_,_,h,_=>by simp at h
 | a :: b :: l,n + 1,0,p,h,hp=>by simp [pairs] at hp; subst hp; exact ⟨rfl,rfl⟩
 | a :: b :: l,n + 1,i + 1,p,h,hp=>by
  simp only [pairs,List.getElem?_cons_succ] at hp
  obtain ⟨h1,h2⟩:=pairs_get (l:=l) (n:=n) (by simp at h; omega) hp
  rw [show (i + 1) * 2 = i * 2 + 1 + 1 by omega]
  exact ⟨h1,h2⟩
theorem flat2_get:∀ {l:List (Int × Int)} {i:Nat} {p:Int × Int},l[i]? = some p -> (flat2 l)[i * 2]? = some p.1 /\ (flat2 l)[i * 2 + 1]? = some p.2
 | [],i,p,h=>by simp at h
 | q :: l,0,p,h=>by simp at h; subst h; exact ⟨rfl,rfl⟩
 | q :: l,i + 1,p,h=>by
  simp only [List.getElem?_cons_succ] at h
  obtain ⟨h1,h2⟩:=flat2_get h
  rw [show (i + 1) * 2 = i * 2 + 1 + 1 by omega]
  exact ⟨h1,h2⟩
def sortP (d:List (Int × Int)):List (Int × Int):=(Sort.pdq (ltOf cfR) d.toArray 0 d.length (Lib.bitLen d.length) true true).toList
def sortF:Fun:=fun is _=>([enc (flat2 (sortP (pairs (dec (is.getD 0 0)))))],[])
theorem sortP_perm (d:List (Int × Int)):(sortP d).Perm d /\ Sort.SortedIn (ltOf cfR) 0 d.length (Sort.pdq (ltOf cfR) d.toArray 0 d.length (Lib.bitLen d.length) true true):=by
 obtain ⟨⟨h1,_,h3⟩,h4⟩:=Sort.pdq_sorts (ltOf cfR) swoR d.toArray 0 d.length (Lib.bitLen d.length) true true (Nat.zero_le _) (by simp) (.inl rfl)
 refine ⟨?_,h4⟩
 have e:∀ (a:Array (Int × Int)) (n:Nat),a.size = n -> (a.extract 0 n).toList = a.toList:=fun a n h=>by subst h; simp
 rw [e _ _ (by rw [h1]; simp),e _ _ (by simp)] at h3
 exact h3
theorem sortP_len (d:List (Int × Int)):(sortP d).length = d.length:=(sortP_perm d).1.length_eq

theorem Keep.grow (W:List Rg) (w:World) (os:Array Obj):Keep W w (Go.Sort.grow w os) :=
 Keep.of_blocks rfl rfl rfl (by simp [Go.Sort.grow]) fun k hk=>by simp [Go.Sort.grow,Array.getElem?_append,hk]
theorem shape?_mapBlock (w:World) (b:Nat) (f:Array Value -> Array Value) (hf:∀ c,(f c).size = c.size) (k:Nat):(Sort.mapBlock w b f).shape? k = w.shape? k:=by
 simp only [Sort.mapBlock,World.shape?,Array.getElem?_modify]
 by_cases hb:b = k
 ·simp only [hb,if_true]
  cases hh:w.heap[k]? with
  | none=>simp
  | some x=>cases x <;> simp [Sort.onCells,hf]
 ·simp [hb]
theorem Keep.putRow {W:List Rg} {w:World} {r:Rg} (hr:r ∈ W) (d:Array Value) (hs:d.size <= r.len):Keep W w (Sort.putRow id w r.blk r.off d):=by
 refine ⟨rfl,rfl,rfl,by simp,fun a ha hn=>?_,fun a ha=>Sort.frozen?_putRow _ _ _ _ _ _,fun k hk=>?_,fun k hk hn=>?_⟩
 ·refine Sort.cell?_putRow_other _ _ _ _ _ _ ?_
  have:=hn r hr
  unfold inRg at this
  omega
 ·exact shape?_mapBlock w r.blk _ (fun c=>by simp [Sort.putCells]) k
 ·by_cases h0:r.len = 0
  ·have hd:d = #[]:=Array.eq_empty_of_size_eq_zero (by omega)
   subst hd
   unfold Sort.putRow
   rw [Sort.mapBlock_id]
   intro c e fr hc
   unfold Sort.putCells
   apply Array.ext_getElem?
   intro j
   simp only [Array.getElem?_mapIdx]
   cases c[j]? with
   | none=>rfl
   | some x=>simp only [Option.map_some]; rw [if_neg (by simp)]
  ·have:=hn r hr h0
   simp only [Sort.putRow,Sort.mapBlock,Array.getElem?_modify]
   rw [if_neg this]
def ks2:List CK:=[.int .i64,.int .i64]
theorem ks2_get (j:Nat):ks2[j % ks2.length]? = some (.int .i64):=by
 have:j % 2 = 0 \/ j % 2 = 1:=by omega
 show ks2[j % 2]? = _
 rcases this with h | h <;> rw [h] <;> rfl
theorem encR_get (p:Int × Int) (j:Nat) (h:j < 2):(encR p)[j]! = .int .i64 (if j = 0 then p.1 else p.2):=by
 match j,h with
 | 0,_=>rfl
 | 1,_=>rfl
theorem flatK_get {d:List (Int × Int)} {j:Nat} {x:Int} (hx:(flat2 d)[j]? = some x):(Sort.flatK encR 2 d.toArray)[j]! = .int .i64 x:=by
 have hj:j < d.length * 2:=by rw [<- flat2_len]; exact (List.getElem?_eq_some_iff.1 hx).1
 have hi:j / 2 < d.length:=by omega
 rw [Sort.get_flatK _ _ _ _ (by simpa using hj),encR_get _ _ (by omega)]
 obtain ⟨h1,h2⟩:=flat2_get (List.getElem?_eq_getElem hi)
 have e:d.toArray[j / 2]! = d[j / 2]:=by simp [hi]
 rw [e]
 have:j % 2 = 0 \/ j % 2 = 1:=by omega
 rcases this with h | h
 ·rw [h,if_pos rfl]
  rw [show j / 2 * 2 = j by omega,hx] at h1
  cases h1; rfl
 ·rw [h,if_neg (by omega)]
  rw [show j / 2 * 2 + 1 = j by omega,hx] at h2
  cases h2; rfl
theorem pairs_flat:∀ {l:List Int} {n:Nat},l.length = n * 2 -> flat2 (pairs l) = l
 | [],_,_=>rfl
 | [_],n,h=>by simp at h; omega
 | a :: b :: l,0,h=>by simp at h
 | a :: b :: l,n + 1,h=>by simp only [pairs,flat2]; rw [pairs_flat (n:=n) (by simp at h; omega)]
theorem flat2_mem {x:Int}:∀ {d:List (Int × Int)},x ∈ flat2 d ↔ ∃ p,p ∈ d /\ (x = p.1 \/ x = p.2)
 | []=>by simp [flat2]
 | p :: d=>by
  simp only [flat2,List.mem_cons,flat2_mem (d:=d)]
  constructor
  ·rintro (h | h | ⟨q,hq,h⟩)
   ·exact ⟨p,.inl rfl,.inl h⟩
   ·exact ⟨p,.inl rfl,.inr h⟩
   ·exact ⟨q,.inr hq,h⟩
  ·rintro ⟨q,rfl | hq,h⟩
   ·rcases h with h | h
    ·exact .inl h
    ·exact .inr (.inl h)
   ·exact .inr (.inr ⟨q,hq,h⟩)
def cmpN (c:C):Option Nat:=match c with
 | .fn [] (some (g,[]))=>some g
 | _=>none
theorem cmpN_spec {c:C} {g:Nat} (h:cmpN c = some g):c = .fn [] (some (g,[])):=by
 unfold cmpN at h
 split at h
 ·cases h; rfl
 ·cases h
def isCmp (c:C) (g:Nat):Bool:=match cmpN c with
 | some h=>Nat.beq h g
 | none=>false
theorem isCmp_spec {c:C} {g:Nat} (h:isCmp c g = true):c = .fn [] (some (g,[])):=by
 unfold isCmp at h
 split at h
 ·rename_i e
  rw [Nat.beq_eq] at h
  subst h
  exact cmpN_spec e
 ·cases h
def sortM (f g:Nat) (Γ:Gd) (hp:Hp) (xs:List S):M Res:=match xs with
 | [.one false [.slm id ks],.one false [c]] =>
  if cksEq ks ks2 && isCmp c g then do
   let r <- lift (rowOf Γ hp id ks)
   let b <- mkCm .leq r.2 (.c 2305843009213693952)
   oblige b
   let p <- newCall f [r.1,r.2] [] 1 0
   pure { s:=.tup [],w:=[(id,{ g:=[],ro:=false,cells:=[.vec ks (.v p.1) r.2] })] }
  else M.fail
 | _=>M.fail
def sortH (f g:Nat) (H:Hnd):Hnd:=fun h Γ hp xs=>if h == f then sortM f g Γ hp xs else H h Γ hp xs
section
variable {P:Program} {Φ:Funs} {gl:Gl} {H:Hnd}
set_option maxHeartbeats 2000000 in
theorem sortH_ok (hH:HOk P Φ gl H) {r:Go.Shelf.Ren} (L:SlLaysF0.n6 P r) (hcl:∀ args w,(callFunc (r.f 6) args).run P w = .ok (.enter (r.f 6) args) w) (aE:∀ w,(isAgg (r.t 24)).run P w = .ok true w) (zE:∀ w,(Go.sizeOf (r.t 24)).run P w = .ok 2 w)
  {g:Nat} (hy:g ≠ yieldN) (eg:∀ args w,(callFunc g args).run P w = .ok (.enter g args) w) (hC:∀ blk off size w,CmpLays P g #[] encR 2 cfR blk off size w) (hΦ:Φ (r.f 6) = sortF):HOk P Φ gl (sortH (r.f 6) g H):=by
 intro f Γ hp xs ρ c res c' out he hg hΓ N R Q β w vs hm hh hb hN hG hf
 unfold sortH at he
 split at he
 case isFalse=>exact hH f Γ hp xs ρ c res c' out he hg hΓ N R Q β w vs hm hh hb hN hG hf
 rename_i hfe
 have hfe:f = r.f 6:=by simpa using hfe
 subst hfe
 refine ⟨hcl,?_⟩
 unfold sortM at he
 split at he
 case h_2=>simp [M.fail] at he
 rename_i id ks cc
 split at he
 case isFalse=>simp [M.fail] at he
 rename_i hc
 rw [Bool.and_eq_true] at hc
 obtain ⟨hks,hfn⟩:=hc
 have hks:ks = ks2:=cksEq_sound hks
 subst hks
 obtain rfl:cc = .fn [] (some (g,[])):=isCmp_spec hfn
 obtain ⟨rr,c1,o1,c2,o2,y,g1,g2,e1⟩:=M.bind_inv he
 simp only [Prod.mk.injEq] at e1
 obtain ⟨rfl,rfl,rfl⟩:=e1
 obtain ⟨rr',hrr,e1⟩:=lift_inv g1
 simp only [Prod.mk.injEq] at e1
 obtain ⟨rfl,rfl,rfl⟩:=e1
 rw [List.nil_append] at hg
 obtain ⟨hle,p,hcall,hres⟩:=(show Snd Φ ρ (do
   let b <- mkCm .leq rr.2 (.c 2305843009213693952)
   oblige b
   let p <- newCall (r.f 6) [rr.1,rr.2] [] 1 0
   pure { s:=.tup [],w:=[(id,{ g:=[],ro:=false,cells:=[.vec ks2 (.v p.1) rr.2] })] }:M Res) (fun res=>rr.2.d ρ <= 2305843009213693952 /\ ∃ p:Nat × Nat,ρ.i (p.1 + 0) = (Φ (r.f 6) [rr.1.d ρ,rr.2.d ρ] []).1.getD 0 0 /\ res = { s:=.tup [],w:=[(id,{ g:=[],ro:=false,cells:=[.vec ks2 (.v p.1) rr.2] })] }) from
  Snd.bind (mkCm_snd _ _ _) fun b e1=>Snd.bind (oblige_snd b) fun _ e2=>Snd.bind (newCall_snd _ _ _ _ _) fun p hp=>Snd.pure ⟨by rw [e1] at e2; exact of_decide_eq_true e2,p,hp.1 0 (by omega),rfl⟩) _ _ _ _ g2 hg
 subst hres
 rw [Nat.add_zero,hΦ] at hcall
 match vs,hm with
 | [v1,v2],⟨m1,m2,_⟩ =>
 obtain ⟨v1',hv1,m1⟩:∃ c,[C.slm id ks2] = [c] /\ c.mt β ρ v1:=m1
 cases hv1
 obtain ⟨v2',hv2,m2⟩:∃ c,[C.fn [] (some (g,[]))] = [c] /\ c.mt β ρ v2:=m2
 cases hv2
 obtain ⟨ws,rfl,hcap⟩:∃ ws:List Value,v2 = fvVal g ws /\ capMt β [] ws:=m2
 have hws:ws = []:=by
  cases ws with
  | nil=>rfl
  | cons _ _=>exact hcap.elim
 subst hws
 rw [fvVal_ne hy]
 obtain ⟨rg,cap,p1,hr1,hrow,hlen,hrn,rfl,hp1⟩:=m1
 obtain ⟨rg',cap',l,hr2,_,hro,hne,hlen',hrn',hq,hn,hin,hll,hsq,hcells⟩:=rowOf_spec hΓ (q:=rr.1) (n:=rr.2) hrr hh
 rw [hr1] at hr2
 cases hr2
 have hll2:l.length = rg.rn * 2:=hll
 have hlen2:rg.len = cap * 2:=hlen
 have hpl:=pairs_len hll2
 have hval:ρ.i p.1 = enc (flat2 (sortP (pairs l))):=by
  rw [hcall]
  show enc (flat2 (sortP (pairs (dec (rr.1.d ρ))))) = _
  rw [hq,dec_enc]
 by_cases h0:rg.rn = 0
 ·-- nothing to sort
  have hl0:l = []:=List.eq_nil_of_length_eq_zero (by omega)
  subst hl0
  rw [h0]
  refine Calls.mono (AnyF.slices_SortFunc_none L p1 cap _ w) fun e u h=>?_
  obtain ⟨rfl,rfl⟩:=h
  have hs0:sortP (pairs ([]:List Int)) = []:=List.eq_nil_of_length_eq_zero (by rw [sortP_len]; rfl)
  rw [hs0] at hval
  refine ⟨_,rfl,β,Step.refl hb _ _ _,⟨#[],rfl,trivial⟩,rowW_mt ⟨rg,cap,[],hr1,hrow,hro,hne,hlen,hrn,hval,hn,hin,by rw [h0]; rfl,fun j x hj=>by simp at hj,hcells⟩⟩
 ·have hcap0:cap ≠ 0:=by omega
  have hp1:=hp1.resolve_left hcap0
  subst hp1
  have hH:Sort.HoldsK encR 2 w rg.blk rg.off (pairs l).toArray:=by
   intro j hj
   have hj2:j < rg.rn * 2:=by simpa [hpl] using hj
   have hjl:j < l.length:=by omega
   obtain ⟨ck,v,e1,e2,e3⟩:=hsq j _ (List.getElem?_eq_getElem hjl)
   rw [ks2_get] at e1
   cases e1
   refine ⟨?_,(hcells j (by omega)).2⟩
   rw [e2,e3.1]
   have:(flat2 (pairs l))[j]? = some l[j]:=by rw [pairs_flat hll2]; exact List.getElem?_eq_getElem hjl
   rw [flatK_get this]; rfl
  have hblk:rg.blk < w.heap.size:=by
   obtain ⟨⟨u,hu,_⟩,_⟩:=hcells 0 (by omega)
   exact World.block_lt_of_cell? w ⟨rg.blk,rg.off + 0,none⟩ hu
  have hsz:(pairs l).toArray.size = rg.rn:=by simp [hpl]
  have hbig:(pairs l).toArray.size < 4611686018427387904:=by rw [hsz]; rw [hn] at hle; omega
  have hone:∀ x,∀ v ∈ encR x,v.oneCell' = true:=by
   intro x v hv
   simp only [encR,List.mem_cons,List.not_mem_nil,or_false] at hv
   rcases hv with rfl | rfl <;> rfl
  have hrun:=AnyQ.slices_SortFunc_eq L 2 aE zE encR (fun _=>rfl) hone cfR swoR g #[] rg.blk rg.off cap (pairs l).toArray w eg (hC _ _ _ _) hH hblk hbig
  rw [hsz] at hrun
  refine Calls.mono hrun fun e u h=>?_
  obtain ⟨rfl,n,os,rfl⟩:=h
  have hD:(Sort.pdq (ltOf cfR) (pairs l).toArray 0 rg.rn (Lib.bitLen rg.rn) true true) = (sortP (pairs l)).toArray:=by
   unfold sortP; rw [hpl]
  rw [hD]
  have hsl:(sortP (pairs l)).length = rg.rn:=by rw [sortP_len,hpl]
  have hfl:(flat2 (sortP (pairs l))).length = rg.rn * 2:=by rw [flat2_len,hsl]
  have hfs:(Sort.flatK encR 2 (sortP (pairs l)).toArray).size = rg.rn * 2:=by rw [Sort.size_flatK]; simp [hsl]
  have hk1:Keep [rg] w (Sort.ahead w n):=Keep.of_blocks rfl rfl rfl (Nat.le_refl _) fun _ _=>rfl
  have hk2:Keep [rg] (Sort.ahead w n) (Sort.putRowK encR 2 (Sort.ahead w n) rg.blk rg.off (sortP (pairs l)).toArray):=Keep.putRow (by simp) _ (by rw [hfs]; omega)
  have hcov:∀ (N:Nat) q,q ∈ [rg] -> Cov [rg] N q:=fun N q hq=>by
   rw [List.mem_singleton.1 hq]; exact .inr ⟨rg,by simp,rfl,Nat.le_refl _,Nat.le_refl _⟩
  have hk3:Keep [rg] w (sortWorldK encR 2 w rg.blk rg.off n (sortP (pairs l)).toArray os):=(hk1.trans hk2 (hcov _)).trans (Keep.grow [rg] _ os) (hcov _)
  have hcell:∀ (j:Nat) (x:Int),(flat2 (sortP (pairs l)))[j]? = some x -> (sortWorldK encR 2 w rg.blk rg.off n (sortP (pairs l)).toArray os).cell? ⟨rg.blk,rg.off + j,none⟩ = some (.int .i64 x):=fun j x hx=>by
   have hj:=(List.getElem?_eq_some_iff.1 hx).1
   have e1:=(Keep.grow [] (Sort.putRowK encR 2 (Sort.ahead w n) rg.blk rg.off (sortP (pairs l)).toArray) os).cell ⟨rg.blk,rg.off + j,none⟩ (by simpa [Sort.putRowK] using hblk) (by simp)
   refine e1.trans ?_
   have e2:=Sort.cell?_putRow _root_.id (Sort.ahead w n) rg.blk rg.off (Sort.flatK encR 2 (pairs l).toArray) (Sort.flatK encR 2 (sortP (pairs l)).toArray) hH (by rw [hfs,Sort.size_flatK]; simp [hpl]) j (by rw [hfs]; omega)
   rw [flatK_get hx] at e2
   exact e2
  have hmem:∀ x,x ∈ flat2 (sortP (pairs l)) -> x ∈ l:=fun x hx=>by
   obtain ⟨q,hq,hx⟩:=flat2_mem.1 hx
   rw [<- pairs_flat hll2]
   exact flat2_mem.2 ⟨q,(sortP_perm _).1.mem_iff.1 hq,hx⟩
  refine ⟨_,rfl,β,⟨ExtP.refl _ β,hb.keep (W:=[rg]) (fun r' hr'=>List.mem_singleton.1 hr' ▸ ⟨_,hr1,hro⟩) hk3,⟨[rg],fun r' hr'=>?_,hk3⟩,fun _ _ _=>rfl,by simp⟩,⟨#[],rfl,trivial⟩,
   rowW_mt ⟨rg,cap,flat2 (sortP (pairs l)),hr1,hrow,hro,hne,hlen,hrn,hval,hn,hin,hfl,fun j x hj=>?_,fun j hj=>?_⟩⟩
  ·rw [List.mem_singleton.1 hr']
   obtain ⟨⟨u,hu,_⟩,_⟩:=hcells 0 (by omega)
   exact ⟨id,by simp [rowW],hr1,hro,_,u,hu⟩
  ·obtain ⟨i,hi⟩:=List.mem_iff_getElem?.1 (hmem x (List.mem_of_getElem? hj))
   obtain ⟨ck,v,e1,e2,e3⟩:=hsq i x hi
   rw [ks2_get] at e1
   cases e1
   exact ⟨_,_,ks2_get j,hcell j x hj,rfl,e3.2⟩
  ·have hpl2:rg.blk < w.heap.size:=hblk
   refine ⟨?_,(hk3.frz _ hpl2).trans (hcells j hj).2⟩
   by_cases hj2:j < rg.rn * 2
   ·exact ⟨_,hcell j _ (List.getElem?_eq_getElem (by omega)),rfl⟩
   ·obtain ⟨u,hu,ho⟩:=(hcells j hj).1
    refine ⟨u,?_,ho⟩
    have e1:=(Keep.grow [] (Sort.putRowK encR 2 (Sort.ahead w n) rg.blk rg.off (sortP (pairs l)).toArray) os).cell ⟨rg.blk,rg.off + j,none⟩ (by simpa [Sort.putRowK] using hblk) (by simp)
    refine e1.trans ((Sort.cell?_putRow_other _root_.id (Sort.ahead w n) rg.blk rg.off _ ⟨rg.blk,rg.off + j,none⟩ (.inr (.inr ?_))).trans hu)
    rw [hfs]
    show rg.off + rg.rn * 2 <= rg.off + j
    omega
end
end Go.Proofs.YtfgbfdlacnihkaaDoor.Sx
namespace Go.Proofs.YtfgbfdlacnihkaaDoor.Sx
open Go

def knN (ng:Nat) (hp:Hl) (i:Nat):Bool:=Nat.blt i ng || (match hpOf hp i with | some b=>b.g.isEmpty && (vecOf b.cells).isNone | none=>false)
theorem knN_row {x:Cx} {ρ:Env} {β:Beta} {σ:St} {a:Act} {w:World} (hR:Rel x ρ β σ a w) {i:Nat} {r:Rg} (h:knN x.ng σ.hp i = true) (hi:β i = some r):r.row = false:=by
 unfold knN at h
 rw [Bool.or_eq_true,Nat.blt_eq] at h
 rcases h with h | h
 ·have:=hR.gl i _ (List.getElem?_eq_getElem h)
  rw [hi] at this
  cases this
  rfl
 ·split at h
  ·rename_i b hb
   simp only [Bool.and_eq_true,List.isEmpty_iff,Option.isNone_iff_eq_none] at h
   obtain ⟨q,hq,hrow,_⟩:=(blkMt_cs h.2).1 (hR.hm i b hb (by rw [h.1]; rfl))
   rw [hi] at hq
   cases hq
   exact hrow
  ·cases h
theorem knN_keep {x:Cx} {ρ:Env} {β β':Beta} {σ:St} {a:Act} {w:World} (hR:Rel x ρ β σ a w) (hE:Ext β β'):∀ i r,knN x.ng σ.hp i = true -> β i = some r -> β' i = some r :=
 fun i r h hi=>hE.at hi (knN_row hR h hi)
theorem knN_mv {x:Cx} {ρ:Env} {β β':Beta} {σ:St} {a:Act} {w:World} (hR:Rel x ρ β σ a w) (hE:Ext β β'):Mv (knN x.ng σ.hp) β β' :=
 ⟨fun i r hi hr=>hr.elim (hE.at hi) fun h=>knN_keep hR hE i r h hi,(Mv.of hR.bo (ExtP.refl (fun _=>true) β)).sq⟩

def C.tj (p:Nat -> Bool):C -> C
 | .int k (.c n)=>.int k (.c n)
 | .bool (.c b)=>.bool (.c b)
 | .ptr [] i o=>if p i then .ptr [] i o else .junk
 | .val u=>.val u
 | .emp=>.emp
 | .fn [] d=>if (fvIds d).all p then .fn [] d else .junk
 | _=>.junk
section
variable {p:Nat -> Bool} {β β':Beta} {ρ ρ':Env} (hk:∀ i r,p i = true -> β i = some r -> β' i = some r)
include hk
theorem tj_cap:∀ {l:List (Nat × Nat)} {vs:List Value},(l.map (·.1)).all p = true -> capMt β l vs -> capMt β' l vs
 | [],[],_,_=>trivial
 | q :: l,v :: vs,h,⟨⟨r,hr,hv⟩,h2⟩=>by
  simp only [List.map_cons,List.all_cons,Bool.and_eq_true] at h
  exact ⟨⟨r,hk _ _ h.1 hr,hv⟩,tj_cap h.2 h2⟩
 | [],_ :: _,_,h=>h.elim
 | _ :: _,[],_,h=>h.elim
theorem C.tj_mt {c:C} {v:Value} (h:c.mt β ρ v):(c.tj p).mt β' ρ' v:=by
 have ho:=C.mt_oneCell h
 unfold C.tj
 split
 ·exact h
 ·exact h
 ·rename_i i o
  split
  ·rename_i hp
   obtain ⟨r,hr,hv⟩:=h
   exact ⟨r,hk _ _ hp hr,hv⟩
  ·exact ho
 ·exact h
 ·exact h
 ·rename_i d
  split
  ·rename_i hp
   have h:fvMt β d v:=h
   show fvMt β' d v
   unfold fvMt at *
   cases d with
   | none=>exact h
   | some q=>obtain ⟨vs,h1,h2⟩:=h; exact ⟨vs,h1,tj_cap hk hp h2⟩
  ·exact ho
 ·exact ho
theorem tj_L:∀ {l:List C} {vs:List Value},mtL β ρ l vs -> mtL β' ρ' (l.map (C.tj p)) vs
 | [],[],_=>trivial
 | c :: l,v :: vs,⟨h1,h2⟩=>⟨C.tj_mt hk h1,tj_L h2⟩
 | [],_ :: _,h=>h.elim
 | _ :: _,[],h=>h.elim
theorem tj_1 {agg:Bool} {l:List C} {v:Value} (h:mt1 β ρ agg l v):mt1 β' ρ' agg (l.map (C.tj p)) v:=by
 unfold mt1 at *
 cases agg
 ·obtain ⟨c,rfl,h⟩:=h; exact ⟨_,rfl,C.tj_mt hk h⟩
 ·obtain ⟨vs,rfl,h⟩:=h; exact ⟨vs,rfl,tj_L hk h⟩
end
def SV.tj (p:Nat -> Bool) (v:SV):SV:=match v with
 | { g:=[],s:=.one agg l }=>{ g:=[],s:=.one agg (l.map (C.tj p)) }
 | _=>anySV
theorem SV.tj_mt {p:Nat -> Bool} {β β':Beta} {ρ ρ':Env} (hk:∀ i r,p i = true -> β i = some r -> β' i = some r) {s:SV} {v:Value} (h:s.mt β ρ v):(s.tj p).mt β' ρ' v:=by
 unfold SV.tj
 split
 ·exact ⟨fun _=>tj_1 hk (h.1 rfl),fun h=>by cases h⟩
 ·exact anySV_mt v
theorem args_slots {β:Beta} {ρ:Env}:∀ {xs:List S} {vs:List Value} {n t:Nat} {v:SV},mtAll β ρ xs vs -> (xs.map (fun s=>({ g:=[],s:=s }:SV)) ++ List.replicate n anySV)[t]? = some v -> v.mt β ρ ((vs ++ List.replicate n undef).getD t undef)
 | [],vs,n,t,v,hm,ht=>by
  simp only [List.map_nil,List.nil_append,List.getElem?_replicate] at ht
  split at ht
  ·simp only [Option.some.injEq] at ht
   subst ht
   exact anySV_mt _
  ·cases ht
 | x :: xs,[],_,_,_,hm,_=>hm.elim
 | x :: xs,u :: vs,n,0,v,hm,ht=>by
  simp at ht
  subst ht
  exact ⟨fun _=>by simpa using hm.1,fun h=>by cases h⟩
 | x :: xs,u :: vs,n,t + 1,v,hm,ht=>by
  have:=args_slots (n:=n) (t:=t) (v:=v) hm.2 (by simpa using ht)
  simpa using this
def setPs:List SV -> List (Nat × SV) -> List SV
 | T,[]=>T
 | T,p :: l=>setPs (T.set p.1 p.2) l
theorem setPs_len:∀ {l:List (Nat × SV)} {T:List SV},(setPs T l).length = T.length
 | [],_=>rfl
 | p :: l,T=>by unfold setPs; rw [setPs_len]; simp
theorem setPs_mt {β:Beta} {ρ:Env}:∀ {ps:List Nat} {xs:List S} {vs:List Value} {T:List SV} {tm:Array Value},ps.length = xs.length -> mtAll β ρ xs vs -> tm.size = T.length -> (∀ (t:Nat) v,T[t]? = some v -> v.mt β ρ (tm.getD t undef)) ->
  ((ps.zip vs).foldl (fun tm p=>tm.setIfInBounds p.1 p.2) tm).size = T.length /\ ∀ (t:Nat) v,(setPs T (ps.zip (xs.map fun s=>({ g:=[],s:=s }:SV))))[t]? = some v -> v.mt β ρ (((ps.zip vs).foldl (fun tm p=>tm.setIfInBounds p.1 p.2) tm).getD t undef)
 | [],[],vs,T,tm,_,hm,hs,h=>by
  cases vs with
  | nil=>exact ⟨hs,h⟩
  | cons _ _=>exact hm.elim
 | p :: ps,x :: xs,[],T,tm,_,hm,_,_=>hm.elim
 | p :: ps,x :: xs,v :: vs,T,tm,hl,⟨h1,h2⟩,hs,h=>by
  simp only [List.zip_cons_cons,List.map_cons,List.foldl_cons,setPs]
  have:=setPs_mt (ps:=ps) (xs:=xs) (vs:=vs) (T:=T.set p { g:=[],s:=x }) (tm:=tm.setIfInBounds p v) (by simpa using hl) h2 (by simpa using hs) (fun t u hu=>by
   rw [List.getElem?_set] at hu
   by_cases e:p = t
   ·subst e
    rw [if_pos rfl] at hu
    split at hu
    ·rename_i hlt
     simp only [Option.some.injEq] at hu
     subst hu
     have hlt':p < tm.size:=by omega
     refine ⟨fun _=>?_,fun h=>by cases h⟩
     simpa [hlt'] using h1
    ·cases hu
   ·rw [if_neg e] at hu
    have:=h t u hu
    simpa [Array.getElem?_setIfInBounds_ne e] using this)
  simpa using this
 | [],_ :: _,_,_,_,hl,_,_,_=>by simp at hl
 | _ :: _,[],_,_,_,hl,_,_,_=>by simp at hl
end Go.Proofs.YtfgbfdlacnihkaaDoor.Sx
namespace Go.Proofs.YtfgbfdlacnihkaaDoor.Sx
open Go

structure RfD where
 lid:Nat
 T:List SV
 ps:List Nat
 asg:Code
 bd:Code
 jl:List Code
def kdJ:Code -> Option Kd
 | .ret=>some .r
 | .exit id=>some (.x id)
 | _=>none
def idxJ (K:Kd):List Code -> Nat -> Option Nat
 | [],_=>none
 | c :: l,j=>match kdJ c with
  | some K'=>if K'.eq K then some j else idxJ K l (j + 1)
  | none=>idxJ K l (j + 1)
theorem idxJ_spec {K:Kd}:∀ {l:List Code} {j i:Nat},idxJ K l j = some i -> j <= i /\ kdJ (pickJ l (i - j)) = some K
 | [],j,i,h=>by simp [idxJ] at h
 | c :: l,j,i,h=>by
  have hrec:idxJ K l (j + 1) = some i -> j <= i /\ kdJ (pickJ (c :: l) (i - j)) = some K:=fun h=>by
   obtain ⟨h1,h2⟩:=idxJ_spec h
   refine ⟨by omega,?_⟩
   cases l with
   | nil=>simp [idxJ] at h
   | cons d l =>
    rw [show i - j = (i - (j + 1)) + 1 by omega]
    exact h2
  unfold idxJ at h
  split at h
  ·rename_i K' hK
   split at h
   ·rename_i he
    simp only [Option.some.injEq] at h
    subst h
    refine ⟨Nat.le_refl _,?_⟩
    rw [Nat.sub_self]
    have:pickJ (c :: l) 0 = c:=by cases l <;> rfl
    rw [this,hK,Kd.eq_sound he]
   ·exact hrec h
  ·exact hrec h
def yJs (jl:List Code):Kd -> Option (Bool × Js)
 | .n=>some (true,{})
 | K=>match idxJ K jl 0 with
  | some j=>some (false,{ b:=.c false,a:=.c (Int.ofNat j) })
  | none=>none
theorem kdJ_r {c:Code} (h:kdJ c = some .r):c = .ret:=by
 unfold kdJ at h
 split at h
 ·rfl
 ·cases h
 ·cases h
theorem kdJ_x {c:Code} {id:Nat} (h:kdJ c = some (.x id)):c = .exit id:=by
 unfold kdJ at h
 split at h
 ·cases h
 ·cases h; rfl
 ·cases h
theorem yJs_spec {jl:List Code} {K:Kd} {res:Bool} {js:Js} (h:yJs jl K = some (res,js)) (hne:K ≠ .n):res = false /\ ∃ j:Nat,js = { b:=.c false,a:=.c (Int.ofNat j) } /\ kdJ (pickJ jl j) = some K:=by
 have key:∀ i,idxJ K jl 0 = some i -> kdJ (pickJ jl i) = some K:=fun i hi=>(idxJ_spec hi).2
 unfold yJs at h
 split at h
 ·exact absurd rfl hne
 ·split at h
  ·rename_i j hj
   simp only [Option.some.injEq,Prod.mk.injEq] at h
   exact ⟨h.1.symm,j,h.2.symm,key j hj⟩
  ·cases h
def yOne (jl:List Code) (tm:List SV) (dst:Option Tmp) (K:Kd) (s:St):Option St :=
 match yJs jl K with
 | some (r,js)=>match setT tm dst { g:=[],s:=.one false [.bool (.c r)] } with
  | some tm'=>some { tm:=tm',hp:=s.hp,rb:=s.rb,js:=js }
  | none=>none
 | none=>none
def yOuts (jl:List Code) (tm:List SV) (dst:Option Tmp):Outs -> Option (List (Gd × St))
 | []=>some []
 | (K,q,s) :: O=>match yOne jl tm dst K s,yOuts jl tm dst O with
  | some s',some l=>some ((q,s') :: l)
  | _,_=>none
theorem yOuts_spec {jl:List Code} {tm:List SV} {dst:Option Tmp}:∀ {O:Outs} {l:List (Gd × St)},yOuts jl tm dst O = some l ->
  (∀ p,p ∈ l -> ∃ K s,(K,p.1,s) ∈ O /\ yOne jl tm dst K s = some p.2) /\ ∀ K q s,(K,q,s) ∈ O -> ∃ s',(q,s') ∈ l
 | [],l,h=>by
  simp only [yOuts,Option.some.injEq] at h
  subst h
  exact ⟨fun p hp=>(by cases hp),fun K q s h=>(by cases h)⟩
 | (K,q,s) :: O,l,h=>by
  unfold yOuts at h
  split at h
  ·rename_i s' l' h1 h2
   simp only [Option.some.injEq] at h
   subst h
   obtain ⟨i1,i2⟩:=yOuts_spec h2
   refine ⟨fun p hp=>?_,fun K' q' t ht=>?_⟩
   ·rcases List.mem_cons.1 hp with rfl | hp
    ·exact ⟨K,s,by simp,h1⟩
    ·obtain ⟨K',t,e1,e2⟩:=i1 p hp
     exact ⟨K',t,by simp [e1],e2⟩
   ·rcases List.mem_cons.1 ht with e | ht
    ·cases e; exact ⟨s',by simp⟩
    ·obtain ⟨t',e⟩:=i2 K' q' t ht
     exact ⟨t',by simp [e]⟩
  ·cases h
def distO:Outs -> Bool
 | []=>true
 | (k,_,_) :: O=>(O.all fun p=>!(k.eq p.1)) && distO O
theorem distO_get {k:Kd} {q:Gd} {s:St}:∀ {O:Outs},distO O = true -> (k,q,s) ∈ O -> getK k O = some (q,s)
 | (l,q',s') :: O,h,hm=>by
  simp only [distO,Bool.and_eq_true,List.all_eq_true,Bool.not_eq_true'] at h
  unfold getK
  rcases List.mem_cons.1 hm with e | hm
  ·cases e; rw [if_pos (Kd.eq_refl _)]
  ·rw [if_neg,distO_get h.2 hm]
   intro he
   have:=h.1 _ hm
   rw [Kd.eq_sound he,Kd.eq_refl] at this
   cases this
theorem getK_mem {k:Kd} {q:Gd} {s:St}:∀ {O:Outs},getK k O = some (q,s) -> (k,q,s) ∈ O
 | [],h=>by simp [getK] at h
 | (l,q',s') :: O,h=>by
  unfold getK at h
  split at h
  ·rename_i he
   simp only [Option.some.injEq,Prod.mk.injEq] at h
   rw [Kd.eq_sound he,<- h.1,<- h.2]
   simp
  ·exact List.mem_cons.2 (.inr (getK_mem h))
def yJoin (keep:Kp):List (Gd × St) -> M St
 | []=>M.fail
 | [(_,s)]=>pure s
 | (q,s) :: p :: l=>do
  let b <- gAtom q
  let r <- M.mono (yJoin keep (p :: l))
  M.mono (joinSt keep b s r)
theorem yJoin_ok {Φ:Funs} {x:Cx} {ρ:Env} {keep:Kp} (hx:GrOk x keep):∀ (l:List (Gd × St)) {z:St} {c c':Ctr} {out:List Em},yJoin keep l c = some (z,c',out) -> Good Φ ρ out -> ∀ {β:Beta} {a:Act} {w:World},(∃ p,p ∈ l /\ Gd.d ρ p.1 = true) ->
  (∀ p,p ∈ l -> Gd.d ρ p.1 = true -> Rel x ρ β p.2 a w) -> Fresh β c -> ∃ β',Ext β β' /\ Rel x ρ β' z a w /\ Fresh β' c'
 | [],z,c,c',out,h,_,β,a,w,_,_,_=>by simp [yJoin,M.fail] at h
 | [(q,s)],z,c,c',out,h,_,β,a,w,⟨p,hp,hq⟩,hR,hF=>by
  have he:=M.pure_inv h
  simp only [Prod.mk.injEq] at he
  obtain ⟨rfl,rfl,rfl⟩:=he
  rw [List.mem_singleton.1 hp] at hq
  exact ⟨β,Ext.refl β,hR (q,z) (by simp) hq,hF⟩
 | (q,s) :: p :: l,z,c,c',out,h,hg,β,a,w,hex,hR,hF=>by
  unfold yJoin at h
  obtain ⟨b,c1,o1,c2,o2,y,g1,g2,he⟩:=M.bind_inv h
  simp only [Prod.mk.injEq] at he
  obtain ⟨rfl,rfl,rfl⟩:=he
  obtain ⟨r,c3,o3,c4,o4,y,g3,g4,he⟩:=M.bind_inv g2
  simp only [Prod.mk.injEq] at he
  obtain ⟨rfl,rfl,rfl⟩:=he
  simp only [Good.append] at hg
  have hb:=gAtom_snd q _ _ _ _ g1 hg.1
  have hid:=gAtom_id g1
  obtain ⟨g3,le3⟩:=mono_inv g3
  simp only at le3
  obtain ⟨le4,hj⟩:=joinSt_ok (Φ:=Φ) (x:=x) (ρ:=ρ) hx g4 hg.2.2
  cases hq:Gd.d ρ q with
  | true =>
   exact hj β a w (by rw [hb,hq,if_pos rfl]; exact hR (q,s) (by simp) hq) (hF.le (by omega))
  | false =>
   obtain ⟨p',hp',hq'⟩:=hex
   rcases List.mem_cons.1 hp' with e | hp'
   ·rw [e,hq] at hq'; cases hq'
   ·obtain ⟨β1,f1,f2,f3⟩:=yJoin_ok hx (p :: l) g3 hg.2.1 ⟨p',hp',hq'⟩ (fun p'' h1 h2=>hR p'' (List.mem_cons.2 (.inr h1)) h2) (hF.le (by omega))
    obtain ⟨β2,f4,f5,f6⟩:=hj β1 a w (by rw [hb,hq]; simpa using f2) f3
    exact ⟨β2,f1.trans f4,f5,f6⟩
def onlyN (O:Outs):Option St:=match O with
 | [(.n,_,s)]=>some s
 | _=>none
def knY (lid ng:Nat) (hp:Hl) (i:Nat):Bool:=i == lid || knN ng hp i
def yS (P:Program) (H:Hnd) (gl:Gl) (kb:Ctl) (keep:Kp) (D:RfD) (σ:St) (dst:Option Tmp) (args:List Operand):M St :=
 if args.length == D.ps.length then do
  let _ <- oblige σ.js.b
  let Oa <- M.mono (exec P H (ghOf gl 0) gl.length kb D.asg { tm:=setPs D.T (D.ps.zip ((args.map fun y=>rs [] (ev gl.length σ y)).map fun s=>({ g:=[],s:=s }:SV))),hp:=σ.hp,rb:=σ.rb })
  let sa <- lift (onlyN Oa)
  let Ob <- M.mono (exec P H (ghOf gl 0) gl.length kb D.bd { sa with js:={} })
  let l <- lift (if distO Ob then yOuts D.jl (σ.tm.map (SV.jk (knY D.lid gl.length σ.hp))) dst Ob else none)
  M.mono (yJoin keep l)
 else M.fail
structure RcOk (x:Cx) (D:RfD) (r:LpRec):Prop where
 lr:x.lr = some r
 fix:r.fix = none
 jl:r.jl = D.jl
 ps:r.rc.params.toList = D.ps
 asg:r.rc.assign = D.asg
 bd:r.rc.body = D.bd
 sz:r.rc.tmps.size = D.T.length
 T:∀ (β:Beta) (ρ:Env),Ext x.b0 β -> ∀ (t:Nat) (v:SV),D.T[t]? = some v -> v.mt β ρ (r.rc.tmps.getD t undef)
 lid:∃ q,x.b0 D.lid = some q /\ q.row = false /\ q.blk = r.l
 rl:x.rl = none
theorem Rel.into {x y:Cx} {ρ:Env} {β:Beta} {σ σ':St} {a a':Act} {w:World} (h:Rel x ρ β σ a w) (hy:y.w0 = x.w0 /\ y.R = x.R /\ y.gl = x.gl /\ y.gr = x.gr /\ y.Q = x.Q /\ y.gi = x.gi) (hhp:σ'.hp = σ.hp) (heb:ExtP (fun i=>!σ'.rb.contains i) y.b0 β)
  (hsz:a'.tmps.size = σ'.tm.length) (hsl:∀ (t:Nat) (v:SV),σ'.tm[t]? = some v -> v.mt β ρ (a'.tmps.getD t undef)) (hl:Lk y ρ σ'.js a'.defers w):Rel y ρ β σ' a' w:=by
 obtain ⟨y1,y2,y3,y4,y5,y7⟩:=hy
 have e:y.gh = x.gh:=by unfold Cx.gh; rw [y3]
 refine ⟨hsz,hsl,hl,by rw [hhp]; exact h.hm,by rw [e]; exact h.gm,by rw [e]; exact h.gro,by rw [y1,y2,y5]; exact h.bo,by rw [y1,y2]; exact h.kp,by rw [y3]; exact h.gl,by rw [y4,y7]; exact h.ra,heb⟩
theorem getD_map_jk {p:Nat -> Bool} {β β':Beta} {ρ:Env} (h:Mv p β β') {tm:List SV} {f:Nat -> Value} (hs:∀ (t:Nat) (v:SV),tm[t]? = some v -> v.mt β ρ (f t)):∀ (t:Nat) (v:SV),(tm.map (SV.jk p))[t]? = some v -> v.mt β' ρ (f t):=fun t v hv=>by
 rw [List.getElem?_map,Option.map_eq_some_iff] at hv
 obtain ⟨u,hu,rfl⟩:=hv
 exact SV.jk_mt h (hs t u hu)
end Go.Proofs.YtfgbfdlacnihkaaDoor.Sx
namespace Go.Proofs.YtfgbfdlacnihkaaDoor.Sx
open Go

section
variable {P:Program} {Φ:Funs} {H:Hnd} {x:Cx} {ρ:Env}
theorem yS_ok (hH:HOk P Φ x.gl H) (hG:∀ w,Keep x.R x.w0 w -> Laid x.gl w) {kb:Ctl} (hxb:GrOk x kb.keep) (hLb:LoopsOk Φ kb) (hEb:kb.E = {}) {keep:Kp} (hx:GrOk x keep) {D:RfD} {r:LpRec} (hrc:RcOk x D r)
  {σ σ':St} {dst:Option Tmp} {args:List Operand} {c c':Ctr} {out:List Em} (h:yS P H x.gl kb keep D σ dst args c = some (σ',c',out)) (hg:Good Φ ρ out) {β:Beta} {a:Act} {w:World} (hR:Rel x ρ β σ a w) (hF:Fresh β c)
  (next:Act -> World -> Prop) (Q:Exit -> Act -> World -> Prop) (hn:∀ β' a' w',Ext β β' -> Rel x ρ β' σ' a' w' -> Fresh β' c' -> next a' w') :
  (Instr.yield r.l (args.map a.eval).toArray).run P w = .ok (.round r.l r.rc.fn ((r.rc.params.zip (args.map a.eval).toArray).foldl (fun tmps (t,v)=>tmps.setIfInBounds t v) r.rc.tmps) D.asg D.bd) w /\
   RoundIn Fence.wide 0 P r.l r.rc.fn ((r.rc.params.zip (args.map a.eval).toArray).foldl (fun tmps (t,v)=>tmps.setIfInBounds t v) r.rc.tmps) D.asg D.bd w fun
    | .returned v,w''=>next (a.put dst v) w''
    | .panicked chain,w''=>Q (.panic chain) a w''
    | .outgrown,_=>LetsOut Q:=by
 unfold yS at h
 split at h
 rotate_left
 ·simp [M.fail] at h
 rename_i hlen
 simp only [beq_iff_eq] at hlen
 obtain ⟨u0,c1,o1,c2,o2,y,g1,g2,he⟩:=M.bind_inv h
 simp only [Prod.mk.injEq] at he
 obtain ⟨rfl,rfl,rfl⟩:=he
 obtain ⟨Oa,c3,o3,c4,o4,y,g3,g4,he⟩:=M.bind_inv g2
 simp only [Prod.mk.injEq] at he
 obtain ⟨rfl,rfl,rfl⟩:=he
 obtain ⟨sa,c5,o5,c6,o6,y,g5,g6,he⟩:=M.bind_inv g4
 simp only [Prod.mk.injEq] at he
 obtain ⟨rfl,rfl,rfl⟩:=he
 obtain ⟨sa',hsa,he⟩:=lift_inv g5
 simp only [Prod.mk.injEq] at he
 obtain ⟨rfl,rfl,rfl⟩:=he
 obtain ⟨Ob,c7,o7,c8,o8,y,g7,g8,he⟩:=M.bind_inv g6
 simp only [Prod.mk.injEq] at he
 obtain ⟨rfl,rfl,rfl⟩:=he
 obtain ⟨l,c9,o9,c10,o10,y,g9,g10,he⟩:=M.bind_inv g8
 simp only [Prod.mk.injEq] at he
 obtain ⟨rfl,rfl,rfl⟩:=he
 obtain ⟨l',hl,he⟩:=lift_inv g9
 simp only [Prod.mk.injEq] at he
 obtain ⟨rfl,rfl,rfl⟩:=he
 simp only [Good.append] at hg
 obtain ⟨hg1,hg3,_,hg7,_,hg10⟩:=hg
 have hjs:σ.js.b.d ρ = true:=oblige_snd _ _ _ _ _ g1 hg1
 have hid1:=oblige_id g1
 obtain ⟨g3,le3⟩:=mono_inv g3
 obtain ⟨g7,le7⟩:=mono_inv g7
 obtain ⟨g10,le10⟩:=mono_inv g10
 simp only at le3 le7 le10
 split at hl
 rotate_left
 ·cases hl
 rename_i hdist
 obtain ⟨ho1,ho2⟩:=yOuts_spec hl
 obtain ⟨hN,hrec⟩:=hR.df.rc r hrc.lr
 have hat:r.at (σ.js.b.d ρ) (σ.js.a.d ρ) = { r.rc with state:=.ready,pending:=none }:=by
  unfold LpRec.at; rw [hrc.fix,hjs]; rfl
 rw [hat] at hrec
 have hdl:a.defers = []:=hR.df.nm (by rw [hrc.lr]; rfl)
 have hxs:mtAll β ρ (args.map fun y=>rs [] (ev x.gl.length σ y)) (args.map a.eval):=mtAll_map fun y _=>rs_mt (Γ:=[]) rfl (ev_mt hR y)
 have hpl:r.rc.params.size = args.length:=by have:=congrArg List.length hrc.ps; simp at this; omega
 refine ⟨by have:=run_yield (P:=P) (args:=(args.map a.eval).toArray) hrec (by simp [hpl]); rw [this]; rw [<- hrc.asg,<- hrc.bd],?_⟩
 obtain ⟨tms,htms⟩:∃ tms,tms = (r.rc.params.zip (args.map a.eval).toArray).foldl (fun tmps (t,v)=>tmps.setIfInBounds t v) r.rc.tmps:=⟨_,rfl⟩
 rw [<- htms]
 have htl:tms = (D.ps.zip (args.map a.eval)).foldl (fun tm p=>tm.setIfInBounds p.1 p.2) r.rc.tmps:=by
  rw [htms,<- hrc.ps,<- Array.foldl_toList]
  simp
 obtain ⟨hs1,hs2⟩:=setPs_mt (ps:=D.ps) (T:=D.T) (tm:=r.rc.tmps) (by simpa using hlen.symm) hxs hrc.sz (hrc.T β ρ hR.eb.ext)
 rw [<- htl] at hs1 hs2
 refine roundIn_of_wpIn (F:=Fence.wide) (n:=0) trivial ?_
 obtain ⟨xa,hxa⟩:∃ xa:Cx,xa = { x with lr:=some { r with fix:=some .ready },rl:=some r.l }:=⟨_,rfl⟩
 have hRa:Rel xa ρ β { tm:=setPs D.T (D.ps.zip ((args.map fun y=>rs [] (ev x.gl.length σ y)).map fun s=>({ g:=[],s:=s }:SV))),hp:=σ.hp,rb:=σ.rb } { tmps:=tms,defers:=[] } w:=by
  subst hxa
  refine hR.into ⟨rfl,rfl,rfl,rfl,rfl,rfl⟩ rfl hR.eb (by rw [hs1]; exact setPs_len.symm) hs2 ⟨fun r' hr'=>?_,hR.df.ds,trivial,fun _=>rfl⟩
  simp only [Option.some.injEq] at hr'
  subst hr'
  exact ⟨hN,hrec⟩
 have hEa:∀ y:Cx,EOk P Φ y kb.E:=fun y=>EOk.nil hEb
 have hFa:Fresh β c1:=hF.le (by omega)
 have hka:CodeOk P Φ xa ρ D.asg (exec P H xa.gh xa.ng kb D.asg):=by
  subst hxa
  exact exec_ok (x:={ x with lr:=some { r with fix:=some .ready },rl:=some r.l }) hH hG kb hxb hLb (hEa _) D.asg ρ
 have hka2:D.asg.wpIn (Fence.wide.inRound r.l) 0 P (Exit.then (fun a₁ w₁=>∃ w₂,(Instr.beginRound r.l).run P w₁ = .ok () w₂ /\ D.bd.wpIn (Fence.wide.inRound r.l) 0 P (roundPost P r.l fun
    | .returned v,w''=>next (a.put dst v) w''
    | .panicked chain,w''=>Q (.panic chain) a w''
    | .outgrown,_=>LetsOut Q) a₁ w₂) (fun _ _ _=>False)) { tmps:=tms,defers:=[] } w:=by
  have:=hka _ _ _ Oa _ (by subst hxa; exact g3) hg3 β _ w hRa hFa (Exit.then (fun a₁ w₁=>∃ w₂,(Instr.beginRound r.l).run P w₁ = .ok () w₂ /\ D.bd.wpIn (Fence.wide.inRound r.l) 0 P (roundPost P r.l fun
    | .returned v,w''=>next (a.put dst v) w''
    | .panicked chain,w''=>Q (.panic chain) a w''
    | .outgrown,_=>LetsOut Q) a₁ w₂) (fun _ _ _=>False)) (fun e a1 w1 K hk hO=>?_)
  ·subst hxa; exact this
  have hOa:∃ q,Oa = [(.n,q,sa)]:=by
   unfold onlyN at hsa
   split at hsa
   ·simp only [Option.some.injEq] at hsa; subst hsa; exact ⟨_,rfl⟩
   ·cases hsa
  obtain ⟨q0,rfl⟩:=hOa
  obtain ⟨_,q1,s1,β1,hK1,hE1,hR1,hF1⟩:=hO
  have hKn:K = .n /\ s1 = sa:=by
   unfold getK at hK1
   split at hK1
   ·rename_i he
    simp only [Option.some.injEq,Prod.mk.injEq] at hK1
    exact ⟨Kd.eq_sound he,hK1.2.symm⟩
   ·simp [getK] at hK1
  obtain ⟨rfl,rfl⟩:=hKn
  have hen:=kdOf_n hk
  subst hen
  have hrec1:w1.heap[r.l]? = some (.loop { r.rc with state:=.ready,pending:=none }):=by
   have:=(hR1.df.rc { r with fix:=some .ready } (by rw [hxa])).2
   exact this
  have hbr:=run_beginRound (P:=P) hrec1 rfl
  refine ⟨_,hbr,?_⟩
  obtain ⟨xb,hxbd⟩:∃ xb:Cx,xb = { x with lr:=some { r with fix:=some .busy },rl:=some r.l }:=⟨_,rfl⟩
  have hd1:a1.defers = []:=hR1.df.nm (by rw [hxa]; rfl)
  have hlt1:=(Array.getElem?_eq_some_iff.1 hrec1).1
  have hRb:Rel xb ρ β1 { s1 with js:={} } a1 (w1.putObj r.l (.loop { r.rc with state:=.busy,pending:=none })):=by
   refine hR1.putObj (y:=xb) (a':=a1) (by rw [hxa]; exact hN) hrec1 rfl rfl (by rw [hxa,hxbd]; exact ⟨rfl,rfl,rfl,rfl,rfl,rfl,rfl⟩) rfl ?_
   rw [hd1,hxbd]
   refine ⟨fun r' hr'=>?_,fun E hE=>?_,trivial,fun _=>rfl⟩
   ·simp only [Option.some.injEq] at hr'
    subst hr'
    exact ⟨hN,World.putObj_heap_same hlt1⟩
   ·obtain ⟨e1,e2⟩:=hR1.df.ds E (by rw [hxa]; exact hE)
    refine ⟨by rw [hxa] at e1; exact e1,(World.putObj_heap_other (fun e=>?_)).trans e2⟩
    subst e
    rw [hrec1] at e2
    cases e2
  have hkb:CodeOk P Φ xb ρ D.bd (exec P H xb.gh xb.ng kb D.bd):=by
   subst hxbd
   exact exec_ok (x:={ x with lr:=some { r with fix:=some .busy },rl:=some r.l }) hH hG kb hxb hLb (hEa _) D.bd ρ
  have:=hkb _ _ _ Ob _ (by subst hxbd; exact g7) hg7 β1 a1 _ hRb hF1 (roundPost P r.l fun
    | .returned v,w''=>next (a.put dst v) w''
    | .panicked chain,w''=>Q (.panic chain) a w''
    | .outgrown,_=>LetsOut Q) (fun e3 a3 w3 K3 hk3 hO3=>?_)
  ·subst hxbd; exact this
  obtain ⟨hO3a,q3,s3,β3,hK3,hE3,hR3,hF3⟩:=hO3
  have hq3:Gd.d ρ q3 = true:=(hO3a _ _ _ hK3).2 rfl
  have hrec3:w3.heap[r.l]? = some (.loop { r.rc with state:=.busy,pending:=none }):=by
   have:=(hR3.df.rc { r with fix:=some .busy } (by rw [hxbd])).2
   exact this
  have hlt3:=(Array.getElem?_eq_some_iff.1 hrec3).1
  have hEE:Ext β β3:=hE1.trans hE3
  have hfin:∀ (res:Bool) (js:Js) (o':Loop),yJs D.jl K3 = some (res,js) -> r.at (js.b.d ρ) (js.a.d ρ) = o' -> next (a.put dst (.bool res)) (w3.putObj r.l (.loop o')):=fun res js o' hyj hat'=>by
   have hone:∀ p,p ∈ l -> Gd.d ρ p.1 = true -> Rel x ρ β3 p.2 (a.put dst (.bool res)) (w3.putObj r.l (.loop o')):=fun p hp hpq=>by
    obtain ⟨K',s',e1,e2⟩:=ho1 p hp
    have hget:=distO_get hdist e1
    have hKK:K' = K3:=(hO3a _ _ _ hget).1 hpq
    subst hKK
    rw [hK3] at hget
    simp only [Option.some.injEq,Prod.mk.injEq] at hget
    obtain ⟨_,rfl⟩:=hget
    unfold yOne at e2
    rw [hyj] at e2
    simp only at e2
    split at e2
    ·rename_i tm' htm
     simp only [Option.some.injEq] at e2
     rw [<- e2]
     have hmv:Mv (knY D.lid x.gl.length σ.hp) β β3:=⟨fun i r hi hr=>hr.elim (hEE.at hi) fun h=>by
      unfold knY at h
      rw [Bool.or_eq_true] at h
      rcases h with h | h
      ·obtain ⟨q,hq1,hq2,_⟩:=hrc.lid
       have e0:i = D.lid:=by simpa using h
       subst e0
       have e1:=hR.eb _ _ hq1 (.inl hq2)
       rw [hi] at e1
       cases e1
       exact hEE.at hi hq2
      ·exact knN_keep hR hEE i r h hi,(Mv.of hR.bo (ExtP.refl (fun _=>true) β)).sq⟩
     obtain ⟨t1,t2⟩:=slot_put (v:=.bool res) (a:=a) (tm:=σ.tm.map (SV.jk (knY D.lid x.gl.length σ.hp))) (dst:=dst) (by rw [hR.size]; simp) (getD_map_jk hmv hR.slot) htm ⟨fun _=>⟨_,rfl,rfl⟩,fun h=>by cases h⟩
     have hR4:=hR3.putObj (y:=xb) (js:={}) (a':=a3) (o':=.loop { r.rc with state:=.busy,pending:=none }) (by rw [hxbd]; exact hN) hrec3 rfl rfl ⟨rfl,rfl,rfl,rfl,rfl,rfl,rfl⟩ rfl (by
      have hd3:a3.defers = []:=hR3.df.nm (by rw [hxbd]; rfl)
      rw [hd3]
      refine ⟨fun r' hr'=>⟨(hR3.df.rc r' hr').1,?_⟩,fun E hE=>⟨(hR3.df.ds E hE).1,?_⟩,trivial,fun _=>rfl⟩
      ·rw [hxbd] at hr'
       simp only [Option.some.injEq] at hr'
       subst hr'
       exact World.putObj_heap_same hlt3
      ·have e2:=(hR3.df.ds E hE).2
       exact (World.putObj_heap_other (fun e=>by subst e; rw [hrec3] at e2; cases e2)).trans e2)
     have hR5:Rel x ρ β3 { tm:=tm',hp:=s3.hp,rb:=s3.rb,js:=js } (a.put dst (.bool res)) (w3.putObj r.l (.loop o')):=by
      have hR6:Rel xb ρ β3 { s3 with js:={} } { a3 with defers:=[] } (w3.putObj r.l (.loop o')) \/ True:=.inr trivial
      have hc:=putObj_cell (o':=.loop o') hrec3 rfl rfl
      have e:x.gh = xb.gh:=by rw [hxbd]; rfl
      refine ⟨t1,t2,⟨fun r' hr'=>?_,fun E hE=>?_,by rw [(put_tmps a _ _).1,hdl]; trivial,fun _=>by rw [(put_tmps a _ _).1,hdl]⟩,fun id b hb hbg=>blkMt_cells hc (hR3.hm id b hb hbg),by rw [e]; exact fun id b hb hbg=>blkMt_cells hc (hR3.gm id b hb hbg),by rw [e]; exact hR3.gro,?_,?_,?_,?_,?_⟩
      ·rw [hrc.lr] at hr'
       simp only [Option.some.injEq] at hr'
       subst hr'
       exact ⟨hN,by rw [World.putObj_heap_same hlt3,hat']⟩
      ·obtain ⟨d1,d2⟩:=hR3.df.ds E (by rw [hxbd]; exact hE)
       refine ⟨by rw [hxbd] at d1; exact d1,(World.putObj_heap_other (fun e=>?_)).trans d2⟩
       subst e
       rw [hrec3] at d2
       cases d2
      ·have:=hR3.bo
       rw [hxbd] at this
       exact betaOk_cells (fun a=>(hc a).1) (by rw [World.putObj_size]; exact Nat.le_refl _) this
      ·have:=hR3.kp
       rw [hxbd] at this
       exact putObj_keep this hN hrec3 rfl rfl
      ·have:=hR3.gl; rw [hxbd] at this; exact this
      ·have:=hR3.ra; rw [hxbd] at this; exact this
      ·have:=hR3.eb; rw [hxbd] at this; exact this
     exact hR5
    ·cases e2
   have hF3':Fresh β3 c9:=hF3.le (by omega)
   obtain ⟨β4,f1,f2,f3⟩:=yJoin_ok hx l g10 hg10 (by
    obtain ⟨s',hs'⟩:=ho2 _ _ _ (getK_mem hK3)
    exact ⟨(q3,s'),hs',hq3⟩) hone hF3'
   exact hn β4 _ _ (hEE.trans f1) f2 f3
  have hyn:∀ c0:Code,kdJ c0 = some K3 -> (K3 ≠ .n) -> ∃ js:Js,yJs D.jl K3 = some (false,js) /\ ∃ c1,kdJ c1 = some K3 /\ r.at (js.b.d ρ) (js.a.d ρ) = { r.rc with state:=.done,pending:=some c1 }:=fun c0 hc0 hne=>by
   obtain ⟨s',hs'⟩:=ho2 _ _ _ (getK_mem hK3)
   obtain ⟨K',s2,e1,e2⟩:=ho1 _ hs'
   have hget:=distO_get hdist e1
   have hKK:K' = K3:=(hO3a _ _ _ hget).1 hq3
   subst hKK
   unfold yOne at e2
   cases hyj:yJs D.jl K' with
   | none=>rw [hyj] at e2; cases e2
   | some y =>
    obtain ⟨res,js⟩:=y
    obtain ⟨rfl,j,rfl,hj⟩:=yJs_spec hyj hne
    exact ⟨_,rfl,pickJ D.jl j,hj,by unfold LpRec.at; rw [hrc.fix,hrc.jl]; rfl⟩
  cases e3 with
  | normal =>
   simp only [kdOf,Option.some.injEq] at hk3
   subst hk3
   exact ⟨_,_,run_endRound none hrec3,hfin true {} _ rfl (by unfold LpRec.at; rw [hrc.fix]; rfl)⟩
  | ret =>
   simp only [kdOf,Option.some.injEq] at hk3
   subst hk3
   obtain ⟨js,e1,c1,e2,e3⟩:=hyn .ret rfl (by simp)
   rw [kdJ_r e2] at e3
   exact ⟨_,_,run_endRound (some .ret) hrec3,hfin false js _ e1 e3⟩
  | exit id =>
   simp only [kdOf,Option.some.injEq] at hk3
   subst hk3
   obtain ⟨js,e1,c1,e2,e3⟩:=hyn (.exit id) rfl (by simp)
   rw [kdJ_x e2] at e3
   exact ⟨_,_,run_endRound (some (.exit id)) hrec3,hfin false js _ e1 e3⟩
  | goto t=>simp [kdOf] at hk3
  | panic ch=>simp [kdOf] at hk3
  | outgrown=>simp [kdOf] at hk3
 exact hka2
end
end Go.Proofs.YtfgbfdlacnihkaaDoor.Sx
