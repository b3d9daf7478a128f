/-
  Merged texts (SxA, SxB, SxC, SxD, SxE). No condition.
-/
import Derived.Calls
import Derived.Control
import Derived.Orders
import Derived.LoopN
import Derived.Laws.Sem
import Derived.Laws.World
import Derived.Below
import Derived.KernelRfl
import Derived.Laws.Cells
import Derived.Laws.StructEq
set_option linter.unusedVariables false
set_option linter.unusedSimpArgs false
namespace Go.Proofs.YtfgbfdlacnihkaaGreatDoor.Sx
open Go

structure Env where
 i:Nat -> Int
 b:Nat -> Bool

inductive A where
 | v (n:Nat)
 | c (k:Int)

inductive B where
 | v (n:Nat)
 | c (k:Bool)

def A.d (ρ:Env):A -> Int
 | .v n=>ρ.i n
 | .c k=>k
def B.d (ρ:Env):B -> Bool
 | .v n=>ρ.b n
 | .c k=>k

@[simp] theorem A.d_c (ρ:Env) (k:Int):(A.c k).d ρ = k:=rfl
@[simp] theorem B.d_c (ρ:Env) (k:Bool):(B.c k).d ρ = k:=rfl
def A.eq:A -> A -> Bool
 | .v n,.v m=>n == m
 | .c k,.c l=>k == l
 | _,_=>false
def B.eq:B -> B -> Bool
 | .v n,.v m=>n == m
 | .c k,.c l=>k == l
 | _,_=>false
theorem A.eq_sound {a b:A} (h:a.eq b = true):a = b:=by
 cases a <;> cases b <;> simp_all [A.eq]
theorem B.eq_sound {a b:B} (h:a.eq b = true):a = b:=by
 cases a <;> cases b <;> simp_all [B.eq]

def zig:Int -> Nat
 | .ofNat n=>2 * n
 | .negSucc n=>2 * n + 1
def zag (n:Nat):Int:=if n % 2 = 0 then .ofNat (n / 2) else .negSucc (n / 2)
theorem zag_zig (i:Int):zag (zig i) = i:=by
 cases i with
 | ofNat n=>show (if (2 * n) % 2 = 0 then Int.ofNat (2 * n / 2) else _) = _; rw [if_pos (by omega),show 2 * n / 2 = n by omega]
 | negSucc n=>show (if (2 * n + 1) % 2 = 0 then _ else Int.negSucc ((2 * n + 1) / 2)) = _; rw [if_neg (by omega),show (2 * n + 1) / 2 = n by omega]
def twos:Nat -> Nat -> Nat × Nat
 | 0,n=>(0,n)
 | f + 1,n=>if n % 2 = 0 then ((twos f (n / 2)).1 + 1,(twos f (n / 2)).2) else (0,n)
theorem twos_spec:∀ (f a m:Nat),a < f -> twos f (2 ^ a * (2 * m + 1)) = (a,2 * m + 1)
 | 0,a,m,h=>by omega
 | f + 1,0,m,_=>by unfold twos; rw [if_neg (by omega)]; simp
 | f + 1,a + 1,m,h=>by
  unfold twos
  have h1:2 ^ (a + 1) * (2 * m + 1) = 2 * (2 ^ a * (2 * m + 1)):=by rw [Nat.pow_succ]; ac_rfl
  rw [if_pos (by omega),show 2 ^ (a + 1) * (2 * m + 1) / 2 = 2 ^ a * (2 * m + 1) by omega,twos_spec f a m (by omega)]
def encN:List Int -> Nat
 | []=>0
 | i :: l=>2 ^ zig i * (2 * encN l + 1)
def decN:Nat -> Nat -> List Int
 | 0,_=>[]
 | f + 1,n=>if n = 0 then [] else zag (twos n n).1 :: decN f ((twos n n).2 / 2)
theorem decN_encN:∀ (l:List Int) (f:Nat),encN l <= f -> decN f (encN l) = l
 | [],f,_=>by cases f <;> simp [encN,decN]
 | i :: l,f,h=>by
  have hp:0 < 2 ^ zig i:=Nat.pow_pos (by decide)
  have hlt:zig i < 2 ^ zig i:=Nat.lt_two_pow_self
  have hmul:2 ^ zig i * 1 <= 2 ^ zig i * (2 * encN l + 1):=Nat.mul_le_mul_left _ (by omega)
  have hmul2:1 * (2 * encN l + 1) <= 2 ^ zig i * (2 * encN l + 1):=Nat.mul_le_mul_right _ hp
  cases f with
  | zero=>unfold encN at h; omega
  | succ f =>
   unfold decN
   unfold encN at h ⊢
   rw [if_neg (by omega),twos_spec _ _ _ (by omega)]
   simp only
   rw [zag_zig,show (2 * encN l + 1) / 2 = encN l by omega,decN_encN l f (by omega)]
def enc (l:List Int):Int:=encN l
def dec (i:Int):List Int:=decN i.toNat i.toNat
theorem dec_enc (l:List Int):dec (enc l) = l:=by
 unfold dec enc
 rw [Int.toNat_natCast]
 exact decN_encN l _ (Nat.le_refl _)

inductive CK where
 | int (k:IntKind)
 | bool
 | pt (k o:Nat)
 | str
 | sl (ks:List CK)

abbrev Gd:=List (B × Bool)
def Gd.d (ρ:Env) (g:Gd):Bool:=g.all fun p=>p.1.d ρ == p.2
@[simp] theorem Gd.d_nil (ρ:Env):Gd.d ρ [] = true:=rfl
@[simp] theorem Gd.d_cons (ρ:Env) (p:B × Bool) (g:Gd):Gd.d ρ (p :: g) = (p.1.d ρ == p.2 && Gd.d ρ g):=rfl
@[simp] theorem Gd.d_append (ρ:Env) (g h:Gd):Gd.d ρ (g ++ h) = (Gd.d ρ g && Gd.d ρ h):=by
 unfold Gd.d; simp
def Gd.mem (p:B × Bool) (g:Gd):Bool:=g.any fun q=>p.1.eq q.1 && p.2 == q.2
def Gd.sub (g h:Gd):Bool:=g.all fun p=>Gd.mem p h
theorem Gd.mem_d {ρ:Env} {p:B × Bool} {g:Gd} (h:Gd.mem p g = true) (hg:Gd.d ρ g = true):p.1.d ρ = p.2:=by
 unfold Gd.mem at h
 simp only [List.any_eq_true,Bool.and_eq_true,beq_iff_eq] at h
 obtain ⟨q,hq,he,h2⟩:=h
 unfold Gd.d at hg
 simp only [List.all_eq_true,beq_iff_eq] at hg
 rw [B.eq_sound he,h2]
 exact hg q hq
theorem Gd.sub_d {ρ:Env} {g h:Gd} (hs:Gd.sub g h = true) (hh:Gd.d ρ h = true):Gd.d ρ g = true:=by
 unfold Gd.sub at hs
 simp only [List.all_eq_true] at hs
 unfold Gd.d
 simp only [List.all_eq_true,beq_iff_eq]
 exact fun p hp=>Gd.mem_d (hs p hp) hh

abbrev FV:=Option (Nat × List (Nat × Nat))
def bytesI (s:ByteArray):List Int:=s.data.toList.map fun b=>(b.toNat:Int)
def encS (s:ByteArray):Int:=enc (bytesI s)
theorem encS_inj {s t:ByteArray} (h:encS s = encS t):s = t:=by
 have h1:bytesI s = bytesI t:=by rw [<- dec_enc (bytesI s),<- dec_enc (bytesI t)]; exact congrArg dec h
 have h2:s.data.toList = t.data.toList:=by
  refine List.map_inj_right (f:=fun b:UInt8=>(b.toNat:Int)) (fun x y hxy=>?_) |>.1 h1
  exact UInt8.toNat_inj.1 (by exact_mod_cast hxy)
 cases s; cases t; congr 1; exact Array.toList_inj.1 h2

inductive C where
 | int (k:IntKind) (a:A)
 | bool (b:B)
 | ptr (l:List (B × Nat × Nat)) (id off:Nat)
 | pix (id off s len:Nat) (a:A) (k:Nat)
 | sli (id off len cap:Nat)
 | slx (ks:List CK) (q len:A)
 | pxq (ks:List CK) (q a:A) (k:Nat)
 | slm (id:Nat) (ks:List CK)
 | pxm (id:Nat) (ks:List CK) (a:A) (k:Nat)
 | vec (ks:List CK) (q n:A)
 | emp
 | val (v:Value)
 | junk
 | str (q:A)
 | fn (l:List (B × FV)) (d:FV)
 | mp (id:Nat)

inductive S where
 | one (agg:Bool) (l:List C)
 | tup (l:List (Bool × List C))
 | any

structure SV where
 g:Gd
 s:S

def anySV:SV:={ g:=[],s:=.any }

structure Blk where
 g:Gd
 ro:Bool
 cells:List C

structure Rg where
 blk:Nat
 off:Nat
 len:Nat
 ro:Bool
 sq:Option (List CK × List Int):=none
 row:Bool:=false
 rn:Nat:=0

abbrev Beta:=Nat -> Option Rg

def InR (k:IntKind) (n:Int):Prop:=k.min <= n /\ n <= k.max

def pick (ρ:Env):List (B × Nat × Nat) -> Nat -> Nat -> Nat × Nat
 | [],id,off=>(id,off)
 | (b,i,o) :: l,id,off=>if b.d ρ then (i,o) else pick ρ l id off

def pickF (ρ:Env):List (B × FV) -> FV -> FV
 | [],d=>d
 | (b,f) :: l,d=>if b.d ρ then f else pickF ρ l d
def capMt (β:Beta):List (Nat × Nat) -> List Value -> Prop
 | [],[]=>True
 | p :: l,v :: vs=>(∃ r,β p.1 = some r /\ v = .pointer (some ⟨r.blk,r.off + p.2,none⟩)) /\ capMt β l vs
 | _,_=>False
def yieldN:Nat:=1000000007
def fvVal (n:Nat) (vs:List Value):Value :=
 if n = yieldN then (match vs with
  | [.pointer (some a)]=>.func (.yield a.block) #[] #[]
  | _=>.func (.yield 0) #[] #[]) else .func (.func n) #[] vs.toArray
theorem fvVal_ne {n:Nat} (h:n ≠ yieldN) (vs:List Value):fvVal n vs = .func (.func n) #[] vs.toArray:=by unfold fvVal; rw [if_neg h]
theorem fvVal_fn (n:Nat) (vs:List Value):∃ f ws,fvVal n vs = .func f #[] ws:=by
 unfold fvVal
 split
 ·split <;> exact ⟨_,_,rfl⟩
 ·exact ⟨_,_,rfl⟩
def fvMt (β:Beta) (f:FV) (v:Value):Prop :=
 match f with
 | none=>v = .nilFunc
 | some p=>∃ vs:List Value,v = fvVal p.1 vs /\ capMt β p.2 vs

def partSq (r:Rg) (ks:List CK) (o:Nat) (l:List Int):Prop :=
 ∃ L j,r.sq = some (ks,L) /\ o = j * ks.length /\ o + l.length <= L.length /\ ∀ i n,l[i]? = some n -> L[o + i]? = some n
def slxMt (β:Beta) (ks:List CK) (q n:Int) (v:Value):Prop :=
 0 <= n /\ InR .i64 n /\ ∃ p cap,v = .slice p n.toNat cap /\ n.toNat <= cap /\ ((q = enc [] /\ n = 0) \/
  ∃ i r o l,β i = some r /\ partSq r ks o l /\ q = enc l /\ l.length = n.toNat * ks.length /\ p = some ⟨r.blk,r.off + o,none⟩)
def oneCell:Value -> Bool
 | .agg _ | .tuple _=>false
 | _=>true

def C.mt (β:Beta) (ρ:Env):C -> Value -> Prop
 | .int k a,v=>v = .int k (a.d ρ) /\ InR k (a.d ρ)
 | .bool b,v=>v = .bool (b.d ρ)
 | .ptr l id off,v=>∃ r,β (pick ρ l id off).1 = some r /\ v = .pointer (some ⟨r.blk,r.off + (pick ρ l id off).2,none⟩)
 | .pix id off s len a k,v=>0 <= a.d ρ /\ a.d ρ < len /\ ∃ r,β id = some r /\ v = .pointer (some ⟨r.blk,r.off + (off + (a.d ρ).toNat * s + k),none⟩)
 | .sli id off len cap,v=>∃ r,β id = some r /\ v = .slice (some ⟨r.blk,r.off + off,none⟩) len cap
 | .slx ks q len,v=>slxMt β ks (q.d ρ) (len.d ρ) v
 | .pxq ks q a k,v=>0 <= a.d ρ /\ ∃ i r o l,β i = some r /\ partSq r ks o l /\ q.d ρ = enc l /\ ((a.d ρ).toNat + 1) * ks.length <= l.length /\
   v = .pointer (some ⟨r.blk,r.off + o + ((a.d ρ).toNat * ks.length + k),none⟩)
 | .slm id ks,v=>∃ r cap p,β id = some r /\ r.row = true /\ r.len = cap * ks.length /\ r.rn <= cap /\ v = .slice p r.rn cap /\ (cap = 0 \/ p = some ⟨r.blk,r.off,none⟩)
 | .pxm id ks a k,v=>0 <= a.d ρ /\ ∃ r,β id = some r /\ r.row = true /\ (a.d ρ).toNat < r.rn /\ v = .pointer (some ⟨r.blk,r.off + ((a.d ρ).toNat * ks.length + k),none⟩)
 | .vec _ _ _,_=>False
 | .emp,v=>∃ p,v = .slice p 0 0
 | .val u,v=>v = u /\ oneCell u = true
 | .junk,v=>oneCell v = true
 | .str q,v=>∃ s:ByteArray,v = .string s /\ q.d ρ = encS s /\ InR .i64 s.size
 | .fn l d,v=>fvMt β (pickF ρ l d) v
 | .mp id,v=>∃ r,β id = some r /\ v = .map (some r.blk)

def mtL (β:Beta) (ρ:Env):List C -> List Value -> Prop
 | [],[]=>True
 | c :: cs,v :: vs=>c.mt β ρ v /\ mtL β ρ cs vs
 | _,_=>False

def mt1 (β:Beta) (ρ:Env) (agg:Bool) (l:List C) (v:Value):Prop :=
 if agg then ∃ vs,v = .agg vs /\ mtL β ρ l vs.toList else ∃ c,l = [c] /\ c.mt β ρ v

def mtT (β:Beta) (ρ:Env):List (Bool × List C) -> List Value -> Prop
 | [],[]=>True
 | p :: ps,v :: vs=>mt1 β ρ p.1 p.2 v /\ mtT β ρ ps vs
 | _,_=>False

def S.mt (β:Beta) (ρ:Env):S -> Value -> Prop
 | .one agg l,v=>mt1 β ρ agg l v
 | .tup l,v=>∃ vs,v = .tuple vs /\ mtT β ρ l vs.toList
 | .any,_=>True

def SV.mt (β:Beta) (ρ:Env) (x:SV) (v:Value):Prop :=
 (Gd.d ρ x.g = true -> x.s.mt β ρ v) /\ (Gd.d ρ x.g = false -> v = undef)

def arI (op:BinOp) (k:IntKind) (x y:Int):Int :=
 match op with
 | .add=>k.wrap (x + y)
 | .sub=>k.wrap (x - y)
 | .mul=>k.wrap (x * y)
 | .quo=>k.wrap (x.tdiv y)
 | .rem=>x.tmod y
 | .and=>k.wrap (BitVec.ofInt k.bits x &&& BitVec.ofInt k.bits y).toNat
 | .or=>k.wrap (BitVec.ofInt k.bits x ||| BitVec.ofInt k.bits y).toNat
 | .xor=>k.wrap (BitVec.ofInt k.bits x ^^^ BitVec.ofInt k.bits y).toNat
 | .andNot=>k.wrap (BitVec.ofInt k.bits x &&& ~~~ BitVec.ofInt k.bits y).toNat
 | .shl=>k.wrap (x * 2 ^ (min y.toNat k.bits))
 | .shr=>x.fdiv (2 ^ (min y.toNat k.bits))
 | _=>0
def cmB (op:BinOp) (x y:Int):Bool :=
 match op with
 | .eql=>x == y
 | .neq=>x != y
 | .lss=>decide (x < y)
 | .leq=>decide (x <= y)
 | .gtr=>decide (x > y)
 | .geq=>decide (x >= y)
 | _=>false

inductive RI where
 | ar (op:BinOp) (k:IntKind) (a b:A)
 | cv (k:IntKind) (a:A)
 | ite (c:B) (a b:A)
 | mn (a b:A)
 | mx (a b:A)
 | tab (l:List Int) (a:A)
 | get (q a:A) (s k:Nat)
 | lenq (q:A) (s:Nat)
 | rep (n:A) (s:Nat)
 | setq (q a:A) (s k:Nat) (x:A)
 | cat (p q:A)
 | sub (q a b:A) (s:Nat)
 | lst (l:List A)
 | b2i (b:B)
def RI.d (ρ:Env):RI -> Int
 | .ar op k a b=>arI op k (a.d ρ) (b.d ρ)
 | .cv k a=>k.wrap (a.d ρ)
 | .ite c a b=>if c.d ρ then a.d ρ else b.d ρ
 | .mn a b=>if b.d ρ < a.d ρ then b.d ρ else a.d ρ
 | .mx a b=>if b.d ρ > a.d ρ then b.d ρ else a.d ρ
 | .tab l a=>l.getD (a.d ρ).toNat 0
 | .get q a s k=>(dec (q.d ρ)).getD ((a.d ρ).toNat * s + k) 0
 | .lenq q s=>((dec (q.d ρ)).length / s:Nat)
 | .rep n s=>enc (List.replicate ((n.d ρ).toNat * s) 0)
 | .setq q a s k x=>enc ((dec (q.d ρ)).set ((a.d ρ).toNat * s + k) (x.d ρ))
 | .cat p q=>enc (dec (p.d ρ) ++ dec (q.d ρ))
 | .sub q a b s=>enc (((dec (q.d ρ)).drop ((a.d ρ).toNat * s)).take (((b.d ρ).toNat - (a.d ρ).toNat) * s))
 | .lst l=>enc (l.map (A.d ρ))
 | .b2i b=>if b.d ρ then 1 else 0

inductive RB where
 | cm (op:BinOp) (a b:A)
 | not (a:B)
 | and (a b:B)
 | or (a b:B)
 | eqb (a b:B)
 | ite (c a b:B)
 | getb (q a:A) (s k:Nat)
def RB.d (ρ:Env):RB -> Bool
 | .cm op a b=>cmB op (a.d ρ) (b.d ρ)
 | .not a=>!(a.d ρ)
 | .and a b=>a.d ρ && b.d ρ
 | .or a b=>a.d ρ || b.d ρ
 | .eqb a b=>a.d ρ == b.d ρ
 | .ite c a b=>if c.d ρ then a.d ρ else b.d ρ
 | .getb q a s k=>(dec (q.d ρ)).getD ((a.d ρ).toNat * s + k) 0 != 0

abbrev Fun:=List Int -> List Bool -> List Int × List Bool
abbrev Funs:=Nat -> Fun

inductive Em where
 | di (n:Nat) (r:RI)
 | db (n:Nat) (r:RB)
 | call (f:Nat) (ai:List A) (ab:List B) (i0 ni b0 nb:Nat)
 | ob (g:Gd) (b:B)

def Em.ok (Φ:Funs) (ρ:Env):Em -> Prop
 | .di n r=>ρ.i n = r.d ρ
 | .db n r=>ρ.b n = r.d ρ
 | .call f ai ab i0 ni b0 nb =>
  (∀ j,j < ni -> ρ.i (i0 + j) = (Φ f (ai.map (A.d ρ)) (ab.map (B.d ρ))).1.getD j 0) /\
  (∀ j,j < nb -> ρ.b (b0 + j) = (Φ f (ai.map (A.d ρ)) (ab.map (B.d ρ))).2.getD j false)
 | .ob g b=>Gd.d ρ g = true -> b.d ρ = true

def Good (Φ:Funs) (ρ:Env) (l:List Em):Prop:=∀ e,e ∈ l -> e.ok Φ ρ
theorem Good.nil {Φ:Funs} {ρ:Env}:Good Φ ρ []:=fun _ h=>by cases h
theorem Good.append {Φ:Funs} {ρ:Env} {l m:List Em}:Good Φ ρ (l ++ m) ↔ Good Φ ρ l /\ Good Φ ρ m:=by
 constructor
 ·exact fun h=>⟨fun e he=>h e (List.mem_append.2 (.inl he)),fun e he=>h e (List.mem_append.2 (.inr he))⟩
 ·rintro ⟨h1,h2⟩ e he
  rcases List.mem_append.1 he with h | h
  ·exact h1 e h
  ·exact h2 e h
theorem Good.cons {Φ:Funs} {ρ:Env} {e:Em} {m:List Em}:Good Φ ρ (e :: m) ↔ e.ok Φ ρ /\ Good Φ ρ m:=by
 constructor
 ·exact fun h=>⟨h e (List.mem_cons.2 (.inl rfl)),fun x hx=>h x (List.mem_cons.2 (.inr hx))⟩
 ·rintro ⟨h1,h2⟩ x hx
  rcases List.mem_cons.1 hx with h | h
  ·exact h ▸ h1
  ·exact h2 x h

structure Ctr where
 i:Nat
 b:Nat
 id:Nat

def M (α:Type):Type:=Ctr -> Option (α × Ctr × List Em)
namespace M
def pure {α:Type} (x:α):M α:=fun c=>some (x,c,[])
def bind {α β:Type} (m:M α) (f:α -> M β):M β:=fun c =>
 match m c with
 | none=>none
 | some (x,c1,o1)=>match f x c1 with
  | none=>none
  | some (y,c2,o2)=>some (y,c2,o1 ++ o2)
def fail {α:Type}:M α:=fun _=>none
instance:Monad M where
 pure:=M.pure
 bind:=M.bind
def emG (g:Gd):Em -> Em
 | .ob h b=>.ob (g ++ h) b
 | e=>e
def under {α:Type} (g:Gd) (m:M α):M α:=fun c =>
 match m c with
 | none=>none
 | some (x,c1,o1)=>some (x,c1,o1.map (emG g))
end M

def Snd {α:Type} (Φ:Funs) (ρ:Env) (m:M α) (p:α -> Prop):Prop :=
 ∀ c x c' o,m c = some (x,c',o) -> Good Φ ρ o -> p x
section
variable {α β:Type} {Φ:Funs} {ρ:Env}
theorem Snd.pure {x:α} {p:α -> Prop} (h:p x):Snd Φ ρ (Pure.pure x:M α) p:=by
 intro c y c' o he _
 simp only [Pure.pure,M.pure,Option.some.injEq,Prod.mk.injEq] at he
 exact he.1 ▸ h
theorem Snd.bind {m:M α} {f:α -> M β} {p:α -> Prop} {q:β -> Prop} (hm:Snd Φ ρ m p) (hf:∀ x,p x -> Snd Φ ρ (f x) q):Snd Φ ρ (m >>= f) q:=by
 intro c y c' o he hg
 simp only [Bind.bind,M.bind] at he
 cases h1:m c with
 | none=>rw [h1] at he; cases he
 | some r =>
  obtain ⟨x,c1,o1⟩:=r
  rw [h1] at he
  simp only at he
  cases h2:f x c1 with
  | none=>rw [h2] at he; cases he
  | some r2 =>
   obtain ⟨z,c2,o2⟩:=r2
   rw [h2] at he
   simp only [Option.some.injEq,Prod.mk.injEq] at he
   obtain ⟨rfl,rfl,rfl⟩:=he
   rw [Good.append] at hg
   exact hf x (hm _ _ _ _ h1 hg.1) _ _ _ _ h2 hg.2
theorem Snd.fail {p:α -> Prop}:Snd Φ ρ (M.fail:M α) p:=fun _ _ _ _ he=>by cases he
theorem Snd.mono {m:M α} {p q:α -> Prop} (h:Snd Φ ρ m p) (hpq:∀ x,p x -> q x):Snd Φ ρ m q :=
 fun c x c' o he hg=>hpq x (h c x c' o he hg)
theorem Snd.and {m:M α} {p q:α -> Prop} (h:Snd Φ ρ m p) (h':Snd Φ ρ m q):Snd Φ ρ m (fun x=>p x /\ q x) :=
 fun c x c' o he hg=>⟨h c x c' o he hg,h' c x c' o he hg⟩
theorem Snd.triv {m:M α}:Snd Φ ρ m (fun _=>True):=fun _ _ _ _ _ _=>trivial
theorem Good.under {g:Gd} {l:List Em} (hg:Gd.d ρ g = true) (h:Good Φ ρ (l.map (M.emG g))):Good Φ ρ l:=by
 intro e he
 have:=h _ (List.mem_map.2 ⟨e,he,rfl⟩)
 cases e <;> try exact this
 case ob g' b =>
  intro hg'
  exact this (by simp [hg,hg'])
theorem Snd.under {g:Gd} {m:M α} {p:α -> Prop} (hg:Gd.d ρ g = true) (h:Snd Φ ρ m p):Snd Φ ρ (M.under g m) p:=by
 intro c x c' o he hgd
 simp only [M.under] at he
 cases h1:m c with
 | none=>rw [h1] at he; cases he
 | some r =>
  obtain ⟨y,c1,o1⟩:=r
  rw [h1] at he
  simp only [Option.some.injEq,Prod.mk.injEq] at he
  obtain ⟨rfl,rfl,rfl⟩:=he
  exact h _ _ _ _ h1 (Good.under hg hgd)
end

def newI (r:RI):M A:=fun c=>some (.v c.i,{ c with i:=c.i + 1 },[.di c.i r])
def newB (r:RB):M B:=fun c=>some (.v c.b,{ c with b:=c.b + 1 },[.db c.b r])
def newId:M Nat:=fun c=>some (c.id,{ c with id:=c.id + 1 },[])
def oblige (b:B):M Unit:=fun c =>
 match b with
 | .c true=>some ((),c,[])
 | b=>some ((),c,[.ob [] b])
section
variable {Φ:Funs} {ρ:Env}
theorem newI_snd (r:RI):Snd Φ ρ (newI r) (fun a=>a.d ρ = r.d ρ):=by
 intro c x c' o he hg
 simp only [newI,Option.some.injEq,Prod.mk.injEq] at he
 obtain ⟨rfl,rfl,rfl⟩:=he
 exact hg (.di c.i r) (by simp)
theorem newB_snd (r:RB):Snd Φ ρ (newB r) (fun a=>a.d ρ = r.d ρ):=by
 intro c x c' o he hg
 simp only [newB,Option.some.injEq,Prod.mk.injEq] at he
 obtain ⟨rfl,rfl,rfl⟩:=he
 exact hg (.db c.b r) (by simp)
theorem oblige_snd (b:B):Snd Φ ρ (oblige b) (fun _=>b.d ρ = true):=by
 intro c x c' o he hg
 unfold oblige at he
 split at he
 ·rfl
 ·simp only [Option.some.injEq,Prod.mk.injEq] at he
  obtain ⟨-,-,rfl⟩:=he
  exact hg (.ob [] b) (by simp) rfl
end

def mkAr (op:BinOp) (k:IntKind) (a b:A):M A :=
 match a,b with
 | .c x,.c y=>pure (.c (arI op k x y))
 | a,b=>newI (.ar op k a b)
def mkCv (k:IntKind) (a:A):M A :=
 match a with
 | .c x=>pure (.c (k.wrap x))
 | a=>newI (.cv k a)
def mkIteI (c:B) (a b:A):M A :=
 match c with
 | .c true=>pure a
 | .c false=>pure b
 | c=>if a.eq b then pure a else newI (.ite c a b)
def mkMn (a b:A):M A :=
 match a,b with
 | .c x,.c y=>pure (.c (if y < x then y else x))
 | a,b=>newI (.mn a b)
def mkMx (a b:A):M A :=
 match a,b with
 | .c x,.c y=>pure (.c (if y > x then y else x))
 | a,b=>newI (.mx a b)
def mkGet (q a:A) (s k:Nat):M A :=
 match q,a with
 | .c x,.c y=>pure (.c ((dec x).getD (y.toNat * s + k) 0))
 | q,a=>newI (.get q a s k)
def mkGetb (q a:A) (s k:Nat):M B :=
 match q,a with
 | .c x,.c y=>pure (.c ((dec x).getD (y.toNat * s + k) 0 != 0))
 | q,a=>newB (.getb q a s k)
def mkLenq (q:A) (s:Nat):M A :=
 match q with
 | .c x=>pure (.c ((dec x).length / s:Nat))
 | q=>newI (.lenq q s)
def mkRep (n:A) (s:Nat):M A :=
 match n with
 | .c x=>pure (.c (enc (List.replicate (x.toNat * s) 0)))
 | n=>newI (.rep n s)
def mkSetq (q a:A) (s k:Nat) (x:A):M A :=
 match q,a,x with
 | .c q,.c a,.c x=>pure (.c (enc ((dec q).set (a.toNat * s + k) x)))
 | q,a,x=>newI (.setq q a s k x)
def mkCat (p q:A):M A :=
 match p,q with
 | .c x,.c y=>pure (.c (enc (dec x ++ dec y)))
 | p,q=>newI (.cat p q)
def mkSub (q a b:A) (s:Nat):M A :=
 match q,a,b with
 | .c x,.c y,.c z=>pure (.c (enc (((dec x).drop (y.toNat * s)).take ((z.toNat - y.toNat) * s))))
 | q,a,b=>newI (.sub q a b s)
def litsA:List A -> Option (List Int)
 | []=>some []
 | .c x :: l=>match litsA l with | some r=>some (x :: r) | none=>none
 | .v _ :: _=>none
def mkLst (l:List A):M A :=
 match litsA l with
 | some r=>pure (.c (enc r))
 | none=>newI (.lst l)
def mkB2i (b:B):M A :=
 match b with
 | .c x=>pure (.c (if x then 1 else 0))
 | b=>newI (.b2i b)
def mkCm (op:BinOp) (a b:A):M B :=
 match a,b with
 | .c x,.c y=>pure (.c (cmB op x y))
 | a,b=>newB (.cm op a b)
def mkNot (a:B):M B :=
 match a with
 | .c x=>pure (.c (!x))
 | a=>newB (.not a)
def mkAnd (a b:B):M B :=
 match a,b with
 | .c true,b=>pure b
 | .c false,_=>pure (.c false)
 | a,.c true=>pure a
 | _,.c false=>pure (.c false)
 | a,b=>newB (.and a b)
def mkOr (a b:B):M B :=
 match a,b with
 | .c false,b=>pure b
 | .c true,_=>pure (.c true)
 | a,.c false=>pure a
 | _,.c true=>pure (.c true)
 | a,b=>newB (.or a b)
def mkEqb (a b:B):M B :=
 match a,b with
 | .c true,b=>pure b
 | a,.c true=>pure a
 | .c x,.c y=>pure (.c (x == y))
 | a,b=>newB (.eqb a b)
def mkIteB (c a b:B):M B :=
 match c with
 | .c true=>pure a
 | .c false=>pure b
 | c=>if a.eq b then pure a else match a,b with
  | .c true,.c false=>pure c
  | .c true,b=>newB (.or c b)
  | a,.c false=>newB (.and c a)
  | a,b=>newB (.ite c a b)
section
variable {Φ:Funs} {ρ:Env}
theorem mkAr_snd (op:BinOp) (k:IntKind) (a b:A):Snd Φ ρ (mkAr op k a b) (fun x=>x.d ρ = arI op k (a.d ρ) (b.d ρ)):=by
 unfold mkAr
 split
 ·exact Snd.pure rfl
 ·exact newI_snd _
theorem mkCv_snd (k:IntKind) (a:A):Snd Φ ρ (mkCv k a) (fun x=>x.d ρ = k.wrap (a.d ρ)):=by
 unfold mkCv
 split
 ·exact Snd.pure rfl
 ·exact newI_snd _
theorem mkIteI_snd (c:B) (a b:A):Snd Φ ρ (mkIteI c a b) (fun x=>x.d ρ = if c.d ρ then a.d ρ else b.d ρ):=by
 unfold mkIteI
 split
 ·exact Snd.pure (by simp [B.d])
 ·exact Snd.pure (by simp [B.d])
 ·split
  ·rename_i h
   rw [A.eq_sound h]
   exact Snd.pure (by simp)
  ·exact newI_snd _
theorem mkMn_snd (a b:A):Snd Φ ρ (mkMn a b) (fun x=>x.d ρ = if b.d ρ < a.d ρ then b.d ρ else a.d ρ):=by
 unfold mkMn
 split
 ·exact Snd.pure rfl
 ·exact newI_snd _
theorem mkMx_snd (a b:A):Snd Φ ρ (mkMx a b) (fun x=>x.d ρ = if b.d ρ > a.d ρ then b.d ρ else a.d ρ):=by
 unfold mkMx
 split
 ·exact Snd.pure rfl
 ·exact newI_snd _
theorem mkGet_snd (q a:A) (s k:Nat):Snd Φ ρ (mkGet q a s k) (fun x=>x.d ρ = (dec (q.d ρ)).getD ((a.d ρ).toNat * s + k) 0):=by
 unfold mkGet
 split
 ·exact Snd.pure rfl
 ·exact newI_snd _
theorem mkGetb_snd (q a:A) (s k:Nat):Snd Φ ρ (mkGetb q a s k) (fun x=>x.d ρ = ((dec (q.d ρ)).getD ((a.d ρ).toNat * s + k) 0 != 0)):=by
 unfold mkGetb
 split
 ·exact Snd.pure rfl
 ·exact newB_snd _
theorem mkLenq_snd (q:A) (s:Nat):Snd Φ ρ (mkLenq q s) (fun x=>x.d ρ = ((dec (q.d ρ)).length / s:Nat)):=by
 unfold mkLenq
 split
 ·exact Snd.pure rfl
 ·exact newI_snd _
theorem mkRep_snd (n:A) (s:Nat):Snd Φ ρ (mkRep n s) (fun x=>x.d ρ = enc (List.replicate ((n.d ρ).toNat * s) 0)):=by
 unfold mkRep
 split
 ·exact Snd.pure rfl
 ·exact newI_snd _
theorem mkSetq_snd (q a:A) (s k:Nat) (x:A):Snd Φ ρ (mkSetq q a s k x) (fun z=>z.d ρ = enc ((dec (q.d ρ)).set ((a.d ρ).toNat * s + k) (x.d ρ))):=by
 unfold mkSetq
 split
 ·exact Snd.pure rfl
 ·exact newI_snd _
theorem mkCat_snd (p q:A):Snd Φ ρ (mkCat p q) (fun x=>x.d ρ = enc (dec (p.d ρ) ++ dec (q.d ρ))):=by
 unfold mkCat
 split
 ·exact Snd.pure rfl
 ·exact newI_snd _
theorem mkSub_snd (q a b:A) (s:Nat):Snd Φ ρ (mkSub q a b s) (fun x=>x.d ρ = enc (((dec (q.d ρ)).drop ((a.d ρ).toNat * s)).take (((b.d ρ).toNat - (a.d ρ).toNat) * s))):=by
 unfold mkSub
 split
 ·exact Snd.pure rfl
 ·exact newI_snd _
theorem litsA_spec {ρ:Env}:∀ {l:List A} {r:List Int},litsA l = some r -> l.map (A.d ρ) = r
 | [],r,h=>by simp [litsA] at h; subst h; rfl
 | .c x :: l,r,h=>by
  unfold litsA at h
  split at h
  ·rename_i q hq; cases h; simp [litsA_spec hq]
  ·cases h
 | .v _ :: _,r,h=>by simp [litsA] at h
theorem mkLst_snd (l:List A):Snd Φ ρ (mkLst l) (fun z=>z.d ρ = enc (l.map (A.d ρ))):=by
 unfold mkLst
 split
 ·rename_i r h; exact Snd.pure (by rw [litsA_spec h]; rfl)
 ·exact newI_snd _
theorem mkB2i_snd (b:B):Snd Φ ρ (mkB2i b) (fun x=>x.d ρ = if b.d ρ then 1 else 0):=by
 unfold mkB2i
 split
 ·exact Snd.pure rfl
 ·exact newI_snd _
theorem mkCm_snd (op:BinOp) (a b:A):Snd Φ ρ (mkCm op a b) (fun x=>x.d ρ = cmB op (a.d ρ) (b.d ρ)):=by
 unfold mkCm
 split
 ·exact Snd.pure rfl
 ·exact newB_snd _
theorem mkNot_snd (a:B):Snd Φ ρ (mkNot a) (fun x=>x.d ρ = !(a.d ρ)):=by
 unfold mkNot
 split
 ·exact Snd.pure rfl
 ·exact newB_snd _
theorem mkAnd_snd (a b:B):Snd Φ ρ (mkAnd a b) (fun x=>x.d ρ = (a.d ρ && b.d ρ)):=by
 unfold mkAnd
 split
 ·exact Snd.pure (by simp [B.d])
 ·exact Snd.pure (by simp [B.d])
 ·exact Snd.pure (by simp [B.d])
 ·exact Snd.pure (by simp [B.d])
 ·exact newB_snd _
theorem mkOr_snd (a b:B):Snd Φ ρ (mkOr a b) (fun x=>x.d ρ = (a.d ρ || b.d ρ)):=by
 unfold mkOr
 split
 ·exact Snd.pure (by simp [B.d])
 ·exact Snd.pure (by simp [B.d])
 ·exact Snd.pure (by simp [B.d])
 ·exact Snd.pure (by simp [B.d])
 ·exact newB_snd _
theorem mkEqb_snd (a b:B):Snd Φ ρ (mkEqb a b) (fun x=>x.d ρ = (a.d ρ == b.d ρ)):=by
 unfold mkEqb
 split
 ·exact Snd.pure (by simp [B.d])
 ·exact Snd.pure (by simp [B.d])
 ·exact Snd.pure (by simp [B.d])
 ·exact newB_snd _
theorem mkIteB_snd (c a b:B):Snd Φ ρ (mkIteB c a b) (fun x=>x.d ρ = if c.d ρ then a.d ρ else b.d ρ):=by
 unfold mkIteB
 split
 ·exact Snd.pure (by simp [B.d])
 ·exact Snd.pure (by simp [B.d])
 ·split
  ·rename_i h
   rw [B.eq_sound h]
   exact Snd.pure (by simp)
  ·split
   ·exact Snd.pure (by show c.d ρ = if c.d ρ then true else false; simp)
   ·exact (newB_snd _).mono fun x hx=>by rw [hx]; simp [RB.d]
   ·exact (newB_snd _).mono fun x hx=>by rw [hx]; simp [RB.d]
   ·exact newB_snd _
end
end Go.Proofs.YtfgbfdlacnihkaaGreatDoor.Sx
namespace Go.Proofs.YtfgbfdlacnihkaaGreatDoor.Sx
open Go

def inRg (r:Rg) (a:Addr):Prop:=a.block = r.blk /\ r.off <= a.off /\ a.off < r.off + r.len

structure Keep (W:List Rg) (w w':World):Prop where
 os:w'.os = w.os
 tape:w'.tape = w.tape
 output:w'.output = w.output
 size:w.heap.size <= w'.heap.size
 cell:∀ a:Addr,a.block < w.heap.size -> (∀ r,r ∈ W -> ¬ inRg r a) -> w'.cell? a = w.cell? a
 frz:∀ a:Addr,a.block < w.heap.size -> w'.frozen? a = w.frozen? a
 shp:∀ k,k < w.heap.size -> w'.shape? k = w.shape? k
 blk:∀ k,k < w.heap.size -> (∀ r,r ∈ W -> r.len ≠ 0 -> r.blk ≠ k) -> w'.heap[k]? = w.heap[k]?

theorem Keep.refl (W:List Rg) (w:World):Keep W w w :=
 ⟨rfl,rfl,rfl,Nat.le_refl _,fun _ _ _=>rfl,fun _ _=>rfl,fun _ _=>rfl,fun _ _ _=>rfl⟩

theorem cell?_of_blk {w w':World} {a:Addr} (h:w'.heap[a.block]? = w.heap[a.block]?):w'.cell? a = w.cell? a:=by
 unfold World.cell?; rw [h]
theorem frozen?_of_blk {w w':World} {a:Addr} (h:w'.heap[a.block]? = w.heap[a.block]?):w'.frozen? a = w.frozen? a:=by
 unfold World.frozen?; rw [h]
theorem shape?_of_blk {w w':World} {k:Nat} (h:w'.heap[k]? = w.heap[k]?):w'.shape? k = w.shape? k:=by
 unfold World.shape?; rw [h]

theorem Keep.of_blocks {W:List Rg} {w w':World} (h1:w'.os = w.os) (h2:w'.tape = w.tape) (h3:w'.output = w.output) (h4:w.heap.size <= w'.heap.size)
  (h:∀ k,k < w.heap.size -> w'.heap[k]? = w.heap[k]?):Keep W w w' :=
 ⟨h1,h2,h3,h4,fun a ha _=>cell?_of_blk (h _ ha),fun a ha=>frozen?_of_blk (h _ ha),fun k hk=>shape?_of_blk (h k hk),fun k hk _=>h k hk⟩

theorem Keep.alloc (W:List Rg) (w:World) (o:Obj):Keep W w (w.alloc o) :=
 Keep.of_blocks rfl rfl rfl (by simp) fun k hk=>Go.RowKit.Below.heap_alloc w o k hk
theorem Keep.drew (W:List Rg) (w:World):Keep W w { w with drawn:=w.drawn + 1 } :=
 Keep.of_blocks rfl rfl rfl (Nat.le_refl _) fun _ _=>rfl
theorem shape?_setCell (w:World) (a:Addr) (v:Value) (k:Nat):(w.setCell a v).shape? k = w.shape? k:=by
 simp only [World.setCell,World.shape?,Array.getElem?_modify]
 by_cases hb:a.block = k
 ·simp only [hb,if_true]
  cases hh:w.heap[k]? with
  | none=>simp
  | some x=>cases x <;> simp <;> split <;> simp
 ·simp [hb]
theorem Keep.setCell {W:List Rg} {w:World} {a:Addr} (v:Value) {r:Rg} (hr:r ∈ W) (ha:inRg r a):Keep W w (w.setCell a v) :=
 ⟨rfl,rfl,rfl,by simp,fun b _ hn=>World.cell?_setCell_other w a b v (fun e=>hn r hr (e ▸ ha)),fun b _=>World.frozen?_setCell w a b v,
  fun k _=>shape?_setCell w a v k,fun k _ hn=>Go.RowKit.Below.heap_setCell w a v k (fun e=>hn r hr (by unfold inRg at ha; omega) (by rw [<- ha.1,e]))⟩

def Cov (W:List Rg) (N:Nat) (r:Rg):Prop :=
 N <= r.blk \/ ∃ q,q ∈ W /\ q.blk = r.blk /\ q.off <= r.off /\ r.off + r.len <= q.off + q.len
theorem Cov.inRg {W:List Rg} {N:Nat} {r:Rg} (h:Cov W N r) {a:Addr} (ha:inRg r a) (hN:a.block < N):∃ q,q ∈ W /\ Sx.inRg q a:=by
 rcases h with h | ⟨q,hq,hb,h1,h2⟩
 ·have:=ha.1; omega
 ·refine ⟨q,hq,?_⟩
  unfold Sx.inRg at *
  omega
theorem Keep.trans {W W':List Rg} {w w1 w2:World} (h:Keep W w w1) (h':Keep W' w1 w2) (hc:∀ r,r ∈ W' -> Cov W w.heap.size r):Keep W w w2:=by
 have hs:=h.size
 refine ⟨h'.os.trans h.os,h'.tape.trans h.tape,h'.output.trans h.output,Nat.le_trans h.size h'.size,fun a ha hn=>?_,fun a ha=>?_,fun k hk=>?_,fun k hk hn=>?_⟩
 ·refine (h'.cell a (by omega) fun r hr hi=>?_).trans (h.cell a ha hn)
  obtain ⟨q,hq,hqi⟩:=(hc r hr).inRg hi ha
  exact hn q hq hqi
 ·exact (h'.frz a (by omega)).trans (h.frz a ha)
 ·exact (h'.shp k (by omega)).trans (h.shp k hk)
 ·refine (h'.blk k (by omega) fun r hr hz hi=>?_).trans (h.blk k hk hn)
  rcases hc r hr with h1 | ⟨q,hq,hb,_,_⟩
  ·omega
  ·exact hn q hq (by omega) (hb.trans hi)
theorem Keep.nz {W:List Rg} {w w':World} (h:Keep W w w'):Keep (W.filter fun r=>!(r.len == 0)) w w' :=
 ⟨h.os,h.tape,h.output,h.size,fun a ha hn=>h.cell a ha fun r hr hi=>hn r (List.mem_filter.2 ⟨hr,by simp; unfold inRg at hi; omega⟩) hi,h.frz,h.shp,
  fun k hk hn=>h.blk k hk fun r hr hz=>hn r (List.mem_filter.2 ⟨hr,by simpa using hz⟩) hz⟩
theorem Keep.below {w w':World} (h:Keep [] w w'):Go.RowKit.Below w.heap.size w w' :=
 ⟨h.os,h.tape,h.output,h.size,fun k hk=>h.blk k hk (fun r hr=>by cases hr)⟩
def Rg.apart (r q:Rg):Prop:=r.blk ≠ q.blk \/ r.off + r.len <= q.off \/ q.off + q.len <= r.off \/ r.len = 0 \/ q.len = 0
def Rg.within (r q:Rg):Prop:=r.blk = q.blk /\ q.off <= r.off /\ r.off + r.len <= q.off + q.len
theorem Rg.within_apart {r q p:Rg} (h:r.within q) (ha:q.apart p):r.apart p:=by
 unfold Rg.within Rg.apart at *
 omega
theorem Rg.within_trans {r q p:Rg} (h:r.within q) (h':q.within p):r.within p:=by
 unfold Rg.within at *
 omega

def ckv:CK -> Int -> Value -> Prop
 | .int k,n,v=>v = .int k n /\ InR k n
 | .bool,n,v=>(n = 0 \/ n = 1) /\ v = .bool (n != 0)
 | .pt _ _,_,_=>False
 | .str,n,v=>∃ s:ByteArray,v = .string s /\ n = encS s /\ InR .i64 s.size
 | .sl _,_,_=>False
theorem ckv_one {k:CK} {n:Int} {v:Value} (h:ckv k n v):oneCell v = true:=by
 cases k with
 | int k=>rw [h.1]; rfl
 | bool=>rw [h.2]; rfl
 | pt=>exact h.elim
 | str=>obtain ⟨s,rfl,_⟩:=h; rfl
 | sl=>exact h.elim
def seqAt (w:World) (b o:Nat) (ks:List CK) (l:List Int):Prop :=
 ∀ (j:Nat) (n:Int),l[j]? = some n -> ∃ ck v,ks[j % ks.length]? = some ck /\ w.cell? ⟨b,o + j,none⟩ = some v /\ ckv ck n v
def SqOk (β:Beta) (w:World):Prop:=∀ i r ks l,β i = some r -> r.sq = some (ks,l) -> r.ro = true /\ r.row = false /\ l.length = r.len /\ seqAt w r.blk r.off ks l

structure BetaOk (N:Nat) (R:List Rg) (Q:Rg -> Prop) (β:Beta) (w:World):Prop where
 apart:∀ i j r q,i ≠ j -> β i = some r -> β j = some q -> (r.ro = true /\ q.ro = true) \/ r.apart q
 place:∀ i r,β i = some r -> r.len = 0 \/ r.blk < w.heap.size
 may:∀ i r,β i = some r -> r.ro = true \/ Cov R N r
 sq:SqOk β w
 rom:∀ i r,β i = some r -> r.ro = true -> N <= r.blk \/ Q r
 qs:∀ r q,Q q -> r.within q -> Q r
 rw:∀ i r,β i = some r -> r.row = true -> r.ro = false

def ExtP (p:Nat -> Bool) (β β':Beta):Prop:=∀ i r,β i = some r -> (r.row = false \/ p i = true) -> β' i = some r
def Ext (β β':Beta):Prop:=ExtP (fun _=>false) β β'
theorem ExtP.refl (p:Nat -> Bool) (β:Beta):ExtP p β β:=fun _ _ h _=>h
theorem ExtP.ext {p:Nat -> Bool} {β β':Beta} (h:ExtP p β β'):Ext β β':=fun i r hi hr=>h i r hi (hr.elim .inl (fun h=>by cases h))
theorem Ext.refl (β:Beta):Ext β β:=fun _ _ h _=>h
theorem Ext.trans {β γ δ:Beta} (h:Ext β γ) (h':Ext γ δ):Ext β δ:=fun i r hi hr=>h' i r (h i r hi hr) hr
theorem Ext.at {β β':Beta} (h:Ext β β') {i:Nat} {r:Rg} (hi:β i = some r) (hr:r.row = false):β' i = some r:=h i r hi (.inl hr)
theorem ExtP.at {p:Nat -> Bool} {β β':Beta} (h:ExtP p β β') {i:Nat} {r:Rg} (hi:β i = some r) (hr:r.row = false):β' i = some r:=h i r hi (.inl hr)
theorem ExtP.row {p:Nat -> Bool} {β β':Beta} (h:ExtP p β β') {i:Nat} {r:Rg} (hi:β i = some r) (hp:p i = true):β' i = some r:=h i r hi (.inr hp)

def ptrIds:List (B × Nat × Nat) -> List Nat
 | []=>[]
 | (_,i,_) :: l=>if (ptrIds l).contains i then ptrIds l else i :: ptrIds l
theorem pick_mem {ρ:Env} (id off:Nat):∀ l,(pick ρ l id off).1 = id \/ (pick ρ l id off).1 ∈ ptrIds l
 | []=>.inl rfl
 | (b,i,o) :: l=>by
  unfold pick ptrIds
  split
  ·split
   ·rename_i hc; exact .inr (by simpa using hc)
   ·exact .inr (by simp)
  ·rcases pick_mem (ρ:=ρ) id off l with h | h
   ·exact .inl h
   ·split
    ·exact .inr h
    ·exact .inr (by simp [h])
def fvIds:FV -> List Nat
 | none=>[]
 | some p=>p.2.map (·.1)
def C.ids:C -> List Nat
 | .ptr l i _=>i :: ptrIds l
 | .pix i _ _ _ _ _=>[i]
 | .sli i _ _ _=>[i]
 | .fn l d=>fvIds d ++ (l.map fun p=>fvIds p.2).flatten
 | .mp i=>[i]
 | .slm i _=>[i]
 | .pxm i _ _ _=>[i]
 | _=>[]
theorem pickF_ids {ρ:Env} {p:Nat -> Bool}:∀ {l:List (B × FV)} {d:FV},(fvIds d ++ (l.map fun p=>fvIds p.2).flatten).all p = true -> (fvIds (pickF ρ l d)).all p = true
 | [],d,h=>by unfold pickF; simpa using h
 | (b,f) :: l,d,h=>by
  simp only [List.map_cons,List.flatten_cons,List.all_append,Bool.and_eq_true] at h
  unfold pickF
  split
  ·exact h.2.1
  ·exact pickF_ids (by rw [List.all_append,h.1,h.2.2]; rfl)

section
variable {p:Nat -> Bool} {β β':Beta} {ρ:Env} (h:∀ i r,β i = some r -> (r.ro = true /\ r.row = false /\ r.sq.isSome = true \/ p i = true) -> β' i = some r) (hsq:∀ i r,β i = some r -> r.sq.isSome = true -> r.ro = true /\ r.row = false)
include h
theorem capMt_ids:∀ {l:List (Nat × Nat)} {vs:List Value},(l.map (·.1)).all p = true -> capMt β l vs -> capMt β' l vs
 | [],[],_,_=>trivial
 | q :: l,_ :: _,hp,⟨⟨r,hr,hv⟩,h2⟩=>by
  simp only [List.map_cons,List.all_cons,Bool.and_eq_true] at hp
  exact ⟨⟨r,h _ _ hr (.inr hp.1),hv⟩,capMt_ids hp.2 h2⟩
theorem fvMt_ids {f:FV} {v:Value} (hp:(fvIds f).all p = true) (hv:fvMt β f v):fvMt β' f v:=by
 unfold fvMt at *
 cases f with
 | none=>exact hv
 | some q=>obtain ⟨vs,h1,h2⟩:=hv; exact ⟨vs,h1,capMt_ids h hp h2⟩
include hsq
theorem C.mt_ids {c:C} {v:Value} (hp:c.ids.all p = true) (hc:c.mt β ρ v):c.mt β' ρ v:=by
 cases c with
 | ptr l id off =>
  obtain ⟨r,hr,hv⟩:=hc
  refine ⟨r,h _ _ hr (.inr ?_),hv⟩
  simp only [C.ids,List.all_cons,Bool.and_eq_true] at hp
  rcases pick_mem (ρ:=ρ) id off l with e | e
  ·rw [e]; exact hp.1
  ·exact List.all_eq_true.1 hp.2 _ e
 | pix id off s len a k=>obtain ⟨h1,h2,r,hr,hv⟩:=hc; exact ⟨h1,h2,r,h _ _ hr (.inr (by simpa [C.ids] using hp)),hv⟩
 | sli id off len cap=>obtain ⟨r,hr,hv⟩:=hc; exact ⟨r,h _ _ hr (.inr (by simpa [C.ids] using hp)),hv⟩
 | slx ks q len =>
  obtain ⟨h1,h2,p,cap,hv,hcap,h3⟩:=hc
  refine ⟨h1,h2,p,cap,hv,hcap,?_⟩
  rcases h3 with h3 | ⟨i,r,o,l,hr,hs,h4⟩
  ·exact .inl h3
  ·have he:r.sq.isSome = true:=by obtain ⟨L,j,e,_⟩:=hs; rw [e]; rfl
   have:=hsq i r hr he
   exact .inr ⟨i,r,o,l,h _ _ hr (.inl ⟨this.1,this.2,he⟩),hs,h4⟩
 | pxq ks q a k =>
  obtain ⟨h1,i,r,o,l,hr,hs,h2⟩:=hc
  have he:r.sq.isSome = true:=by obtain ⟨L,j,e,_⟩:=hs; rw [e]; rfl
  have:=hsq i r hr he
  exact ⟨h1,i,r,o,l,h _ _ hr (.inl ⟨this.1,this.2,he⟩),hs,h2⟩
 | fn l d=>exact fvMt_ids h (pickF_ids hp) hc
 | mp id=>obtain ⟨r,hr,hv⟩:=hc; exact ⟨r,h _ _ hr (.inr (by simpa [C.ids] using hp)),hv⟩
 | slm id ks=>obtain ⟨r,cap,q,hr,h2⟩:=hc; exact ⟨r,cap,q,h _ _ hr (.inr (by simpa [C.ids] using hp)),h2⟩
 | pxm id ks a k=>obtain ⟨h1,r,hr,h2⟩:=hc; exact ⟨h1,r,h _ _ hr (.inr (by simpa [C.ids] using hp)),h2⟩
 | _=>exact hc
end

def C.jk (p:Nat -> Bool) (c:C):C:=if c.ids.all p then c else .junk
theorem C.mt_one {β:Beta} {ρ:Env} {c:C} {v:Value} (h:c.mt β ρ v):oneCell v = true:=by
 cases c with
 | int k a=>rw [h.1]; rfl
 | bool b=>rw [h]; rfl
 | ptr l id off=>obtain ⟨_,_,rfl⟩:=h; rfl
 | pix id off s len a k=>obtain ⟨_,_,_,_,rfl⟩:=h; rfl
 | sli=>obtain ⟨_,_,rfl⟩:=h; rfl
 | slx ks q len=>obtain ⟨_,_,_,_,rfl,_⟩:=h; rfl
 | pxq ks q a k=>obtain ⟨_,_,_,_,_,_,_,_,_,_,rfl⟩:=h; rfl
 | val u=>obtain ⟨rfl,h2⟩:=h; exact h2
 | junk=>exact h
 | str q=>obtain ⟨_,rfl,_⟩:=h; rfl
 | fn l d =>
  have h':fvMt β (pickF ρ l d) v:=h
  unfold fvMt at h'
  split at h'
  ·rw [h']; rfl
  ·obtain ⟨vs,rfl,_⟩:=h'; obtain ⟨f,ws,e⟩:=fvVal_fn _ vs; rw [e]; rfl
 | mp id=>obtain ⟨_,_,rfl⟩:=h; rfl
 | slm id ks=>obtain ⟨_,_,_,_,_,_,_,rfl,_⟩:=h; rfl
 | pxm id ks a k=>obtain ⟨_,_,_,_,_,rfl⟩:=h; rfl
 | vec=>exact h.elim
 | emp=>obtain ⟨_,rfl⟩:=h; rfl
structure Mv (p:Nat -> Bool) (β β':Beta):Prop where
 ext:ExtP p β β'
 sq:∀ i r,β i = some r -> r.sq.isSome = true -> r.ro = true /\ r.row = false
theorem Mv.h {p:Nat -> Bool} {β β':Beta} (h:Mv p β β'):∀ i r,β i = some r -> (r.ro = true /\ r.row = false /\ r.sq.isSome = true \/ p i = true) -> β' i = some r :=
 fun i r hi hr=>h.ext i r hi (hr.imp (fun x=>x.2.1) id)
theorem Mv.of {N:Nat} {R:List Rg} {Q:Rg -> Prop} {β β':Beta} {w:World} {p:Nat -> Bool} (hb:BetaOk N R Q β w) (he:ExtP p β β'):Mv p β β' :=
 ⟨he,fun i r hi hs=>by
  cases e:r.sq with
  | none=>rw [e] at hs; cases hs
  | some x=>have:=hb.sq i r x.1 x.2 hi e; exact ⟨this.1,this.2.1⟩⟩
theorem C.jk_mt {p:Nat -> Bool} {β β':Beta} {ρ:Env} (h:Mv p β β') {c:C} {v:Value} (hc:c.mt β ρ v):(c.jk p).mt β' ρ v:=by
 unfold C.jk
 split
 ·rename_i hp; exact C.mt_ids h.h h.sq hp hc
 ·exact C.mt_one hc
def jkL (p:Nat -> Bool) (l:List C):List C:=l.map (C.jk p)
theorem jkL_mt {p:Nat -> Bool} {β β':Beta} {ρ:Env} (h:Mv p β β'):∀ {l:List C} {vs:List Value},mtL β ρ l vs -> mtL β' ρ (jkL p l) vs
 | [],[],_=>trivial
 | _ :: _,_ :: _,⟨h1,h2⟩=>⟨C.jk_mt h h1,jkL_mt h h2⟩
def S.jk (p:Nat -> Bool):S -> S
 | .one agg l=>.one agg (jkL p l)
 | .tup l=>.tup (l.map fun q=>(q.1,jkL p q.2))
 | .any=>.any
theorem jk1_mt {p:Nat -> Bool} {β β':Beta} {ρ:Env} (h:Mv p β β') {agg:Bool} {l:List C} {v:Value} (hv:mt1 β ρ agg l v):mt1 β' ρ agg (jkL p l) v:=by
 unfold mt1 at *
 cases agg
 ·obtain ⟨c,h1,h2⟩:=hv; exact ⟨c.jk p,by rw [h1]; rfl,C.jk_mt h h2⟩
 ·obtain ⟨vs,h1,h2⟩:=hv; exact ⟨vs,h1,jkL_mt h h2⟩
theorem jkT_mt {p:Nat -> Bool} {β β':Beta} {ρ:Env} (h:Mv p β β'):∀ {l:List (Bool × List C)} {vs:List Value},mtT β ρ l vs -> mtT β' ρ (l.map fun q=>(q.1,jkL p q.2)) vs
 | [],[],_=>trivial
 | _ :: _,_ :: _,⟨h1,h2⟩=>⟨jk1_mt h h1,jkT_mt h h2⟩
theorem S.jk_mt {p:Nat -> Bool} {β β':Beta} {ρ:Env} (h:Mv p β β') {s:S} {v:Value} (hs:s.mt β ρ v):(s.jk p).mt β' ρ v:=by
 cases s with
 | one agg l=>exact jk1_mt h hs
 | tup l=>obtain ⟨vs,h1,h2⟩:=hs; exact ⟨vs,h1,jkT_mt h h2⟩
 | any=>trivial
def SV.jk (p:Nat -> Bool) (x:SV):SV:={ x with s:=x.s.jk p }
theorem SV.jk_mt {p:Nat -> Bool} {β β':Beta} {ρ:Env} (h:Mv p β β') {x:SV} {v:Value} (hs:x.mt β ρ v):(x.jk p).mt β' ρ v :=
 ⟨fun hg=>S.jk_mt h (hs.1 hg),hs.2⟩
theorem jk_true {c:C}:c.jk (fun _=>true) = c:=by
 unfold C.jk; rw [if_pos (by simp)]
theorem jkL_true:∀ {l:List C},jkL (fun _=>true) l = l
 | []=>rfl
 | c :: l=>by
  have:=jkL_true (l:=l)
  unfold jkL at *
  rw [List.map_cons,this,jk_true]
theorem S.jk_true {s:S}:s.jk (fun _=>true) = s:=by
 cases s with
 | one agg l=>show S.one agg (jkL _ l) = _; rw [jkL_true]
 | tup l=>show S.tup _ = _; simp [jkL_true]
 | any=>rfl
theorem SV.jk_true {x:SV}:x.jk (fun _=>true) = x:=by unfold SV.jk; rw [S.jk_true]
theorem C.mt_mv {β β':Beta} {ρ:Env} (h:Mv (fun _=>true) β β') {c:C} {v:Value} (hc:c.mt β ρ v):c.mt β' ρ v:=by
 have:=C.jk_mt h hc; rwa [jk_true (c:=c)] at this
theorem mtL_mv {β β':Beta} {ρ:Env} (h:Mv (fun _=>true) β β') {l:List C} {vs:List Value} (hc:mtL β ρ l vs):mtL β' ρ l vs:=by
 have:=jkL_mt h hc; rwa [jkL_true] at this
theorem S.mt_mv {β β':Beta} {ρ:Env} (h:Mv (fun _=>true) β β') {s:S} {v:Value} (hc:s.mt β ρ v):s.mt β' ρ v:=by
 have:=S.jk_mt h hc; rwa [S.jk_true] at this
theorem SV.mt_mv {β β':Beta} {ρ:Env} (h:Mv (fun _=>true) β β') {x:SV} {v:Value} (hc:x.mt β ρ v):x.mt β' ρ v:=by
 have:=SV.jk_mt h hc; rwa [SV.jk_true] at this

def cellsAt (β:Beta) (ρ:Env) (w:World) (b:Nat):Nat -> List C -> Prop
 | _,[]=>True
 | o,c :: cs=>(∃ v,w.cell? ⟨b,o,none⟩ = some v /\ c.mt β ρ v) /\ cellsAt β ρ w b (o + 1) cs
theorem cellsAt_iff {β:Beta} {ρ:Env} {w:World} {b:Nat}:∀ {o:Nat} {l:List C},cellsAt β ρ w b o l ↔ ∀ j c,l[j]? = some c -> ∃ v,w.cell? ⟨b,o + j,none⟩ = some v /\ c.mt β ρ v
 | o,[]=>by simp [cellsAt]
 | o,c :: cs=>by
  rw [cellsAt,cellsAt_iff (o:=o + 1) (l:=cs)]
  constructor
  ·rintro ⟨h1,h2⟩ j d hd
   cases j with
   | zero=>simp at hd; subst hd; exact h1
   | succ j=>simp at hd; have:=h2 j d hd; rwa [show o + 1 + j = o + (j + 1) by omega] at this
  ·intro h
   refine ⟨h 0 c (by simp),fun j d hd=>?_⟩
   have:=h (j + 1) d (by simpa using hd)
   rwa [show o + (j + 1) = o + 1 + j by omega] at this

def vecOf:List C -> Option (List CK × A × A)
 | [.vec ks q n]=>some (ks,q,n)
 | _=>none
theorem vecOf_spec {l:List C} {x:List CK × A × A} (h:vecOf l = some x):l = [.vec x.1 x.2.1 x.2.2]:=by
 unfold vecOf at h
 split at h
 ·cases h; rfl
 ·cases h
def rowMt (β:Beta) (ρ:Env) (w:World) (id:Nat) (ks:List CK) (q n:A):Prop :=
 ∃ r cap l,β id = some r /\ r.row = true /\ r.ro = false /\ ks ≠ [] /\ r.len = cap * ks.length /\ r.rn <= cap /\ q.d ρ = enc l /\ n.d ρ = (r.rn:Int) /\ InR .i64 (n.d ρ) /\ l.length = r.rn * ks.length /\ seqAt w r.blk r.off ks l /\
  ∀ j,j < r.len -> (∃ v,w.cell? ⟨r.blk,r.off + j,none⟩ = some v /\ oneCell v = true) /\ w.frozen? ⟨r.blk,r.off + j,none⟩ = false
def blkMt (β:Beta) (ρ:Env) (w:World) (id:Nat) (b:Blk):Prop :=
 match vecOf b.cells with
 | some (ks,q,n)=>b.ro = false /\ rowMt β ρ w id ks q n
 | none=>∃ r,β id = some r /\ r.row = false /\ r.len = b.cells.length /\ r.ro = b.ro /\ cellsAt β ρ w r.blk r.off b.cells /\
  (b.ro = false -> ∀ j,j < b.cells.length -> w.frozen? ⟨r.blk,r.off + j,none⟩ = false)
theorem blkMt_row {β:Beta} {ρ:Env} {w:World} {id:Nat} {b:Blk} {x:List CK × A × A} (h:vecOf b.cells = some x):blkMt β ρ w id b ↔ b.ro = false /\ rowMt β ρ w id x.1 x.2.1 x.2.2:=by
 unfold blkMt; rw [h]
theorem blkMt_cs {β:Beta} {ρ:Env} {w:World} {id:Nat} {b:Blk} (h:vecOf b.cells = none):blkMt β ρ w id b ↔ ∃ r,β id = some r /\ r.row = false /\ r.len = b.cells.length /\ r.ro = b.ro /\ cellsAt β ρ w r.blk r.off b.cells /\
  (b.ro = false -> ∀ j,j < b.cells.length -> w.frozen? ⟨r.blk,r.off + j,none⟩ = false):=by
 unfold blkMt; rw [h]
theorem blkMt_at {β:Beta} {ρ:Env} {w:World} {id:Nat} {b:Blk} (h:blkMt β ρ w id b):∃ r,β id = some r /\ r.ro = b.ro /\ (r.row = false -> r.len = b.cells.length) /\ (r.row = true -> b.ro = false):=by
 cases hv:vecOf b.cells with
 | none=>obtain ⟨r,hr,h1,h2,h3,_⟩:=(blkMt_cs hv).1 h; exact ⟨r,hr,h3,(fun _=>h2),fun e=>by rw [h1] at e; cases e⟩
 | some x=>obtain ⟨h0,r,cap,l,hr,h1,h2,_⟩:=(blkMt_row hv).1 h; exact ⟨r,hr,h2.trans h0.symm,(fun e=>by rw [h1] at e; cases e),fun _=>h0⟩

theorem vecOf_cellsAt {β:Beta} {ρ:Env} {w:World} {b o:Nat} {l:List C} (h:cellsAt β ρ w b o l):vecOf l = none:=by
 cases hv:vecOf l with
 | none=>rfl
 | some x=>rw [vecOf_spec hv] at h; obtain ⟨⟨v,_,hm⟩,_⟩:=h; exact hm.elim
theorem blkMt_mk {β:Beta} {ρ:Env} {w:World} {id:Nat} {b:Blk} (h:∃ r,β id = some r /\ r.row = false /\ r.len = b.cells.length /\ r.ro = b.ro /\ cellsAt β ρ w r.blk r.off b.cells /\
  (b.ro = false -> ∀ j,j < b.cells.length -> w.frozen? ⟨r.blk,r.off + j,none⟩ = false)):blkMt β ρ w id b:=by
 obtain ⟨r,h1,h2,h3,h4,h5,h6⟩:=h
 exact (blkMt_cs (vecOf_cellsAt h5)).2 ⟨r,h1,h2,h3,h4,h5,h6⟩

abbrev Hp:=Nat -> Option Blk
def heapMt (β:Beta) (ρ:Env) (hp:Hp) (w:World):Prop:=∀ id b,hp id = some b -> Gd.d ρ b.g = true -> blkMt β ρ w id b

theorem cellsAt_jk {β β':Beta} {ρ:Env} {w w':World} {b:Nat} {p:Nat -> Bool} (he:Mv p β β') {o:Nat} {l:List C}
  (h:∀ j,j < l.length -> w'.cell? ⟨b,o + j,none⟩ = w.cell? ⟨b,o + j,none⟩) (hc:cellsAt β ρ w b o l):cellsAt β' ρ w' b o (jkL p l):=by
 rw [cellsAt_iff] at *
 intro j c hj
 unfold jkL at hj
 rw [List.getElem?_map,Option.map_eq_some_iff] at hj
 obtain ⟨d,hd,rfl⟩:=hj
 obtain ⟨v,hv,hm⟩:=hc j d hd
 exact ⟨v,by rw [h j (by exact (List.getElem?_eq_some_iff.1 hd).1)]; exact hv,C.jk_mt he hm⟩
theorem cellsAt_w {β:Beta} {ρ:Env} {w w':World} {b:Nat} {o:Nat} {l:List C}
  (h:∀ j,j < l.length -> w'.cell? ⟨b,o + j,none⟩ = w.cell? ⟨b,o + j,none⟩) (hc:cellsAt β ρ w b o l):cellsAt β ρ w' b o l:=by
 rw [cellsAt_iff] at *
 intro j c hj
 obtain ⟨v,hv,hm⟩:=hc j c hj
 exact ⟨v,by rw [h j (by exact (List.getElem?_eq_some_iff.1 hj).1)]; exact hv,hm⟩

theorem BetaOk.apartW {N:Nat} {R:List Rg} {Q:Rg -> Prop} {β:Beta} {w:World} (h:BetaOk N R Q β w) {i j:Nat} {r q:Rg} (hij:i ≠ j) (hi:β i = some r) (hj:β j = some q) (hro:r.ro = false):r.apart q :=
 (h.apart i j r q hij hi hj).resolve_left fun hh=>by rw [hh.1] at hro; cases hro

def Blk.jk (p:Nat -> Bool) (b:Blk):Blk:={ b with cells:=jkL p b.cells }
theorem vec_jk {p:Nat -> Bool} {ks:List CK} {q n:A}:C.jk p (.vec ks q n) = .vec ks q n:=by
 unfold C.jk; rw [if_pos (by simp [C.ids])]
theorem vecOf_jk {p:Nat -> Bool} {l:List C}:vecOf (jkL p l) = vecOf l:=by
 unfold jkL
 match l with
 | []=>rfl
 | [c] =>
  cases c <;> first
   | (rw [List.map_cons,vec_jk]; rfl)
   | (show vecOf [C.jk p _] = none; unfold C.jk; split <;> rfl)
 | _ :: _ :: _ =>
  show vecOf (_ :: _ :: _) = vecOf (_ :: _ :: _)
  simp [vecOf]
theorem seqAt_w {w w':World} {b o:Nat} {ks:List CK} {l:List Int} (h:∀ j,j < l.length -> w'.cell? ⟨b,o + j,none⟩ = w.cell? ⟨b,o + j,none⟩) (hs:seqAt w b o ks l):seqAt w' b o ks l:=by
 intro j n hj
 obtain ⟨ck,v,g1,g2,g3⟩:=hs j n hj
 exact ⟨ck,v,g1,by rw [h j (List.getElem?_eq_some_iff.1 hj).1]; exact g2,g3⟩
theorem blkMt_jk {β β':Beta} {ρ:Env} {w w':World} {p:Nat -> Bool} (he:Mv p β β') {id:Nat} {b:Blk} (hp:vecOf b.cells = none \/ p id = true)
  (hcell:∀ r,β id = some r -> ∀ j,j < r.len -> w'.cell? ⟨r.blk,r.off + j,none⟩ = w.cell? ⟨r.blk,r.off + j,none⟩ /\ w'.frozen? ⟨r.blk,r.off + j,none⟩ = w.frozen? ⟨r.blk,r.off + j,none⟩)
  (h:blkMt β ρ w id b):blkMt β' ρ w' id (b.jk p):=by
 cases hv:vecOf b.cells with
 | none =>
  obtain ⟨r,hr,hrow,hl,hro,hc,hf⟩:=(blkMt_cs hv).1 h
  refine (blkMt_cs (b:=b.jk p) (by unfold Blk.jk; simp only; rw [vecOf_jk]; exact hv)).2 ⟨r,he.ext.at hr hrow,hrow,by unfold Blk.jk jkL; simpa using hl,hro,?_,?_⟩
  ·exact cellsAt_jk he (fun j hj=>(hcell r hr j (by omega)).1) hc
  ·intro h0 j hj
   have hj':j < b.cells.length:=by unfold Blk.jk jkL at hj; simpa using hj
   rw [(hcell r hr j (by omega)).2]
   exact hf h0 j hj'
 | some x =>
  obtain ⟨h0,r,cap,l,hr,h1,h2,h3,h4,h5,h6,h7,h8,h9,h10,h11⟩:=(blkMt_row hv).1 h
  have hpi:p id = true:=hp.resolve_left (by rw [hv]; simp)
  refine (blkMt_row (b:=b.jk p) (x:=x) (by unfold Blk.jk; simp only; rw [vecOf_jk]; exact hv)).2 ⟨h0,r,cap,l,he.ext.row hr hpi,h1,h2,h3,h4,h5,h6,h7,h8,h9,?_,?_⟩
  ·refine seqAt_w (fun j hj=>(hcell r hr j ?_).1) h10
   have:r.rn * x.1.length <= cap * x.1.length:=Nat.mul_le_mul_right _ h5
   omega
  ·intro j hj
   rw [(hcell r hr j hj).1,(hcell r hr j hj).2]
   exact h11 j hj
theorem Blk.jk_true {b:Blk}:b.jk (fun _=>true) = b:=by unfold Blk.jk; rw [jkL_true]
theorem blkMt_keep {N:Nat} {R:List Rg} {Q:Rg -> Prop} {β β':Beta} {ρ:Env} {w w':World} {W:List Rg} {p:Nat -> Bool} (he:ExtP p β β') (hb:BetaOk N R Q β w) (hk:Keep W w w')
  {id:Nat} {b:Blk} (hp:vecOf b.cells = none \/ p id = true) (hW:∀ r q,r ∈ W -> β id = some q -> r.apart q) (h:blkMt β ρ w id b):blkMt β' ρ w' id (b.jk p):=by
 refine blkMt_jk (Mv.of hb he) hp (fun r hr j hj=>?_) h
 have hpl:=(hb.place id r hr).resolve_left (by omega)
 refine ⟨hk.cell _ hpl fun q hq hi=>?_,hk.frz _ hpl⟩
 have:=hW q r hq hr
 unfold inRg at hi
 unfold Rg.apart at this
 simp only at hi
 omega
theorem blkMt_keep' {N:Nat} {R:List Rg} {Q:Rg -> Prop} {β β':Beta} {ρ:Env} {w w':World} {W:List Rg} (he:ExtP (fun _=>true) β β') (hb:BetaOk N R Q β w) (hk:Keep W w w')
  {id:Nat} {b:Blk} (hW:∀ r q,r ∈ W -> β id = some q -> r.apart q) (h:blkMt β ρ w id b):blkMt β' ρ w' id b:=by
 have:=blkMt_keep he hb hk (.inr rfl) hW h
 rwa [Blk.jk_true] at this

def Beta.set (β:Beta) (id:Nat) (r:Rg):Beta:=fun i=>if i = id then some r else β i
theorem Beta.set_same (β:Beta) (id:Nat) (r:Rg):β.set id r id = some r:=by simp [Beta.set]
theorem Beta.set_other (β:Beta) {id i:Nat} (r:Rg) (h:i ≠ id):β.set id r i = β i:=by simp [Beta.set,h]
theorem Beta.set_ext {β:Beta} {id:Nat} {r:Rg} (p:Nat -> Bool) (h:β id = none):ExtP p β (β.set id r):=fun i q hi _=>by
 unfold Beta.set
 by_cases e:i = id
 ·subst e; rw [h] at hi; cases hi
 ·rw [if_neg e]; exact hi
theorem BetaOk.bind {N:Nat} {R:List Rg} {Q:Rg -> Prop} {β:Beta} {w w':World} (hb:BetaOk N R Q β w) {W:List Rg} (hW:∀ r,r ∈ W -> ∃ id,β id = some r /\ r.ro = false) (hk:Keep W w w') {id:Nat} {r:Rg}
  (hap:∀ j q,j ≠ id -> β j = some q -> (r.ro = true /\ q.ro = true) \/ r.apart q) (hpl:r.len = 0 \/ r.blk < w'.heap.size) (hmay:r.ro = true \/ Cov R N r)
  (hsq:∀ ks l,r.sq = some (ks,l) -> r.ro = true /\ r.row = false /\ l.length = r.len /\ seqAt w' r.blk r.off ks l) (hrom:r.ro = true -> N <= r.blk \/ Q r) (hrw:r.row = true -> r.ro = false):BetaOk N R Q (β.set id r) w':=by
 refine ⟨fun i j a q hij hi hj=>?_,fun i a hi=>?_,fun i a hi=>?_,fun i a ks l hi hs=>?_,fun i a hi=>?_,hb.qs,fun i a hi=>?_⟩
 ·unfold Beta.set at hi hj
  by_cases ei:i = id
  ·rw [if_pos ei] at hi
   by_cases ej:j = id
   ·omega
   ·rw [if_neg ej] at hj
    cases hi
    exact hap j q ej hj
  ·rw [if_neg ei] at hi
   by_cases ej:j = id
   ·rw [if_pos ej] at hj
    cases hj
    rcases hap i a ei hi with h | h
    ·exact .inl ⟨h.2,h.1⟩
    ·exact .inr (by unfold Rg.apart at *; omega)
   ·rw [if_neg ej] at hj
    exact hb.apart i j a q hij hi hj
 ·unfold Beta.set at hi
  by_cases ei:i = id
  ·rw [if_pos ei] at hi; cases hi; exact hpl
  ·rw [if_neg ei] at hi; exact (hb.place i a hi).imp (fun x=>x) (fun h=>Nat.lt_of_lt_of_le h hk.size)
 ·unfold Beta.set at hi
  by_cases ei:i = id
  ·rw [if_pos ei] at hi; cases hi; exact hmay
  ·rw [if_neg ei] at hi; exact hb.may i a hi
 ·unfold Beta.set at hi
  by_cases ei:i = id
  ·rw [if_pos ei] at hi; cases hi; exact hsq ks l hs
  ·rw [if_neg ei] at hi
   obtain ⟨h1,h0,h2,h3⟩:=hb.sq i a ks l hi hs
   refine ⟨h1,h0,h2,seqAt_w (fun j hj=>?_) h3⟩
   have hpl:=(hb.place i a hi).resolve_left (by omega)
   refine hk.cell _ hpl fun q hq hin=>?_
   obtain ⟨id',hid,hro⟩:=hW q hq
   have hne:i ≠ id':=fun e=>by
    subst e
    rw [hi] at hid
    cases hid
    rw [h1] at hro
    cases hro
   rcases hb.apart i id' a q hne hi hid with ha | ha
   ·rw [hro] at ha; cases ha.2
   ·unfold inRg at hin
    unfold Rg.apart at ha
    simp only at hin
    omega
 ·unfold Beta.set at hi
  by_cases ei:i = id
  ·rw [if_pos ei] at hi; cases hi; exact hrom
  ·rw [if_neg ei] at hi; exact hb.rom i a hi
 ·unfold Beta.set at hi
  by_cases ei:i = id
  ·rw [if_pos ei] at hi; cases hi; exact hrw
  ·rw [if_neg ei] at hi; exact hb.rw i a hi
theorem BetaOk.new_apart {N:Nat} {R:List Rg} {Q:Rg -> Prop} {β:Beta} {w:World} (hb:BetaOk N R Q β w) {r:Rg} (h:w.heap.size <= r.blk) {j:Nat} {q:Rg} (hj:β j = some q):r.apart q:=by
 unfold Rg.apart
 rcases hb.place j q hj with h1 | h1
 ·omega
 ·exact .inl (by omega)
theorem BetaOk.alloc {N:Nat} {R:List Rg} {Q:Rg -> Prop} {β:Beta} {w:World} (hb:BetaOk N R Q β w) (hN:N <= w.heap.size) (o:Obj) {id:Nat} (n:Nat) :
  BetaOk N R Q (β.set id { blk:=w.heap.size,off:=0,len:=n,ro:=false }) (w.alloc o) :=
 hb.bind (W:=[]) (by simp) (Keep.alloc [] w o) (fun j q _ hj=>.inr (hb.new_apart (Nat.le_refl _) hj)) (.inr (by simp)) (.inr (.inl hN)) (by simp) (by simp) (by simp)
theorem BetaOk.keep {N:Nat} {R:List Rg} {Q:Rg -> Prop} {β:Beta} {w w':World} (hb:BetaOk N R Q β w) {W:List Rg} (hW:∀ r,r ∈ W -> ∃ id,β id = some r /\ r.ro = false) (h:Keep W w w'):BetaOk N R Q β w':=by
 refine ⟨hb.apart,fun i r hi=>(hb.place i r hi).imp id (fun h1=>Nat.lt_of_lt_of_le h1 h.size),hb.may,fun i r ks l hi hs=>?_,hb.rom,hb.qs,hb.rw⟩
 obtain ⟨h1,h0,h2,h3⟩:=hb.sq i r ks l hi hs
 refine ⟨h1,h0,h2,seqAt_w (fun j hj=>?_) h3⟩
 have hpl:=(hb.place i r hi).resolve_left (by omega)
 refine h.cell _ hpl fun q hq hin=>?_
 obtain ⟨id,hid,hro⟩:=hW q hq
 have hne:i ≠ id:=fun e=>by
  subst e
  rw [hi] at hid
  cases hid
  rw [h1] at hro
  cases hro
 rcases hb.apart i id r q hne hi hid with ha | ha
 ·rw [hro] at ha; cases ha.2
 ·unfold inRg at hin
  unfold Rg.apart at ha
  simp only at hin
  omega

structure Step (N:Nat) (R:List Rg) (Q:Rg -> Prop) (β:Beta) (w:World) (ids rb:List Nat) (lo hi:Nat) (β':Beta) (w':World):Prop where
 ext:ExtP (fun i=>!rb.contains i) β β'
 bo:BetaOk N R Q β' w'
 kp:∃ W,(∀ r,r ∈ W -> ∃ id,id ∈ ids /\ β id = some r /\ r.ro = false /\ ∃ j v,w.cell? ⟨r.blk,j,none⟩ = some v) /\ Keep W w w'
 dom:∀ i,(i < lo \/ hi <= i) -> i ∉ rb -> β' i = β i
 rbs:∀ i,i ∈ rb -> i ∈ ids /\ (i < lo \/ hi <= i) /\ ∃ r,β i = some r /\ r.row = true

theorem Step.refl {N:Nat} {R:List Rg} {Q:Rg -> Prop} {β:Beta} {w:World} (hb:BetaOk N R Q β w) (ids:List Nat) (lo hi:Nat):Step N R Q β w ids [] lo hi β w :=
 ⟨ExtP.refl _ β,hb,⟨[],by simp,Keep.refl _ _⟩,fun _ _ _=>rfl,by simp⟩
theorem Step.mv {N:Nat} {R:List Rg} {Q:Rg -> Prop} {β β':Beta} {w w':World} {ids rb:List Nat} {lo hi:Nat} (h:Step N R Q β w ids rb lo hi β' w') (hb:BetaOk N R Q β w):Mv (fun i=>!rb.contains i) β β':=Mv.of hb h.ext
end Go.Proofs.YtfgbfdlacnihkaaGreatDoor.Sx
namespace Go.Proofs.YtfgbfdlacnihkaaGreatDoor.Sx
open Go

theorem C.mt_oneCell {β:Beta} {ρ:Env} {c:C} {v:Value} (h:c.mt β ρ v):oneCell v = true:=C.mt_one h
theorem mtL_length {β:Beta} {ρ:Env}:∀ {l:List C} {vs:List Value},mtL β ρ l vs -> l.length = vs.length
 | [],[],_=>rfl
 | _ :: _,_ :: _,⟨_,h⟩=>by simp [mtL_length h]
theorem mtL_get {β:Beta} {ρ:Env}:∀ {l:List C} {vs:List Value},mtL β ρ l vs -> ∀ (j:Nat) (c:C),l[j]? = some c -> ∃ v,vs[j]? = some v /\ c.mt β ρ v
 | [],[],_,j,c,h=>by simp at h
 | d :: l,v :: vs,⟨h1,h2⟩,j,c,h=>by
  cases j with
  | zero=>simp at h; subst h; exact ⟨v,by simp,h1⟩
  | succ j=>simp at h; simpa using mtL_get h2 j c h
theorem mtL_cells {β:Beta} {ρ:Env} {agg:Bool} {l:List C} {v:Value} (h:mt1 β ρ agg l v):mtL β ρ l v.cells.toList:=by
 unfold mt1 at h
 cases agg
 ·obtain ⟨c,rfl,hc⟩:=h
  have:=C.mt_oneCell hc
  cases v <;> first | exact ⟨hc,trivial⟩ | (simp [oneCell] at this)
 ·obtain ⟨vs,rfl,hc⟩:=h
  exact hc

def inR (k:IntKind) (n:Int):Bool:=decide (k.min <= n) && decide (n <= k.max)
def ofC (v:Value):C :=
 match v with
 | .int k n=>if inR k n then .int k (.c n) else .val v
 | .bool b=>.bool (.c b)
 | v=>.val v
theorem ofC_mt {β:Beta} {ρ:Env} {v:Value} (h:oneCell v = true):(ofC v).mt β ρ v:=by
 unfold ofC
 split
 ·split
  ·rename_i h1; unfold inR at h1; simp at h1; exact ⟨rfl,h1⟩
  ·exact ⟨rfl,h⟩
 ·rfl
 ·exact ⟨rfl,h⟩
def ofV (v:Value):S :=
 match v with
 | .agg cs=>if cs.toList.all oneCell then .one true (cs.toList.map ofC) else .any
 | .tuple _=>.any
 | v=>.one false [ofC v]
theorem mtL_ofC {β:Beta} {ρ:Env}:∀ {l:List Value},l.all oneCell = true -> mtL β ρ (l.map ofC) l
 | [],_=>trivial
 | v :: l,h=>by simp at h; exact ⟨ofC_mt h.1,mtL_ofC (by simpa using h.2)⟩
theorem ofV_mt {β:Beta} {ρ:Env} (v:Value):(ofV v).mt β ρ v:=by
 unfold ofV
 split
 ·split
  ·rename_i h; exact ⟨_,rfl,mtL_ofC h⟩
  ·trivial
 ·trivial
 ·rename_i h1 h2; exact ⟨_,rfl,ofC_mt (by cases v <;> first | rfl | exact absurd rfl (h1 _) | exact absurd rfl (h2 _))⟩

def vEq:Value -> Value -> Bool
 | .pointer none,.pointer none | .nilIface,.nilIface | .nilFunc,.nilFunc | .map none,.map none=>true
 | .slice none a b,.slice none c d=>a == c && b == d
 | .string s,.string t=>s.data.toList == t.data.toList
 | _,_=>false
theorem vEq_sound {x y:Value} (h:vEq x y = true):x = y:=by
 unfold vEq at h
 split at h <;> try rfl
 ·simp at h; obtain ⟨rfl,rfl⟩:=h; rfl
 ·rename_i s t
  simp only [beq_iff_eq] at h
  have:s.data = t.data:=Array.toList_inj.1 h
  cases s; cases t; simp_all
 ·cases h

mutual
def ckEq:CK -> CK -> Bool
 | .int k,.int l=>k == l
 | .bool,.bool=>true
 | .pt a b,.pt c d=>a == c && b == d
 | .str,.str=>true
 | .sl l,.sl m=>cksEq l m
 | _,_=>false
def cksEq:List CK -> List CK -> Bool
 | [],[]=>true
 | x :: l,y :: m=>ckEq x y && cksEq l m
 | _,_=>false
end
mutual
theorem ckEq_sound:∀ {x y:CK},ckEq x y = true -> x = y
 | .int k,.int l,h=>by simp [ckEq] at h; rw [h]
 | .bool,.bool,_=>rfl
 | .pt a b,.pt c d,h=>by simp [ckEq] at h; rw [h.1,h.2]
 | .str,.str,_=>rfl
 | .sl l,.sl m,h=>by rw [ckEq] at h; rw [cksEq_sound h]
 | .int _,.bool,h | .int _,.pt _ _,h | .int _,.str,h | .int _,.sl _,h | .bool,.int _,h | .bool,.pt _ _,h | .bool,.str,h | .bool,.sl _,h
 | .pt _ _,.int _,h | .pt _ _,.bool,h | .pt _ _,.str,h | .pt _ _,.sl _,h | .str,.int _,h | .str,.bool,h | .str,.pt _ _,h | .str,.sl _,h
 | .sl _,.int _,h | .sl _,.bool,h | .sl _,.pt _ _,h | .sl _,.str,h=>by simp [ckEq] at h
theorem cksEq_sound:∀ {l m:List CK},cksEq l m = true -> l = m
 | [],[],_=>rfl
 | x :: l,y :: m,h=>by
  rw [cksEq,Bool.and_eq_true] at h
  rw [ckEq_sound h.1,cksEq_sound h.2]
 | [],_ :: _,h=>by simp [cksEq] at h
 | _ :: _,[],h=>by simp [cksEq] at h
end
def asStr:C -> Option A
 | .str q=>some q
 | .val (.string s)=>if inR .i64 s.size then some (.c (encS s)) else none
 | _=>none
theorem inR_spec' {k:IntKind} {n:Int} (h:inR k n = true):InR k n:=by
 unfold inR at h; simp at h; exact h
theorem asStr_mt {β:Beta} {ρ:Env} {c:C} {q:A} (h:asStr c = some q) {v:Value} (hm:c.mt β ρ v):∃ s:ByteArray,v = .string s /\ q.d ρ = encS s /\ InR .i64 s.size:=by
 unfold asStr at h
 split at h
 ·simp only [Option.some.injEq] at h
  subst h
  exact hm
 ·split at h
  ·rename_i s hs
   simp only [Option.some.injEq] at h
   subst h
   exact ⟨s,hm.1,rfl,inR_spec' hs⟩
  ·cases h
 ·cases h
def asFn:C -> Option (List (B × FV) × FV)
 | .fn l d=>some (l,d)
 | .val .nilFunc=>some ([],none)
 | .val (.func (.func f) x y)=>if x.toList.isEmpty && y.toList.isEmpty && !(f == yieldN) then some ([],some (f,[])) else none
 | _=>none
theorem asFn_mt {β:Beta} {ρ:Env} {c:C} {p:List (B × FV) × FV} (h:asFn c = some p) {v:Value} (hm:c.mt β ρ v):fvMt β (pickF ρ p.1 p.2) v:=by
 unfold asFn at h
 split at h
 ·simp only [Option.some.injEq] at h
  subst h
  exact hm
 ·simp only [Option.some.injEq] at h
  subst h
  exact hm.1
 ·split at h
  ·rename_i f x y hc
   simp only [Bool.and_eq_true,List.isEmpty_iff,Array.toList_eq_nil_iff,Bool.not_eq_true',beq_eq_false_iff_ne] at hc
   obtain ⟨⟨rfl,rfl⟩,hy⟩:=hc
   simp only [Option.some.injEq] at h
   subst h
   exact ⟨[],by rw [fvVal_ne hy]; exact hm.1,trivial⟩
  ·cases h
 ·cases h
def asEmp:C -> Bool
 | .emp=>true
 | .val (.slice none 0 0)=>true
 | _=>false
theorem asEmp_mt {β:Beta} {ρ:Env} {c:C} (h:asEmp c = true) {v:Value} (hm:c.mt β ρ v):∃ p,v = .slice p 0 0:=by
 unfold asEmp at h
 split at h
 ·exact hm
 ·exact ⟨none,hm.1⟩
 ·cases h
def asSlx (ks:List CK) (c:C):Option (A × A) :=
 match c with
 | .slx ks' q len=>if cksEq ks ks' then some (q,len) else none
 | c=>if asEmp c then some (.c 0,.c 0) else none
theorem asSlx_mt {β:Beta} {ρ:Env} {ks:List CK} {c:C} {p:A × A} (h:asSlx ks c = some p) {v:Value} (hm:c.mt β ρ v):(C.slx ks p.1 p.2).mt β ρ v:=by
 unfold asSlx at h
 split at h
 ·split at h
  ·rename_i hk
   cases h
   rw [cksEq_sound hk]
   exact hm
  ·cases h
 ·split at h
  ·rename_i he
   cases h
   obtain ⟨p,rfl⟩:=asEmp_mt he hm
   exact ⟨Int.le_refl 0,⟨show IntKind.i64.min <= 0 by decide,show 0 <= IntKind.i64.max by decide⟩,p,0,rfl,Nat.le_refl 0,.inl ⟨rfl,rfl⟩⟩
  ·cases h
def slxOf (x y:C):Option (List CK) :=
 match x with
 | .slx ks _ _=>some ks
 | _=>match y with
  | .slx ks _ _=>some ks
  | _=>none
theorem slx_ite {β:Beta} {ρ:Env} {ks:List CK} {b:Bool} {q q1 q2 l l1 l2:A} {v:Value} (hq:q.d ρ = if b then q1.d ρ else q2.d ρ) (hl:l.d ρ = if b then l1.d ρ else l2.d ρ)
  (h:if b then (C.slx ks q1 l1).mt β ρ v else (C.slx ks q2 l2).mt β ρ v):(C.slx ks q l).mt β ρ v:=by
 show slxMt β ks (q.d ρ) (l.d ρ) v
 rw [hq,hl]
 cases b <;> exact h
def andFs (b:B):List (B × FV) -> M (List (B × FV))
 | []=>pure []
 | (c,f) :: l=>do
  let d <- mkAnd b c
  let r <- andFs b l
  pure ((d,f) :: r)
theorem andFs_snd {Φ:Funs} {ρ:Env} (b:B) (m:List (B × FV)) (d e:FV):∀ (l:List (B × FV)),Snd Φ ρ (andFs b l) (fun r=>pickF ρ (r ++ (b,d) :: m) e = if b.d ρ then pickF ρ l d else pickF ρ m e)
 | []=>by
  refine Snd.pure ?_
  simp only [List.nil_append,pickF]
 | (c,f) :: l=>by
  unfold andFs
  refine Snd.bind (mkAnd_snd b c) fun x hx=>Snd.bind (andFs_snd b m d e l) fun r hr=>Snd.pure ?_
  simp only [List.cons_append,pickF,hr,hx]
  cases hb:b.d ρ <;> cases hc:c.d ρ <;> simp [pickF,hb,hc]
def muxF (b:B) (p q:List (B × FV) × FV):M C :=
 if p.1.isEmpty && q.1.isEmpty && p.2 == q.2 then pure (.fn [] p.2) else do
  let r <- andFs b p.1
  pure (.fn (r ++ (b,p.2) :: q.1) q.2)
theorem muxF_snd {Φ:Funs} {ρ:Env} (b:B) (p q:List (B × FV) × FV):Snd Φ ρ (muxF b p q) (fun z=>∀ β v,(if b.d ρ then fvMt β (pickF ρ p.1 p.2) v else fvMt β (pickF ρ q.1 q.2) v) -> z.mt β ρ v):=by
 unfold muxF
 split
 ·rename_i h
  simp only [Bool.and_eq_true,List.isEmpty_iff,beq_iff_eq] at h
  obtain ⟨⟨h1,h2⟩,h3⟩:=h
  refine Snd.pure fun β v h=>?_
  rw [h1,h2,<- h3] at h
  show fvMt β (pickF ρ [] p.2) v
  split at h <;> exact h
 ·refine Snd.bind (andFs_snd b q.1 p.2 q.2 p.1) fun r hr=>Snd.pure fun β v h=>?_
  show fvMt β (pickF ρ (r ++ (b,p.2) :: q.1) q.2) v
  rw [hr]
  split at h <;> simp_all
def muxPx (b:B) (x y:C):M C :=
 match x,y with
 | .pxm i ks a k,.pxm j ls c l=>if i == j && cksEq ks ls && k == l then do pure (.pxm i ks (<- mkIteI b a c) k) else pure .junk
 | .pix i o s n a k,.pix j p t m c l=>if i == j && o == p && s == t && n == m && k == l then do pure (.pix i o s n (<- mkIteI b a c) k) else pure .junk
 | .pxq ks q a k,.pxq ls r c l=>if cksEq ks ls && k == l then do
   let z <- mkIteI b a c
   let y <- mkIteI b q r
   pure (.pxq ks y z k) else pure .junk
 | x,y=>if asEmp x && asEmp y then pure .emp else pure .junk
theorem muxPx_snd {Φ:Funs} {ρ:Env} (b:B) (x y:C):Snd Φ ρ (muxPx b x y) (fun z=>∀ β v,(if b.d ρ then x.mt β ρ v else y.mt β ρ v) -> z.mt β ρ v):=by
 unfold muxPx
 split
 ·rename_i i ks a k j ls c l
  split
  ·rename_i h
   simp only [Bool.and_eq_true,beq_iff_eq] at h
   obtain ⟨⟨rfl,hk⟩,rfl⟩:=h
   rw [cksEq_sound hk]
   refine Snd.bind (mkIteI_snd b a c) fun z hz=>Snd.pure fun β v h=>?_
   show 0 <= z.d ρ /\ ∃ r,β _ = some r /\ r.row = true /\ (z.d ρ).toNat < r.rn /\ v = .pointer (some ⟨r.blk,r.off + ((z.d ρ).toNat * ls.length + _),none⟩)
   rw [hz]
   split at h
   ·rename_i hb; rw [if_pos hb]; exact h
   ·rename_i hb; rw [if_neg hb]; exact h
  ·exact Snd.pure fun β v h=>by split at h <;> exact C.mt_oneCell h
 ·rename_i i o s n a k j p t m c l
  split
  ·rename_i h
   simp only [Bool.and_eq_true,beq_iff_eq] at h
   obtain ⟨⟨⟨⟨rfl,rfl⟩,rfl⟩,rfl⟩,rfl⟩:=h
   refine Snd.bind (mkIteI_snd b a c) fun z hz=>Snd.pure fun β v h=>?_
   show 0 <= z.d ρ /\ z.d ρ < _ /\ ∃ r,β _ = some r /\ v = .pointer (some ⟨r.blk,r.off + (_ + (z.d ρ).toNat * _ + _),none⟩)
   rw [hz]
   split at h
   ·rename_i hb; rw [if_pos hb]; exact h
   ·rename_i hb; rw [if_neg hb]; exact h
  ·exact Snd.pure fun β v h=>by split at h <;> exact C.mt_oneCell h
 ·rename_i ks q a k ls r c l
  split
  ·rename_i h
   simp only [Bool.and_eq_true,beq_iff_eq] at h
   obtain ⟨hk,rfl⟩:=h
   rw [cksEq_sound hk]
   refine Snd.bind (mkIteI_snd b a c) fun z hz=>Snd.bind (mkIteI_snd b q r) fun y hy=>Snd.pure fun β v h=>?_
   show 0 <= z.d ρ /\ ∃ i r o l,β i = some r /\ partSq r ls o l /\ y.d ρ = enc l /\ ((z.d ρ).toNat + 1) * ls.length <= l.length /\ v = .pointer (some ⟨r.blk,r.off + o + ((z.d ρ).toNat * ls.length + _),none⟩)
   rw [hz,hy]
   split at h
   ·rename_i hb; rw [if_pos hb,if_pos hb]; exact h
   ·rename_i hb; rw [if_neg hb,if_neg hb]; exact h
  ·exact Snd.pure fun β v h=>by split at h <;> exact C.mt_oneCell h
 ·split
  ·rename_i he
   simp only [Bool.and_eq_true] at he
   exact Snd.pure fun β v h=>by split at h <;> first | exact asEmp_mt he.1 h | exact asEmp_mt he.2 h
  ·exact Snd.pure fun β v h=>by split at h <;> exact C.mt_oneCell h
def muxO (b:B) (x y:C):M C :=
 match asStr x,asStr y with
 | some p,some q=>do pure (.str (<- mkIteI b p q))
 | _,_=>match asFn x,asFn y with
  | some p,some q=>muxF b p q
  | _,_=>match slxOf x y with
   | some ks=>match asSlx ks x,asSlx ks y with
    | some p,some q=>do
     let s <- mkIteI b p.1 q.1
     let l <- mkIteI b p.2 q.2
     pure (.slx ks s l)
    | _,_=>pure .junk
   | none=>match x,y with
    | .mp i,.mp j=>if i == j then pure (.mp i) else pure .junk
    | .slm i ks,.slm j ls=>if i == j && cksEq ks ls then pure (.slm i ks) else pure .junk
    | x,y=>muxPx b x y
theorem muxO_snd {Φ:Funs} {ρ:Env} (b:B) (x y:C):Snd Φ ρ (muxO b x y) (fun z=>∀ β v,(if b.d ρ then x.mt β ρ v else y.mt β ρ v) -> z.mt β ρ v):=by
 unfold muxO
 split
 ·rename_i p q hp hq
  refine Snd.bind (mkIteI_snd b p q) fun z hz=>Snd.pure fun β v h=>?_
  show ∃ s:ByteArray,v = .string s /\ z.d ρ = encS s /\ InR .i64 s.size
  rw [hz]
  split at h
  ·rename_i hb; simp only [hb,if_true]; exact asStr_mt hp h
  ·rename_i hb; simp only [hb]; exact asStr_mt hq h
 ·split
  ·rename_i p q hp hq
   refine (muxF_snd b p q).mono fun z hz β v h=>hz β v ?_
   split at h
   ·rename_i hb; rw [if_pos hb]; exact asFn_mt hp h
   ·rename_i hb; rw [if_neg hb]; exact asFn_mt hq h
  ·split
   ·split
    ·rename_i ks hk p q hp hq
     refine Snd.bind (mkIteI_snd b p.1 q.1) fun s hs=>Snd.bind (mkIteI_snd b p.2 q.2) fun l hl=>Snd.pure fun β v h=>slx_ite hs hl ?_
     split at h
     ·rename_i hb; rw [if_pos hb]; exact asSlx_mt hp h
     ·rename_i hb; rw [if_neg hb]; exact asSlx_mt hq h
    ·exact Snd.pure fun β v h=>by split at h <;> exact C.mt_oneCell h
   ·split
    ·split
     ·rename_i i j h
      simp only [beq_iff_eq] at h
      subst h
      exact Snd.pure fun β v h=>by split at h <;> exact h
     ·exact Snd.pure fun β v h=>by split at h <;> exact C.mt_oneCell h
    ·split
     ·rename_i i ks j ls h
      simp only [Bool.and_eq_true,beq_iff_eq] at h
      obtain ⟨rfl,hk⟩:=h
      rw [cksEq_sound hk]
      exact Snd.pure fun β v h=>by split at h <;> exact h
     ·exact Snd.pure fun β v h=>by split at h <;> exact C.mt_oneCell h
    ·exact muxPx_snd b _ _
def muxC (b:B) (x y:C):M C :=
 match x,y with
 | .slx ks q l,.slx ks' q' l'=>if cksEq ks ks' && q.eq q' && l.eq l' then pure (.slx ks q l) else muxO b (.slx ks q l) (.slx ks' q' l')
 | .int k a,.int l c=>if k == l then do pure (.int k (<- mkIteI b a c)) else pure .junk
 | .bool a,.bool c=>do pure (.bool (<- mkIteB b a c))
 | .ptr [] i o,.ptr l i' o'=>if l.isEmpty && i == i' && o == o' then pure (.ptr [] i o) else pure (.ptr ((b,i,o) :: l) i' o')
 | .val u,.val v=>if vEq u v then pure (.val u) else muxO b (.val u) (.val v)
 | .sli i o l c,.sli i' o' l' c'=>if i == i' && o == o' && l == l' && c == c' then pure (.sli i o l c) else pure .junk
 | x,y=>muxO b x y
def muxL (b:B):List C -> List C -> M (List C)
 | [],[]=>pure []
 | x :: xs,y :: ys=>do
  let z <- muxC b x y
  let zs <- muxL b xs ys
  pure (z :: zs)
 | _,_=>M.fail
section
variable {Φ:Funs} {ρ:Env}
theorem muxC_snd (b:B) (x y:C):Snd Φ ρ (muxC b x y) (fun z=>∀ β v,(if b.d ρ then x.mt β ρ v else y.mt β ρ v) -> z.mt β ρ v):=by
 unfold muxC
 split
 ·split
  ·rename_i h
   simp only [Bool.and_eq_true,beq_iff_eq] at h
   obtain ⟨⟨h1,h2⟩,h3⟩:=h
   rw [cksEq_sound h1,A.eq_sound h2,A.eq_sound h3]
   exact Snd.pure fun β v h=>by split at h <;> exact h
  ·exact muxO_snd b _ _
 ·split
  ·rename_i k a l c h
   simp only [beq_iff_eq] at h
   subst h
   refine Snd.bind (mkIteI_snd b a c) fun z hz=>Snd.pure fun β v h=>?_
   show v = .int _ (z.d ρ) /\ InR _ (z.d ρ)
   rw [hz]
   split at h <;> simp_all [C.mt]
  ·refine Snd.pure fun β v h=>?_
   split at h <;> exact C.mt_oneCell h
 ·rename_i a c
  refine Snd.bind (mkIteB_snd b a c) fun z hz=>Snd.pure fun β v h=>?_
  show v = .bool (z.d ρ)
  rw [hz]
  split at h <;> simp_all [C.mt]
 ·split
  ·rename_i h
   simp only [Bool.and_eq_true,beq_iff_eq,List.isEmpty_iff] at h
   obtain ⟨⟨rfl,rfl⟩,rfl⟩:=h
   exact Snd.pure fun β v h=>by split at h <;> exact h
  ·refine Snd.pure fun β v h=>?_
   unfold C.mt pick
   split at h
   ·rename_i hb; simp only [hb,if_true]; exact h
   ·rename_i hb; simp only [hb]; exact h
 ·split
  ·rename_i h
   rw [vEq_sound h]
   exact Snd.pure fun β v h=>by split at h <;> exact h
  ·exact muxO_snd b _ _
 ·split
  ·rename_i h
   simp only [Bool.and_eq_true,beq_iff_eq] at h
   obtain ⟨⟨⟨rfl,rfl⟩,rfl⟩,rfl⟩:=h
   exact Snd.pure fun β v h=>by split at h <;> exact h
  ·refine Snd.pure fun β v h=>?_
   split at h <;> exact C.mt_oneCell h
 ·exact muxO_snd b _ _
theorem muxL_snd (b:B):∀ (xs ys:List C),Snd Φ ρ (muxL b xs ys) (fun zs=>zs.length = xs.length /\ xs.length = ys.length /\ (∀ β vs,(if b.d ρ then mtL β ρ xs vs else mtL β ρ ys vs) -> mtL β ρ zs vs) /\
  ∀ β w k o,(if b.d ρ then cellsAt β ρ w k o xs else cellsAt β ρ w k o ys) -> cellsAt β ρ w k o zs)
 | [],[]=>Snd.pure ⟨rfl,rfl,fun β vs h=>by simpa using h,fun _ _ _ _ h=>by simpa using h⟩
 | x :: xs,y :: ys=>by
  unfold muxL
  refine Snd.bind (muxC_snd b x y) fun z hz=>Snd.bind (muxL_snd b xs ys) fun zs hzs=>Snd.pure ?_
  obtain ⟨h1,h2,h3,h4⟩:=hzs
  refine ⟨by simp [h1],by simp [h2],fun β vs h=>?_,fun β w k o h=>?_⟩
  ·cases vs with
   | nil=>split at h <;> exact h.elim
   | cons v vs =>
    refine ⟨hz β v ?_,h3 β vs ?_⟩
    ·split <;> simp_all [mtL]
    ·split <;> simp_all [mtL]
  ·have hc:(if b.d ρ then ∃ v,w.cell? ⟨k,o,none⟩ = some v /\ x.mt β ρ v else ∃ v,w.cell? ⟨k,o,none⟩ = some v /\ y.mt β ρ v):=by
    split <;> simp_all [cellsAt]
   refine ⟨?_,h4 β w k (o + 1) (by split <;> simp_all [cellsAt])⟩
   split at hc
   ·rename_i hb; obtain ⟨v,hv,hm⟩:=hc; exact ⟨v,hv,hz β v (by rw [if_pos hb]; exact hm)⟩
   ·rename_i hb; obtain ⟨v,hv,hm⟩:=hc; exact ⟨v,hv,hz β v (by rw [if_neg hb]; exact hm)⟩
 | [],_ :: _=>Snd.fail
 | _ :: _,[]=>Snd.fail
end
def mux1 (b:B) (x y:Bool × List C):M (Option (Bool × List C)) :=
 if x.1 == y.1 && x.2.length == y.2.length then do pure (some (x.1,<- muxL b x.2 y.2)) else pure none
def muxT (b:B):List (Bool × List C) -> List (Bool × List C) -> M (Option (List (Bool × List C)))
 | [],[]=>pure (some [])
 | x :: l,y :: m=>do
  let z <- mux1 b x y
  let r <- muxT b l m
  pure (match z,r with
   | some z,some r=>some (z :: r)
   | _,_=>none)
 | _,_=>pure none
def muxS (b:B) (x y:S):M S :=
 match x,y with
 | .one p l,.one q m=>do
  let z <- mux1 b (p,l) (q,m)
  pure (match z with
   | some z=>.one z.1 z.2
   | none=>.any)
 | .tup l,.tup m=>do
  let z <- muxT b l m
  pure (match z with
   | some z=>.tup z
   | none=>.any)
 | _,_=>pure .any
theorem mux1_snd {Φ:Funs} {ρ:Env} (b:B) (x y:Bool × List C):Snd Φ ρ (mux1 b x y) (fun z=>∀ r,z = some r -> ∀ β v,(if b.d ρ then mt1 β ρ x.1 x.2 v else mt1 β ρ y.1 y.2 v) -> mt1 β ρ r.1 r.2 v):=by
 obtain ⟨p,l⟩:=x
 obtain ⟨q,m⟩:=y
 unfold mux1
 split
 ·rename_i h
  simp only [Bool.and_eq_true,beq_iff_eq] at h
  obtain ⟨rfl,_⟩:=h
  refine Snd.bind (muxL_snd b l m) fun z hz=>Snd.pure fun r hr β v h=>?_
  cases hr
  obtain ⟨h1,h2,h3,_⟩:=hz
  simp only at h ⊢
  unfold mt1 at *
  cases p
  ·simp only [Bool.false_eq_true,if_false] at *
   have hc:∃ c,(if b.d ρ then l else m) = [c] /\ c.mt β ρ v:=by split at h <;> simp_all
   obtain ⟨c,hc1,hc2⟩:=hc
   have hlen:z.length = 1:=by
    split at hc1
    ·rw [h1,hc1]; rfl
    ·rw [h1,h2,hc1]; rfl
   match z,hlen,h3 with
   | [d],_,h3 =>
    have:=h3 β [v] (by split at hc1 <;> (rename_i hb; simp only [hb]; simp only [hc1]; first | exact ⟨hc2,trivial⟩ | (rw [if_neg (by simp)]; exact ⟨hc2,trivial⟩)))
    exact ⟨d,rfl,this.1⟩
  ·simp only [if_true] at *
   have hc:∃ vs,v = .agg vs /\ (if b.d ρ then mtL β ρ l vs.toList else mtL β ρ m vs.toList):=by split at h <;> simp_all
   obtain ⟨vs,hv,hm⟩:=hc
   exact ⟨vs,hv,h3 β _ hm⟩
 ·exact Snd.pure fun r hr=>by cases hr
theorem muxT_snd {Φ:Funs} {ρ:Env} (b:B):∀ (l m:List (Bool × List C)),Snd Φ ρ (muxT b l m) (fun z=>∀ r,z = some r -> ∀ β vs,(if b.d ρ then mtT β ρ l vs else mtT β ρ m vs) -> mtT β ρ r vs)
 | [],[]=>Snd.pure fun r hr β vs h=>by cases hr; simpa using h
 | x :: l,y :: m=>by
  unfold muxT
  refine Snd.bind (mux1_snd b x y) fun z hz=>Snd.bind (muxT_snd b l m) fun r hr=>Snd.pure fun q hq β vs h=>?_
  cases z with
  | none=>cases hq
  | some z =>
   cases r with
   | none=>cases hq
   | some r =>
    cases hq
    cases vs with
    | nil=>split at h <;> exact h.elim
    | cons v vs =>
     refine ⟨hz z rfl β v ?_,hr r rfl β vs ?_⟩
     ·split at h
      ·rename_i hb; rw [if_pos hb]; exact h.1
      ·rename_i hb; rw [if_neg hb]; exact h.1
     ·split at h
      ·rename_i hb; rw [if_pos hb]; exact h.2
      ·rename_i hb; rw [if_neg hb]; exact h.2
 | [],_ :: _=>Snd.pure fun r hr=>by cases hr
 | _ :: _,[]=>Snd.pure fun r hr=>by cases hr
theorem muxS_snd {Φ:Funs} {ρ:Env} (b:B) (x y:S):Snd Φ ρ (muxS b x y) (fun z=>∀ β v,(if b.d ρ then x.mt β ρ v else y.mt β ρ v) -> z.mt β ρ v):=by
 unfold muxS
 split
 ·rename_i p l q m
  refine Snd.bind (mux1_snd b (p,l) (q,m)) fun z hz=>Snd.pure fun β v h=>?_
  cases z with
  | none=>trivial
  | some z=>exact hz z rfl β v h
 ·rename_i l m
  refine Snd.bind (muxT_snd b l m) fun z hz=>Snd.pure fun β v h=>?_
  cases z with
  | none=>trivial
  | some z =>
   have hc:∃ vs,v = .tuple vs /\ (if b.d ρ then mtT β ρ l vs.toList else mtT β ρ m vs.toList):=by
    split at h
    ·rename_i hb; obtain ⟨vs,h1,h2⟩:=h; exact ⟨vs,h1,by rw [if_pos hb]; exact h2⟩
    ·rename_i hb; obtain ⟨vs,h1,h2⟩:=h; exact ⟨vs,h1,by rw [if_neg hb]; exact h2⟩
   obtain ⟨vs,h1,h2⟩:=hc
   exact ⟨vs,h1,hz z rfl β _ h2⟩
 ·exact Snd.pure fun _ _ _=>trivial

def lift {α:Type} (o:Option α):M α :=
 match o with
 | some x=>pure x
 | none=>M.fail
theorem lift_snd {α:Type} {Φ:Funs} {ρ:Env} (o:Option α):Snd Φ ρ (lift o) (fun x=>o = some x):=by
 cases o with
 | none=>exact Snd.fail
 | some x=>exact Snd.pure rfl

def ldC (Γ:Gd) (hp:Hp) (id off n:Nat):Option (List C) :=
 match hp id with
 | some b=>if Gd.sub b.g Γ && Nat.ble (off + n) b.cells.length && (vecOf b.cells).isNone then some ((b.cells.drop off).take n) else none
 | none=>none
theorem ldC_spec {Γ:Gd} {hp:Hp} {ρ:Env} {β:Beta} {w:World} (hΓ:Gd.d ρ Γ = true) (hh:heapMt β ρ hp w) {id off n:Nat} {l:List C}
  (h:ldC Γ hp id off n = some l):l.length = n /\ ∃ r,β id = some r /\ cellsAt β ρ w r.blk (r.off + off) l:=by
 unfold ldC at h
 split at h
 ·rename_i b hb
  split at h
  ·rename_i hc
   simp only [Bool.and_eq_true,Nat.ble_eq,Option.isNone_iff_eq_none] at hc
   obtain ⟨hc,hv⟩:=hc
   simp only [Option.some.injEq] at h
   obtain ⟨r,hr,_,hl,_,hcs,_⟩:=(blkMt_cs hv).1 (hh id b hb (Gd.sub_d hc.1 hΓ))
   subst h
   refine ⟨by simp; omega,r,hr,?_⟩
   rw [cellsAt_iff] at *
   intro j c hj
   rw [List.getElem?_take] at hj
   split at hj
   ·rw [List.getElem?_drop] at hj
    have:=hcs _ _ hj
    rwa [<- Nat.add_assoc] at this
   ·cases hj
  ·cases h
 ·cases h

def ldAlt (Γ:Gd) (hp:Hp) (n:Nat):List (B × Nat × Nat) -> Nat -> Nat -> M (List C)
 | [],id,off=>lift (ldC Γ hp id off n)
 | (b,i,o) :: l,id,off=>do
  let x <- lift (ldC Γ hp i o n)
  let y <- ldAlt Γ hp n l id off
  muxL b x y
theorem ldAlt_snd {Φ:Funs} {ρ:Env} {Γ:Gd} {hp:Hp} (hΓ:Gd.d ρ Γ = true) (n:Nat) (id off:Nat):∀ (l:List (B × Nat × Nat)),
  Snd Φ ρ (ldAlt Γ hp n l id off) (fun x=>x.length = n /\ ∀ β w,heapMt β ρ hp w -> ∃ r,β (pick ρ l id off).1 = some r /\ cellsAt β ρ w r.blk (r.off + (pick ρ l id off).2) x)
 | []=>by
  unfold ldAlt pick
  refine (lift_snd _).mono fun x hx=>?_
  refine ⟨?_,fun β w hh=>(ldC_spec hΓ hh hx).2⟩
  unfold ldC at hx
  split at hx
  ·split at hx
   ·rename_i hc
    simp only [Bool.and_eq_true,Nat.ble_eq] at hc
    simp only [Option.some.injEq] at hx
    subst hx
    simp; omega
   ·cases hx
  ·cases hx
 | (b,i,o) :: l=>by
  unfold ldAlt
  refine Snd.bind (lift_snd _) fun x hx=>Snd.bind (ldAlt_snd hΓ n id off l) fun y hy=>(muxL_snd b x y).mono fun z hz=>?_
  obtain ⟨h1,h2,h3,h4⟩:=hz
  obtain ⟨hy1,hy2⟩:=hy
  refine ⟨by omega,fun β w hh=>?_⟩
  unfold pick
  split
  ·rename_i hb
   obtain ⟨_,r,hr,hc⟩:=ldC_spec hΓ hh hx
   exact ⟨r,hr,h4 _ _ _ _ (by rw [if_pos hb]; exact hc)⟩
  ·rename_i hb
   obtain ⟨r,hr,hc⟩:=hy2 β w hh
   exact ⟨r,hr,h4 _ _ _ _ (by rw [if_neg hb]; exact hc)⟩

theorem cellsAt_values {β:Beta} {ρ:Env} {w:World} {b:Nat}:∀ {o:Nat} {l:List C},cellsAt β ρ w b o l ->
  ∃ vs:List Value,vs.length = l.length /\ mtL β ρ l vs /\ ∀ j v,vs[j]? = some v -> w.cell? ⟨b,o + j,none⟩ = some v
 | o,[],_=>⟨[],rfl,trivial,by simp⟩
 | o,c :: cs,⟨⟨v,hv,hm⟩,h⟩=>by
  obtain ⟨vs,h1,h2,h3⟩:=cellsAt_values h
  refine ⟨v :: vs,by simp [h1],⟨hm,h2⟩,fun j u hj=>?_⟩
  cases j with
  | zero=>simp at hj; subst hj; exact hv
  | succ j=>simp at hj; have:=h3 j u hj; rwa [show o + 1 + j = o + (j + 1) by omega] at this

theorem add_lit (b o n:Nat):Addr.add ⟨b,o,none⟩ n = ⟨b,o + n,none⟩:=by
 unfold Addr.add
 split
 ·subst_vars; rfl
 ·rfl

def tyN (P:Program) (t:TypeId):Option (Bool × Nat) :=
 match P.underlying t,P.info? t with
 | some (.struct _),some i=>some (true,i.size)
 | some (.array _ _),some i=>some (true,i.size)
 | some _,some i=>if i.size == 1 then some (false,1) else none
 | _,_=>none
theorem tyN_isAgg {P:Program} {t:TypeId} {agg:Bool} {n:Nat} (h:tyN P t = some (agg,n)) (w:World):(isAgg t).run P w = .ok agg w /\ (sizeOf t).run P w = .ok n w /\ (agg = false -> n = 1):=by
 unfold tyN at h
 split at h <;> try (simp at h; done)
 ·rename_i f i h1 h2
  simp only [Option.some.injEq,Prod.mk.injEq] at h
  obtain ⟨rfl,rfl⟩:=h
  simp [isAgg,underlying,h1,sizeOf,typeInfo,h2]
 ·rename_i f g i h1 h2
  simp only [Option.some.injEq,Prod.mk.injEq] at h
  obtain ⟨rfl,rfl⟩:=h
  simp [isAgg,underlying,h1,sizeOf,typeInfo,h2]
 ·rename_i d i hns hna h1 h2
  split at h
  ·rename_i h3
   simp only [beq_iff_eq] at h3
   simp only [Option.some.injEq,Prod.mk.injEq] at h
   obtain ⟨rfl,rfl⟩:=h
   refine ⟨?_,by simp [sizeOf,typeInfo,h2,h3],fun _=>rfl⟩
   cases d <;> first | (simp [isAgg,underlying,h1]; done) | (exfalso; simp_all; done)
  ·cases h

theorem run_loadVar {P:Program} {t:TypeId} {agg:Bool} {n:Nat} (ht:tyN P t = some (agg,n)) {β:Beta} {ρ:Env} {w:World} {b o:Nat} {l:List C} (hl:l.length = n)
  (hc:cellsAt β ρ w b o l):∃ v,(loadVar t ⟨b,o,none⟩).run P w = .ok v w /\ mt1 β ρ agg l v:=by
 obtain ⟨h1,h2,h3⟩:=tyN_isAgg ht w
 obtain ⟨vs,hvl,hm,hv⟩:=cellsAt_values hc
 unfold loadVar
 rw [Sem.run_bind,h1]
 cases agg
 ·have hn:=h3 rfl
  simp only [Result.andThen_ok,Bool.false_eq_true,if_false]
  match l,vs,hvl,hm with
  | [c],[v],_,hm =>
   have:=hv 0 v (by simp)
   simp only [Nat.add_zero] at this
   exact ⟨v,by simp [run_load,this],c,rfl,hm.1⟩
  | [],_,_,_=>simp at hl; omega
  | _ :: _ :: _,_,_,_=>simp at hl; omega
 ·simp only [Result.andThen_ok,if_true,Sem.run_bind,h2]
  refine ⟨.agg vs.toArray,?_,vs.toArray,rfl,by simpa using hm⟩
  have:=run_loadCells_list (P:=P) w ⟨b,o,none⟩ vs (fun j v hj=>by rw [add_lit]; exact hv j v hj)
  rw [<- hl,<- hvl,this]
  simp

theorem run_storeCells {P:Program} {b o:Nat}:∀ (vs:List Value) (i:Nat) (w:World),(∀ v,v ∈ vs -> oneCell v = true) ->
  (∀ j,j < vs.length -> (∃ u,w.cell? ⟨b,o + i + j,none⟩ = some u) /\ w.frozen? ⟨b,o + i + j,none⟩ = false) ->
  ∃ w',(storeCells ⟨b,o,none⟩ vs i).run P w = .ok () w' /\ (∀ j v,vs[j]? = some v -> w'.cell? ⟨b,o + i + j,none⟩ = some v) /\
   Keep [{ blk:=b,off:=o + i,len:=vs.length,ro:=false }] w w' /\ (∀ a:Addr,¬ inRg { blk:=b,off:=o + i,len:=vs.length,ro:=false } a -> w'.cell? a = w.cell? a)
 | [],i,w,_,_=>⟨w,rfl,by simp,Keep.refl _ _,fun _ _=>rfl⟩
 | v :: vs,i,w,ho,hc=>by
  obtain ⟨⟨u,hu⟩,hf⟩:=hc 0 (by simp)
  simp only [Nat.add_zero] at hu hf
  have hv:(Value.oneCell' v) = true:=by
   have:=ho v (by simp)
   cases v <;> first | rfl | (simp [oneCell] at this)
  have hs:(store (Addr.add ⟨b,o,none⟩ i) v).run P w = .ok () (w.setCell ⟨b,o + i,none⟩ v):=by
   rw [run_store P w _ v .plain hv,add_lit,hu]
   simp [hf]
  have hlt:=World.block_lt_of_cell? w _ hu
  obtain ⟨w',h1,h2,h3,h4⟩:=run_storeCells vs (i + 1) (w.setCell ⟨b,o + i,none⟩ v) (fun x hx=>ho x (by simp [hx])) (fun j hj=>by
   obtain ⟨⟨u',hu'⟩,hf'⟩:=hc (j + 1) (by simp; omega)
   rw [show o + (i + 1) + j = o + i + (j + 1) by omega]
   refine ⟨⟨u',?_⟩,?_⟩
   ·rw [World.cell?_setCell_other _ _ _ _ (by simp)]; exact hu'
   ·rw [World.frozen?_setCell]; exact hf')
  refine ⟨w',?_,fun j x hx=>?_,?_,fun a ha=>?_⟩
  ·unfold storeCells
   rw [Sem.run_bind,hs]
   exact h1
  ·cases j with
   | zero =>
    simp at hx
    subst hx
    rw [Nat.add_zero,h4 _ (by unfold inRg; simp; omega)]
    exact World.cell?_setCell_same _ _ _ hu
   | succ j =>
    simp at hx
    have:=h2 j x hx
    rwa [show o + (i + 1) + j = o + i + (j + 1) by omega] at this
  ·have k1:Keep [{ blk:=b,off:=o + i,len:=(v :: vs).length,ro:=false }] w (w.setCell ⟨b,o + i,none⟩ v) :=
    Keep.setCell v (List.mem_singleton.2 rfl) (by unfold inRg; simp)
   refine k1.trans h3 fun r hr=>?_
   simp only [List.mem_singleton] at hr
   subst hr
   exact .inr ⟨_,List.mem_singleton.2 rfl,rfl,by simp,by simp; omega⟩
  ·rw [h4 a (fun h=>ha (by unfold inRg at *; simp at *; omega))]
   exact World.cell?_setCell_other _ _ _ _ (fun e=>ha (by subst e; unfold inRg; simp))
end Go.Proofs.YtfgbfdlacnihkaaGreatDoor.Sx
namespace Go.Proofs.YtfgbfdlacnihkaaGreatDoor.Sx
open Go

structure Res where
 s:S
 w:List (Nat × Blk)
 rb:List Nat:=[]

def OpG (P:Program) (o:Oper) (a:Act) (w:World) (Post:Value -> World -> Prop):Prop :=
 ∀ (next:Act -> World -> Prop) (Q:Exit -> Act -> World -> Prop),(∀ v w',Post v w' -> next (a.put o.dst v) w') -> o.wp P a w next Q
section
variable {P:Program} {o:Oper} {a:Act} {w w':World} {Post:Value -> World -> Prop}
theorem OpG.value {v:Value} (h:(execOp a.eval o).run P w = .ok (.value v) w') (hp:Post v w'):OpG P o a w Post:=by
 intro next Q hn
 unfold Oper.wp
 rw [h]
 exact hn v w' hp
theorem OpG.skip (h:(execOp a.eval o).run P w = .ok .skip w') (hp:Post undef w'):OpG P o a w Post:=by
 intro next Q hn
 unfold Oper.wp
 rw [h]
 exact hn undef w' hp
theorem OpG.calls {f:FuncId} {args:Array Value} (h:(execOp a.eval o).run P w = .ok (.enter f args) w')
  (hc:Calls P f args w' fun e w''=>∃ v,e = .returned v /\ Post v w''):OpG P o a w Post:=by
 intro next Q hn
 unfold Oper.wp
 rw [h]
 refine Calls.mono hc fun e w'' he=>?_
 obtain ⟨v,rfl,hp⟩:=he
 exact hn v w'' hp
theorem OpG.mono {Post':Value -> World -> Prop} (h:OpG P o a w Post) (hp:∀ v w',Post v w' -> Post' v w'):OpG P o a w Post' :=
 fun next Q hn=>h next Q fun v w' hv=>hn v w' (hp v w' hv)
end

def RPost (N:Nat) (R:List Rg) (Q:Rg -> Prop) (ρ:Env) (β:Beta) (w:World) (lo hi:Nat) (res:Res) (v:Value) (w':World):Prop :=
 ∃ β',Step N R Q β w (res.w.map (·.1)) res.rb lo hi β' w' /\ res.s.mt β' ρ v /\ ∀ p,p ∈ res.w -> blkMt β' ρ w' p.1 p.2

def LOk (P:Program) (Φ:Funs) (G:Beta -> World -> Prop) (Γ:Gd) (hp:Hp) (rv:Operand -> SV) (o:Oper) (m:M Res):Prop :=
 ∀ ρ c res c' out,m c = some (res,c',out) -> Good Φ ρ out -> Gd.d ρ Γ = true -> ∀ (N:Nat) (R:List Rg) (Q:Rg -> Prop) (β:Beta) (a:Act) (w:World),
  (∀ x,x ∈ o.op.operands -> (rv x).mt β ρ (a.eval x)) -> heapMt β ρ hp w -> BetaOk N R Q β w -> N <= w.heap.size -> G β w ->
  (∀ i,c.id <= i -> i < c'.id -> β i = none) -> OpG P o a w (RPost N R Q ρ β w c.id c'.id res)

theorem LOk.fail {P:Program} {Φ:Funs} {G:Beta -> World -> Prop} {Γ:Gd} {hp:Hp} {rv:Operand -> SV} {o:Oper}:LOk P Φ G Γ hp rv o M.fail :=
 fun _ _ _ _ _ h=>by cases h

def Pure (P:Program) (Γ:Gd) (hp:Hp) (rv:Operand -> SV) (o:Oper) (ρ:Env) (s:S):Prop :=
 ∀ (β:Beta) (a:Act) (w:World),(∀ x,x ∈ o.op.operands -> (rv x).mt β ρ (a.eval x)) -> heapMt β ρ hp w -> SqOk β w -> ∃ v,(execOp a.eval o).run P w = .ok (.value v) w /\ s.mt β ρ v
theorem LOk.of_pure {P:Program} {Φ:Funs} {G:Beta -> World -> Prop} {Γ:Gd} {hp:Hp} {rv:Operand -> SV} {o:Oper} {m:M S}
  (h:∀ ρ,Gd.d ρ Γ = true -> Snd Φ ρ m (Pure P Γ hp rv o ρ)):LOk P Φ G Γ hp rv o (do pure { s:=<- m,w:=[] }):=by
 intro ρ c res c' out he hg hΓ N R Q β a w hx hh hb hN hG hf
 have h1:Snd Φ ρ (do pure { s:=<- m,w:=[] }:M Res) (fun r=>(r.w = [] /\ r.rb = []) /\ Pure P Γ hp rv o ρ r.s) :=
  Snd.bind (h ρ hΓ) fun s hs=>Snd.pure ⟨⟨rfl,rfl⟩,hs⟩
 obtain ⟨⟨hw,hrb⟩,hs⟩:=h1 c res c' out he hg
 obtain ⟨v,hv,hm⟩:=hs β a w hx hh hb.sq
 refine OpG.value hv ⟨β,hrb ▸ Step.refl hb _ _ _,hm,?_⟩
 rw [hw]
 simp

def rs (Γ:Gd) (x:SV):S:=if Gd.sub x.g Γ then x.s else .any
theorem rs_mt {Γ:Gd} {ρ:Env} (hΓ:Gd.d ρ Γ = true) {x:SV} {β:Beta} {v:Value} (h:x.mt β ρ v):(rs Γ x).mt β ρ v:=by
 unfold rs
 split
 ·rename_i hs; exact h.1 (Gd.sub_d hs hΓ)
 ·trivial

section ops
variable {P:Program} {Φ:Funs} {Γ:Gd} {hp:Hp} {rv:Operand -> SV} {dst:Option Tmp} {ty:TypeId} {pos:String} {after:Array Edge} {guard:Option (Nat × Bool)} {ρ:Env}

theorem pure_move (hΓ:Gd.d ρ Γ = true) (x:Operand):Snd Φ ρ (pure (rs Γ (rv x)):M S) (Pure P Γ hp rv ⟨dst,.move x,ty,pos,after,guard⟩ ρ) :=
 Snd.pure fun β a w hx hh hq=>⟨_,rfl,rs_mt hΓ (hx x (by simp [Op.operands]))⟩
theorem pure_assign (hΓ:Gd.d ρ Γ = true) (x:Operand):Snd Φ ρ (pure (rs Γ (rv x)):M S) (Pure P Γ hp rv ⟨dst,.assign x,ty,pos,after,guard⟩ ρ) :=
 Snd.pure fun β a w hx hh hq=>⟨_,rfl,rs_mt hΓ (hx x (by simp [Op.operands]))⟩

def xPick (Γ:Gd) (c a b:SV):M S :=
 match rs Γ c with
 | .one false [.bool k]=>match k with
  | .c true=>pure (rs Γ a)
  | .c false=>pure (rs Γ b)
  | k=>muxS k (rs (Γ ++ [(k,true)]) a) (rs (Γ ++ [(k,false)]) b)
 | _=>M.fail
theorem pure_pick (hΓ:Gd.d ρ Γ = true) (c x y:Operand):Snd Φ ρ (xPick Γ (rv c) (rv x) (rv y)) (Pure P Γ hp rv ⟨dst,.pick c x y,ty,pos,after,guard⟩ ρ):=by
 unfold xPick
 split
 ·rename_i k hk
  have key:∀ β (a:Act),(rv c).mt β ρ (a.eval c) -> a.eval c = .bool (k.d ρ):=fun β a h=>by
   have:=rs_mt hΓ h
   rw [hk] at this
   obtain ⟨d,hd,hm⟩:=this
   simp only [List.cons.injEq,and_true] at hd
   subst hd
   exact hm
  split
  ·refine Snd.pure fun β a w hx hh hq=>⟨a.eval x,?_,rs_mt hΓ (hx x (by simp [Op.operands]))⟩
   simp [execOp,asBool,key β a (hx c (by simp [Op.operands]))]
  ·refine Snd.pure fun β a w hx hh hq=>⟨a.eval y,?_,rs_mt hΓ (hx y (by simp [Op.operands]))⟩
   simp [execOp,asBool,key β a (hx c (by simp [Op.operands]))]
  ·refine (muxS_snd k _ _).mono fun z hz=>fun β a w hx hh hq=>⟨if k.d ρ then a.eval x else a.eval y,?_,hz β _ ?_⟩
   ·simp [execOp,asBool,key β a (hx c (by simp [Op.operands]))]
   ·cases hk2:k.d ρ
    ·simp only [Bool.false_eq_true,if_false]
     exact rs_mt (by simp [hΓ,hk2]) (hx y (by simp [Op.operands]))
    ·simp only [if_true]
     exact rs_mt (by simp [hΓ,hk2]) (hx x (by simp [Op.operands]))
 ·exact Snd.fail

theorem mt_int {β:Beta} {s:S} {k:IntKind} {a:A} {v:Value} (h:s = .one false [.int k a]) (hm:s.mt β ρ v):v = .int k (a.d ρ) /\ InR k (a.d ρ):=by
 subst h
 obtain ⟨d,hd,hm⟩:=hm
 simp only [List.cons.injEq,and_true] at hd
 subst hd
 exact hm
theorem mt_bool {β:Beta} {s:S} {b:B} {v:Value} (h:s = .one false [.bool b]) (hm:s.mt β ρ v):v = .bool (b.d ρ):=by
 subst h
 obtain ⟨d,hd,hm⟩:=hm
 simp only [List.cons.injEq,and_true] at hd
 subst hd
 exact hm
theorem S.mt_i {β:Beta} {k:IntKind} {a:A} (h:InR k (a.d ρ)):(S.one false [.int k a]).mt β ρ (.int k (a.d ρ)):=⟨_,rfl,rfl,h⟩
theorem S.mt_b {β:Beta} {b:B}:(S.one false [.bool b]).mt β ρ (.bool (b.d ρ)):=⟨_,rfl,rfl⟩

theorem wrap_inR (k:IntKind) (n:Int):InR k (k.wrap n):=by
 unfold InR IntKind.min IntKind.max IntKind.wrap
 cases k <;> simp only [IntKind.signed,IntKind.bits] <;> (try split) <;> (try simp_all) <;> omega
theorem tmod_inR {k:IntKind} {x y:Int} (hx:InR k x):InR k (x.tmod y):=by
 unfold InR at *
 have h0:k.min <= 0 /\ 0 <= k.max:=by cases k <;> decide
 have h1:(x.tmod y).natAbs <= x.natAbs:=by rw [Int.natAbs_tmod]; exact Nat.mod_le _ _
 rcases Int.le_total 0 x with h | h
 ·have:=Int.tmod_nonneg y h
  omega
 ·have h2:x.tmod y <= 0:=by
   have:=Int.tmod_nonneg y (a:=-x) (by omega)
   rw [Int.neg_tmod] at this
   omega
  omega
theorem fdiv_inR {k:IntKind} {x:Int} (n:Nat) (hx:InR k x):InR k (x.fdiv (2 ^ n)):=by
 unfold InR at *
 have h0:k.min <= 0 /\ 0 <= k.max:=by cases k <;> decide
 have hp:(0:Int) < 2 ^ n:=Int.pow_pos (by decide)
 rw [Int.fdiv_eq_ediv_of_nonneg _ (by omega)]
 have hp1:(1:Int) <= 2 ^ n:=hp
 rcases Int.le_total 0 x with h | h
 ·have h1:=Int.ediv_nonneg h (by omega:(0:Int) <= 2 ^ n)
  have h2:x / 2 ^ n <= x:=Int.ediv_le_self _ h
  omega
 ·have h1:x / 2 ^ n <= 0:=by
   have:=Int.ediv_le_ediv hp h
   simpa using this
  have h2:x <= x / 2 ^ n:=by
   rw [Int.le_ediv_iff_mul_le hp]
   have h3:=Int.mul_nonneg (show 0 <= -x by omega) (show (0:Int) <= 2 ^ n - 1 by omega)
   rw [Int.mul_sub,Int.mul_one,Int.neg_mul] at h3
   omega
  omega

def arOp:BinOp -> Bool
 | .add | .sub | .mul | .and | .or | .xor | .andNot=>true
 | _=>false
def cmOp:BinOp -> Bool
 | .eql | .neq | .lss | .leq | .gtr | .geq=>true
 | _=>false
def shOp:BinOp -> Bool
 | .shl | .shr=>true
 | _=>false
def dvOp:BinOp -> Bool
 | .quo | .rem=>true
 | _=>false
theorem run_ar {op:BinOp} (h:arOp op = true) (k:IntKind) (x y:Int) (t:TypeId) (w:World):(binOp op t (.int k x) (.int k y)).run P w = .ok (.int k (arI op k x y)) w:=by
 cases op <;> first | (simp [arOp] at h; done) | (simp [binOp,Op.intArith,Op.intBits,arI])
theorem run_cm {op:BinOp} (h:cmOp op = true) (k:IntKind) (x y:Int) (t:TypeId) (w:World):(binOp op t (.int k x) (.int k y)).run P w = .ok (.bool (cmB op x y)) w:=by
 cases op <;> first | (simp [cmOp] at h; done) | (simp [binOp,Op.intCmp,cmB])
theorem run_sh {op:BinOp} (h:shOp op = true) (k yk:IntKind) (x y:Int) (hy:0 <= y) (t:TypeId) (w:World):(binOp op t (.int k x) (.int yk y)).run P w = .ok (.int k (arI op k x y)) w:=by
 have hy':¬ y < 0:=by omega
 cases op <;> first | (simp [shOp] at h; done) | (simp [binOp,Op.shift,arI,hy'])
theorem run_dv {op:BinOp} (h:dvOp op = true) (k:IntKind) (x y:Int) (hy:y ≠ 0) (t:TypeId) (w:World):(binOp op t (.int k x) (.int k y)).run P w = .ok (.int k (arI op k x y)) w:=by
 cases op <;> first | (simp [dvOp] at h; done) | (simp [binOp,Op.intDiv,arI,hy])
theorem arI_inR {op:BinOp} (h:arOp op = true) (k:IntKind) (x y:Int):InR k (arI op k x y):=by
 cases op <;> first | (simp [arOp] at h; done) | exact wrap_inR _ _
theorem eqGuard_int (op:BinOp) (t:TypeId) (x y:Operand) (k:IntKind) (n:Int) (v:Value):eqGuard op t x y (.int k n) v = pure ():=by cases op <;> rfl
theorem eqGuard_bool (op:BinOp) (t:TypeId) (x y:Operand) (b:Bool) (v:Value):eqGuard op t x y (.bool b) v = pure ():=by cases op <;> rfl

def isBoolT (P:Program) (t:TypeId):Bool:=match P.underlying t with | some .bool=>true | _=>false
theorem run_eqBool {t:TypeId} (h:isBoolT P t = true) (x y:Bool) (w:World):(Op.equal t (.bool x) (.bool y)).run P w = .ok (x == y) w:=by
 unfold isBoolT at h
 split at h
 ·rename_i hu
  unfold Op.equal Op.maxDepth
  rw [show (10000:Nat) = 9999 + 1 from rfl,Op.equalIn]
  simp [underlying,hu]
 ·cases h

def xBin (P:Program) (op:BinOp) (t:TypeId) (x y:S):M S :=
 match x,y with
 | .one false [.int k a],.one false [.int l b] =>
  if shOp op then do
   let n <- mkCm .geq b (.c 0)
   oblige n
   pure (.one false [.int k (<- mkAr op k a b)])
  else if k == l then
   if arOp op then do pure (.one false [.int k (<- mkAr op k a b)])
   else if cmOp op then do pure (.one false [.bool (<- mkCm op a b)])
   else if dvOp op then do
    let n <- mkCm .neq b (.c 0)
    oblige n
    pure (.one false [.int k (<- mkAr op k a b)])
   else M.fail
  else M.fail
 | .one false [.bool a],.one false [.bool b] =>
  if isBoolT P t then match op with
   | .eql=>do pure (.one false [.bool (<- mkEqb a b)])
   | .neq=>do
    let e <- mkEqb a b
    pure (.one false [.bool (<- mkNot e)])
   | _=>M.fail
  else M.fail
 | _,_=>M.fail
theorem shr_inR {op:BinOp} (h:shOp op = true) {k:IntKind} {x:Int} (y:Int) (hx:InR k x):InR k (arI op k x y):=by
 cases op <;> first | (simp [shOp] at h; done) | exact wrap_inR _ _ | exact fdiv_inR _ hx
theorem dv_inR {op:BinOp} (h:dvOp op = true) {k:IntKind} {x:Int} (y:Int) (hx:InR k x):InR k (arI op k x y):=by
 cases op <;> first | (simp [dvOp] at h; done) | exact wrap_inR _ _ | exact tmod_inR hx
theorem pure_bin (hΓ:Gd.d ρ Γ = true) (op:BinOp) (t t':TypeId) (x y:Operand) :
  Snd Φ ρ (xBin P op t (rs Γ (rv x)) (rs Γ (rv y))) (Pure P Γ hp rv ⟨dst,.binOp op t x y t',ty,pos,after,guard⟩ ρ):=by
 unfold xBin
 split
 ·rename_i k a l b h1 h2
  have vx:∀ β (ac:Act),(rv x).mt β ρ (ac.eval x) -> ac.eval x = .int k (a.d ρ) /\ InR k (a.d ρ):=fun β ac h=>mt_int h1 (rs_mt hΓ h)
  have vy:∀ β (ac:Act),(rv y).mt β ρ (ac.eval y) -> ac.eval y = .int l (b.d ρ) /\ InR l (b.d ρ):=fun β ac h=>mt_int h2 (rs_mt hΓ h)
  split
  ·rename_i ho
   refine Snd.bind (mkCm_snd _ _ _) fun n hn=>Snd.bind (oblige_snd n) fun _ hn2=>Snd.bind (mkAr_snd op k a b) fun z hz=>Snd.pure fun β ac w hx hh hq=>?_
   obtain ⟨ex,rx⟩:=vx β ac (hx x (by simp [Op.operands]))
   obtain ⟨ey,ry⟩:=vy β ac (hx y (by simp [Op.operands]))
   have h0:0 <= b.d ρ:=by rw [hn] at hn2; simpa [cmB] using hn2
   refine ⟨.int k (z.d ρ),?_,S.mt_i (by rw [hz]; exact shr_inR ho _ rx)⟩
   simp [execOp,ex,ey,eqGuard_int,run_sh ho k l _ _ h0,hz]
  ·split
   ·rename_i hkl
    simp only [beq_iff_eq] at hkl
    subst hkl
    split
    ·rename_i ho
     refine Snd.bind (mkAr_snd op k a b) fun z hz=>Snd.pure fun β ac w hx hh hq=>?_
     obtain ⟨ex,rx⟩:=vx β ac (hx x (by simp [Op.operands]))
     obtain ⟨ey,ry⟩:=vy β ac (hx y (by simp [Op.operands]))
     refine ⟨.int k (z.d ρ),?_,S.mt_i (by rw [hz]; exact arI_inR ho _ _ _)⟩
     simp [execOp,ex,ey,eqGuard_int,run_ar ho,hz]
    ·split
     ·rename_i ho
      refine Snd.bind (mkCm_snd op a b) fun z hz=>Snd.pure fun β ac w hx hh hq=>?_
      obtain ⟨ex,rx⟩:=vx β ac (hx x (by simp [Op.operands]))
      obtain ⟨ey,ry⟩:=vy β ac (hx y (by simp [Op.operands]))
      refine ⟨.bool (z.d ρ),?_,S.mt_b⟩
      simp [execOp,ex,ey,eqGuard_int,run_cm ho,hz]
     ·split
      ·rename_i ho
       refine Snd.bind (mkCm_snd _ _ _) fun n hn=>Snd.bind (oblige_snd n) fun _ hn2=>Snd.bind (mkAr_snd op k a b) fun z hz=>Snd.pure fun β ac w hx hh hq=>?_
       obtain ⟨ex,rx⟩:=vx β ac (hx x (by simp [Op.operands]))
       obtain ⟨ey,ry⟩:=vy β ac (hx y (by simp [Op.operands]))
       have h0:b.d ρ ≠ 0:=by rw [hn] at hn2; simpa [cmB] using hn2
       refine ⟨.int k (z.d ρ),?_,S.mt_i (by rw [hz]; exact dv_inR ho _ rx)⟩
       simp [execOp,ex,ey,eqGuard_int,run_dv ho k _ _ h0,hz]
      ·exact Snd.fail
   ·exact Snd.fail
 ·rename_i a b h1 h2
  have vx:∀ β (ac:Act),(rv x).mt β ρ (ac.eval x) -> ac.eval x = .bool (a.d ρ):=fun β ac h=>mt_bool h1 (rs_mt hΓ h)
  have vy:∀ β (ac:Act),(rv y).mt β ρ (ac.eval y) -> ac.eval y = .bool (b.d ρ):=fun β ac h=>mt_bool h2 (rs_mt hΓ h)
  split
  ·rename_i ht
   split
   ·refine Snd.bind (mkEqb_snd a b) fun z hz=>Snd.pure fun β ac w hx hh hq=>?_
    refine ⟨.bool (z.d ρ),?_,S.mt_b⟩
    simp [execOp,vx β ac (hx x (by simp [Op.operands])),vy β ac (hx y (by simp [Op.operands])),eqGuard_bool,binOp,run_eqBool ht,hz]
   ·refine Snd.bind (mkEqb_snd a b) fun z hz=>Snd.bind (mkNot_snd z) fun u hu=>Snd.pure fun β ac w hx hh hq=>?_
    refine ⟨.bool (u.d ρ),?_,S.mt_b⟩
    simp [execOp,vx β ac (hx x (by simp [Op.operands])),vy β ac (hx y (by simp [Op.operands])),eqGuard_bool,binOp,run_eqBool ht,hz,hu]
   ·exact Snd.fail
  ·exact Snd.fail
 ·exact Snd.fail

def xUn (op:UnOp) (x:S):M S :=
 match op,x with
 | .not,.one false [.bool b]=>do pure (.one false [.bool (<- mkNot b)])
 | .neg,.one false [.int k a]=>do pure (.one false [.int k (<- mkAr .sub k (.c 0) a)])
 | .xor,.one false [.int k a]=>do pure (.one false [.int k (<- mkAr .xor k (.c (if k.signed then -1 else k.max)) a)])
 | _,_=>M.fail
theorem pure_un (hΓ:Gd.d ρ Γ = true) (op:UnOp) (t:TypeId) (x:Operand) :
  Snd Φ ρ (xUn op (rs Γ (rv x))) (Pure P Γ hp rv ⟨dst,.unOp op t x,ty,pos,after,guard⟩ ρ):=by
 unfold xUn
 split
 ·rename_i b h1
  refine Snd.bind (mkNot_snd b) fun z hz=>Snd.pure fun β ac w hx hh hq=>⟨.bool (z.d ρ),?_,S.mt_b⟩
  simp [execOp,mt_bool h1 (rs_mt hΓ (hx x (by simp [Op.operands]))),Op.unary,hz]
 ·rename_i k a h1
  refine Snd.bind (mkAr_snd _ _ _ _) fun z hz=>Snd.pure fun β ac w hx hh hq=>⟨.int k (z.d ρ),?_,S.mt_i (by rw [hz]; exact arI_inR rfl _ _ _)⟩
  simp [execOp,(mt_int h1 (rs_mt hΓ (hx x (by simp [Op.operands])))).1,Op.unary,Op.intArith,hz,arI]
 ·rename_i k a h1
  refine Snd.bind (mkAr_snd _ _ _ _) fun z hz=>Snd.pure fun β ac w hx hh hq=>⟨.int k (z.d ρ),?_,S.mt_i (by rw [hz]; exact arI_inR rfl _ _ _)⟩
  simp [execOp,(mt_int h1 (rs_mt hΓ (hx x (by simp [Op.operands])))).1,Op.unary,Op.intBits,hz,arI]
 ·exact Snd.fail

def intKindOf (P:Program) (t:TypeId):Option IntKind:=match P.underlying t with | some (.int k)=>some k | _=>none
theorem intKindOf_spec {t:TypeId} {k:IntKind} (h:intKindOf P t = some k):P.underlying t = some (.int k):=by
 unfold intKindOf at h
 split at h
 ·rename_i hu; simp only [Option.some.injEq] at h; subst h; exact hu
 ·cases h
def xConv (P:Program) (src dst:TypeId) (x:S):M S :=
 match intKindOf P src,intKindOf P dst,x with
 | some _,some k,.one false [.int _ a]=>do pure (.one false [.int k (<- mkCv k a)])
 | _,_,_=>M.fail
theorem pure_conv (hΓ:Gd.d ρ Γ = true) (src d:TypeId) (x:Operand) :
  Snd Φ ρ (xConv P src d (rs Γ (rv x))) (Pure P Γ hp rv ⟨dst,.convert src d x,ty,pos,after,guard⟩ ρ):=by
 unfold xConv
 split
 ·rename_i j k l a h1 h2 h3
  refine Snd.bind (mkCv_snd _ _) fun z hz=>Snd.pure fun β ac w hx hh hq=>⟨.int k (z.d ρ),?_,S.mt_i (by rw [hz]; exact wrap_inR _ _)⟩
  simp [execOp,(mt_int h3 (rs_mt hΓ (hx x (by simp [Op.operands])))).1,convert,underlying,intKindOf_spec h1,intKindOf_spec h2,Conv.intToInt,hz]
 ·exact Snd.fail
end ops
end Go.Proofs.YtfgbfdlacnihkaaGreatDoor.Sx
namespace Go.Proofs.YtfgbfdlacnihkaaGreatDoor.Sx
open Go

section ops
variable {P:Program} {Φ:Funs} {Γ:Gd} {hp:Hp} {rv:Operand -> SV} {dst:Option Tmp} {ty:TypeId} {pos:String} {after:Array Edge} {guard:Option (Nat × Bool)} {ρ:Env}

theorem mt_cell {β:Beta} {s:S} {c:C} {v:Value} (h:s = .one false [c]) (hm:s.mt β ρ v):c.mt β ρ v:=by
 subst h
 obtain ⟨d,hd,hm⟩:=hm
 simp only [List.cons.injEq,and_true] at hd
 subst hd
 exact hm
theorem mt_of_cell {β:Beta} {c:C} {v:Value} (h:c.mt β ρ v):(S.one false [c]).mt β ρ v:=⟨c,rfl,h⟩

def xPart (P:Program) (t:TypeId) (l:List C) (off:Nat):Option S :=
 match tyN P t with
 | some (agg,n)=>if Nat.ble (off + n) l.length then some (.one agg ((l.drop off).take n)) else none
 | none=>none
theorem mtL_drop {β:Beta}:∀ {l:List C} {vs:List Value} (k:Nat),mtL β ρ l vs -> mtL β ρ (l.drop k) (vs.drop k)
 | _,_,0,h=>h
 | [],[],_ + 1,_=>trivial
 | _ :: _,_ :: _,k + 1,⟨_,h⟩=>mtL_drop k h
theorem mtL_take {β:Beta}:∀ {l:List C} {vs:List Value} (k:Nat),mtL β ρ l vs -> mtL β ρ (l.take k) (vs.take k)
 | [],[],0,_=>trivial
 | _ :: _,_ :: _,0,_=>trivial
 | [],[],_ + 1,_=>trivial
 | _ :: _,_ :: _,k + 1,⟨h1,h⟩=>⟨h1,mtL_take k h⟩
theorem run_part {t:TypeId} {l:List C} {off:Nat} {s:S} (h:xPart P t l off = some s) {β:Beta} {vs:List Value} (hl:mtL β ρ l vs) (w:World) :
  ∃ v,(part t vs.toArray off).run P w = .ok v w /\ s.mt β ρ v:=by
 unfold xPart at h
 split at h
 ·rename_i agg n ht
  split at h
  ·rename_i hle
   simp only [Nat.ble_eq] at hle
   simp only [Option.some.injEq] at h
   subst h
   obtain ⟨h1,h2,h3⟩:=tyN_isAgg ht w
   have hm:mtL β ρ ((l.drop off).take n) ((vs.drop off).take n):=mtL_take n (mtL_drop off hl)
   have hlen:=mtL_length hl
   unfold part
   rw [Sem.run_bind,h1]
   cases agg
   ·have hn:=h3 rfl
    subst hn
    simp only [Result.andThen_ok,Bool.false_eq_true,if_false]
    have hv:vs.toArray[off]? = some vs[off]:=by simp
    rw [hv]
    refine ⟨vs[off],rfl,?_⟩
    have e1:(vs.drop off).take 1 = [vs[off]]:=by
     rw [List.drop_eq_getElem_cons (by omega)]; rfl
    have e2:(l.drop off).take 1 = [l[off]]:=by
     rw [List.drop_eq_getElem_cons (by omega)]; rfl
    rw [e1,e2] at hm
    exact ⟨l[off],e2,hm.1⟩
   ·simp only [Result.andThen_ok,if_true,Sem.run_bind,h2]
    refine ⟨_,rfl,_,rfl,?_⟩
    rw [Array.toList_extract]
    simpa [List.extract_eq_take_drop] using hm
  ·cases h
 ·cases h

def allLit:List (List C) -> Option (IntKind × List Int)
 | [[.int k (.c n)]]=>some (k,[n])
 | [.int k (.c n)] :: r=>match allLit r with
  | some (l,ns)=>if k == l then some (k,n :: ns) else none
  | none=>none
 | _=>none
theorem allLit_spec:∀ {xs:List (List C)} {k:IntKind} {ns:List Int},allLit xs = some (k,ns) -> xs = ns.map fun n=>[C.int k (.c n)]
 | [],_,_,h=>by simp [allLit] at h
 | [[.int k (.c n)]],l,ns,h=>by
  simp only [allLit,Option.some.injEq,Prod.mk.injEq] at h
  obtain ⟨rfl,rfl⟩:=h
  rfl
 | [.int k (.c n)] :: y :: r,l,ns,h=>by
  simp only [allLit] at h
  split at h
  ·rename_i l' ns' h2
   split at h
   ·rename_i hk
    simp only [beq_iff_eq] at hk
    simp only [Option.some.injEq,Prod.mk.injEq] at h
    obtain ⟨rfl,rfl⟩:=h
    subst hk
    rw [allLit_spec h2]
    rfl
   ·cases h
  ·cases h
 | [] :: _,_,_,h=>by simp [allLit] at h
 | (.int _ (.v _) :: _) :: _,_,_,h=>by simp [allLit] at h
 | (.bool _ :: _) :: _,_,_,h=>by simp [allLit] at h
 | (.ptr _ _ _ :: _) :: _,_,_,h=>by simp [allLit] at h
 | (.pix _ _ _ _ _ _ :: _) :: _,_,_,h=>by simp [allLit] at h
 | (.sli _ _ _ _ :: _) :: _,_,_,h=>by simp [allLit] at h
 | (.slx _ _ _ :: _) :: _,_,_,h=>by simp [allLit] at h
 | (.pxq _ _ _ _ :: _) :: _,_,_,h=>by simp [allLit] at h
 | (.slm _ _ :: _) :: _,_,_,h=>by simp [allLit] at h
 | (.pxm _ _ _ _ :: _) :: _,_,_,h=>by simp [allLit] at h
 | (.vec _ _ _ :: _) :: _,_,_,h=>by simp [allLit] at h
 | (.emp :: _) :: _,_,_,h=>by simp [allLit] at h
 | (.val _ :: _) :: _,_,_,h=>by simp [allLit] at h
 | (.junk :: _) :: _,_,_,h=>by simp [allLit] at h
 | (.int _ (.c _) :: _ :: _) :: _,_,_,h=>by simp [allLit] at h

def selL (a:A):Nat -> List (List C) -> M (List C)
 | _,[]=>M.fail
 | _,[x]=>pure x
 | j,x :: y :: r=>do
  let b <- mkCm .eql a (.c j)
  let z <- selL a (j + 1) (y :: r)
  muxL b x z
theorem selL_snd (a:A):∀ (xs:List (List C)) (j:Nat),Snd Φ ρ (selL a j xs) (fun z=>∀ i:Nat,a.d ρ = i -> j <= i -> i < j + xs.length -> ∀ x,xs[i - j]? = some x ->
  (∀ β vs,mtL β ρ x vs -> mtL β ρ z vs) /\ z.length = x.length /\ ∀ β w k o,cellsAt β ρ w k o x -> cellsAt β ρ w k o z)
 | [],_=>Snd.fail
 | [x],j=>Snd.pure fun i _ h1 h2 y hy=>by
  have:i - j = 0:=by simp at h2; omega
  rw [this] at hy
  simp at hy
  subst hy
  exact ⟨fun _ _ h=>h,rfl,fun _ _ _ _ h=>h⟩
 | x :: y :: r,j=>by
  unfold selL
  refine Snd.bind (mkCm_snd _ _ _) fun b hb=>Snd.bind (selL_snd a (y :: r) (j + 1)) fun z hz=>(muxL_snd b x z).mono fun u hu=>?_
  intro i hi h1 h2 q hq
  obtain ⟨hl1,hl2,hm,hc⟩:=hu
  have hb':b.d ρ = decide (i = j):=by
   rw [hb]; simp only [cmB,A.d_c,hi]
   rw [Bool.eq_iff_iff]; simp; omega
  by_cases e:i = j
  ·subst e
   simp at hq
   subst hq
   simp at hb'
   exact ⟨fun β vs h=>hm β vs (by rw [if_pos hb']; exact h),hl1,fun β w k o h=>hc β w k o (by rw [if_pos hb']; exact h)⟩
  ·have e2:i - j = (i - (j + 1)) + 1:=by omega
   rw [e2] at hq
   simp only [List.getElem?_cons_succ] at hq
   simp only [e,decide_false] at hb'
   obtain ⟨g1,g2,g3⟩:=hz i hi (by omega) (by simp only [List.length_cons] at h2 ⊢; omega) q hq
   refine ⟨fun β vs h=>hm β vs (by rw [if_neg (by simp [hb'])]; exact g1 β vs h),by omega,fun β w k o h=>hc β w k o (by rw [if_neg (by simp [hb'])]; exact g3 β w k o h)⟩

def chunks (Γ:Gd) (hp:Hp) (id off s n k:Nat):Nat -> Option (List (List C))
 | 0=>some []
 | len + 1=>match ldC Γ hp id (off + k) n,chunks Γ hp id (off + s) s n k len with
  | some x,some xs=>some (x :: xs)
  | _,_=>none
theorem chunks_spec {id s n k:Nat}:∀ {len off:Nat} {xs:List (List C)},chunks Γ hp id off s n k len = some xs -> xs.length = len /\ ∀ i,i < len -> ∃ x,xs[i]? = some x /\ ldC Γ hp id (off + i * s + k) n = some x
 | 0,off,xs,h=>by simp [chunks] at h; subst h; exact ⟨rfl,fun i hi=>by omega⟩
 | len + 1,off,xs,h=>by
  unfold chunks at h
  split at h
  ·rename_i x ys h1 h2
   simp only [Option.some.injEq] at h
   subst h
   obtain ⟨g1,g2⟩:=chunks_spec h2
   refine ⟨by simp [g1],fun i hi=>?_⟩
   cases i with
   | zero=>exact ⟨x,by simp,by simpa using h1⟩
   | succ i =>
    obtain ⟨y,hy,hl⟩:=g2 i (by omega)
    refine ⟨y,by simpa using hy,?_⟩
    rw [show off + (i + 1) * s + k = off + s + i * s + k by rw [Nat.add_mul]; omega]
    exact hl
  ·cases h

def ldPix (Γ:Gd) (hp:Hp) (id off s len:Nat) (a:A) (k n:Nat):M (List C):=do
 let xs <- lift (chunks Γ hp id off s n k len)
 match allLit xs with
 | some (kd,ns)=>if ns.all (inR kd) then do pure [.int kd (<- newI (.tab ns a))] else M.fail
 | none=>selL a 0 xs
theorem ldPix_snd (hΓ:Gd.d ρ Γ = true) (id off s len:Nat) (a:A) (k n:Nat) :
  Snd Φ ρ (ldPix Γ hp id off s len a k n) (fun x=>∀ β w,heapMt β ρ hp w -> 0 <= a.d ρ -> a.d ρ < len -> x.length = n /\ ∃ r,β id = some r /\ cellsAt β ρ w r.blk (r.off + (off + (a.d ρ).toNat * s + k)) x):=by
 unfold ldPix
 refine Snd.bind (lift_snd _) fun xs hxs=>?_
 obtain ⟨h1,h2⟩:=chunks_spec hxs
 split
 ·rename_i kd ns hal
  split
  ·rename_i hall
   refine Snd.bind (newI_snd _) fun z hz=>Snd.pure fun β w hh h0 hlt=>?_
   obtain ⟨i,hi⟩:=Int.eq_ofNat_of_zero_le h0
   obtain ⟨x,hx,hld⟩:=h2 i (by omega)
   obtain ⟨g1,r,hr,hc⟩:=ldC_spec hΓ hh hld
   have hxs2:=allLit_spec hal
   rw [hxs2] at hx
   rw [List.getElem?_map] at hx
   cases hn:ns[i]? with
   | none=>rw [hn] at hx; simp at hx
   | some m =>
    rw [hn] at hx
    simp at hx
    subst hx
    have hzd:z.d ρ = m:=by
     rw [hz]; simp only [RI.d,hi,Int.toNat_natCast]
     rw [List.getD_eq_getElem?_getD,hn]; rfl
    have hm:inR kd m = true:=(List.all_eq_true.1 hall) m (List.mem_of_getElem? hn)
    unfold inR at hm
    simp at hm
    simp only [hi,Int.toNat_natCast]
    obtain ⟨⟨v,hv,hvm⟩,_⟩:=hc
    refine ⟨by simpa using g1,r,hr,⟨v,hv,?_⟩,trivial⟩
    show v = .int kd (z.d ρ) /\ InR kd (z.d ρ)
    rw [hzd]
    exact hvm
  ·exact Snd.fail
 ·refine (selL_snd a xs 0).mono fun z hz β w hh h0 hlt=>?_
  obtain ⟨i,hi⟩:=Int.eq_ofNat_of_zero_le h0
  obtain ⟨x,hx,hld⟩:=h2 i (by omega)
  obtain ⟨g1,r,hr,hc⟩:=ldC_spec hΓ hh hld
  obtain ⟨e1,e2,e3⟩:=hz i hi (by omega) (by omega) x (by simpa using hx)
  simp only [hi,Int.toNat_natCast]
  exact ⟨by omega,r,hr,e3 β w _ _ hc⟩

def ldSq (s:Nat) (q a:A):Nat -> List CK -> M (List C)
 | _,[]=>pure []
 | k,.int kd :: ks=>do
  let x <- mkGet q a s k
  let l <- ldSq s q a (k + 1) ks
  pure (.int kd x :: l)
 | k,.bool :: ks=>do
  let x <- mkGetb q a s k
  let l <- ldSq s q a (k + 1) ks
  pure (.bool x :: l)
 | k,.str :: ks=>do
  let x <- mkGet q a s k
  let l <- ldSq s q a (k + 1) ks
  pure (.str x :: l)
 | _,_=>M.fail
theorem ldSq_snd (s:Nat) (q a:A):∀ (ks:List CK) (k:Nat),Snd Φ ρ (ldSq s q a k ks) (fun cs=>cs.length = ks.length /\ ∀ (β:Beta) (w:World) (b o:Nat),
  (∀ j,j < ks.length -> ∃ ck v,ks[j]? = some ck /\ w.cell? ⟨b,o + j,none⟩ = some v /\ ckv ck ((dec (q.d ρ)).getD ((a.d ρ).toNat * s + (k + j)) 0) v) -> cellsAt β ρ w b o cs)
 | [],k=>Snd.pure ⟨rfl,fun _ _ _ _ _=>trivial⟩
 | .int kd :: ks,k=>by
  unfold ldSq
  refine Snd.bind (mkGet_snd _ _ _ _) fun x hx=>Snd.bind (ldSq_snd s q a ks (k + 1)) fun l hl=>Snd.pure ⟨by simp [hl.1],fun β w b o h=>⟨?_,?_⟩⟩
  ·obtain ⟨ck,v,h1,h2,h3⟩:=h 0 (by simp)
   simp only [List.getElem?_cons_zero,Option.some.injEq] at h1
   subst h1
   refine ⟨v,by simpa using h2,?_⟩
   show v = .int kd (x.d ρ) /\ InR kd (x.d ρ)
   rw [hx]
   exact h3
  ·refine hl.2 β w b (o + 1) fun j hj=>?_
   obtain ⟨ck,v,h1,h2,h3⟩:=h (j + 1) (by simpa using hj)
   refine ⟨ck,v,by simpa using h1,by rw [show o + 1 + j = o + (j + 1) by omega]; exact h2,by rw [show k + 1 + j = k + (j + 1) by omega]; exact h3⟩
 | .bool :: ks,k=>by
  unfold ldSq
  refine Snd.bind (mkGetb_snd _ _ _ _) fun x hx=>Snd.bind (ldSq_snd s q a ks (k + 1)) fun l hl=>Snd.pure ⟨by simp [hl.1],fun β w b o h=>⟨?_,?_⟩⟩
  ·obtain ⟨ck,v,h1,h2,h3⟩:=h 0 (by simp)
   simp only [List.getElem?_cons_zero,Option.some.injEq] at h1
   subst h1
   refine ⟨v,by simpa using h2,?_⟩
   show v = .bool (x.d ρ)
   rw [hx]
   exact h3.2
  ·refine hl.2 β w b (o + 1) fun j hj=>?_
   obtain ⟨ck,v,h1,h2,h3⟩:=h (j + 1) (by simpa using hj)
   refine ⟨ck,v,by simpa using h1,by rw [show o + 1 + j = o + (j + 1) by omega]; exact h2,by rw [show k + 1 + j = k + (j + 1) by omega]; exact h3⟩
 | .str :: ks,k=>by
  unfold ldSq
  refine Snd.bind (mkGet_snd _ _ _ _) fun x hx=>Snd.bind (ldSq_snd s q a ks (k + 1)) fun l hl=>Snd.pure ⟨by simp [hl.1],fun β w b o h=>⟨?_,?_⟩⟩
  ·obtain ⟨ck,v,h1,h2,h3⟩:=h 0 (by simp)
   simp only [List.getElem?_cons_zero,Option.some.injEq] at h1
   subst h1
   refine ⟨v,by simpa using h2,?_⟩
   obtain ⟨t,e1,e2,e3⟩:=h3
   exact ⟨t,e1,by rw [hx]; exact e2,e3⟩
  ·refine hl.2 β w b (o + 1) fun j hj=>?_
   obtain ⟨ck,v,h1,h2,h3⟩:=h (j + 1) (by simpa using hj)
   refine ⟨ck,v,by simpa using h1,by rw [show o + 1 + j = o + (j + 1) by omega]; exact h2,by rw [show k + 1 + j = k + (j + 1) by omega]; exact h3⟩
 | .pt _ _ :: ks,k=>Snd.fail
 | .sl _ :: ks,k=>Snd.fail
theorem mod_in {a s k:Nat} (h:k < s):(a * s + k) % s = k:=by
 rw [Nat.mul_comm,Nat.mul_add_mod]; exact Nat.mod_eq_of_lt h

theorem partSq_seq {β:Beta} {w:World} (hq:SqOk β w) {i:Nat} {r:Rg} (hr:β i = some r) {ks:List CK} {o:Nat} {l:List Int} (h:partSq r ks o l) :
  r.ro = true /\ r.row = false /\ o + l.length <= r.len /\ seqAt w r.blk (r.off + o) ks l:=by
 obtain ⟨L,j,hs,ho,hle,hl⟩:=h
 obtain ⟨h1,h2,h3,h4⟩:=hq i r ks L hr hs
 refine ⟨h1,h2,by omega,fun m n hm=>?_⟩
 obtain ⟨ck,v,g1,g2,g3⟩:=h4 _ _ (hl m n hm)
 refine ⟨ck,v,?_,by rw [show r.off + o + m = r.off + (o + m) by omega]; exact g2,g3⟩
 rw [ho,Nat.mul_comm,Nat.mul_add_mod] at g1
 exact g1
def rowOf (Γ:Gd) (hp:Hp) (id:Nat) (ks:List CK):Option (A × A) :=
 match hp id with
 | some b=>if Gd.sub b.g Γ then match vecOf b.cells with
   | some (ls,q,n)=>if cksEq ks ls then some (q,n) else none
   | none=>none
  else none
 | none=>none
theorem rowOf_spec (hΓ:Gd.d ρ Γ = true) {id:Nat} {ks:List CK} {q n:A} (h:rowOf Γ hp id ks = some (q,n)) {β:Beta} {w:World} (hh:heapMt β ρ hp w):rowMt β ρ w id ks q n:=by
 unfold rowOf at h
 split at h
 ·rename_i b hb
  split at h
  ·rename_i hg
   split at h
   ·rename_i ls q' n' hv
    split at h
    ·rename_i hk
     cases h
     rw [cksEq_sound hk]
     exact ((blkMt_row hv).1 (hh id b hb (Gd.sub_d hg hΓ))).2
    ·cases h
   ·cases h
  ·cases h
 ·cases h
theorem seq_elem {w:World} {b o:Nat} {ks:List CK} {l:List Int} (hs:seqAt w b o ks l) {a k n:Nat} (hk:k + n <= ks.length) (ha:(a + 1) * ks.length <= l.length) (j:Nat) (hj:j < ((ks.drop k).take n).length) :
  ∃ ck v,((ks.drop k).take n)[j]? = some ck /\ w.cell? ⟨b,o + (a * ks.length + k) + j,none⟩ = some v /\ ckv ck (l.getD (a * ks.length + (k + j)) 0) v:=by
 have hjn:j < n:=by simpa using (by simp at hj; omega)
 have hidx:a * ks.length + (k + j) < l.length:=by
  rw [Nat.add_mul] at ha
  omega
 obtain ⟨ck,v,g1,g2,g3⟩:=hs _ _ (List.getElem?_eq_getElem hidx)
 rw [mod_in (by omega)] at g1
 refine ⟨ck,v,?_,?_,?_⟩
 ·rw [List.getElem?_take,if_pos hjn,List.getElem?_drop]; exact g1
 ·rw [show o + (a * ks.length + k) + j = o + (a * ks.length + (k + j)) by omega]; exact g2
 ·rw [List.getD_eq_getElem?_getD,List.getElem?_eq_getElem hidx]; exact g3
def xLoad (P:Program) (Γ:Gd) (hp:Hp) (t:TypeId) (x:S):M S:=do
 let p <- lift (tyN P t)
 match x with
 | .one false [.ptr l id off]=>do pure (.one p.1 (<- ldAlt Γ hp p.2 l id off))
 | .one false [.pix id off s len a k]=>do pure (.one p.1 (<- ldPix Γ hp id off s len a k p.2))
 | .one false [.pxq ks q a k]=>if Nat.ble (k + p.2) ks.length then do pure (.one p.1 (<- ldSq ks.length q a k ((ks.drop k).take p.2))) else M.fail
 | .one false [.pxm id ks a k]=>if Nat.ble (k + p.2) ks.length then (do
   let r <- lift (rowOf Γ hp id ks)
   pure (.one p.1 (<- ldSq ks.length r.1 a k ((ks.drop k).take p.2)))) else M.fail
 | _=>M.fail
theorem pure_load (hΓ:Gd.d ρ Γ = true) (t:TypeId) (x:Operand) :
  Snd Φ ρ (xLoad P Γ hp t (rs Γ (rv x))) (Pure P Γ hp rv ⟨dst,.load t x,ty,pos,after,guard⟩ ρ):=by
 unfold xLoad
 refine Snd.bind (lift_snd _) fun p ht=>?_
 obtain ⟨agg,n⟩:=p
 split
 ·rename_i l id off h1
  refine Snd.bind (ldAlt_snd hΓ _ _ _ _) fun cs hcs=>Snd.pure fun β ac w hx hh hq=>?_
  obtain ⟨hl,hcs⟩:=hcs
  obtain ⟨r,hr,hc⟩:=hcs β w hh
  obtain ⟨r',hr',hv⟩:=mt_cell h1 (rs_mt hΓ (hx x (by simp [Op.operands])))
  rw [hr] at hr'
  cases hr'
  obtain ⟨v,hv2,hm⟩:=run_loadVar ht hl hc
  exact ⟨v,by simp [execOp,Instr.loadAt,Instr.sureAddr,hv,hv2],hm⟩
 ·rename_i id off s len a k h1
  refine Snd.bind (ldPix_snd hΓ _ _ _ _ _ _ _) fun cs hcs=>Snd.pure fun β ac w hx hh hq=>?_
  obtain ⟨h0,hlt,r',hr',hv⟩:=mt_cell h1 (rs_mt hΓ (hx x (by simp [Op.operands])))
  obtain ⟨hl,r,hr,hc⟩:=hcs β w hh h0 hlt
  rw [hr] at hr'
  cases hr'
  obtain ⟨v,hv2,hm⟩:=run_loadVar ht hl hc
  exact ⟨v,by simp [execOp,Instr.loadAt,Instr.sureAddr,hv,hv2],hm⟩
 ·rename_i ks q a k h1
  split
  ·rename_i hk
   simp only [Nat.ble_eq] at hk
   refine Snd.bind (ldSq_snd ks.length q a _ k) fun cs hcs=>Snd.pure fun β ac w hx hh hq=>?_
   obtain ⟨h0,i,r,o,l,hr,hs,hqe,hlt,hv⟩:=mt_cell h1 (rs_mt hΓ (hx x (by simp [Op.operands])))
   obtain ⟨_,_,_,hsq⟩:=partSq_seq hq hr hs
   obtain ⟨hl,hcs⟩:=hcs
   have hl':cs.length = n:=by rw [hl]; simp; omega
   have hc:cellsAt β ρ w r.blk (r.off + o + ((a.d ρ).toNat * ks.length + k)) cs:=by
    refine hcs β w _ _ fun j hj=>?_
    rw [hqe,dec_enc]
    exact seq_elem hsq hk hlt j hj
   obtain ⟨v,hv2,hm⟩:=run_loadVar ht hl' hc
   exact ⟨v,by simp [execOp,Instr.loadAt,Instr.sureAddr,hv,hv2],hm⟩
  ·exact Snd.fail
 ·rename_i id ks a k h1
  split
  ·rename_i hk
   simp only [Nat.ble_eq] at hk
   refine Snd.bind (lift_snd _) fun p hp'=>Snd.bind (ldSq_snd ks.length p.1 a _ k) fun cs hcs=>Snd.pure fun β ac w hx hh hq=>?_
   obtain ⟨h0,r,hr,hrow,hlt,hv⟩:=mt_cell h1 (rs_mt hΓ (hx x (by simp [Op.operands])))
   obtain ⟨r',cap,l,hr',_,_,_,_,_,hqe,_,_,hll,hsq,_⟩:=rowOf_spec hΓ (q:=p.1) (n:=p.2) hp' hh
   rw [hr] at hr'
   cases hr'
   obtain ⟨hl,hcs⟩:=hcs
   have hl':cs.length = n:=by rw [hl]; simp; omega
   have hc:cellsAt β ρ w r.blk (r.off + ((a.d ρ).toNat * ks.length + k)) cs:=by
    refine hcs β w _ _ fun j hj=>?_
    rw [hqe,dec_enc]
    exact seq_elem hsq hk (by rw [hll]; exact Nat.mul_le_mul_right _ hlt) j hj
   obtain ⟨v,hv2,hm⟩:=run_loadVar ht hl' hc
   exact ⟨v,by simp [execOp,Instr.loadAt,Instr.sureAddr,hv,hv2],hm⟩
  ·exact Snd.fail
 ·exact Snd.fail

def ptrAdd (n:Nat):C -> Option C
 | .ptr l id off=>some (.ptr (l.map fun p=>(p.1,p.2.1,p.2.2 + n)) id (off + n))
 | .pix id off s len a k=>some (.pix id off s len a (k + n))
 | .pxq ks q a k=>some (.pxq ks q a (k + n))
 | .pxm id ks a k=>some (.pxm id ks a (k + n))
 | _=>none
theorem pick_add (n:Nat) (id off:Nat):∀ l,pick ρ (l.map fun p=>(p.1,p.2.1,p.2.2 + n)) id (off + n) = ((pick ρ l id off).1,(pick ρ l id off).2 + n)
 | []=>rfl
 | p :: l=>by
  obtain ⟨b,i,o⟩:=p
  simp only [List.map_cons,pick]
  split
  ·rfl
  ·exact pick_add n id off l
theorem ptrAdd_mt {n:Nat} {c d:C} (h:ptrAdd n c = some d) {β:Beta} {v:Value} (hv:c.mt β ρ v):∃ b o,v = .pointer (some ⟨b,o,none⟩) /\ d.mt β ρ (.pointer (some ⟨b,o + n,none⟩)):=by
 cases c with
 | ptr l id off =>
  simp only [ptrAdd,Option.some.injEq] at h
  subst h
  obtain ⟨r,hr,hv⟩:=hv
  refine ⟨_,_,hv,r,?_,?_⟩
  ·rw [pick_add]; exact hr
  ·rw [pick_add]; simp; omega
 | pix id off s len a k =>
  simp only [ptrAdd,Option.some.injEq] at h
  subst h
  obtain ⟨h0,hlt,r,hr,hv⟩:=hv
  exact ⟨_,_,hv,h0,hlt,r,hr,by simp; omega⟩
 | pxq ks q a k =>
  simp only [ptrAdd,Option.some.injEq] at h
  subst h
  obtain ⟨h0,i,r,o,l,hr,h1,h2,h3,hv⟩:=hv
  exact ⟨_,_,hv,h0,i,r,o,l,hr,h1,h2,h3,by simp; omega⟩
 | pxm id ks a k =>
  simp only [ptrAdd,Option.some.injEq] at h
  subst h
  obtain ⟨h0,r,hr,h1,h2,hv⟩:=hv
  exact ⟨_,_,hv,h0,r,hr,h1,h2,by simp; omega⟩
 | _=>simp [ptrAdd] at h

def fieldN (P:Program) (t:TypeId) (f:Nat):Option (Nat × TypeId) :=
 match P.underlying t with
 | some (.struct fs)=>match fs[f]? with
  | some fd=>some (fd.offset,fd.type)
  | none=>none
 | _=>none
def xFieldAddr (P:Program) (t:TypeId) (f:Nat) (x:S):M S:=do
 let (off,ft) <- lift (fieldN P t f)
 let (_,n) <- lift (tyN P ft)
 if n == 0 then M.fail else
 match x with
 | .one false [c]=>do pure (.one false [<- lift (ptrAdd off c)])
 | _=>M.fail
theorem pure_fieldAddr (hΓ:Gd.d ρ Γ = true) (t:TypeId) (f:Nat) (x:Operand) :
  Snd Φ ρ (xFieldAddr P t f (rs Γ (rv x))) (Pure P Γ hp rv ⟨dst,.fieldAddr t x f,ty,pos,after,guard⟩ ρ):=by
 unfold xFieldAddr
 refine Snd.bind (lift_snd _) fun p hf=>?_
 obtain ⟨off,ft⟩:=p
 refine Snd.bind (lift_snd _) fun q hq=>?_
 obtain ⟨agg,n⟩:=q
 simp only
 split
 ·exact Snd.fail
 ·rename_i hn
  simp only [beq_iff_eq] at hn
  split
  ·rename_i c h1
   refine Snd.bind (lift_snd _) fun d hd=>Snd.pure fun β ac w hx hh hq=>?_
   obtain ⟨b,o,hv,hm⟩:=ptrAdd_mt hd (mt_cell h1 (rs_mt hΓ (hx x (by simp [Op.operands]))))
   refine ⟨_,?_,mt_of_cell hm⟩
   unfold fieldN at hf
   split at hf
   ·rename_i fs hu
    split at hf
    ·rename_i fd hfd
     simp only [Option.some.injEq,Prod.mk.injEq] at hf
     obtain ⟨rfl,rfl⟩:=hf
     simp [execOp,Instr.fieldAt,underlying,hu,hfd,Instr.sureAddr,hv,fieldPlace,(tyN_isAgg hq w).2.1,hn,add_lit]
    ·cases hf
   ·cases hf
  ·exact Snd.fail

def xField (P:Program) (t:TypeId) (f:Nat) (x:S):M S:=do
 let (off,ft) <- lift (fieldN P t f)
 match x with
 | .one true l=>lift (xPart P ft l off)
 | _=>M.fail
theorem pure_field (hΓ:Gd.d ρ Γ = true) (t:TypeId) (f:Nat) (x:Operand) :
  Snd Φ ρ (xField P t f (rs Γ (rv x))) (Pure P Γ hp rv ⟨dst,.field t x f,ty,pos,after,guard⟩ ρ):=by
 unfold xField
 refine Snd.bind (lift_snd _) fun p hf=>?_
 obtain ⟨off,ft⟩:=p
 simp only
 split
 ·rename_i l h1
  refine (lift_snd _).mono fun s hs β ac w hx hh hq=>?_
  have hm:=rs_mt hΓ (hx x (by simp [Op.operands]))
  rw [h1] at hm
  obtain ⟨vs,hv,hl⟩:=hm
  obtain ⟨v,hr,hsm⟩:=run_part hs hl w
  refine ⟨v,?_,hsm⟩
  unfold fieldN at hf
  split at hf
  ·rename_i fs hu
   split at hf
   ·rename_i fd hfd
    simp only [Option.some.injEq,Prod.mk.injEq] at hf
    obtain ⟨rfl,rfl⟩:=hf
    simp [execOp,Instr.field,underlying,hu,hfd,hv,asAgg,hr]
   ·cases hf
  ·cases hf
 ·exact Snd.fail

def xNil (x:S):M S :=
 match x with
 | .one false [.ptr l id off]=>pure (.one false [.ptr l id off])
 | .one false [.pix id off s len a k]=>pure (.one false [.pix id off s len a k])
 | .one false [.pxq ks q a k]=>pure (.one false [.pxq ks q a k])
 | .one false [.pxm id ks a k]=>pure (.one false [.pxm id ks a k])
 | _=>M.fail
theorem pure_nil (hΓ:Gd.d ρ Γ = true) (x:Operand):Snd Φ ρ (xNil (rs Γ (rv x))) (Pure P Γ hp rv ⟨dst,.nilCheck x,ty,pos,after,guard⟩ ρ):=by
 unfold xNil
 split
 ·rename_i l id off h1
  refine Snd.pure fun β ac w hx hh hq=>?_
  have hm:=rs_mt hΓ (hx x (by simp [Op.operands]))
  obtain ⟨r,hr,hv⟩:=mt_cell h1 hm
  rw [h1] at hm
  exact ⟨ac.eval x,by simp [execOp,hv],hm⟩
 ·rename_i id off s len a k h1
  refine Snd.pure fun β ac w hx hh hq=>?_
  have hm:=rs_mt hΓ (hx x (by simp [Op.operands]))
  obtain ⟨_,_,r,hr,hv⟩:=mt_cell h1 hm
  rw [h1] at hm
  exact ⟨ac.eval x,by simp [execOp,hv],hm⟩
 ·rename_i ks q a k h1
  refine Snd.pure fun β ac w hx hh hq=>?_
  have hm:=rs_mt hΓ (hx x (by simp [Op.operands]))
  obtain ⟨_,_,_,_,_,_,_,_,_,hv⟩:=mt_cell h1 hm
  rw [h1] at hm
  exact ⟨ac.eval x,by simp [execOp,hv],hm⟩
 ·rename_i id ks a k h1
  refine Snd.pure fun β ac w hx hh hq=>?_
  have hm:=rs_mt hΓ (hx x (by simp [Op.operands]))
  obtain ⟨_,_,_,_,_,hv⟩:=mt_cell h1 hm
  rw [h1] at hm
  exact ⟨ac.eval x,by simp [execOp,hv],hm⟩
 ·exact Snd.fail

theorem mtT_get {β:Beta}:∀ {l:List (Bool × List C)} {vs:List Value},mtT β ρ l vs -> ∀ (j:Nat) (p:Bool × List C),l[j]? = some p -> ∃ v,vs[j]? = some v /\ mt1 β ρ p.1 p.2 v
 | [],[],_,j,c,h=>by simp at h
 | d :: l,v :: vs,⟨h1,h2⟩,j,c,h=>by
  cases j with
  | zero=>simp at h; subst h; exact ⟨v,by simp,h1⟩
  | succ j=>simp at h; simpa using mtT_get h2 j c h
def xExtract (i:Nat) (x:S):M S :=
 match x with
 | .tup l=>match l[i]? with
  | some p=>pure (.one p.1 p.2)
  | none=>M.fail
 | _=>M.fail
theorem pure_extract (hΓ:Gd.d ρ Γ = true) (x:Operand) (i:Nat):Snd Φ ρ (xExtract i (rs Γ (rv x))) (Pure P Γ hp rv ⟨dst,.extract x i,ty,pos,after,guard⟩ ρ):=by
 unfold xExtract
 split
 ·rename_i l h1
  split
  ·rename_i p hp'
   refine Snd.pure fun β ac w hx hh hq=>?_
   have hm:=rs_mt hΓ (hx x (by simp [Op.operands]))
   rw [h1] at hm
   obtain ⟨vs,hv,hl⟩:=hm
   obtain ⟨v,hv2,hvm⟩:=mtT_get hl i p hp'
   refine ⟨v,?_,hvm⟩
   have:vs[i]? = some v:=by simpa using hv2
   simp [execOp,Instr.extract,hv,this]
  ·exact Snd.fail
 ·exact Snd.fail
end ops
end Go.Proofs.YtfgbfdlacnihkaaGreatDoor.Sx
