/-
  Merged texts (SxW, SxSd, SxN, SxO, SxFp, SxP). No condition.
-/
import Derived.Tactics
import Derived.Scope
import Derived.Test.YtfgbfdlacnihkaaGreatDoorPz2
import Derived.Test.YtfgbfdlacnihkaaGreatDoorPz5
set_option linter.unusedVariables false
set_option linter.unusedSimpArgs false
namespace Go.Proofs.YtfgbfdlacnihkaaGreatDoor.Sx
open Go

inductive LRun (F:Fun) (nI nB:Nat):Nat -> List Int -> List Bool -> Fl -> Prop
 | stop {is bs rb}:(F is bs).2 = true :: false :: rb -> LRun F nI nB 1 is bs ((F is bs).1.drop nI,rb.drop nB)
 | turn {n is bs rb o}:(F is bs).2 = true :: true :: rb -> LRun F nI nB n ((F is bs).1.take nI) (rb.take nB) o -> LRun F nI nB (n + 1) is bs o
theorem LRun.det {F:Fun} {nI nB n:Nat} {is:List Int} {bs:List Bool} {o:Fl} (h:LRun F nI nB n is bs o):∀ {m:Nat} {o':Fl},LRun F nI nB m is bs o' -> o' = o:=by
 induction h with
 | stop he =>
  intro m o' h'
  cases h' with
  | stop he' =>
   rw [he] at he'
   simp only [List.cons.injEq,true_and] at he'
   rw [he']
  | turn he' _=>rw [he] at he'; simp at he'
 | turn he _ ih =>
  intro m o' h'
  cases h' with
  | stop he'=>rw [he] at he'; simp at he'
  | turn he' h2 =>
   rw [he] at he'
   simp only [List.cons.injEq,true_and] at he'
   rw [<- he'] at h2
   exact ih h2
noncomputable def loopF (F:Fun) (nI nB:Nat):Fun:=fun is bs=>by
 classical exact if h:∃ o n,LRun F nI nB n is bs o then ((Classical.choose h).1,true :: (Classical.choose h).2) else ([],[])
theorem loopF_of {F:Fun} {nI nB n:Nat} {is:List Int} {bs:List Bool} {o:Fl} (h:LRun F nI nB n is bs o):loopF F nI nB is bs = (o.1,true :: o.2):=by
 have he:∃ o n,LRun F nI nB n is bs o:=⟨o,n,h⟩
 unfold loopF
 rw [dif_pos he]
 obtain ⟨m,hm⟩:=Classical.choose_spec he
 rw [h.det hm]
theorem loopF_inv {F:Fun} {nI nB:Nat} {is:List Int} {bs:List Bool} (h:(loopF F nI nB is bs).2.getD 0 false = true):∃ n o,LRun F nI nB n is bs o /\ loopF F nI nB is bs = (o.1,true :: o.2):=by
 by_cases he:∃ o n,LRun F nI nB n is bs o
 ·obtain ⟨o,n,hn⟩:=he
  exact ⟨n,o,hn,loopF_of hn⟩
 ·unfold loopF at h
  rw [dif_neg he] at h
  simp at h

def listEq {α:Type} (f:α -> α -> Bool):List α -> List α -> Bool
 | [],[]=>true
 | x :: l,y :: m=>f x y && listEq f l m
 | _,_=>false
theorem listEq_sound {α:Type} {f:α -> α -> Bool} (hf:∀ x y,f x y = true -> x = y):∀ {l m:List α},listEq f l m = true -> l = m
 | [],[],_=>rfl
 | x :: l,y :: m,h=>by
  simp only [listEq,Bool.and_eq_true] at h
  rw [hf x y h.1,listEq_sound hf h.2]
 | [],_ :: _,h=>by simp [listEq] at h
 | _ :: _,[],h=>by simp [listEq] at h
def RI.eq:RI -> RI -> Bool
 | .ar o k a b,.ar o' k' a' b'=>o == o' && k == k' && a.eq a' && b.eq b'
 | .cv k a,.cv k' a'=>k == k' && a.eq a'
 | .ite c a b,.ite c' a' b'=>c.eq c' && a.eq a' && b.eq b'
 | .mn a b,.mn a' b'=>a.eq a' && b.eq b'
 | .mx a b,.mx a' b'=>a.eq a' && b.eq b'
 | .tab l a,.tab l' a'=>listEq (· == ·) l l' && a.eq a'
 | .get q a s k,.get q' a' s' k'=>q.eq q' && a.eq a' && s == s' && k == k'
 | .lenq q s,.lenq q' s'=>q.eq q' && s == s'
 | .rep n s,.rep n' s'=>n.eq n' && s == s'
 | .setq q a s k x,.setq q' a' s' k' x'=>q.eq q' && a.eq a' && s == s' && k == k' && x.eq x'
 | .cat p q,.cat p' q'=>p.eq p' && q.eq q'
 | .sub q a b s,.sub q' a' b' s'=>q.eq q' && a.eq a' && b.eq b' && s == s'
 | .lst l,.lst l'=>listEq A.eq l l'
 | .b2i b,.b2i b'=>b.eq b'
 | _,_=>false
def RB.eq:RB -> RB -> Bool
 | .cm o a b,.cm o' a' b'=>o == o' && a.eq a' && b.eq b'
 | .not a,.not a'=>a.eq a'
 | .and a b,.and a' b'=>a.eq a' && b.eq b'
 | .or a b,.or a' b'=>a.eq a' && b.eq b'
 | .eqb a b,.eqb a' b'=>a.eq a' && b.eq b'
 | .ite c a b,.ite c' a' b'=>c.eq c' && a.eq a' && b.eq b'
 | .getb q a s k,.getb q' a' s' k'=>q.eq q' && a.eq a' && s == s' && k == k'
 | _,_=>false
def gEq:B × Bool -> B × Bool -> Bool:=fun p q=>p.1.eq q.1 && p.2 == q.2
def Em.eq:Em -> Em -> Bool
 | .di n r,.di n' r'=>n == n' && r.eq r'
 | .db n r,.db n' r'=>n == n' && r.eq r'
 | .call f ai ab i ni b nb,.call f' ai' ab' i' ni' b' nb'=>f == f' && listEq A.eq ai ai' && listEq B.eq ab ab' && i == i' && ni == ni' && b == b' && nb == nb'
 | .ob g b,.ob g' b'=>listEq gEq g g' && b.eq b'
 | _,_=>false
def Smry.eq (S T:Smry):Bool:=listEq Em.eq S.em T.em && listEq A.eq S.ri T.ri && listEq B.eq S.rb T.rb
theorem RI.eq_sound {r s:RI} (h:r.eq s = true):r = s:=by
 cases r <;> cases s <;> simp only [RI.eq,Bool.and_eq_true,beq_iff_eq,Bool.false_eq_true] at h
 ·obtain ⟨⟨⟨rfl,rfl⟩,h1⟩,h2⟩:=h; rw [A.eq_sound h1,A.eq_sound h2]
 ·obtain ⟨rfl,h1⟩:=h; rw [A.eq_sound h1]
 ·obtain ⟨⟨h0,h1⟩,h2⟩:=h; rw [B.eq_sound h0,A.eq_sound h1,A.eq_sound h2]
 ·rw [A.eq_sound h.1,A.eq_sound h.2]
 ·rw [A.eq_sound h.1,A.eq_sound h.2]
 ·rw [listEq_sound (fun x y h=>by simpa using h) h.1,A.eq_sound h.2]
 ·obtain ⟨⟨⟨h1,h2⟩,rfl⟩,rfl⟩:=h; rw [A.eq_sound h1,A.eq_sound h2]
 ·obtain ⟨h1,rfl⟩:=h; rw [A.eq_sound h1]
 ·obtain ⟨h1,rfl⟩:=h; rw [A.eq_sound h1]
 ·obtain ⟨⟨⟨⟨h1,h2⟩,rfl⟩,rfl⟩,h3⟩:=h; rw [A.eq_sound h1,A.eq_sound h2,A.eq_sound h3]
 ·rw [A.eq_sound h.1,A.eq_sound h.2]
 ·obtain ⟨⟨⟨h1,h2⟩,h3⟩,rfl⟩:=h; rw [A.eq_sound h1,A.eq_sound h2,A.eq_sound h3]
 ·rw [listEq_sound (fun _ _ h=>A.eq_sound h) h]
 ·rw [B.eq_sound h]
theorem RB.eq_sound {r s:RB} (h:r.eq s = true):r = s:=by
 cases r <;> cases s <;> simp only [RB.eq,Bool.and_eq_true,beq_iff_eq,Bool.false_eq_true] at h
 ·obtain ⟨⟨rfl,h1⟩,h2⟩:=h; rw [A.eq_sound h1,A.eq_sound h2]
 ·rw [B.eq_sound h]
 ·rw [B.eq_sound h.1,B.eq_sound h.2]
 ·rw [B.eq_sound h.1,B.eq_sound h.2]
 ·rw [B.eq_sound h.1,B.eq_sound h.2]
 ·obtain ⟨⟨h0,h1⟩,h2⟩:=h; rw [B.eq_sound h0,B.eq_sound h1,B.eq_sound h2]
 ·obtain ⟨⟨⟨h1,h2⟩,rfl⟩,rfl⟩:=h; rw [A.eq_sound h1,A.eq_sound h2]
theorem Em.eq_sound {r s:Em} (h:r.eq s = true):r = s:=by
 cases r <;> cases s <;> simp only [Em.eq,Bool.and_eq_true,beq_iff_eq,Bool.false_eq_true] at h
 ·obtain ⟨rfl,h⟩:=h; rw [RI.eq_sound h]
 ·obtain ⟨rfl,h⟩:=h; rw [RB.eq_sound h]
 ·obtain ⟨⟨⟨⟨⟨⟨rfl,h1⟩,h2⟩,rfl⟩,rfl⟩,rfl⟩,rfl⟩:=h
  rw [listEq_sound (fun _ _ h=>A.eq_sound h) h1,listEq_sound (fun _ _ h=>B.eq_sound h) h2]
 ·rw [listEq_sound (fun x y h=>by
   simp only [gEq,Bool.and_eq_true,beq_iff_eq] at h
   cases x; cases y
   simp only at h
   rw [B.eq_sound h.1,h.2]) h.1,B.eq_sound h.2]
theorem Smry.eq_sound {S T:Smry} (h:S.eq T = true):S = T:=by
 simp only [Smry.eq,Bool.and_eq_true] at h
 cases S; cases T
 simp only at h
 rw [listEq_sound (fun _ _ h=>Em.eq_sound h) h.1.1,listEq_sound (fun _ _ h=>A.eq_sound h) h.1.2,listEq_sound (fun _ _ h=>B.eq_sound h) h.2]

def bigG:Nat:=1000000
def ov (e o:Env):Env:={ i:=fun n=>if n < bigG then e.i n else o.i (n - bigG),b:=fun n=>if n < bigG then e.b n else o.b (n - bigG) }

structure LAnn where
 id:Nat
 ga:List Nat
 gb:List Nat
 hv:List Nat
 dr:List Nat
 hb:List Nat
 db:List Nat
 xs:List Nat
 xb:List Nat
 nI:Nat
 nB:Nat
 S:Smry
 sd:List (Nat × Nat × Bool × List CK):=[]

def idx (n:Nat):List Nat -> Nat -> Option Nat
 | [],_=>none
 | m :: l,p=>if m == n then some p else idx n l (p + 1)
theorem idx_spec {n:Nat}:∀ {l:List Nat} {p q:Nat},idx n l p = some q -> p <= q /\ l[q - p]? = some n
 | [],p,q,h=>by simp [idx] at h
 | m :: l,p,q,h=>by
  unfold idx at h
  split at h
  ·rename_i he
   simp only [beq_iff_eq] at he
   simp only [Option.some.injEq] at h
   subst h; subst he
   simp
  ·obtain ⟨h1,h2⟩:=idx_spec h
   refine ⟨by omega,?_⟩
   rw [show q - p = (q - (p + 1)) + 1 by omega]
   simpa using h2
def rnA (ga:List Nat):A -> A
 | .v n=>match idx n ga 0 with | some p=>.v p | none=>.v (bigG + n)
 | .c k=>.c k
def rnB (gb:List Nat):B -> B
 | .v n=>match idx n gb 0 with | some p=>.v p | none=>.v (bigG + n)
 | .c k=>.c k
def rnC (L:LAnn):C -> C
 | .int k a=>.int k (rnA L.ga a)
 | .bool b=>.bool (rnB L.gb b)
 | .ptr l i o=>.ptr (l.map fun p=>(rnB L.gb p.1,p.2)) i o
 | .pix i o s n a k=>.pix i o s n (rnA L.ga a) k
 | .slx ks q n=>.slx ks (rnA L.ga q) (rnA L.ga n)
 | .vec ks q n=>.vec ks (rnA L.ga q) (rnA L.ga n)
 | .str q=>.str (rnA L.ga q)
 | c=>c
def rnS (L:LAnn):S -> S
 | .one agg l=>.one agg (l.map (rnC L))
 | .tup l=>.tup (l.map fun p=>(p.1,p.2.map (rnC L)))
 | .any=>.any
def rnG (L:LAnn) (g:Gd):Gd:=g.map fun p=>(rnB L.gb p.1,p.2)
def hvC (L:LAnn):List C -> Nat -> Nat -> List C × Nat × Nat
 | [],i,b=>([],i,b)
 | .int k _ :: l,i,b=>match hvC L l (i + 1) b with | (r,j)=>(.int k (.v i) :: r,j)
 | .bool _ :: l,i,b=>match hvC L l i (b + 1) with | (r,j)=>(.bool (.v b) :: r,j)
 | .slx ks _ _ :: l,i,b=>match hvC L l (i + 2) b with | (r,j)=>(.slx ks (.v i) (.v (i + 1)) :: r,j)
 | .vec ks _ _ :: l,i,b=>match hvC L l (i + 2) b with | (r,j)=>(.vec ks (.v i) (.v (i + 1)) :: r,j)
 | .str _ :: l,i,b=>match hvC L l (i + 1) b with | (r,j)=>(.str (.v i) :: r,j)
 | c :: l,i,b=>match hvC L l i b with | (r,j)=>(rnC L c :: r,j)
def tmplTm (L:LAnn):List SV -> Nat -> Nat -> Nat -> List SV × Nat × Nat
 | [],_,i,b=>([],i,b)
 | v :: l,t,i,b =>
  if L.dr.contains t then match tmplTm L l (t + 1) i b with | (r,j)=>(anySV :: r,j)
  else if L.hv.contains t then match v with
   | { g:=[],s:=.one agg cs }=>match hvC L cs i b with
    | (ds,i',b')=>match tmplTm L l (t + 1) i' b' with | (r,j)=>({ g:=[],s:=.one agg ds } :: r,j)
   | _=>match tmplTm L l (t + 1) i b with | (r,j)=>(anySV :: r,j)
  else match tmplTm L l (t + 1) i b with | (r,j)=>({ g:=rnG L v.g,s:=rnS L v.s } :: r,j)
def tmplHb (L:LAnn) (hp:Hl):List Nat -> Nat -> Nat -> Hl
 | [],_,_=>[]
 | id :: l,i,b=>match hpOf hp id with
  | some bl=>match hvC L bl.cells i b with | (ds,i',b')=>(id,{ g:=rnG L bl.g,ro:=bl.ro,cells:=ds }) :: tmplHb L hp l i' b'
  | none=>tmplHb L hp l i b
def tmplHr (L:LAnn) (hp:Hl):List Nat -> Hl
 | []=>[]
 | id :: l=>if L.hb.contains id || L.db.contains id then tmplHr L hp l else match hpOf hp id with
  | some bl=>(id,{ g:=rnG L bl.g,ro:=bl.ro,cells:=bl.cells.map (rnC L) }) :: tmplHr L hp l
  | none=>tmplHr L hp l
def loopT (L:LAnn) (s:St):St :=
 match tmplTm L s.tm 0 L.ga.length L.gb.length with
 | (tm,i,b)=>{ tm:=tm,hp:=tmplHb L s.hp L.hb i b ++ tmplHr L s.hp (dedup (s.hp.map (·.1))),rb:=uniN L.hb s.rb,js:={ b:=rnB L.gb s.js.b,a:=rnA L.ga s.js.a } }
def atI:List C -> List A
 | []=>[]
 | .int _ a :: l=>a :: atI l
 | .slx _ q n :: l=>q :: n :: atI l
 | .vec _ q n :: l=>q :: n :: atI l
 | .str q :: l=>q :: atI l
 | _ :: l=>atI l
def atB:List C -> List B
 | []=>[]
 | .bool a :: l=>a :: atB l
 | _ :: l=>atB l
def sCells:S -> List C
 | .one _ l=>l
 | .tup l=>(l.map (·.2)).flatten
 | .any=>[]
def cellsOfSt (ts bs:List Nat) (s:St):List C:=(ts.map fun t=>match s.tm[t]? with | some v=>sCells v.s | none=>[]).flatten ++ (bs.map fun i=>match hpOf s.hp i with | some b=>b.cells | none=>[]).flatten
def loopAi (L:LAnn) (s:St):List A:=L.ga.map A.v ++ atI (cellsOfSt L.hv L.hb s)
def loopAb (L:LAnn) (s:St):List B:=L.gb.map B.v ++ atB (cellsOfSt L.hv L.hb s)
def loopNi (L:LAnn) (s:St):List A:=(List.range L.ga.length).map A.v ++ atI (cellsOfSt L.hv L.hb s)
def loopNb (L:LAnn) (s:St):List B:=(List.range L.gb.length).map B.v ++ atB (cellsOfSt L.hv L.hb s)
def vsI (n:Nat):List A -> List Nat
 | []=>[]
 | .v m :: l=>if Nat.ble n m && Nat.blt m bigG then m :: vsI n l else vsI n l
 | .c _ :: l=>vsI n l
def vsB (n:Nat):List B -> List Nat
 | []=>[]
 | .v m :: l=>if Nat.ble n m && Nat.blt m bigG then m :: vsB n l else vsB n l
 | .c _ :: l=>vsB n l
def expI (L:LAnn) (O:Outs):List Nat:=dedup (O.map fun p=>vsI L.ga.length (p.2.2.js.a :: atI (cellsOfSt L.xs L.xb p.2.2))).flatten
def expB (L:LAnn) (O:Outs):List Nat:=dedup (O.map fun p=>vsB L.gb.length (p.2.2.js.b :: atB (cellsOfSt L.xs L.xb p.2.2))).flatten
def renI (ga:List Nat) (xi:List Nat) (i0:Nat) (m:Nat):Option A :=
 if Nat.blt m ga.length then (ga[m]?).map A.v else if Nat.blt m bigG then (idx m xi 0).map fun p=>.v (i0 + p) else some (.v (m - bigG))
def renB (gb:List Nat) (xb:List Nat) (b0:Nat) (m:Nat):Option B :=
 if Nat.blt m gb.length then (gb[m]?).map B.v else if Nat.blt m bigG then (idx m xb 0).map fun p=>.v (b0 + p) else some (.v (m - bigG))

def selsM:Outs -> M (List B)
 | []=>pure []
 | (_,q,_) :: O=>do
  let b <- gAtom q
  let l <- selsM O
  pure (b :: l)
theorem selsM_snd {Φ:Funs} {ρ:Env}:∀ (O:Outs),Snd Φ ρ (selsM O) (fun l=>l.length = O.length /\ ∀ (i:Nat) p,O[i]? = some p -> ∃ b,l[i]? = some b /\ b.d ρ = Gd.d ρ p.2.1)
 | []=>Snd.pure ⟨rfl,fun i p h=>by simp at h⟩
 | (k,q,s) :: O=>by
  unfold selsM
  refine Snd.bind (gAtom_snd q) fun b hb=>Snd.bind (selsM_snd O) fun l hl=>Snd.pure ⟨by simp [hl.1],fun i p h=>?_⟩
  cases i with
  | zero=>simp at h; subst h; exact ⟨b,by simp,hb⟩
  | succ i=>simp at h; simpa using hl.2 i p h
def mapOuts (m:Nat) (R:Ren):Nat -> Outs -> Outs
 | _,[]=>[]
 | j,(k,q,s) :: O=>(k,[(.v (m + j),true)],s.ren R) :: mapOuts m R (j + 1) O
theorem mapOuts_get {m:Nat} {R:Ren} {k:Kd}:∀ {O:Outs} {j:Nat},match getK k O with
  | none=>getK k (mapOuts m R j O) = none
  | some (q,s)=>∃ i k',O[i]? = some (k',q,s) /\ getK k (mapOuts m R j O) = some ([(.v (m + (j + i)),true)],s.ren R)
 | [],j=>by simp [getK,mapOuts]
 | (l,q,s) :: O,j=>by
  have ih:=mapOuts_get (m:=m) (R:=R) (k:=k) (O:=O) (j:=j + 1)
  by_cases hk:k.eq l = true
  ·rw [show getK k ((l,q,s) :: O) = some (q,s) by simp [getK,hk]]
   exact ⟨0,l,by simp,by simp [mapOuts,getK,hk]⟩
  ·rw [show getK k ((l,q,s) :: O) = getK k O by simp [getK,hk]]
   cases hg:getK k O with
   | none =>
    rw [hg] at ih
    simp only at ih ⊢
    simp [mapOuts,getK,hk,ih]
   | some p =>
    obtain ⟨q',s'⟩:=p
    rw [hg] at ih
    simp only at ih ⊢
    obtain ⟨i,k',h1,h2⟩:=ih
    exact ⟨i + 1,k',by simpa using h1,by simp only [mapOuts,getK,hk]; simpa [Nat.add_assoc,Nat.add_comm 1 i] using h2⟩

def Em.ltG:Em -> Bool
 | .di n r=>Nat.blt n bigG && r.lt bigG bigG
 | .db n r=>Nat.blt n bigG && r.lt bigG bigG
 | .call _ ai ab i ni b nb=>ai.all (A.lt bigG) && ab.all (B.lt bigG) && Nat.ble (i + ni) bigG && Nat.ble (b + nb) bigG
 | .ob g b=>(g.all fun p=>p.1.lt bigG) && b.lt bigG
theorem ov_agree (e o:Env):Agree bigG bigG e (ov e o):=⟨fun n h=>by show (if n < bigG then e.i n else _) = _; rw [if_pos h],fun n h=>by show (if n < bigG then e.b n else _) = _; rw [if_pos h]⟩
theorem ov_i {e o:Env} {n:Nat} (h:n < bigG):(ov e o).i n = e.i n:=(ov_agree e o).1 n h
theorem ov_b {e o:Env} {n:Nat} (h:n < bigG):(ov e o).b n = e.b n:=(ov_agree e o).2 n h
theorem ov_i' {e o:Env} {n:Nat} (h:¬ n < bigG):(ov e o).i n = o.i (n - bigG):=by show (if n < bigG then e.i n else _) = _; rw [if_neg h]
theorem ov_b' {e o:Env} {n:Nat} (h:¬ n < bigG):(ov e o).b n = o.b (n - bigG):=by show (if n < bigG then e.b n else _) = _; rw [if_neg h]
theorem Gd.d_ov {e o:Env}:∀ {g:Gd},(g.all fun p=>p.1.lt bigG) = true -> Gd.d (ov e o) g = Gd.d e g
 | [],_=>rfl
 | (b,k) :: g,h=>by
  simp only [List.all_cons,Bool.and_eq_true] at h
  rw [Gd.d_cons,Gd.d_cons,Gd.d_ov h.2,B.d_agree (ov_agree e o) h.1]
theorem Em.ok_ov {Φ:Funs} {e o:Env} {m:Em} (h:m.ltG = true) (hk:m.ok Φ e):m.ok Φ (ov e o):=by
 have ha:=ov_agree e o
 cases m with
 | di n r =>
  simp only [Em.ltG,Bool.and_eq_true,Nat.blt_eq] at h
  show (ov e o).i n = _
  rw [ov_i h.1,RI.d_agree ha h.2]
  exact hk
 | db n r =>
  simp only [Em.ltG,Bool.and_eq_true,Nat.blt_eq] at h
  show (ov e o).b n = _
  rw [ov_b h.1,RB.d_agree ha h.2]
  exact hk
 | call f ai ab i ni b nb =>
  simp only [Em.ltG,Bool.and_eq_true,Nat.ble_eq,List.all_eq_true] at h
  obtain ⟨⟨⟨h1,h2⟩,h3⟩,h4⟩:=h
  have e1:ai.map (A.d (ov e o)) = ai.map (A.d e):=List.map_congr_left fun a hm=>A.d_agree ha (h1 a hm)
  have e2:ab.map (B.d (ov e o)) = ab.map (B.d e):=List.map_congr_left fun a hm=>B.d_agree ha (h2 a hm)
  obtain ⟨k1,k2⟩:=hk
  refine ⟨fun j hj=>?_,fun j hj=>?_⟩
  ·rw [e1,e2,<- k1 j hj]
   exact ov_i (by omega)
  ·rw [e1,e2,<- k2 j hj]
   exact ov_b (by omega)
 | ob g b =>
  simp only [Em.ltG,Bool.and_eq_true] at h
  intro hg
  rw [Gd.d_ov h.1] at hg
  rw [B.d_agree ha h.2]
  exact hk hg

def nifE (l:List A) (m:Nat):Option A:=if Nat.blt m bigG then l[m]? else some (.v (m - bigG))
def nbfE (l:List B) (m:Nat):Option B:=if Nat.blt m bigG then l[m]? else some (.v (m - bigG))
def nifN (l:List A) (m:Nat):Option A:=if Nat.blt m bigG then l[m]? else some (.v m)
def nbfN (l:List B) (m:Nat):Option B:=if Nat.blt m bigG then l[m]? else some (.v m)

def offTm (ni:Nat -> Option A) (nb:Nat -> Option B):Nat -> List SV -> List SV -> List A
 | t,u :: l,v :: m=>if u.mat ni nb v then offTm ni nb (t + 1) l m else .c t :: offTm ni nb (t + 1) l m
 | _,_,_=>[]
def offHp (ni:Nat -> Option A) (nb:Nat -> Option B) (s:Hl) (t:Hl):List A:=(t.filter fun p=>!(blMat ni nb s p)).map fun p=>.c p.1
def ghI:List A -> List A
 | []=>[]
 | .v n :: l=>if Nat.blt n bigG then ghI l else .c (n - bigG:Nat) :: ghI l
 | _ :: l=>ghI l
def ghB:List B -> List A
 | []=>[]
 | .v n :: l=>if Nat.blt n bigG then ghB l else .c (n - bigG:Nat) :: ghB l
 | _ :: l=>ghB l
def emIs:Em -> List A
 | .di _ (.ar _ _ a b)=>[a,b]
 | .di _ (.cv _ a)=>[a]
 | .di _ (.ite _ a b)=>[a,b]
 | .di _ (.mn a b)=>[a,b]
 | .di _ (.mx a b)=>[a,b]
 | .di _ (.tab _ a)=>[a]
 | .di _ (.get q a _ _)=>[q,a]
 | .di _ (.lenq q _)=>[q]
 | .di _ (.rep n _)=>[n]
 | .di _ (.setq q a _ _ x)=>[q,a,x]
 | .di _ (.cat p q)=>[p,q]
 | .di _ (.sub q a b _)=>[q,a,b]
 | .di _ (.lst l)=>l
 | .db _ (.getb q a _ _)=>[q,a]
 | .db _ (.cm _ a b)=>[a,b]
 | .call _ ai _ _ _ _ _=>ai
 | _=>[]
def emBs:Em -> List B
 | .di _ (.ite c _ _)=>[c]
 | .di _ (.b2i c)=>[c]
 | .db _ (.not a)=>[a]
 | .db _ (.and a b)=>[a,b]
 | .db _ (.or a b)=>[a,b]
 | .db _ (.eqb a b)=>[a,b]
 | .db _ (.ite c a b)=>[c,a,b]
 | .call _ _ ab _ _ _ _=>ab
 | .ob g b=>b :: g.map (·.1)
 | _=>[]
def dgEm:Em -> Em
 | .ob g b=>.call 1000009 (g.map fun p=>.c (if p.2 then 1 else 0)) (b :: g.map (·.1)) 0 0 0 0
 | e=>e
def ckN:CK -> Nat
 | .int .i8=>0
 | .int .i16=>1
 | .int .i32=>2
 | .int .i64=>3
 | .int .u8=>4
 | .int .u16=>5
 | .int .u32=>6
 | .int .u64=>7
 | .bool=>8
 | .str=>9
 | _=>99
def sdC (id:Nat):Nat -> List C -> List C -> List A
 | j,c :: l,d :: r=>(if asEmp c then (match d with
  | .slm _ ks=>.c id :: .c j :: .c 1 :: .c ks.length :: (ks.map fun k=>A.c (ckN k))
  | .slx ks _ _=>.c id :: .c j :: .c 0 :: .c ks.length :: (ks.map fun k=>A.c (ckN k))
  | _=>[]) else []) ++ sdC id (j + 1) l r
 | _,_,_=>[]
def sdH (t sn:Hl):List Nat -> List A
 | []=>[]
 | i :: l=>(match hpOf t i,hpOf sn i with
  | some b,some d=>sdC i 0 b.cells d.cells
  | _,_=>[]) ++ sdH t sn l
def sdT:Nat -> List SV -> List SV -> List A
 | t,v :: l,u :: r=>(match v.s,u.s with
  | .one false [c],.one false [d]=>sdC (1000000 + t) 0 [c] [d]
  | _,_=>[]) ++ sdT (t + 1) l r
 | _,_,_=>[]
def diag (t s sn:St) (ai ni:List A) (ab nb:List B) (S:Smry):List Em :=
 [.call 1000001 (offTm (nifE ai) (nbfE ab) 0 t.tm s.tm) [] 0 0 0 0,.call 1000002 (offHp (nifE ai) (nbfE ab) s.hp t.hp) [] 0 0 0 0,
  .call 1000003 (offTm (nifN ni) (nbfN nb) 0 t.tm sn.tm) [] 0 0 0 0,.call 1000004 (offHp (nifN ni) (nbfN nb) sn.hp t.hp) [] 0 0 0 0,
  .call 1000005 (ghI ((S.em.map emIs).flatten ++ S.ri)) [] 0 0 0 0,.call 1000006 (ghB ((S.em.map emBs).flatten ++ S.rb)) [] 0 0 0 0,
  .call 1000007 (.c ai.length :: .c ab.length :: (sdT 0 t.tm sn.tm ++ sdH t.hp sn.hp (dedup (t.hp.map (·.1))))) [] 0 0 0 0] ++ S.em.map dgEm ++ [.call 1000008 S.ri S.rb 0 0 0 0]

def St.trim (n:Nat) (s:St):St:={ s with rb:=s.rb.filter fun i=>Nat.blt i n }
theorem Rel.trim {x:Cx} {ρ:Env} {β:Beta} {s:St} {a:Act} {w:World} {n:Nat} (h:Rel x ρ β s a w) {rb:List Nat} (hb0:∀ i r,x.b0 i = some r -> (r.row = false \/ i ∉ rb) -> i < n) (hrb:∀ i,i ∈ rb -> i ∈ s.rb -> i < n):Rel x ρ β (s.trim n) a w :=
 ⟨h.size,h.slot,h.df,h.hm,h.gm,h.gro,h.bo,h.kp,h.gl,h.ra,fun i r hi hp=>h.eb i r hi (hp.imp (fun x=>x) fun hp=>pOf_true.2 fun hc=>by
  have hp:i ∉ s.rb.filter fun i=>Nat.blt i n:=pOf_true.1 hp
  refine hp (List.mem_filter.2 ⟨hc,?_⟩)
  by_cases hm:i ∈ rb
  ·simpa using hrb i hm hc
  ·simpa using hb0 i r hi (.inr hm))⟩
def cntO:Outs -> Nat
 | []=>0
 | (_,_,s) :: O=>max s.cnt (cntO O)
theorem cntO_le {k:Kd} {q:Gd} {s:St}:∀ {O:Outs},getK k O = some (q,s) -> s.cnt <= cntO O
 | [],h=>by simp [getK] at h
 | (l,q',s') :: O,h=>by
  unfold getK at h
  unfold cntO
  split at h
  ·simp only [Option.some.injEq,Prod.mk.injEq] at h
   rw [h.2]
   exact Nat.le_max_left _ _
  ·exact Nat.le_trans (cntO_le h) (Nat.le_max_right _ _)
def loopChk (L:LAnn) (n:Nat) (t s sn:St) (ai ni:List A) (ab nb:List B) (S:Smry):Bool :=
 t.mat (nifE ai) (nbfE ab) s && t.mat (nifN ni) (nbfN nb) (sn.trim n) && (t.below n && t.rb.all fun i=>Nat.blt i n) && wsEm S.em ai.length ab.length && S.em.all Em.ltG && S.ri.all (A.lt bigG) && S.rb.all (B.lt bigG) && S.eq L.S &&
 ai.length == L.nI && ab.length == L.nB && ni.length == L.nI && nb.length == L.nB && Nat.ble L.nI bigG && Nat.ble L.nB bigG
def outsRen (R:Ren) (O:Outs):Bool:=O.all fun p=>p.2.2.js.renOk R
theorem outsRen_get {R:Ren} {k:Kd} {q:Gd} {s:St}:∀ {O:Outs},outsRen R O = true -> getK k O = some (q,s) -> s.js.renOk R = true
 | [],_,h=>by simp [getK] at h
 | (l,q',s') :: O,h,hk=>by
  simp only [outsRen,List.all_cons,Bool.and_eq_true] at h
  unfold getK at hk
  split at hk
  ·simp only [Option.some.injEq,Prod.mk.injEq] at hk
   rw [<- hk.2]; exact h.1
  ·exact outsRen_get h.2 hk
def loopM (L:LAnn) (f:St -> M Outs) (s:St):M Outs:=fun c =>
 match f (loopT L s) { i:=(loopAi L s).length,b:=(loopAb L s).length,id:=c.id + (loopT L s).cnt } with
 | none=>none
 | some (O,c1,o1)=>match getK .n O with
  | none=>none
  | some (qn,sn)=>match gAtom qn c1 with
   | none=>none
   | some (cont,c2,o2)=>match selsM (dropK .n O) c2 with
    | none=>none
    | some (sels,_,o3) =>
     let xi:=expI L (dropK .n O)
     let xb:=expB L (dropK .n O)
     let S:Smry:={ em:=o1 ++ (o2 ++ o3),ri:=loopNi L sn ++ xi.map A.v,rb:=cont :: (loopNb L sn ++ (sels ++ xb.map B.v)) }
     let nb:=1 + (sels.length + xb.length)
     some (single (mapOuts (c.b + 1) { i:=renI L.ga xi c.i,b:=renB L.gb xb (c.b + 1 + sels.length),n:=c.id,rb:=s.rb } 0 (dropK .n O)),
      { i:=c.i + xi.length,b:=c.b + nb,id:=c.id + cntO (dropK .n O) },
      .call L.id (loopAi L s) (loopAb L s) c.i xi.length c.b nb :: .ob [] (.v c.b) ::
       (if loopChk L c.id (loopT L s) s sn (loopAi L s) (loopNi L sn) (loopAb L s) (loopNb L sn) S && outsRen { i:=renI L.ga xi c.i,b:=renB L.gb xb (c.b + 1 + sels.length),n:=c.id,rb:=s.rb } (dropK .n O) then [] else .ob [] (.c false) :: diag (loopT L s) s sn (loopAi L s) (loopNi L sn) (loopAb L s) (loopNb L sn) S))

def envE (Φ:Funs) (S:Smry) (is:List Int) (bs:List Bool):Env:=envOf (evEm Φ S.em is bs).1 (evEm Φ S.em is bs).2
theorem run_true (Φ:Funs) (S:Smry) (is:List Int) (bs:List Bool):S.run Φ true is bs = (S.ri.map (A.d (envE Φ S is bs)),obAll (envE Φ S is bs) S.em :: S.rb.map (B.d (envE Φ S is bs))):=rfl
theorem envE_in {Φ:Funs} {S:Smry} {is:List Int} {bs:List Bool} (hw:wsEm S.em is.length bs.length = true):(∀ m,m < is.length -> (envE Φ S is bs).i m = is.getD m 0) /\ (∀ m,m < bs.length -> (envE Φ S is bs).b m = bs.getD m false):=by
 have:=(evEm_spec Φ S.em is bs hw).1
 exact ⟨fun m hm=>this.1 m hm,fun m hm=>this.2 m hm⟩

structure Turn (Φ:Funs) (f:St -> M Outs) (L:LAnn) (c:Ctr) (t sn:St) (O:Outs) (c1:Ctr) (qn:Gd) (cont:B) (sels:List B) (ni:List A) (nb:List B) (xi xb:List Nat) (S:Smry):Prop where
 run:∃ o1 o2 o3 c2 c3,f t { i:=L.nI,b:=L.nB,id:=c.id + t.cnt } = some (O,c1,o1) /\ gAtom qn c1 = some (cont,c2,o2) /\ selsM (dropK .n O) c2 = some (sels,c3,o3) /\ S.em = o1 ++ (o2 ++ o3)
 hn:getK .n O = some (qn,sn)
 ri:S.ri = ni ++ xi.map A.v
 rb:S.rb = cont :: (nb ++ (sels ++ xb.map B.v))
 lni:ni.length = L.nI
 lnb:nb.length = L.nB
 mat:t.mat (nifN ni) (nbfN nb) (sn.trim c.id) = true
 bel:t.below c.id = true
 rbl:∀ i,i ∈ t.rb -> i < c.id
 ws:wsEm S.em L.nI L.nB = true
 em:∀ e,e ∈ S.em -> e.ltG = true
 rig:∀ a,a ∈ S.ri -> a.lt bigG = true
 rbg:∀ a,a ∈ S.rb -> a.lt bigG = true
 gI:L.nI <= bigG
 gB:L.nB <= bigG
 invI:∀ m,m < L.ga.length -> ni[m]? = some (.v m)
 invB:∀ m,m < L.gb.length -> nb[m]? = some (.v m)

theorem loop_turns {P:Program} {Φ:Funs} {x:Cx} {ρ:Env} {L:LAnn} {cd:Code} {f:St -> M Outs} (hf:∀ ρ,CodeOk P Φ x ρ cd f) {c:Ctr} {t sn:St} {O:Outs} {c1:Ctr} {qn:Gd} {cont:B} {sels:List B}
  {ni:List A} {nb:List B} {xi xb:List Nat} {S:Smry} (T:Turn Φ f L c t sn O c1 qn cont sels ni nb xi xb S)
  {β:Beta} (hlow:∀ i r,β i = some r -> i < c.id) (hgl:∀ (g:Nat) (vs:List Value),x.gl[g]? = some vs -> β g = some (gRg g vs)) (hra:∀ (j:Nat) (r:Rg),x.gr[j]? = some r -> β (x.gi j) = some r) (hb0:∀ i r,x.b0 i = some r -> (r.row = false \/ i ∉ t.rb) -> i < c.id)
  {Q:Exit -> Act -> World -> Prop} {n:Nat} {is:List Int} {bs:List Bool} {o:Fl} (h:LRun (S.run Φ true) L.nI L.nB n is bs o) :
  is.length = L.nI -> bs.length = L.nB -> (∀ m,m < L.ga.length -> is.getD m 0 = ρ.i (L.ga.getD m 0)) -> (∀ m,m < L.gb.length -> bs.getD m false = ρ.b (L.gb.getD m 0)) ->
  (∀ (is':List Int) (bs':List Bool),is'.length = L.nI -> bs'.length = L.nB -> (∀ m,m < L.ga.length -> is'.getD m 0 = ρ.i (L.ga.getD m 0)) -> (∀ m,m < L.gb.length -> bs'.getD m false = ρ.b (L.gb.getD m 0)) ->
   o = ((S.ri.map (A.d (envE Φ S is' bs'))).drop L.nI,((nb ++ (sels ++ xb.map B.v)).map (B.d (envE Φ S is' bs'))).drop L.nB) -> (∀ (i:Nat) p,(dropK .n O)[i]? = some p -> ∃ b,sels[i]? = some b /\ b.d (envE Φ S is' bs') = Gd.d (ov (envE Φ S is' bs') ρ) p.2.1) ->
   ∀ (ex:Exit) (K:Kd) (a':Act) (w':World) (β1:Beta),Ext β β1 -> kdOf ex = some K -> K ≠ .n -> OutMt x (ov (envE Φ S is' bs') ρ) β1 c1 O K a' w' -> Q ex a' w') ->
  ∀ (β1:Beta) (a:Act) (w:World),Ext β β1 -> (∀ i,c.id + t.cnt <= i -> β1 i = none) -> Rel x (ov (envE Φ S is bs) ρ) β1 t a w -> Code.roundsIn (FR x.rl) 0 P cd Q n a w:=by
 obtain ⟨o1,o2,o3,c2,c3,h1,h2,h3,hem⟩:=T.run
 have one:∀ (is:List Int) (bs:List Bool),is.length = L.nI -> bs.length = L.nB -> obAll (envE Φ S is bs) S.em = true -> Good Φ (ov (envE Φ S is bs) ρ) o1 /\ cont.d (ov (envE Φ S is bs) ρ) = Gd.d (ov (envE Φ S is bs) ρ) qn /\
   (∀ (i:Nat) p,(dropK .n O)[i]? = some p -> ∃ b,sels[i]? = some b /\ b.d (envE Φ S is bs) = Gd.d (ov (envE Φ S is bs) ρ) p.2.1):=by
  intro is bs hi hb ho
  have hg:Good Φ (envE Φ S is bs) S.em:=good_of (by rw [hi,hb]; exact T.ws) ho
  have hg':Good Φ (ov (envE Φ S is bs) ρ) S.em:=fun e he=>Em.ok_ov (T.em e he) (hg e he)
  rw [hem,Good.append,Good.append] at hg'
  refine ⟨hg'.1,gAtom_snd qn _ _ _ _ h2 hg'.2.1,fun i p hp=>?_⟩
  obtain ⟨b,hb1,hb2⟩:=(selsM_snd (dropK .n O) _ _ _ _ h3 hg'.2.2).2 i p hp
  refine ⟨b,hb1,?_⟩
  rw [<- hb2,B.d_agree (ov_agree _ _) (T.rbg b _)]
  rw [T.rb]
  simp [List.mem_of_getElem? hb1]
 induction h with
 | @stop is bs rb he =>
  intro hi hb hiI hiB hend β1 a w hE hF hR
  rw [run_true] at he
  simp only [List.cons.injEq] at he
  obtain ⟨ho,he⟩:=he
  obtain ⟨g1,g2,g3⟩:=one is bs hi hb ho
  have hcont:cont.d (envE Φ S is bs) = false:=by
   rw [T.rb] at he
   simp only [List.map_cons,List.cons.injEq] at he
   exact he.1
  have hrb:rb = (nb ++ (sels ++ xb.map B.v)).map (B.d (envE Φ S is bs)):=by
   rw [T.rb] at he
   simp only [List.map_cons,List.cons.injEq] at he
   exact he.2.symm
  have hcont':cont.d (ov (envE Φ S is bs) ρ) = false:=by
   rw [B.d_agree (ov_agree _ _) (T.rbg cont (by rw [T.rb]; simp))]; exact hcont
  show cd.wpIn (FR x.rl) 0 P (Exit.then (Code.roundsIn (FR x.rl) 0 P cd Q 0) Q) a w
  refine hf (ov (envE Φ S is bs) ρ) t _ c1 O o1 h1 g1 β1 a w hR (fun i hi=>hF i hi) _ fun ex a' w' K hk hO=>?_
  have hK:K ≠ .n:=by
   intro e
   subst e
   have:=(hO.1 _ _ _ T.hn).2 rfl
   rw [<- g2,hcont'] at this
   cases this
  have hq:=hend is bs hi hb hiI hiB (by rw [hrb,run_true]) g3 ex K a' w' β1 hE hk hK hO
  cases ex <;> first | exact hq | (simp only [kdOf,Option.some.injEq] at hk; exact absurd hk.symm hK)
 | @turn n is bs rb o he hrun ih =>
  intro hi hb hiI hiB hend β1 a w hE hF hR
  rw [run_true] at he
  simp only [List.cons.injEq] at he
  obtain ⟨ho,he⟩:=he
  obtain ⟨g1,g2,g3⟩:=one is bs hi hb ho
  have hcont:cont.d (envE Φ S is bs) = true:=by
   rw [T.rb] at he
   simp only [List.map_cons,List.cons.injEq] at he
   exact he.1
  have hrb:rb = (nb ++ (sels ++ xb.map B.v)).map (B.d (envE Φ S is bs)):=by
   rw [T.rb] at he
   simp only [List.map_cons,List.cons.injEq] at he
   exact he.2.symm
  have hcont':cont.d (ov (envE Φ S is bs) ρ) = true:=by
   rw [B.d_agree (ov_agree _ _) (T.rbg cont (by rw [T.rb]; simp))]; exact hcont
  have hnis:(S.run Φ true is bs).1.take L.nI = ni.map (A.d (envE Φ S is bs)):=by
   rw [run_true,T.ri]
   simp [<- T.lni]
  have hnbs:rb.take L.nB = nb.map (B.d (envE Φ S is bs)):=by
   rw [hrb]
   simp [<- T.lnb]
  rw [hnis,hnbs] at ih hrun
  have hin:=envE_in (Φ:=Φ) (S:=S) (is:=is) (bs:=bs) (by rw [hi,hb]; exact T.ws)
  have hin':=envE_in (Φ:=Φ) (S:=S) (is:=ni.map (A.d (envE Φ S is bs))) (bs:=nb.map (B.d (envE Φ S is bs))) (by simp only [List.length_map,T.lni,T.lnb]; exact T.ws)
  have hga:L.ga.length <= L.nI:=by
   rcases Nat.lt_or_ge L.nI L.ga.length with h | h
   ·have:=T.invI L.nI h
    rw [<- T.lni] at this
    simp at this
   ·exact h
  have hgb:L.gb.length <= L.nB:=by
   rcases Nat.lt_or_ge L.nB L.gb.length with h | h
   ·have:=T.invB L.nB h
    rw [<- T.lnb] at this
    simp at this
   ·exact h
  show cd.wpIn (FR x.rl) 0 P (Exit.then (Code.roundsIn (FR x.rl) 0 P cd Q n) Q) a w
  refine hf (ov (envE Φ S is bs) ρ) t _ c1 O o1 h1 g1 β1 a w hR (fun i hi=>hF i hi) _ fun ex a' w' K hk hO=>?_
  obtain ⟨q,s',β',hK,hE',hR',hF'⟩:=hO.2
  have hKn:K = .n:=by
   have:=(hO.1 _ _ _ T.hn).1 (by rw [<- g2]; exact hcont')
   exact this.symm
  subst hKn
  rw [T.hn] at hK
  simp only [Option.some.injEq,Prod.mk.injEq] at hK
  obtain ⟨rfl,rfl⟩:=hK
  have hex:ex = .normal:=by cases ex <;> simp_all [kdOf]
  subst hex
  show Code.roundsIn (FR x.rl) 0 P cd Q n a' w'
  have hEE:Ext β β':=hE.trans hE'
  have htr:Rel x (ov (envE Φ S is bs) ρ) β' (sn.trim c.id) a' w':=hR'.trim hb0 fun i hi _=>T.rbl i hi
  have hmat:Rel x (ov (envE Φ S (ni.map (A.d (envE Φ S is bs))) (nb.map (B.d (envE Φ S is bs)))) ρ) β' t a' w':=by
   refine Rel.mat (ρ1:=ov (envE Φ S is bs) ρ) ⟨fun j a hj=>?_,fun j a hj=>?_⟩ htr T.mat
   ·unfold nifN at hj
    split at hj
    ·rename_i hlt
     simp only [Nat.blt_eq] at hlt
     have hjl:=(List.getElem?_eq_some_iff.1 hj).1
     rw [ov_i hlt,hin'.1 j (by simpa using hjl)]
     simp only [List.getD_eq_getElem?_getD,List.getElem?_map,hj,Option.map_some,Option.getD_some]
     exact (A.d_agree (ov_agree _ _) (T.rig a (by rw [T.ri]; simp [List.mem_of_getElem? hj]))).symm
    ·rename_i hlt
     simp only [Nat.blt_eq] at hlt
     simp only [Option.some.injEq] at hj
     subst hj
     rw [ov_i' hlt]
     show _ = (ov (envE Φ S is bs) ρ).i j
     rw [ov_i' hlt]
   ·unfold nbfN at hj
    split at hj
    ·rename_i hlt
     simp only [Nat.blt_eq] at hlt
     have hjl:=(List.getElem?_eq_some_iff.1 hj).1
     rw [ov_b hlt,hin'.2 j (by simpa using hjl)]
     simp only [List.getD_eq_getElem?_getD,List.getElem?_map,hj,Option.map_some,Option.getD_some]
     exact (B.d_agree (ov_agree _ _) (T.rbg a (by rw [T.rb]; simp [List.mem_of_getElem? hj]))).symm
    ·rename_i hlt
     simp only [Nat.blt_eq] at hlt
     simp only [Option.some.injEq] at hj
     subst hj
     rw [ov_b' hlt]
     show _ = (ov (envE Φ S is bs) ρ).b j
     rw [ov_b' hlt]
  obtain ⟨p,hp1,hp2⟩:=Rel.cut hmat T.bel hEE hlow hb0 hgl hra
  refine ih (by simp [T.lni]) (by simp [T.lnb]) (fun m hm=>?_) (fun m hm=>?_) hend (β'.cut c.id p) a' w' (fun i r hi hr=>cut_low (hlow i r hi) (hEE i r hi hr)) (fun i hi=>cut_fresh hp1 hi) hp2
  ·rw [<- hiI m hm]
   have:=T.invI m hm
   simp only [List.getD_eq_getElem?_getD,List.getElem?_map,this,Option.map_some,Option.getD_some]
   show (envE Φ S is bs).i m = _
   rw [hin.1 m (by omega)]
   simp
  ·rw [<- hiB m hm]
   have:=T.invB m hm
   simp only [List.getD_eq_getElem?_getD,List.getElem?_map,this,Option.map_some,Option.getD_some]
   show (envE Φ S is bs).b m = _
   rw [hin.2 m (by omega)]
   simp

theorem loopM_ok {P:Program} {Φ:Funs} {x:Cx} {ρ:Env} {L:LAnn} {cd:Code} {f:St -> M Outs} (hf:∀ ρ,CodeOk P Φ x ρ cd f) (hΦ:Φ L.id = loopF (L.S.run Φ true) L.nI L.nB) :
  OkW Φ x ρ (fun Q a w=>(Code.loop cd).wpIn (FR x.rl) 0 P Q a w) (loopM L f):=by
 intro s c c' O' out h hg β a w hR hF Q hQ
 unfold loopM at h
 split at h
 ·cases h
 rename_i O c1 o1 h1
 split at h
 ·cases h
 rename_i qn sn hn
 split at h
 ·cases h
 rename_i cont c2 o2 h2
 split at h
 ·cases h
 rename_i sels c3 o3 h3
 simp only [Option.some.injEq,Prod.mk.injEq] at h
 obtain ⟨hO',hc',hout⟩:=h
 generalize hxi:expI L (dropK .n O) = xi at hO' hc' hout
 generalize hxb:expB L (dropK .n O) = xb at hO' hc' hout
 generalize hSd:({ em:=o1 ++ (o2 ++ o3),ri:=loopNi L sn ++ xi.map A.v,rb:=cont :: (loopNb L sn ++ (sels ++ xb.map B.v)) }:Smry) = S at hO' hc' hout
 have hchk:(loopChk L c.id (loopT L s) s sn (loopAi L s) (loopNi L sn) (loopAb L s) (loopNb L sn) S && outsRen { i:=renI L.ga xi c.i,b:=renB L.gb xb (c.b + 1 + sels.length),n:=c.id,rb:=s.rb } (dropK .n O)) = true:=by
  cases hd:(loopChk L c.id (loopT L s) s sn (loopAi L s) (loopNi L sn) (loopAb L s) (loopNb L sn) S && outsRen { i:=renI L.ga xi c.i,b:=renB L.gb xb (c.b + 1 + sels.length),n:=c.id,rb:=s.rb } (dropK .n O)) with
  | true=>rfl
  | false =>
   rw [hd] at hout
   simp only [Bool.false_eq_true,if_false] at hout
   subst hout
   have:=hg (.ob [] (.c false)) (by simp) rfl
   simp at this
 rw [hchk] at hout
 simp only [if_true] at hout
 subst hout
 rw [Bool.and_eq_true] at hchk
 obtain ⟨hchk,hro⟩:=hchk
 simp only [loopChk,Bool.and_eq_true,beq_iff_eq,List.all_eq_true,Nat.ble_eq] at hchk
 obtain ⟨⟨⟨⟨⟨⟨⟨⟨⟨⟨⟨⟨⟨k1,k2⟩,k3,k3b⟩,k4⟩,k5⟩,k6⟩,k7⟩,k8⟩,k9⟩,k10⟩,k11⟩,k12⟩,k13⟩,k14⟩:=hchk
 have hSL:=Smry.eq_sound k8
 rw [<- hSL] at hΦ
 rw [Good.cons,Good.cons] at hg
 obtain ⟨⟨hcI,hcB⟩,hob,_⟩:=hg
 have hob':(B.v c.b).d ρ = true:=hob rfl
 have hb0:=hcB 0 (by omega)
 rw [Nat.add_zero,hΦ] at hb0
 have hok:(loopF (S.run Φ true) L.nI L.nB ((loopAi L s).map (A.d ρ)) ((loopAb L s).map (B.d ρ))).2.getD 0 false = true:=by rw [<- hb0]; exact hob'
 obtain ⟨n,o,hrun,hval⟩:=loopF_inv hok
 rw [hΦ,hval] at hcI hcB
 have hfr:∀ i r,β i = some r -> i < c.id:=fun i r hi=>by
  rcases Nat.lt_or_ge i c.id with h | h
  ·exact h
  ·rw [hF i h] at hi; cases hi
 have hfb:∀ i r,x.b0 i = some r -> (r.row = false \/ i ∉ s.rb) -> i < c.id:=fun i r hi hr=>hfr i r (hR.eb i r hi (hr.imp (fun x=>x) pOf_true.2))
 have hst:∀ i,i ∈ s.rb -> i ∈ (loopT L s).rb:=fun i hi=>by
  simp only [St.mat,Bool.and_eq_true,List.all_eq_true] at k1
  simpa using k1.2.2.1 i hi
 have T:Turn Φ f L c (loopT L s) sn O c1 qn cont sels (loopNi L sn) (loopNb L sn) xi xb S:=by
  refine ⟨⟨o1,o2,o3,c2,c3,?_,h2,h3,?_⟩,hn,?_,?_,k11,k12,k2,k3,fun i hi=>by simpa using k3b i hi,?_,k5,k6,k7,k13,k14,fun m hm=>?_,fun m hm=>?_⟩
  ·rw [<- k9,<- k10]; exact h1
  ·rw [<- hSd]
  ·rw [<- hSd]
  ·rw [<- hSd]
  ·rw [<- k9,<- k10]; exact k4
  ·unfold loopNi
   rw [List.getElem?_append_left (by simpa using hm)]
   simp [hm]
  ·unfold loopNb
   rw [List.getElem?_append_left (by simpa using hm)]
   simp [hm]
 have hai:∀ m,m < L.ga.length -> (loopAi L s)[m]? = some (.v (L.ga.getD m 0)):=fun m hm=>by
  unfold loopAi
  rw [List.getElem?_append_left (by simpa using hm)]
  simp [hm]
 have hab:∀ m,m < L.gb.length -> (loopAb L s)[m]? = some (.v (L.gb.getD m 0)):=fun m hm=>by
  unfold loopAb
  rw [List.getElem?_append_left (by simpa using hm)]
  simp [hm]
 have hin:=envE_in (Φ:=Φ) (S:=S) (is:=(loopAi L s).map (A.d ρ)) (bs:=(loopAb L s).map (B.d ρ)) (by simp only [List.length_map]; exact k4)
 refine wpIn_loop_rounds n (loop_turns (ρ:=ρ) hf T hfr (fun g vs hg=>hR.gl g vs hg) (fun j r hj=>(hR.ra j r hj).2) (fun i r hi hr=>hfb i r hi (hr.imp (fun x=>x) fun h hc=>h (hst i hc))) hrun (by simp [k9]) (by simp [k10]) (fun m hm=>?_) (fun m hm=>?_) (fun is' bs' li lb hI hB ho hsel ex K a' w' β1 hE hk hKn hO=>?_) β a w (Ext.refl β) (fun i hi=>hF i (by omega)) ?_)
 ·simp only [List.getD_eq_getElem?_getD,List.getElem?_map,hai m hm,Option.map_some,Option.getD_some]
  rfl
 ·simp only [List.getD_eq_getElem?_getD,List.getElem?_map,hab m hm,Option.map_some,Option.getD_some]
  rfl
 ·-- left
  refine hQ ex a' w' K hk ?_
  subst hO'
  subst hc'
  have hin2:=envE_in (Φ:=Φ) (S:=S) (is:=is') (bs:=bs') (by rw [li,lb]; exact T.ws)
  have hga:L.ga.length <= L.nI:=by
   have:=k11
   unfold loopNi at this
   simp only [List.length_append,List.length_map,List.length_range] at this
   omega
  have hgb:L.gb.length <= L.nB:=by
   have:=k12
   unfold loopNb at this
   simp only [List.length_append,List.length_map,List.length_range] at this
   omega
  have ho1:∀ p m,xi[p]? = some m -> ρ.i (c.i + p) = (envE Φ S is' bs').i m:=fun p m hp=>by
   have hpl:=(List.getElem?_eq_some_iff.1 hp).1
   rw [hcI p hpl,ho]
   simp only [T.ri,List.map_append,List.getD_eq_getElem?_getD]
   rw [List.drop_left' (by simp [k11])]
   simp only [List.map_map,List.getElem?_map,hp,Option.map_some,Option.getD_some]
   rfl
  have ho2:∀ (j:Nat),j < sels.length + xb.length -> ρ.b (c.b + 1 + j) = ((sels ++ xb.map B.v).map (B.d (envE Φ S is' bs'))).getD j false:=fun j hj=>by
   have:=hcB (1 + j) (by omega)
   rw [show c.b + (1 + j) = c.b + 1 + j by omega] at this
   rw [this,ho,List.map_append,List.drop_left' (by simp [k12]),show 1 + j = j + 1 by omega,List.getD_cons_succ]
  refine single_mt ?_
  obtain ⟨hO1,q0,s0,β',hK,hE',hR',hF'⟩:=hO
  have hgk:getK K (dropK .n O) = some (q0,s0):=by
   rw [dropK_get,if_neg (fun h=>hKn (Kd.eq_sound h).symm)]; exact hK
  have hren:NRen { i:=renI L.ga xi c.i,b:=renB L.gb xb (c.b + 1 + sels.length),n:=c.id,rb:=s.rb } (ov (envE Φ S is' bs') ρ) ρ:=by
   refine ⟨fun j a hj=>?_,fun j a hj=>?_⟩
   ·simp only [renI] at hj
    split at hj
    ·rename_i hlt
     simp only [Nat.blt_eq] at hlt
     rw [List.getElem?_eq_getElem hlt] at hj
     simp only [Option.map_some,Option.some.injEq] at hj
     subst hj
     rw [ov_i (by omega),hin2.1 j (by omega),hI j hlt]
     simp [A.d,hlt]
    ·split at hj
     ·rename_i hlt
      simp only [Nat.blt_eq] at hlt
      cases hx:idx j xi 0 with
      | none=>rw [hx] at hj; simp at hj
      | some p =>
       rw [hx] at hj
       simp only [Option.map_some,Option.some.injEq] at hj
       subst hj
       rw [ov_i hlt]
       have:=(idx_spec hx).2
       rw [Nat.sub_zero] at this
       exact ho1 p j this
     ·rename_i hlt
      simp only [Nat.blt_eq] at hlt
      simp only [Option.some.injEq] at hj
      subst hj
      rw [ov_i' hlt]
      rfl
   ·simp only [renB] at hj
    split at hj
    ·rename_i hlt
     simp only [Nat.blt_eq] at hlt
     rw [List.getElem?_eq_getElem hlt] at hj
     simp only [Option.map_some,Option.some.injEq] at hj
     subst hj
     rw [ov_b (by omega),hin2.2 j (by omega),hB j hlt]
     simp [B.d,hlt]
    ·split at hj
     ·rename_i hlt
      simp only [Nat.blt_eq] at hlt
      cases hx:idx j xb 0 with
      | none=>rw [hx] at hj; simp at hj
      | some p =>
       rw [hx] at hj
       simp only [Option.map_some,Option.some.injEq] at hj
       subst hj
       rw [ov_b hlt]
       have:=(idx_spec hx).2
       rw [Nat.sub_zero] at this
       have hpl:=(List.getElem?_eq_some_iff.1 this).1
       have h2:=ho2 (sels.length + p) (by omega)
       show ρ.b (c.b + 1 + sels.length + p) = _
       rw [Nat.add_assoc (c.b + 1),h2]
       simp only [List.map_append,List.getD_eq_getElem?_getD]
       rw [List.getElem?_append_right (by simp)]
       simp [this,B.d]
     ·rename_i hlt
      simp only [Nat.blt_eq] at hlt
      simp only [Option.some.injEq] at hj
      subst hj
      rw [ov_b' hlt]
      rfl
  have hguard:∀ k q' s',getK k (mapOuts (c.b + 1) { i:=renI L.ga xi c.i,b:=renB L.gb xb (c.b + 1 + sels.length),n:=c.id,rb:=s.rb } 0 (dropK .n O)) = some (q',s') ->
    ∃ q s2,getK k (dropK .n O) = some (q,s2) /\ Gd.d ρ q' = Gd.d (ov (envE Φ S is' bs') ρ) q /\ s' = s2.ren { i:=renI L.ga xi c.i,b:=renB L.gb xb (c.b + 1 + sels.length),n:=c.id,rb:=s.rb }:=by
   intro k q' s' hk'
   have hm:=mapOuts_get (m:=c.b + 1) (R:={ i:=renI L.ga xi c.i,b:=renB L.gb xb (c.b + 1 + sels.length),n:=c.id,rb:=s.rb }) (k:=k) (O:=dropK .n O) (j:=0)
   cases hgk2:getK k (dropK .n O) with
   | none=>rw [hgk2] at hm; simp only at hm; rw [hm] at hk'; cases hk'
   | some p =>
    obtain ⟨q,s⟩:=p
    rw [hgk2] at hm
    simp only at hm
    obtain ⟨i,k',e1,e2⟩:=hm
    rw [hk'] at e2
    simp only [Option.some.injEq,Prod.mk.injEq] at e2
    obtain ⟨rfl,rfl⟩:=e2
    refine ⟨q,s,rfl,?_,rfl⟩
    obtain ⟨b,hb1,hb2⟩:=hsel i _ e1
    have hbl:=(List.getElem?_eq_some_iff.1 hb1).1
    have:=ho2 i (by omega)
    simp only [Gd.d_cons,Gd.d_nil,Bool.and_true,B.d]
    rw [Nat.zero_add,this,<- hb2]
    simp only [List.map_append,List.getD_eq_getElem?_getD]
    rw [List.getElem?_append_left (by simpa using hbl)]
    simp [hb1]
  refine ⟨fun k q' s' hk'=>?_,?_⟩
  ·obtain ⟨q,s,e1,e2,_⟩:=hguard k q' s' hk'
   rw [e2]
   have hne:¬ ((Kd.n).eq k = true):=fun h=>by
    rw [dropK_get,if_pos h] at e1
    cases e1
   rw [dropK_get,if_neg hne] at e1
   exact hO1 k q s e1
  ·have hm:=mapOuts_get (m:=c.b + 1) (R:={ i:=renI L.ga xi c.i,b:=renB L.gb xb (c.b + 1 + sels.length),n:=c.id,rb:=s.rb }) (k:=K) (O:=dropK .n O) (j:=0)
   rw [hgk] at hm
   simp only at hm
   obtain ⟨i,k',e1,e2⟩:=hm
   obtain ⟨p,hp1,hp2⟩:=Rel.ren hren hR' (outsRen_get hro hgk) (hE.trans hE') hfr hfb (fun g vs hg=>hR.gl g vs hg) (fun j r hj=>(hR.ra j r hj).2)
   have hp3:=cntO_le hgk
   exact ⟨_,_,β'.cut c.id p,e2,fun i r hi hr=>cut_low (hfr i r hi) (hE' i r (hE i r hi hr) hr),hp2,fun i hi=>cut_fresh (Nat.le_trans hp1 hp3) hi⟩
 ·-- the first turn
  refine Rel.mat (ρ1:=ρ) ⟨fun j a hj=>?_,fun j a hj=>?_⟩ hR k1
  ·unfold nifE at hj
   split at hj
   ·rename_i hlt
    simp only [Nat.blt_eq] at hlt
    have hjl:=(List.getElem?_eq_some_iff.1 hj).1
    rw [ov_i hlt,hin.1 j (by simpa using hjl)]
    simp [hj]
   ·rename_i hlt
    simp only [Nat.blt_eq] at hlt
    simp only [Option.some.injEq] at hj
    subst hj
    rw [ov_i' hlt]
    rfl
  ·unfold nbfE at hj
   split at hj
   ·rename_i hlt
    simp only [Nat.blt_eq] at hlt
    have hjl:=(List.getElem?_eq_some_iff.1 hj).1
    rw [ov_b hlt,hin.2 j (by simpa using hjl)]
    simp [hj]
   ·rename_i hlt
    simp only [Nat.blt_eq] at hlt
    simp only [Option.some.injEq] at hj
    subst hj
    rw [ov_b' hlt]
    rfl
end Go.Proofs.YtfgbfdlacnihkaaGreatDoor.Sx
namespace Go.Proofs.YtfgbfdlacnihkaaGreatDoor.Sx
open Go

def seed1 (b j:Nat) (row:Bool) (ks:List CK) (s:St):M St:=do
 let bl <- lift (hpOf s.hp b)
 let c <- lift (bl.cells[j]?)
 if asEmp c && !ks.isEmpty then (if row then do
   let i <- newId
   pure { s with hp:=(b,{ bl with cells:=bl.cells.set j (.slm i ks) }) :: (i,{ g:=[],ro:=false,cells:=[.vec ks (.c 0) (.c 0)] }) :: s.hp }
  else pure { s with hp:=(b,{ bl with cells:=bl.cells.set j (.slx ks (.c 0) (.c 0)) }) :: s.hp }) else M.fail
def emp1:S -> Option C
 | .one false [c]=>if asEmp c then some c else none
 | _=>none
theorem emp1_spec {s:S} {c:C} (h:emp1 s = some c):s = .one false [c] /\ asEmp c = true:=by
 unfold emp1 at h
 split at h
 ·split at h
  ·rename_i he
   simp only [Option.some.injEq] at h
   subst h
   exact ⟨rfl,he⟩
  ·cases h
 ·cases h
def seedT (t:Nat) (row:Bool) (ks:List CK) (s:St):M St:=do
 let v <- lift (s.tm[t]?)
 let _ <- lift (emp1 v.s)
 if !ks.isEmpty then (if row then do
   let i <- newId
   pure { s with tm:=s.tm.set t { v with s:=.one false [.slm i ks] },hp:=(i,{ g:=[],ro:=false,cells:=[.vec ks (.c 0) (.c 0)] }) :: s.hp }
  else pure { s with tm:=s.tm.set t { v with s:=.one false [.slx ks (.c 0) (.c 0)] } }) else M.fail
def str1:S -> Option A
 | .one false [c]=>asStr c
 | _=>none
theorem str1_spec {s:S} {q:A} (h:str1 s = some q):∃ c,s = .one false [c] /\ asStr c = some q:=by
 unfold str1 at h
 split at h
 ·exact ⟨_,rfl,h⟩
 ·cases h
def seedS (t:Nat) (s:St):M St:=do
 let v <- lift (s.tm[t]?)
 let q <- lift (str1 v.s)
 pure { s with tm:=s.tm.set t { v with s:=.one false [.str q] } }
def seedP (p:Nat × Nat × Bool × List CK) (s:St):M St:=if Nat.ble 1000000 p.1 then (if p.2.2.2.isEmpty then seedS (p.1 - 1000000) s else seedT (p.1 - 1000000) p.2.2.1 p.2.2.2 s) else seed1 p.1 p.2.1 p.2.2.1 p.2.2.2 s
def seedAll:List (Nat × Nat × Bool × List CK) -> St -> M St
 | [],s=>pure s
 | p :: l,s=>do
  let s' <- seedP p s
  seedAll l s'
theorem emp_slm {β:Beta} {ρ:Env} {c:C} {v:Value} {i:Nat} {ks:List CK} {b:Nat} (hc:asEmp c = true) (h:c.mt β ρ v):(C.slm i ks).mt (β.set i (rowRg b 0 0)) ρ v:=by
 obtain ⟨p,rfl⟩:=asEmp_mt hc h
 exact ⟨_,0,p,Beta.set_same _ _ _,rfl,by simp [rowRg],Nat.le_refl _,rfl,.inl rfl⟩
theorem emp_slx {β:Beta} {ρ:Env} {c:C} {v:Value} {ks:List CK} (hc:asEmp c = true) (h:c.mt β ρ v):(C.slx ks (.c 0) (.c 0)).mt β ρ v:=by
 refine asSlx_mt (p:=(.c 0,.c 0)) (c:=c) ?_ h
 cases c <;> simp [asEmp] at hc <;> simp [asSlx,asEmp,hc]
theorem cellsAt_set {β:Beta} {ρ:Env} {w:World} {k o:Nat} {l:List C} {j:Nat} {c d:C} (hj:l[j]? = some c) (h:cellsAt β ρ w k o l) (hc:∀ v,c.mt β ρ v -> d.mt β ρ v):cellsAt β ρ w k o (l.set j d):=by
 rw [cellsAt_iff] at *
 intro i e hi
 rw [List.getElem?_set] at hi
 split at hi
 ·rename_i he
  subst he
  split at hi
  ·simp only [Option.some.injEq] at hi
   subst hi
   obtain ⟨v,h1,h2⟩:=h j c hj
   exact ⟨v,h1,hc v h2⟩
  ·cases hi
 ·exact h i e hi
theorem blk_setC {β:Beta} {ρ:Env} {w:World} {b j:Nat} {bl:Blk} {c d:C} (hj:bl.cells[j]? = some c) (he:asEmp c = true) (h:blkMt β ρ w b bl) (hd:∀ v,c.mt β ρ v -> d.mt β ρ v):blkMt β ρ w b { bl with cells:=bl.cells.set j d }:=by
 have hv:vecOf bl.cells = none:=by
  cases hv:vecOf bl.cells with
  | none=>rfl
  | some z =>
   rw [vecOf_spec hv] at hj
   cases j with
   | zero=>simp at hj; subst hj; simp [asEmp] at he
   | succ n=>simp at hj
 obtain ⟨r',p1,p2,p3,p4,p5,p6⟩:=(blkMt_cs hv).1 h
 exact blkMt_mk ⟨r',p1,p2,by simpa using p3,p4,cellsAt_set hj p5 hd,fun e k hk=>p6 e k (by simpa using hk)⟩
theorem seed1_ok {x:Cx} {ρ:Env} {b j:Nat} {row:Bool} {ks:List CK} {s s':St} {c c':Ctr} {o:List Em} (h:seed1 b j row ks s c = some (s',c',o)):c.id <= c'.id /\
  ∀ (β:Beta) (a:Act) (w:World),Rel x ρ β s a w -> Fresh β c -> ∃ β',Ext β β' /\ Rel x ρ β' s' a w /\ Fresh β' c':=by
 unfold seed1 at h
 obtain ⟨bl,c1,o1,c2,o2,y,g1,g2,e1⟩:=M.bind_inv h
 simp only [Prod.mk.injEq] at e1
 obtain ⟨rfl,rfl,rfl⟩:=e1
 obtain ⟨bl',hb,e1⟩:=lift_inv g1
 simp only [Prod.mk.injEq] at e1
 obtain ⟨rfl,rfl,rfl⟩:=e1
 obtain ⟨d,c3,o3,c4,o4,y,g3,g4,e1⟩:=M.bind_inv g2
 simp only [Prod.mk.injEq] at e1
 obtain ⟨rfl,rfl,rfl⟩:=e1
 obtain ⟨d',hj,e1⟩:=lift_inv g3
 simp only [Prod.mk.injEq] at e1
 obtain ⟨rfl,rfl,rfl⟩:=e1
 split at g4
 rotate_left
 ·simp [M.fail] at g4
 rename_i hck
 simp only [Bool.and_eq_true,Bool.not_eq_true',List.isEmpty_eq_false_iff] at hck
 obtain ⟨he,hks'⟩:=hck
 cases row with
 | false =>
  simp only [Bool.false_eq_true,if_false] at g4
  have g4:=M.pure_inv g4
  simp only [Prod.mk.injEq] at g4
  obtain ⟨rfl,rfl,rfl⟩:=g4
  refine ⟨Nat.le_refl _,fun β a w hR hF=>⟨β,Ext.refl β,⟨hR.size,hR.slot,hR.df,fun id dd hd hg=>?_,hR.gm,hR.gro,hR.bo,hR.kp,hR.gl,hR.ra,hR.eb⟩,hF⟩⟩
  unfold hpOf at hd
  split at hd
  ·rename_i hee
   simp only [beq_iff_eq] at hee
   subst hee
   simp only [Option.some.injEq] at hd
   subst hd
   exact blk_setC hj he (hR.hm b bl hb hg) fun v hv=>emp_slx he hv
  ·exact hR.hm id dd hd hg
 | true =>
  simp only [if_true] at g4
  obtain ⟨i,c5,o5,c6,o6,y,g5,g6,e1⟩:=M.bind_inv g4
  simp only [Prod.mk.injEq] at e1
  obtain ⟨rfl,rfl,rfl⟩:=e1
  simp only [newId,Option.some.injEq,Prod.mk.injEq] at g5
  obtain ⟨rfl,rfl,rfl⟩:=g5
  have g6:=M.pure_inv g6
  simp only [Prod.mk.injEq] at g6
  obtain ⟨rfl,rfl,rfl⟩:=g6
  refine ⟨by simp,fun β a w hR hF=>?_⟩
  have hn:β c3.id = none:=hF c3.id (Nat.le_refl _)
  obtain ⟨β',hβ'⟩:∃ β',β' = β.set c3.id (rowRg x.w0.heap.size 0 0):=⟨_,rfl⟩
  have hext:∀ p,ExtP p β β':=fun p=>by rw [hβ']; exact Beta.set_ext p hn
  have hmv:Mv (fun _=>true) β β':=Mv.of hR.bo (hext _)
  have hbo:BetaOk x.w0.heap.size x.R x.Q β' w:=by
   rw [hβ']
   exact hR.bo.bind (W:=[]) (by simp) (Keep.refl _ _) (fun k q _ _=>.inr (by unfold Rg.apart rowRg; simp)) (.inl rfl) (.inr (.inl (Nat.le_refl _))) (by simp [rowRg]) (by simp [rowRg]) (by simp [rowRg])
  have hblk:∀ {id:Nat} {d:Blk},blkMt β ρ w id d -> blkMt β' ρ w id d:=fun hd=>by
   have:=blkMt_jk (w':=w) hmv (.inr rfl) (fun r _ j _=>⟨rfl,rfl⟩) hd
   rwa [Blk.jk_true] at this
  refine ⟨β',(hext (fun _=>true)).ext,⟨hR.size,fun t v ht=>SV.mt_mv hmv (hR.slot t v ht),hR.df,fun id dd hd hg=>?_,fun id d hd hg=>hblk (hR.gm id d hd hg),hR.gro,hbo,hR.kp,fun g vs hg=>(hext (fun _=>true)) _ _ (hR.gl g vs hg) (.inr rfl),
   fun k r hk=>⟨(hR.ra k r hk).1,(hext (fun _=>true)) _ _ (hR.ra k r hk).2 (.inr rfl)⟩,fun i r h1 h2=>(hext (fun _=>true)) _ _ (hR.eb i r h1 h2) (.inr rfl)⟩,fun k hk=>?_⟩
  ·unfold hpOf at hd
   split at hd
   ·rename_i hee
    simp only [beq_iff_eq] at hee
    subst hee
    simp only [Option.some.injEq] at hd
    subst hd
    have h0:=hR.hm b bl hb hg
    obtain ⟨r,q1,q2,q3,q4,q5,q6⟩:=(blkMt_cs (by
     cases hv:vecOf bl.cells with
     | none=>rfl
     | some z =>
      rw [vecOf_spec hv] at hj
      cases j with
      | zero=>simp at hj; subst hj; simp [asEmp] at he
      | succ n=>simp at hj)).1 h0
    refine blkMt_mk ⟨r,hext (fun _=>true) _ _ q1 (.inr rfl),q2,by simpa using q3,q4,?_,fun e k hk=>q6 e k (by simpa using hk)⟩
    rw [cellsAt_iff] at q5 ⊢
    intro i e hi
    rw [List.getElem?_set] at hi
    split at hi
    ·rename_i hij
     subst hij
     split at hi
     ·simp only [Option.some.injEq] at hi
      subst hi
      obtain ⟨v,h1,h2⟩:=q5 j d hj
      exact ⟨v,h1,by rw [hβ']; exact emp_slm he h2⟩
     ·cases hi
    ·obtain ⟨v,h1,h2⟩:=q5 i e hi
     exact ⟨v,h1,C.mt_mv hmv h2⟩
   ·unfold hpOf at hd
    split at hd
    ·rename_i hee
     simp only [beq_iff_eq] at hee
     subst hee
     simp only [Option.some.injEq] at hd
     subst hd
     refine (blkMt_row (x:=(ks,.c 0,.c 0)) rfl).2 ⟨rfl,?_⟩
     rw [hβ']
     exact row_nil hks' _ rfl rfl
    ·exact hblk (hR.hm id dd hd hg)
  ·rw [hβ',Beta.set_other _ _ (by simp at hk; omega)]
   exact hF k (by simp at hk; omega)
theorem slot_setT {β:Beta} {ρ:Env} {tm:List SV} {tmps:Array Value} {t:Nat} {d:SV} (h:∀ (t:Nat) (v:SV),tm[t]? = some v -> v.mt β ρ (tmps.getD t undef)) (hd:∀ v,tm[t]? = some v -> d.mt β ρ (tmps.getD t undef)):∀ (j:Nat) (v:SV),(tm.set t d)[j]? = some v -> v.mt β ρ (tmps.getD j undef):=by
 intro j v hj
 rw [List.getElem?_set] at hj
 split at hj
 ·rename_i he
  subst he
  split at hj
  ·rename_i hl
   simp only [Option.some.injEq] at hj
   subst hj
   exact hd _ (List.getElem?_eq_getElem hl)
  ·cases hj
 ·exact h j v hj
theorem seedT_ok {x:Cx} {ρ:Env} {t:Nat} {row:Bool} {ks:List CK} {s s':St} {c c':Ctr} {o:List Em} (h:seedT t row ks s c = some (s',c',o)):c.id <= c'.id /\
  ∀ (β:Beta) (a:Act) (w:World),Rel x ρ β s a w -> Fresh β c -> ∃ β',Ext β β' /\ Rel x ρ β' s' a w /\ Fresh β' c':=by
 unfold seedT at h
 obtain ⟨bl,c1,o1,c2,o2,y,g1,g2,e1⟩:=M.bind_inv h
 simp only [Prod.mk.injEq] at e1
 obtain ⟨rfl,rfl,rfl⟩:=e1
 obtain ⟨v,hv,e1⟩:=lift_inv g1
 simp only [Prod.mk.injEq] at e1
 obtain ⟨rfl,rfl,rfl⟩:=e1
 obtain ⟨bl2,c3,o3,c4,o4,y,g3,g4,e1⟩:=M.bind_inv g2
 simp only [Prod.mk.injEq] at e1
 obtain ⟨rfl,rfl,rfl⟩:=e1
 obtain ⟨d,hd0,e1⟩:=lift_inv g3
 simp only [Prod.mk.injEq] at e1
 obtain ⟨rfl,rfl,rfl⟩:=e1
 obtain ⟨hvs,he⟩:=emp1_spec hd0
 replace g2:=g4
 split at g2
 rotate_left
 ·simp [M.fail] at g2
 rename_i hck
 simp only [Bool.not_eq_true',List.isEmpty_eq_false_iff] at hck
 have hks':=hck
 cases row with
 | false =>
  simp only [Bool.false_eq_true,if_false] at g2
  have g4:=M.pure_inv g2
  simp only [Prod.mk.injEq] at g4
  obtain ⟨rfl,rfl,rfl⟩:=g4
  refine ⟨Nat.le_refl _,fun β a w hR hF=>⟨β,Ext.refl β,⟨by simpa using hR.size,slot_setT hR.slot fun u hu=>?_,hR.df,hR.hm,hR.gm,hR.gro,hR.bo,hR.kp,hR.gl,hR.ra,hR.eb⟩,hF⟩⟩
  obtain ⟨m1,m2⟩:=hR.slot t bl hv
  refine ⟨fun hg=>?_,m2⟩
  have:=m1 hg
  rw [hvs] at this
  obtain ⟨cc,hcc,hcm⟩:=this
  simp only [List.cons.injEq,and_true] at hcc
  subst hcc
  exact ⟨_,rfl,emp_slx he hcm⟩
 | true =>
  simp only [if_true] at g2
  obtain ⟨i,c5,o5,c6,o6,y,g5,g6,e1⟩:=M.bind_inv g2
  simp only [Prod.mk.injEq] at e1
  obtain ⟨rfl,rfl,rfl⟩:=e1
  simp only [newId,Option.some.injEq,Prod.mk.injEq] at g5
  obtain ⟨rfl,rfl,rfl⟩:=g5
  have g6:=M.pure_inv g6
  simp only [Prod.mk.injEq] at g6
  obtain ⟨rfl,rfl,rfl⟩:=g6
  refine ⟨by simp,fun β a w hR hF=>?_⟩
  have hn:β c3.id = none:=hF c3.id (Nat.le_refl _)
  obtain ⟨β',hβ'⟩:∃ β',β' = β.set c3.id (rowRg x.w0.heap.size 0 0):=⟨_,rfl⟩
  have hext:∀ p,ExtP p β β':=fun p=>by rw [hβ']; exact Beta.set_ext p hn
  have hmv:Mv (fun _=>true) β β':=Mv.of hR.bo (hext _)
  have hbo:BetaOk x.w0.heap.size x.R x.Q β' w:=by
   rw [hβ']
   exact hR.bo.bind (W:=[]) (by simp) (Keep.refl _ _) (fun k q _ _=>.inr (by unfold Rg.apart rowRg; simp)) (.inl rfl) (.inr (.inl (Nat.le_refl _))) (by simp [rowRg]) (by simp [rowRg]) (by simp [rowRg])
  have hblk:∀ {id:Nat} {d:Blk},blkMt β ρ w id d -> blkMt β' ρ w id d:=fun hd=>by
   have:=blkMt_jk (w':=w) hmv (.inr rfl) (fun r _ j _=>⟨rfl,rfl⟩) hd
   rwa [Blk.jk_true] at this
  refine ⟨β',(hext (fun _=>true)).ext,⟨by simpa using hR.size,slot_setT (fun t v ht=>SV.mt_mv hmv (hR.slot t v ht)) fun u hu=>?_,hR.df,fun id dd hd hg=>?_,fun id d hd hg=>hblk (hR.gm id d hd hg),hR.gro,hbo,hR.kp,fun g vs hg=>(hext (fun _=>true)) _ _ (hR.gl g vs hg) (.inr rfl),
   fun k r hk=>⟨(hR.ra k r hk).1,(hext (fun _=>true)) _ _ (hR.ra k r hk).2 (.inr rfl)⟩,fun i r h1 h2=>(hext (fun _=>true)) _ _ (hR.eb i r h1 h2) (.inr rfl)⟩,fun k hk=>?_⟩
  ·obtain ⟨m1,m2⟩:=hR.slot t bl hv
   refine ⟨fun hg=>?_,m2⟩
   have:=m1 hg
   rw [hvs] at this
   obtain ⟨cc,hcc,hcm⟩:=this
   simp only [List.cons.injEq,and_true] at hcc
   subst hcc
   rw [hβ']
   exact ⟨_,rfl,emp_slm he hcm⟩
  ·unfold hpOf at hd
   split at hd
   ·rename_i hee
    simp only [beq_iff_eq] at hee
    subst hee
    simp only [Option.some.injEq] at hd
    subst hd
    refine (blkMt_row (x:=(ks,.c 0,.c 0)) rfl).2 ⟨rfl,?_⟩
    rw [hβ']
    exact row_nil hks' _ rfl rfl
   ·exact hblk (hR.hm id dd hd hg)
  ·rw [hβ',Beta.set_other _ _ (by simp at hk; omega)]
   exact hF k (by simp at hk; omega)
theorem seedS_ok {x:Cx} {ρ:Env} {t:Nat} {s s':St} {c c':Ctr} {o:List Em} (h:seedS t s c = some (s',c',o)):c.id <= c'.id /\
  ∀ (β:Beta) (a:Act) (w:World),Rel x ρ β s a w -> Fresh β c -> ∃ β',Ext β β' /\ Rel x ρ β' s' a w /\ Fresh β' c':=by
 unfold seedS at h
 obtain ⟨bl,c1,o1,c2,o2,y,g1,g2,e1⟩:=M.bind_inv h
 simp only [Prod.mk.injEq] at e1
 obtain ⟨rfl,rfl,rfl⟩:=e1
 obtain ⟨v,hv,e1⟩:=lift_inv g1
 simp only [Prod.mk.injEq] at e1
 obtain ⟨rfl,rfl,rfl⟩:=e1
 obtain ⟨bl2,c3,o3,c4,o4,y,g3,g4,e1⟩:=M.bind_inv g2
 simp only [Prod.mk.injEq] at e1
 obtain ⟨rfl,rfl,rfl⟩:=e1
 obtain ⟨d,hd0,e1⟩:=lift_inv g3
 simp only [Prod.mk.injEq] at e1
 obtain ⟨rfl,rfl,rfl⟩:=e1
 obtain ⟨k,hvs,he⟩:=str1_spec hd0
 have g4:=M.pure_inv g4
 simp only [Prod.mk.injEq] at g4
 obtain ⟨rfl,rfl,rfl⟩:=g4
 refine ⟨Nat.le_refl _,fun β a w hR hF=>⟨β,Ext.refl β,⟨by simpa using hR.size,slot_setT hR.slot fun u hu=>?_,hR.df,hR.hm,hR.gm,hR.gro,hR.bo,hR.kp,hR.gl,hR.ra,hR.eb⟩,hF⟩⟩
 obtain ⟨m1,m2⟩:=hR.slot t bl hv
 refine ⟨fun hg=>?_,m2⟩
 have:=m1 hg
 rw [hvs] at this
 obtain ⟨cc,hcc,hcm⟩:=this
 simp only [List.cons.injEq,and_true] at hcc
 subst hcc
 exact ⟨_,rfl,asStr_mt he hcm⟩
theorem seedP_ok {x:Cx} {ρ:Env} {p:Nat × Nat × Bool × List CK} {s s':St} {c c':Ctr} {o:List Em} (h:seedP p s c = some (s',c',o)):c.id <= c'.id /\
  ∀ (β:Beta) (a:Act) (w:World),Rel x ρ β s a w -> Fresh β c -> ∃ β',Ext β β' /\ Rel x ρ β' s' a w /\ Fresh β' c':=by
 unfold seedP at h
 split at h
 ·split at h
  ·exact seedS_ok h
  ·exact seedT_ok h
 ·exact seed1_ok h
theorem seedAll_ok {x:Cx} {ρ:Env}:∀ {l:List (Nat × Nat × Bool × List CK)} {s s':St} {c c':Ctr} {o:List Em},seedAll l s c = some (s',c',o) -> c.id <= c'.id /\
  ∀ (β:Beta) (a:Act) (w:World),Rel x ρ β s a w -> Fresh β c -> ∃ β',Ext β β' /\ Rel x ρ β' s' a w /\ Fresh β' c'
 | [],s,s',c,c',o,h=>by
  have:=M.pure_inv h
  simp only [Prod.mk.injEq] at this
  obtain ⟨rfl,rfl,rfl⟩:=this
  exact ⟨Nat.le_refl _,fun β a w hR hF=>⟨β,Ext.refl β,hR,hF⟩⟩
 | p :: l,s,s',c,c',o,h=>by
  obtain ⟨s1,c1,o1,c2,o2,y,g1,g2,e1⟩:=M.bind_inv h
  simp only [Prod.mk.injEq] at e1
  obtain ⟨rfl,rfl,rfl⟩:=e1
  obtain ⟨h1,h2⟩:=seedP_ok (x:=x) (ρ:=ρ) g1
  obtain ⟨h3,h4⟩:=seedAll_ok (x:=x) (ρ:=ρ) g2
  refine ⟨Nat.le_trans h1 h3,fun β a w hR hF=>?_⟩
  obtain ⟨β1,e1,r1,f1⟩:=h2 β a w hR hF
  obtain ⟨β2,e2,r2,f2⟩:=h4 β1 a w r1 f1
  exact ⟨β2,e1.trans e2,r2,f2⟩
theorem OkW.ahead {Φ:Funs} {x:Cx} {ρ:Env} {W:(Exit -> Act -> World -> Prop) -> Act -> World -> Prop} {f:St -> M Outs} (hf:OkW Φ x ρ W f) (l:List (Nat × Nat × Bool × List CK)):OkW Φ x ρ W (fun s=>do let s' <- seedAll l s; M.mono (f s')):=by
 intro s c c' O out h hg β a w hR hF Q hQ
 obtain ⟨s1,c1,o1,c2,o2,y,g1,g2,e1⟩:=M.bind_inv h
 simp only [Prod.mk.injEq] at e1
 obtain ⟨rfl,rfl,rfl⟩:=e1
 rw [Good.append] at hg
 obtain ⟨g2,hle⟩:=mono_inv g2
 obtain ⟨h1,h2⟩:=seedAll_ok (x:=x) (ρ:=ρ) g1
 obtain ⟨β',e,hR',hF'⟩:=h2 β a w hR hF
 exact hf _ _ _ _ _ g2 hg.2 β' a w hR' hF' Q fun e' a' w' K hk ⟨h3,q,s0,β0,h4,h5,h6,h7⟩=>hQ e' a' w' K hk ⟨h3,q,s0,β0,h4,e.trans h5,h6,h7⟩

def slmId:C -> List Nat
 | .slm id _=>[id]
 | _=>[]
def rowSl (σ:St) (t:Nat):List Nat:=match σ.tm[t]? with
 | some { g:=[],s:=.one false [.slm id _] }=>[id]
 | some { g:=[],s:=.one true cs }=>cs.flatMap slmId
 | _=>[]
def rowAt (σ:St) (t:Nat):List Nat:=match σ.tm[t]? with
 | some { g:=[],s:=.one false [.ptr [] i o] }=>(match hpOf σ.hp i with
  | some b=>(match b.cells[o]? with
   | some (.slm id _)=>[id]
   | some (.bool _)=>b.cells.flatMap slmId
   | _=>[])
  | none=>[])
 | _=>[]
def rowSrc (σ:St) (a:Nat):List Oper -> List Nat
 | []=>[]
 | o :: l=>(if o.dst == some a then (match o.op with
  | .move (.tmp t)=>rowSl σ t
  | .load _ (.tmp t)=>rowAt σ t
  | _=>[]) else []) ++ rowSrc σ a l
def rowArgs (σ:St) (ops:List Oper):List Operand -> List Nat
 | []=>[]
 | .tmp a :: l=>rowSl σ a ++ rowSrc σ a ops ++ rowArgs σ ops l
 | _ :: l=>rowArgs σ ops l
def fzIds (fl:List Nat) (σ:St) (ops:List Oper):List Oper -> List Nat
 | []=>[]
 | o :: l=>(match o.op with
  | .call ⟨.value (.func f),args,_⟩=>if fl.contains f then rowArgs σ ops args.toList else []
  | _=>[]) ++ fzIds fl σ ops l
def preR (fl:List Nat) (keep:Kp) (ops:Array Oper) (s:St):M St:=if keep.fz then frzAll (dedupN (fzIds fl s ops.toList ops.toList)) s else pure s
theorem preR_ok {x:Cx} {ρ:Env} {fl:List Nat} {keep:Kp} (hx:GrOk x keep) {ops:Array Oper} {s s':St} {c c':Ctr} {o:List Em} (h:preR fl keep ops s c = some (s',c',o)):c.id <= c'.id /\
  ∀ (β:Beta) (a:Act) (w:World),Rel x ρ β s a w -> Fresh β c -> ∃ β',Ext β β' /\ Rel x ρ β' s' a w /\ Fresh β' c':=by
 unfold preR at h
 split at h
 ·rename_i hfz
  exact frzAll_ok (hx hfz) h
 ·have:=M.pure_inv h
  simp only [Prod.mk.injEq] at this
  obtain ⟨rfl,rfl,rfl⟩:=this
  exact ⟨Nat.le_refl _,fun β a w hR hF=>⟨β,Ext.refl β,hR,hF⟩⟩
theorem OkW.pre {Φ:Funs} {x:Cx} {ρ:Env} {W:(Exit -> Act -> World -> Prop) -> Act -> World -> Prop} {f:St -> M Outs} (hf:OkW Φ x ρ W f) {fl:List Nat} {keep:Kp} (hx:GrOk x keep) (ops:Array Oper):OkW Φ x ρ W (fun s=>do let s' <- preR fl keep ops s; M.mono (f s')):=by
 intro s c c' O out h hg β a w hR hF Q hQ
 obtain ⟨s1,c1,o1,c2,o2,y,g1,g2,e1⟩:=M.bind_inv h
 simp only [Prod.mk.injEq] at e1
 obtain ⟨rfl,rfl,rfl⟩:=e1
 rw [Good.append] at hg
 obtain ⟨g2,hle⟩:=mono_inv g2
 obtain ⟨h1,h2⟩:=preR_ok (x:=x) (ρ:=ρ) hx g1
 obtain ⟨β',e,hR',hF'⟩:=h2 β a w hR hF
 exact hf _ _ _ _ _ g2 hg.2 β' a w hR' hF' Q fun e' a' w' K hk ⟨h3,q,s0,β0,h4,h5,h6,h7⟩=>hQ e' a' w' K hk ⟨h3,q,s0,β0,h4,e.trans h5,h6,h7⟩

def jsNo (j:Js):Bool:=match j.b with | .c true=>true | _=>false
def jsT (O:Outs):M Outs:=match getK .n O with
 | some (q,s)=>if jsNo s.js then pure O else do
   M.under q (oblige s.js.b)
   pure ((.n,q,{ s with js:={} }) :: dropK .n O)
 | none=>pure O
theorem LpRec.at_true (r:LpRec) (n m:Int):r.at true n = r.at true m:=by
 unfold LpRec.at
 cases r.fix <;> rfl
theorem jsNone {x:Cx} {ρ:Env} {β:Beta} {s:St} {a:Act} {w:World} (hb:s.js.b.d ρ = true) (h:Rel x ρ β s a w):Rel x ρ β { s with js:={} } a w :=
 ⟨h.size,h.slot,⟨fun r hr=>⟨(h.df.rc r hr).1,by have:=(h.df.rc r hr).2; rw [hb] at this; exact this.trans (by rw [LpRec.at_true r _ 0]; rfl)⟩,h.df.ds,h.df.ma,h.df.nm⟩,h.hm,h.gm,h.gro,h.bo,h.kp,h.gl,h.ra,h.eb⟩
theorem jsT_ok {Φ:Funs} {x:Cx} {ρ:Env} {O O':Outs} {c c':Ctr} {o:List Em} (h:jsT O c = some (O',c',o)) (hg:Good Φ ρ o) {β:Beta} {K:Kd} {a:Act} {w:World} (hO:OutMt x ρ β c O K a w):OutMt x ρ β c' O' K a w:=by
 unfold jsT at h
 cases hn:getK .n O with
 | some z =>
  obtain ⟨q,s⟩:=z
  rw [hn] at h
  simp only at h
  split at h
  ·have:=M.pure_inv h
   simp only [Prod.mk.injEq] at this
   obtain ⟨rfl,rfl,rfl⟩:=this
   exact hO
  ·obtain ⟨u,c1,o1,c2,o2,y,g1,g2,e1⟩:=M.bind_inv h
   simp only [Prod.mk.injEq] at e1
   obtain ⟨rfl,rfl,rfl⟩:=e1
   have g2:=M.pure_inv g2
   simp only [Prod.mk.injEq] at g2
   obtain ⟨rfl,rfl,rfl⟩:=g2
   obtain ⟨u',c3,o3,g3,e3⟩:=under_inv g1
   simp only [Prod.mk.injEq] at e3
   obtain ⟨_,rfl,rfl⟩:=e3
   rw [List.append_nil] at hg
   have hid:=oblige_id g3
   obtain ⟨h1,q0,s0,β',h2,h3,h4,h5⟩:=hO
   have h5':Fresh β' c':=fun i hi=>h5 i (by omega)
   refine ⟨fun k q' s' hk=>?_,?_⟩
   ·unfold getK at hk
    split at hk
    ·rename_i he
     have:=Kd.eq_sound he
     subst this
     simp only [Option.some.injEq,Prod.mk.injEq] at hk
     obtain ⟨rfl,rfl⟩:=hk
     exact h1 _ _ _ hn
    ·rename_i he
     rw [dropK_get] at hk
     split at hk
     ·cases hk
     ·exact h1 _ _ _ hk
   ·by_cases hK:K = .n
    ·subst hK
     rw [hn] at h2
     simp only [Option.some.injEq,Prod.mk.injEq] at h2
     obtain ⟨rfl,rfl⟩:=h2
     have hq:=(h1 _ _ _ hn).2 rfl
     exact ⟨q,_,β',by simp [getK,Kd.eq],h3,jsNone (oblige_snd s.js.b c u' _ o3 g3 (Good.under hq hg)) h4,h5'⟩
    ·refine ⟨q0,s0,β',?_,h3,h4,h5'⟩
     unfold getK
     rw [if_neg (by rw [Kd.eq_ne hK]; simp),dropK_get,if_neg (by rw [Kd.eq_ne (Ne.symm hK)]; simp)]
     exact h2
 | none =>
  rw [hn] at h
  have:=M.pure_inv h
  simp only [Prod.mk.injEq] at this
  obtain ⟨rfl,rfl,rfl⟩:=this
  exact hO
theorem OkW.jsT {Φ:Funs} {x:Cx} {ρ:Env} {W:(Exit -> Act -> World -> Prop) -> Act -> World -> Prop} {f:St -> M Outs} (hf:OkW Φ x ρ W f):OkW Φ x ρ W (fun s=>do let O <- f s; jsT O):=by
 intro s c c' O out h hg β a w hR hF Q hQ
 obtain ⟨O1,c1,o1,c2,o2,y,g1,g2,e1⟩:=M.bind_inv h
 simp only [Prod.mk.injEq] at e1
 obtain ⟨rfl,rfl,rfl⟩:=e1
 rw [Good.append] at hg
 exact hf _ _ _ _ _ g1 hg.1 β a w hR hF Q fun e' a' w' K hk hO=>hQ e' a' w' K hk (jsT_ok g2 hg.2 hO)
end Go.Proofs.YtfgbfdlacnihkaaGreatDoor.Sx
namespace Go.Proofs.YtfgbfdlacnihkaaGreatDoor.Sx
open Go

def behind (keep:Kp) (O:Outs) (f:St -> M Outs):M Outs :=
 match getK .n O with
 | none=>pure O
 | some (q,s)=>if q.isEmpty then f s else do
  let O2 <- M.mono (M.under q (f s))
  M.mono (do
   let sel <- gAtom q
   merge keep sel q [] O2 (dropK .n O))
def loopX (keep:Kp) (f:St -> M Outs):Nat -> St -> M Outs
 | 0,_=>M.fail
 | n + 1,s=>do
  let O <- f s
  M.mono (behind keep O (fun s=>M.mono (loopX keep f n s)))
def blockX (keep:Kp) (id:Nat) (O:Outs):M Outs :=
 match getK (.x id) O with
 | none=>pure O
 | some (qx,sx)=>match getK .n O with
  | none=>pure (single ((.n,qx,sx) :: dropK (.x id) O))
  | some (qn,sn)=>do
   let an <- gAtom qn
   let ax <- gAtom qx
   let q <- mkOr an ax
   let s <- M.mono (joinSt keep an sn sx)
   pure (single ((.n,[(q,true)],s) :: dropK .n (dropK (.x id) O)))

def condOf (s:S):Option B:=match s with | .one false [.bool b]=>some b | _=>none
theorem condOf_spec {s:S} {b:B} (h:condOf s = some b):s = .one false [.bool b]:=by
 unfold condOf at h
 split at h
 ·simp only [Option.some.injEq] at h; rw [h]
 ·cases h
theorem mkOr_id {a b x:B} {c c':Ctr} {o:List Em} (h:mkOr a b c = some (x,c',o)):c'.id = c.id:=by
 unfold mkOr at h
 split at h <;> first | exact pure_id h | exact newB_id h
structure XE where
 rf:Operand -> Array Tmp -> Code -> Code -> St -> M Outs:=fun _ _ _ _ _=>M.fail
 rg:Array Oper -> Bool -> St -> Option (M St):=fun _ _ _=>none
structure Ctl where
 keep:Kp
 turns:Nat
 ret:List Bool
 base:Nat
 loops:List (Nat × LAnn):=[]
 E:XE:={}
 fzf:List Nat:=[]

def codeKey:Code -> Nat
 | .region id _ _=>id + 1
 | .seq a b=>match codeKey a with
  | 0=>codeKey b
  | n=>n
 | .cond _ a b=>match codeKey a with
  | 0=>codeKey b
  | n=>n
 | .block _ a=>codeKey a
 | .scope a=>codeKey a
 | _=>0
def annOf (n:Nat):List (Nat × LAnn) -> Option LAnn
 | []=>none
 | (m,L) :: l=>if m == n then some L else annOf n l
theorem annOf_mem {n:Nat} {L:LAnn}:∀ {l:List (Nat × LAnn)},annOf n l = some L -> ∃ m,(m,L) ∈ l
 | [],h=>by simp [annOf] at h
 | (m,K) :: l,h=>by
  unfold annOf at h
  split at h
  ·simp only [Option.some.injEq] at h
   subst h
   exact ⟨m,by simp⟩
  ·obtain ⟨m',hm⟩:=annOf_mem h
   exact ⟨m',by simp [hm]⟩
def LoopsOk (Φ:Funs) (k:Ctl):Prop:=∀ p,p ∈ k.loops -> Φ p.2.id = loopF (p.2.S.run Φ true) p.2.nI p.2.nB
theorem LoopsOk.nil {Φ:Funs} {k:Ctl} (h:k.loops = []):LoopsOk Φ k:=fun p hp=>by rw [h] at hp; cases hp

def pruneTm:List Bool -> List SV -> List SV
 | _,[]=>[]
 | k,v :: vs=>(if k.headD false then v else anySV) :: pruneTm k.tail vs
def tmIds:List SV -> List Nat
 | []=>[]
 | v :: vs=>sIds v.s ++ tmIds vs
def hpIds (ids:List Nat):Hl -> List Nat
 | []=>ids
 | (i,b) :: l=>if ids.contains i then cIds b.cells ++ hpIds ids l else hpIds ids l
def keepId (k:Ctl) (ids:List Nat) (i:Nat):Bool:=Nat.blt i k.base || ids.contains i
def pruneHp (k:Ctl) (ids:List Nat) (hp:Hl):Hl:=hp.filter fun p=>keepId k ids p.1
def prune (k:Ctl) (s:St):St :=
 let tm:=pruneTm k.ret s.tm
 { tm:=tm,hp:=pruneHp k (hpIds (hpIds (tmIds tm) s.hp) s.hp) s.hp,rb:=s.rb,js:=s.js }
theorem pruneTm_get:∀ {k:List Bool} {vs:List SV},(pruneTm k vs).length = vs.length /\ ∀ (t:Nat) (z:SV),(pruneTm k vs)[t]? = some z -> z = anySV \/ vs[t]? = some z
 | k,[]=>⟨rfl,fun t z h=>by simp [pruneTm] at h⟩
 | k,v :: vs=>by
  obtain ⟨h1,h2⟩:=pruneTm_get (k:=k.tail) (vs:=vs)
  refine ⟨by simp [pruneTm,h1],fun t z h=>?_⟩
  unfold pruneTm at h
  cases t with
  | zero =>
   simp only [List.getElem?_cons_zero,Option.some.injEq] at h
   split at h
   ·exact .inr (by simpa using h)
   ·exact .inl h.symm
  | succ t=>exact h2 t z (by simpa using h)
theorem hpOf_filter {f:Nat -> Bool}:∀ {l:Hl} {id:Nat} {b:Blk},hpOf (l.filter fun p=>f p.1) id = some b -> hpOf l id = some b
 | [],_,_,h=>by simp [hpOf] at h
 | (i,c) :: l,id,b,h=>by
  rw [List.filter_cons] at h
  unfold hpOf
  split at h
  ·unfold hpOf at h
   split at h
   ·rename_i he; rw [if_pos he]; exact h
   ·rename_i he; rw [if_neg he]; exact hpOf_filter h
  ·rename_i hf
   have hne:¬ ((i == id) = true):=fun he=>by
    simp only [beq_iff_eq] at he
    subst he
    have:∀ {l:Hl},hpOf (l.filter fun p=>f p.1) i = none:=by
     intro l
     induction l with
     | nil=>rfl
     | cons p l ih =>
      rw [List.filter_cons]
      split
      ·rename_i hp
       unfold hpOf
       split
       ·rename_i he
        simp only [beq_iff_eq] at he
        rw [he] at hp
        exact absurd hp hf
       ·exact ih
      ·exact ih
    rw [this] at h
    cases h
   rw [if_neg hne]
   exact hpOf_filter h
theorem Rel.prune {x:Cx} {ρ:Env} {β:Beta} {σ:St} {a:Act} {w:World} (h:Rel x ρ β σ a w) (k:Ctl):Rel x ρ β (prune k σ) a w:=by
 obtain ⟨h1,h2⟩:=pruneTm_get (k:=k.ret) (vs:=σ.tm)
 refine ⟨h.size.trans h1.symm,fun t v hv=>?_,h.df,fun id b hb hg=>h.hm id b (hpOf_filter (f:=keepId k _) hb) hg,h.gm,h.gro,h.bo,h.kp,h.gl,h.ra,h.eb⟩
 rcases h2 t v hv with rfl | hv
 ·exact anySV_mt _
 ·exact h.slot t v hv

def execR (P:Program) (X:Hnd) (gh:Hl) (ng:Nat) (k:Ctl) (ops:Array Oper) (draw:Bool) (s:St):M Outs :=
 if noDef ops.toList then (match k.E.rg ops draw s with
  | some m=>do
   let s' <- m
   pure [(.n,[],s')]
  | none=>if draw then do
   let s' <- regD2 P X gh ng ops s
   pure [(.n,[],s')]
  else if hasMaps ops then do
   let s' <- regM P X gh ng ops s
   pure [(.n,[],s')]
  else do
   let s' <- regL P X gh ng ops ops.toList s
   pure [(.n,[],s')]) else M.fail
def exec (P:Program) (X:Hnd) (gh:Hl) (ng:Nat) (k:Ctl):Code -> St -> M Outs
 | .skip,s=>pure [(.n,[],s)]
 | .label _,s=>pure [(.n,[],s)]
 | .ret,s=>pure [(.r,[],prune k s)]
 | .exit id,s=>pure [(.x id,[],s)]
 | .region _ ops draw,s=>if k.fzf.isEmpty then execR P X gh ng k ops draw s else do
  let s' <- preR k.fzf k.keep ops s
  M.mono (execR P X gh ng k ops draw s')
 | .seq a b,s=>do
  let O <- exec P X gh ng k a s
  M.mono (behind k.keep O (exec P X gh ng k b))
 | .cond c a b,s=>match condOf (rs [] (ev ng s c)) with
  | some (.c true)=>exec P X gh ng k a s
  | some (.c false)=>exec P X gh ng k b s
  | some (.v n)=>do
   let O1 <- M.mono (M.under [(.v n,true)] (exec P X gh ng k a s))
   let O2 <- M.mono (M.under [(.v n,false)] (exec P X gh ng k b s))
   M.mono (merge k.keep (.v n) [(.v n,true)] [(.v n,false)] O1 O2)
  | none=>M.fail
 | .block id a,s=>do
  let O <- exec P X gh ng k a s
  M.mono (blockX k.keep id O)
 | .loop a,s=>match annOf (codeKey a) k.loops with
  | none=>M.mono (loopX k.keep (fun s=>do let O <- exec P X gh ng k a s; jsT O) k.turns s)
  | some L=>M.mono ((fun s=>do let s' <- seedAll L.sd s; M.mono (loopM L (fun s=>do let O <- exec P X gh ng k a s; jsT O) s')) s)
 | .rangeFunc g ps aS bd,s=>k.E.rf g ps aS bd s
 | .scope a,s=>exec P X gh ng k a s
 | _,_=>M.fail

section
variable {P:Program} {Φ:Funs} {X:Hnd} {x:Cx} {ρ:Env}

theorem behind_ok {W:(Exit -> Act -> World -> Prop) -> Act -> World -> Prop} {f:St -> M Outs} (hf:OkW Φ x ρ W f) {keep:Kp} (hx:GrOk x keep) {O:Outs} {c c':Ctr} {O':Outs} {out:List Em} (h:behind keep O f c = some (O',c',out)) (hc:c.id <= c'.id) (hg:Good Φ ρ out)
  {β:Beta} {a:Act} {w:World} {K:Kd} (hO:OutMt x ρ β c O K a w) {Q:Exit -> Act -> World -> Prop} (hQ:∀ e a' w' K',kdOf e = some K' -> OutMt x ρ β c' O' K' a' w' -> Q e a' w') :
  (K = .n -> W Q a w) /\ (K ≠ .n -> OutMt x ρ β c' O' K a w):=by
 unfold behind at h
 obtain ⟨h1,q0,s0,β',hK,hE,hR,hF⟩:=hO
 cases hn:getK .n O with
 | none =>
  rw [hn] at h
  have he:=M.pure_inv h
  simp only [Prod.mk.injEq] at he
  obtain ⟨rfl,rfl,rfl⟩:=he
  refine ⟨fun e=>?_,fun _=>⟨h1,q0,s0,β',hK,hE,hR,hF⟩⟩
  subst e
  rw [hn] at hK
  cases hK
 | some p =>
  obtain ⟨q,s⟩:=p
  rw [hn] at h
  simp only at h
  have hq:=h1 .n q s hn
  by_cases hemp:q.isEmpty = true
  ·rw [if_pos hemp] at h
   rw [List.isEmpty_iff] at hemp
   subst hemp
   have hKn:Kd.n = K:=hq.1 rfl
   subst hKn
   rw [hn] at hK
   simp only [Option.some.injEq,Prod.mk.injEq] at hK
   obtain ⟨rfl,rfl⟩:=hK
   refine ⟨fun _=>?_,fun hne=>absurd rfl hne⟩
   exact hf s c c' O' out h hg β' a w hR hF Q fun e a' w' K' hk hO'=>hQ e a' w' K' hk (hO'.ext hE)
  ·rw [if_neg hemp] at h
   obtain ⟨O2,c1,o1,c2,o2,y,g1,g2,he⟩:=M.bind_inv h
   simp only [Prod.mk.injEq] at he
   obtain ⟨rfl,rfl,rfl⟩:=he
   rw [Good.append] at hg
   obtain ⟨g1,hle1⟩:=mono_inv g1
   obtain ⟨O2',c1',o1',g1',he1⟩:=under_inv g1
   simp only [Prod.mk.injEq] at he1
   obtain ⟨rfl,rfl,rfl⟩:=he1
   obtain ⟨g2,hle⟩:=mono_inv g2
   simp only at hle
   obtain ⟨sel,c3,o3,c4,o4,y,g3,g4,he⟩:=M.bind_inv g2
   simp only [Prod.mk.injEq] at he
   obtain ⟨rfl,rfl,rfl⟩:=he
   have hg2:=hg.2
   rw [Good.append] at hg2
   have hsel:=gAtom_snd q _ _ _ _ g3 hg2.1
   constructor
   ·intro e
    subst e
    rw [hn] at hK
    simp only [Option.some.injEq,Prod.mk.injEq] at hK
    obtain ⟨rfl,rfl⟩:=hK
    have hqt:Gd.d ρ q = true:=hq.2 rfl
    have hgood:=Good.under hqt hg.1
    obtain ⟨hle4,hm⟩:=merge_left (x:=x) (Φ:=Φ) hx (sel:=sel) (p1:=q) (p2:=[]) (O1:=O2) (O2:=dropK .n O) (by rw [hsel]; exact hqt) hqt (fun k q' s' hk _=>by
     rw [dropK_get] at hk
     split at hk
     ·cases hk
     ·rename_i hne
      have:=h1 k q' s' hk
      cases hd:Gd.d ρ q' with
      | false=>simpa using hd
      | true =>
       exfalso
       exact hne (by rw [this.1 hd]; exact Kd.eq_refl _)) g4 hg2.2
    exact hf s c _ O2 _ g1' hgood β' a w hR hF Q fun e a' w' K' hk hO'=>hQ e a' w' K' hk (hm β K' a' w' ((hO'.le (Nat.le_of_eq (gAtom_id g3).symm)).ext hE))
   ·intro hne
    have hqf:Gd.d ρ q = false:=by
     cases hd:Gd.d ρ q with
     | false=>rfl
     | true=>exact absurd (hq.1 hd).symm hne
    obtain ⟨hle4,hm⟩:=merge_right (x:=x) (Φ:=Φ) hx (sel:=sel) (p1:=q) (p2:=[]) (O1:=O2) (O2:=dropK .n O) (by rw [hsel]; exact hqf) rfl (fun k q' s' _ _=>by simp [hqf]) g4 hg2.2
    refine hm β K a w ⟨fun k q' s' hk=>?_,q0,s0,β',?_,hE,hR,hF.le (Nat.le_trans hle1 (Nat.le_of_eq (gAtom_id g3).symm))⟩
    ·rw [dropK_get] at hk
     split at hk
     ·cases hk
     ·exact h1 k q' s' hk
    ·rw [dropK_get,if_neg (fun h=>hne (Kd.eq_sound h).symm)]
     exact hK

theorem kdOf_n {e:Exit} (h:kdOf e = some .n):e = .normal:=by cases e <;> simp_all [kdOf]

theorem exit_then {Q:Exit -> Act -> World -> Prop} {nx:Act -> World -> Prop} {e:Exit} {a:Act} {w:World} (h:e = .normal -> nx a w) (h':e ≠ .normal -> Q e a w):Exit.then nx Q e a w:=by
 cases e <;> first | exact h rfl | exact h' (by simp)

theorem loopX_ok {cd:Code} {f:St -> M Outs} (hf:CodeOk P Φ x ρ cd f) {keep:Kp} (hx:GrOk x keep):∀ n,OkW Φ x ρ (fun Q a w=>Code.roundsIn (FR x.rl) 0 P cd Q n a w) (fun s=>M.mono (loopX keep f n s))
 | 0=>fun s c c' O out h _ β a w _ _=>by
  have:=(mono_inv h).1
  simp [loopX,M.fail] at this
 | n + 1=>fun s c c' O out h hg β a w hR hF Q hQ=>by
  obtain ⟨h,hle⟩:=mono_inv h
  simp only at hle
  unfold loopX at h
  obtain ⟨O1,c1,o1,c2,o2,y,g1,g2,he⟩:=M.bind_inv h
  simp only [Prod.mk.injEq] at he
  obtain ⟨rfl,rfl,rfl⟩:=he
  rw [Good.append] at hg
  obtain ⟨g2,hle2⟩:=mono_inv g2
  have hfn:=loopX_ok hf hx n
  show cd.wpIn (FR x.rl) 0 P (Exit.then (Code.roundsIn (FR x.rl) 0 P cd Q n) Q) a w
  refine hf s c c1 O1 o1 g1 hg.1 β a w hR hF _ fun e a' w' K hk hO=>?_
  have hb:=behind_ok hfn hx g2 hle2 hg.2 hO hQ
  refine exit_then (fun h0=>?_) (fun h0=>hQ e a' w' K hk (hb.2 fun e0=>h0 (kdOf_n (e0 ▸ hk))))
  subst h0
  simp only [kdOf,Option.some.injEq] at hk
  exact hb.1 hk.symm

theorem blockX_ok {keep:Kp} (hkp:GrOk x keep) {id:Nat} {O O':Outs} {c c':Ctr} {out:List Em} (h:blockX keep id O c = some (O',c',out)) (hc:c.id <= c'.id) (hg:Good Φ ρ out) {β:Beta} {a:Act} {w:World} {K:Kd} (hO:OutMt x ρ β c O K a w) :
  OutMt x ρ β c' O' (if (Kd.x id).eq K then .n else K) a w:=by
 unfold blockX at h
 obtain ⟨h1,q0,s0,β',hK,hE,hR,hF⟩:=hO
 cases hx:getK (.x id) O with
 | none =>
  rw [hx] at h
  have he:=M.pure_inv h
  simp only [Prod.mk.injEq] at he
  obtain ⟨rfl,rfl,rfl⟩:=he
  have hne:¬ ((Kd.x id).eq K = true):=fun hc=>by
   rw [<- Kd.eq_sound hc,hx] at hK
   cases hK
  rw [if_neg hne]
  exact ⟨h1,q0,s0,β',hK,hE,hR,hF⟩
 | some p =>
  obtain ⟨qx,sx⟩:=p
  rw [hx] at h
  simp only at h
  have hqx:=h1 _ _ _ hx
  cases hn:getK .n O with
  | none =>
   rw [hn] at h
   have he:=M.pure_inv h
   simp only [Prod.mk.injEq] at he
   obtain ⟨rfl,rfl,rfl⟩:=he
   refine single_mt ?_
   by_cases hKx:(Kd.x id).eq K = true
   ·rw [if_pos hKx]
    have e:=Kd.eq_sound hKx
    subst e
    rw [hx] at hK
    simp only [Option.some.injEq,Prod.mk.injEq] at hK
    obtain ⟨rfl,rfl⟩:=hK
    refine ⟨fun k q s hk=>?_,qx,sx,β',by simp [getK,Kd.eq],hE,hR,hF⟩
    unfold getK at hk
    split at hk
    ·rename_i hkn
     simp only [Option.some.injEq,Prod.mk.injEq] at hk
     obtain ⟨rfl,rfl⟩:=hk
     have:=Kd.eq_sound hkn
     subst this
     simp [hqx]
    ·rename_i hkn
     rw [dropK_get] at hk
     split at hk
     ·cases hk
     ·rename_i hkx
      have:=h1 _ _ _ hk
      rw [this]
      constructor
      ·intro e; subst e; exact absurd (Kd.eq_refl _) hkx
      ·intro e; subst e; exact absurd (Kd.eq_refl _) hkn
   ·rw [if_neg hKx]
    have hKn:K ≠ .n:=fun e=>by subst e; rw [hn] at hK; cases hK
    refine ⟨fun k q s hk=>?_,q0,s0,β',?_,hE,hR,hF⟩
    ·unfold getK at hk
     split at hk
     ·rename_i hkn
      simp only [Option.some.injEq,Prod.mk.injEq] at hk
      obtain ⟨rfl,rfl⟩:=hk
      have:=Kd.eq_sound hkn
      subst this
      rw [hqx]
      constructor
      ·intro e; subst e; exact absurd (Kd.eq_refl _) hKx
      ·intro e; exact absurd e.symm hKn
     ·rw [dropK_get] at hk
      split at hk
      ·cases hk
      ·exact h1 _ _ _ hk
    ·unfold getK
     rw [if_neg (by rw [Kd.eq_ne hKn]; simp),dropK_get,if_neg hKx]
     exact hK
  | some p =>
   obtain ⟨qn,sn⟩:=p
   rw [hn] at h
   simp only at h
   have hqn:=h1 _ _ _ hn
   obtain ⟨an,c1,o1,c2,o2,y,g1,g2,he⟩:=M.bind_inv h
   simp only [Prod.mk.injEq] at he
   obtain ⟨rfl,rfl,rfl⟩:=he
   obtain ⟨ax,c3,o3,c4,o4,y,g3,g4,he⟩:=M.bind_inv g2
   simp only [Prod.mk.injEq] at he
   obtain ⟨rfl,rfl,rfl⟩:=he
   obtain ⟨q,c5,o5,c6,o6,y,g5,g6,he⟩:=M.bind_inv g4
   simp only [Prod.mk.injEq] at he
   obtain ⟨rfl,rfl,rfl⟩:=he
   obtain ⟨s,c7,o7,c8,o8,y,g7,g8,he⟩:=M.bind_inv g6
   simp only [Prod.mk.injEq] at he
   obtain ⟨rfl,rfl,rfl⟩:=he
   have he:=M.pure_inv g8
   simp only [Prod.mk.injEq] at he
   obtain ⟨rfl,rfl,rfl⟩:=he
   simp only [Good.append] at hg
   have e1:=gAtom_snd qn _ _ _ _ g1 hg.1
   have e2:=gAtom_snd qx _ _ _ _ g3 hg.2.1
   have e3:=mkOr_snd _ _ _ _ _ _ g5 hg.2.2.1
   obtain ⟨hle7,e4⟩:=joinSt_ok (Φ:=Φ) (x:=x) (ρ:=ρ) hkp g7 hg.2.2.2.1
   have hle5:c.id <= c5.id:=by rw [mkOr_id g5,gAtom_id g3,gAtom_id g1]; exact Nat.le_refl _
   have hqd:Gd.d ρ [(q,true)] = (Gd.d ρ qn || Gd.d ρ qx):=by simp [e1,e2,e3]
   refine single_mt ?_
   by_cases hKx:(Kd.x id).eq K = true
   ·rw [if_pos hKx]
    have e:=Kd.eq_sound hKx
    subst e
    rw [hx] at hK
    simp only [Option.some.injEq,Prod.mk.injEq] at hK
    obtain ⟨rfl,rfl⟩:=hK
    have hxt:Gd.d ρ qx = true:=hqx.2 rfl
    have hnf:Gd.d ρ qn = false:=by
     cases hd:Gd.d ρ qn with
     | false=>rfl
     | true=>have:=hqn.1 hd; cases this
    obtain ⟨β2,f1,f2,f3⟩:=e4 β' a w (by rw [e1,hnf]; simpa using hR) (hF.le hle5)
    refine ⟨fun k q' s' hk=>?_,[(q,true)],s,β2,by simp [getK,Kd.eq],hE.trans f1,f2,f3⟩
    unfold getK at hk
    split at hk
    ·rename_i hkn
     simp only [Option.some.injEq,Prod.mk.injEq] at hk
     obtain ⟨rfl,rfl⟩:=hk
     have:=Kd.eq_sound hkn
     subst this
     rw [hqd,hxt]
     simp
    ·rename_i hkn
     rw [dropK_get,dropK_get] at hk
     split at hk
     ·cases hk
     ·split at hk
      ·cases hk
      ·rename_i hkn' hkx
       have:=h1 _ _ _ hk
       rw [this]
       constructor
       ·intro e; subst e; exact absurd (Kd.eq_refl _) hkx
       ·intro e; subst e; exact absurd (Kd.eq_refl _) hkn
   ·rw [if_neg hKx]
    have hxf:Gd.d ρ qx = false:=by
     cases hd:Gd.d ρ qx with
     | false=>rfl
     | true=>exact absurd (by rw [hqx.1 hd]; exact Kd.eq_refl _) hKx
    by_cases hKn:K = .n
    ·subst hKn
     rw [hn] at hK
     simp only [Option.some.injEq,Prod.mk.injEq] at hK
     obtain ⟨rfl,rfl⟩:=hK
     have hnt:Gd.d ρ qn = true:=hqn.2 rfl
     obtain ⟨β2,f1,f2,f3⟩:=e4 β' a w (by rw [e1,hnt]; simpa using hR) (hF.le hle5)
     refine ⟨fun k q' s' hk=>?_,[(q,true)],s,β2,by simp [getK,Kd.eq],hE.trans f1,f2,f3⟩
     unfold getK at hk
     split at hk
     ·rename_i hkn
      simp only [Option.some.injEq,Prod.mk.injEq] at hk
      obtain ⟨rfl,rfl⟩:=hk
      have:=Kd.eq_sound hkn
      subst this
      rw [hqd,hnt]
      simp
     ·rw [dropK_get,dropK_get] at hk
      split at hk
      ·cases hk
      ·split at hk
       ·cases hk
       ·exact h1 _ _ _ hk
    ·have hnf:Gd.d ρ qn = false:=by
      cases hd:Gd.d ρ qn with
      | false=>rfl
      | true=>exact absurd (hqn.1 hd).symm hKn
     refine ⟨fun k q' s' hk=>?_,q0,s0,β',?_,hE,hR,hF.le hc⟩
     ·unfold getK at hk
      split at hk
      ·rename_i hkn
       simp only [Option.some.injEq,Prod.mk.injEq] at hk
       obtain ⟨rfl,rfl⟩:=hk
       have:=Kd.eq_sound hkn
       subst this
       rw [hqd,hnf,hxf]
       simp only [Bool.or_self,Bool.false_eq_true,false_iff]
       exact fun e=>hKn e.symm
      ·rw [dropK_get,dropK_get] at hk
       split at hk
       ·cases hk
       ·split at hk
        ·cases hk
        ·exact h1 _ _ _ hk
     ·unfold getK
      rw [if_neg (by rw [Kd.eq_ne hKn]; simp),dropK_get,if_neg (by rw [Kd.eq_ne (Ne.symm hKn)]; simp),dropK_get,if_neg hKx]
      exact hK
end

structure EOk (P:Program) (Φ:Funs) (x:Cx) (E:XE):Prop where
 rf:∀ (ρ:Env) g ps aS bd,OkW Φ x ρ (fun Q a w=>(Code.rangeFunc g ps aS bd).wpIn (FR x.rl) 0 P Q a w) (E.rf g ps aS bd)
 rg:∀ (ρ:Env) ops draw s m,E.rg ops draw s = some m -> ∀ (c c':Ctr) (s':St) (out:List Em),m c = some (s',c',out) -> Good Φ ρ out -> ∀ (β:Beta) (a:Act) (w:World),Rel x ρ β s a w -> Fresh β c ->
  ∀ (Q:Exit -> Act -> World -> Prop),(∀ β' a' w',Ext β β' -> Rel x ρ β' s' a' w' -> Fresh β' c' -> Q .normal a' w') -> ∀ id,(Code.region id ops draw).wpIn (FR x.rl) 0 P Q a w
theorem EOk.nil {P:Program} {Φ:Funs} {x:Cx} {E:XE} (h:E = {}):EOk P Φ x E:=by
 subst h
 exact ⟨fun ρ g ps aS bd s c c' O out hm=>by simp [M.fail] at hm,fun ρ ops draw s m hm=>by cases hm⟩
theorem execR_ok {P:Program} {Φ:Funs} {X:Hnd} {x:Cx} (hX:HOk P Φ x.gl X) (hG:∀ w,Keep x.R x.w0 w -> Laid x.gl w) (k:Ctl) (hE:EOk P Φ x k.E) (ops:Array Oper) (draw:Bool) (id:Nat) (ρ:Env):CodeOk P Φ x ρ (.region id ops draw) (execR P X x.gh x.ng k ops draw) :=
 fun s c c' O out h hg β a w hR hF Q hQ=>by
  unfold execR at h
  split at h
  rotate_left
  ·simp [M.fail] at h
  rename_i hnd
  have hno:¬ LetsOut (fun (e:Exit) (a:Act) (w:World)=>e = .normal /\ Q .normal a w):=fun ⟨_,_,h⟩=>by cases h.1
  cases hrg:k.E.rg ops draw s with
  | some m =>
   rw [hrg] at h
   simp only at h
   obtain ⟨s',c1,o1,c2,o2,y,g1,g2,he⟩:=M.bind_inv h
   simp only [Prod.mk.injEq] at he
   obtain ⟨rfl,rfl,rfl⟩:=he
   have he:=M.pure_inv g2
   simp only [Prod.mk.injEq] at he
   obtain ⟨rfl,rfl,rfl⟩:=he
   rw [List.append_nil] at hg
   exact hE.rg ρ ops draw s m hrg _ _ _ _ g1 hg β a w hR hF Q (fun β' a' w' he hR' hF'=>hQ _ _ _ _ rfl (OutMt.one he hR' hF')) id
  | none =>
  rw [hrg] at h
  simp only at h
  cases draw
  ·simp only [Bool.false_eq_true,if_false] at h
   split at h
   ·obtain ⟨s',c1,o1,c2,o2,y,g1,g2,he⟩:=M.bind_inv h
    simp only [Prod.mk.injEq] at he
    obtain ⟨rfl,rfl,rfl⟩:=he
    have he:=M.pure_inv g2
    simp only [Prod.mk.injEq] at he
    obtain ⟨rfl,rfl,rfl⟩:=he
    rw [List.append_nil] at hg
    exact wpIn_mono (wpIn_region_list (wpListIn_of hno hnd (regM_sound hX hG g1 hg hR hF fun β' a' w' he hR' hF'=>⟨rfl,hQ _ _ _ _ rfl (OutMt.one he hR' hF')⟩))) fun e a w ⟨e1,e2⟩=>by rw [e1]; exact e2
   obtain ⟨s',c1,o1,c2,o2,y,g1,g2,he⟩:=M.bind_inv h
   simp only [Prod.mk.injEq] at he
   obtain ⟨rfl,rfl,rfl⟩:=he
   have he:=M.pure_inv g2
   simp only [Prod.mk.injEq] at he
   obtain ⟨rfl,rfl,rfl⟩:=he
   rw [List.append_nil] at hg
   exact wpIn_mono (wpIn_region_list (wpListIn_of hno hnd (regL_sound hX hG ops.toList g1 hg hR hF fun β' a' w' he hR' hF'=>⟨rfl,hQ _ _ _ _ rfl (OutMt.one he hR' hF')⟩))) fun e a w ⟨e1,e2⟩=>by rw [e1]; exact e2
  ·simp only [if_true] at h
   obtain ⟨s',c1,o1,c2,o2,y,g1,g2,he⟩:=M.bind_inv h
   simp only [Prod.mk.injEq] at he
   obtain ⟨rfl,rfl,rfl⟩:=he
   have he:=M.pure_inv g2
   simp only [Prod.mk.injEq] at he
   obtain ⟨rfl,rfl,rfl⟩:=he
   rw [List.append_nil] at hg
   exact regD2_sound hX hG hnd g1 hg hR hF fun β' a' w' he hR' hF'=>hQ _ _ _ _ rfl (OutMt.one he hR' hF')
theorem stepR_scope {P:Program} {b:Frame} {a:Act} {k:List Item} {cs:List Frame} {w:World} {c:Code}:step P (lone (b.atR a (.code (.scope c) :: k)) cs w) = .next (lone (b.atR a (.code c :: .inScope c :: k)) cs w) :=
 step_lone_go (by simp [stepG,stepG.exec,Frame.atR])
theorem stepR_inScope {P:Program} {b:Frame} {a:Act} {k:List Item} {cs:List Frame} {w:World} {c:Code}:step P (lone (b.atR a (.inScope c :: k)) cs w) = .next (lone (b.atR a k) cs w) :=
 step_lone_go (by simp [stepG,stepG.exec,Frame.atR])
theorem wpIn_scope {P:Program} {F:Fence} {n:Nat} {Q:Exit -> Act -> World -> Prop} {a:Act} {w:World} {c:Code} (h:c.wpIn F n P (Exit.noGoto Q) a w):(Code.scope c).wpIn F n P Q a w:=by
 intro b k cs hro hb hr
 have h0:(lone (b.atR a (.code (.scope c) :: k)) cs w).fenced P F:=fenced_calm hb hr rfl
 obtain ⟨e,a₁,w₁,hq,harr⟩:=h b (.inScope c :: k) cs hro hb hr
 cases e with
 | normal=>exact ⟨.normal,a₁,w₁,hq,.head h0 stepR_scope (StepsIn.trans harr (.one (fenced_calm hb hr rfl) stepR_inScope))⟩
 | exit id =>
  have hx:exitTo id (.inScope c :: k) = exitTo id k:=by simp [exitTo]
  exact ⟨_,a₁,w₁,hq,fun k' hk=>.head h0 stepR_scope (harr.1 k' (by rw [hx]; exact hk)),
   fun hr' hk=>let ⟨k₁,h1,h2⟩:=harr.2 hr' (by rw [hx]; exact hk); ⟨k₁,h1,.head h0 stepR_scope h2⟩⟩
 | goto l=>exact hq.elim
 | ret=>exact ⟨_,a₁,w₁,hq,.of_steps (.one h0 stepR_scope) harr⟩
 | panic ch=>exact ⟨_,a₁,w₁,hq,.of_steps (.one h0 stepR_scope) harr⟩
 | outgrown=>exact ⟨_,a₁,w₁,hq,.of_steps (.one h0 stepR_scope) harr⟩
theorem exec_ok {P:Program} {Φ:Funs} {X:Hnd} {x:Cx} (hX:HOk P Φ x.gl X) (hG:∀ w,Keep x.R x.w0 w -> Laid x.gl w) (k:Ctl) (hx:GrOk x k.keep) (hL:LoopsOk Φ k) (hE:EOk P Φ x k.E):∀ (cd:Code) (ρ:Env),CodeOk P Φ x ρ cd (exec P X x.gh x.ng k cd)
 | .skip,ρ=>fun s c c' O out h hg β a w hR hF Q hQ=>by
  have he:=M.pure_inv h
  simp only [Prod.mk.injEq] at he
  obtain ⟨rfl,rfl,rfl⟩:=he
  exact wpIn_skip (hQ _ _ _ _ rfl (OutMt.one (Ext.refl β) hR hF))
 | .label _,ρ=>fun s c c' O out h hg β a w hR hF Q hQ=>by
  have he:=M.pure_inv h
  simp only [Prod.mk.injEq] at he
  obtain ⟨rfl,rfl,rfl⟩:=he
  exact wpIn_label (hQ _ _ _ _ rfl (OutMt.one (Ext.refl β) hR hF))
 | .ret,ρ=>fun s c c' O out h hg β a w hR hF Q hQ=>by
  have he:=M.pure_inv h
  simp only [Prod.mk.injEq] at he
  obtain ⟨rfl,rfl,rfl⟩:=he
  exact wpIn_ret (hQ _ _ _ _ rfl (OutMt.one (Ext.refl β) (hR.prune k) hF))
 | .exit id,ρ=>fun s c c' O out h hg β a w hR hF Q hQ=>by
  have he:=M.pure_inv h
  simp only [Prod.mk.injEq] at he
  obtain ⟨rfl,rfl,rfl⟩:=he
  exact wpIn_exit (hQ _ _ _ _ rfl (OutMt.one (Ext.refl β) hR hF))
 | .region id ops draw,ρ=>fun s c c' O out h hg β a w hR hF Q hQ=>by
  unfold exec at h
  by_cases hf:k.fzf.isEmpty = true
  ·rw [if_pos hf] at h
   exact execR_ok hX hG k hE ops draw id ρ s c c' O out h hg β a w hR hF Q hQ
  ·rw [if_neg hf] at h
   exact (execR_ok hX hG k hE ops draw id ρ).pre (fl:=k.fzf) hx ops s c c' O out h hg β a w hR hF Q hQ
 | .seq p q,ρ=>fun s c c' O out h hg β a w hR hF Q hQ=>by
  unfold exec at h
  obtain ⟨O1,c1,o1,c2,o2,y,g1,g2,he⟩:=M.bind_inv h
  simp only [Prod.mk.injEq] at he
  obtain ⟨rfl,rfl,rfl⟩:=he
  rw [Good.append] at hg
  obtain ⟨g2,hle⟩:=mono_inv g2
  refine wpIn_seq (exec_ok hX hG k hx hL hE p ρ s c c1 O1 o1 g1 hg.1 β a w hR hF _ fun e a' w' K hk hO=>?_)
  have hb:=behind_ok (exec_ok hX hG k hx hL hE q ρ) hx g2 hle hg.2 hO hQ
  refine exit_then (fun h0=>?_) (fun h0=>hQ e a' w' K hk (hb.2 fun e0=>h0 (kdOf_n (e0 ▸ hk))))
  subst h0
  simp only [kdOf,Option.some.injEq] at hk
  exact hb.1 hk.symm
 | .cond cc p q,ρ=>fun s c c' O out h hg β a w hR hF Q hQ=>by
  unfold exec at h
  have hev:=rs_mt (Γ:=[]) (ρ:=ρ) rfl (ev_mt hR cc)
  cases hc:condOf (rs [] (ev x.ng s cc)) with
  | none =>
   rw [hc] at h
   simp [M.fail] at h
  | some b =>
  have hcv:=mt_bool (condOf_spec hc) hev
  rw [hc] at h
  cases b with
  | c kk =>
   cases kk
   ·exact wpIn_cond_false (by simpa using hcv) (exec_ok hX hG k hx hL hE q ρ s c c' O out h hg β a w hR hF Q hQ)
   ·exact wpIn_cond_true (by simpa using hcv) (exec_ok hX hG k hx hL hE p ρ s c c' O out h hg β a w hR hF Q hQ)
  | v n =>
   simp only at h
   obtain ⟨O1,c1,o1,c2,o2,y,g1,g2,he⟩:=M.bind_inv h
   simp only [Prod.mk.injEq] at he
   obtain ⟨rfl,rfl,rfl⟩:=he
   obtain ⟨O2,c3,o3,c4,o4,y,g3,g4,he⟩:=M.bind_inv g2
   simp only [Prod.mk.injEq] at he
   obtain ⟨rfl,rfl,rfl⟩:=he
   simp only [Good.append] at hg
   obtain ⟨g1,hle1⟩:=mono_inv g1
   obtain ⟨g3,hle3⟩:=mono_inv g3
   obtain ⟨g4,hle4⟩:=mono_inv g4
   simp only at hle1 hle3 hle4
   obtain ⟨O1',c1',o1',g1',he1⟩:=under_inv g1
   simp only [Prod.mk.injEq] at he1
   obtain ⟨rfl,rfl,rfl⟩:=he1
   obtain ⟨O2',c3',o3',g3',he3⟩:=under_inv g3
   simp only [Prod.mk.injEq] at he3
   obtain ⟨rfl,rfl,rfl⟩:=he3
   cases hb:(B.v n).d ρ
   ·obtain ⟨_,hm⟩:=merge_right (x:=x) (Φ:=Φ) hx (sel:=.v n) (p1:=[(.v n,true)]) (p2:=[(.v n,false)]) (O1:=O1) (O2:=O2) hb (by simp [hb]) (fun k q s _ _=>by simp [hb]) g4 hg.2.2
    refine wpIn_cond_false (by rw [hcv,hb]) (exec_ok hX hG k hx hL hE q ρ s _ _ O2 _ g3' (Good.under (by simp [hb]) hg.2.1) β a w hR (hF.le hle1) Q fun e a' w' K hk hO=>hQ e a' w' K hk (hm β K a' w' hO))
   ·obtain ⟨_,hm⟩:=merge_left (x:=x) (Φ:=Φ) hx (sel:=.v n) (p1:=[(.v n,true)]) (p2:=[(.v n,false)]) (O1:=O1) (O2:=O2) hb (by simp [hb]) (fun k q s _ _=>by simp [hb]) g4 hg.2.2
    refine wpIn_cond_true (by rw [hcv,hb]) (exec_ok hX hG k hx hL hE p ρ s _ _ O1 _ g1' (Good.under (by simp [hb]) hg.1) β a w hR hF Q fun e a' w' K hk hO=>hQ e a' w' K hk (hm β K a' w' (hO.le hle3)))
 | .block id p,ρ=>fun s c c' O out h hg β a w hR hF Q hQ=>by
  unfold exec at h
  obtain ⟨O1,c1,o1,c2,o2,y,g1,g2,he⟩:=M.bind_inv h
  simp only [Prod.mk.injEq] at he
  obtain ⟨rfl,rfl,rfl⟩:=he
  rw [Good.append] at hg
  obtain ⟨g2,hle⟩:=mono_inv g2
  refine wpIn_block (exec_ok hX hG k hx hL hE p ρ s c c1 O1 o1 g1 hg.1 β a w hR hF _ fun e a' w' K hk hO=>?_)
  have hb:=blockX_ok hx g2 hle hg.2 hO
  cases e <;> simp only [kdOf,Option.some.injEq] at hk <;> (try (cases hk; done))
  ·subst hk
   rw [if_neg (by simp [Kd.eq])] at hb
   exact hQ _ _ _ _ rfl hb
  ·rename_i id'
   subst hk
   unfold Exit.inBlock
   simp only
   by_cases e:id' = id
   ·subst e
    rw [if_pos (Kd.eq_refl _)] at hb
    rw [if_pos rfl]
    exact hQ _ _ _ _ rfl hb
   ·rw [if_neg (by simp [Kd.eq]; exact fun h=>e h.symm)] at hb
    rw [if_neg e]
    exact hQ _ _ _ _ rfl hb
  ·subst hk
   rw [if_neg (by simp [Kd.eq])] at hb
   exact hQ _ _ _ _ rfl hb
 | .loop p,ρ=>fun s c c' O out h hg β a w hR hF Q hQ=>by
  unfold exec at h
  cases hLL:annOf (codeKey p) k.loops with
  | none =>
   rw [hLL] at h
   exact wpIn_loop_rounds k.turns (loopX_ok (exec_ok hX hG k hx hL hE p ρ).jsT hx k.turns s c c' O out h hg β a w hR hF Q hQ)
  | some L =>
   rw [hLL] at h
   obtain ⟨m,hm⟩:=annOf_mem hLL
   exact (OkW.ahead (loopM_ok (fun ρ'=>(exec_ok hX hG k hx hL hE p ρ').jsT) (hL _ hm)) L.sd) s c c' O out (mono_inv h).1 hg β a w hR hF Q hQ
 | .rangeFunc g ps aS bd,ρ=>fun s c c' O out h hg β a w hR hF Q hQ=>hE.rf ρ g ps aS bd s c c' O out (by unfold exec at h; exact h) hg β a w hR hF Q hQ
 | .scope p,ρ=>fun s c c' O out h hg β a w hR hF Q hQ=>by
  unfold exec at h
  refine wpIn_scope (exec_ok hX hG k hx hL hE p ρ s c c' O out h hg β a w hR hF _ fun e a' w' K hk hO=>?_)
  cases e <;> first | (cases hk; done) | exact hQ _ _ _ _ hk hO
 | .goto _,ρ=>fun s c c' O out h _ _ _ _ _ _ _ _=>by simp [exec,M.fail] at h
 | .refuse _,ρ=>fun s c c' O out h _ _ _ _ _ _ _ _=>by simp [exec,M.fail] at h
end Go.Proofs.YtfgbfdlacnihkaaGreatDoor.Sx
namespace Go.Proofs.YtfgbfdlacnihkaaGreatDoor.Sx
open Go

def initTm (ng:Nat):List Sh -> Nat -> Nat -> Nat -> List SV
 | [],_,_,_=>[]
 | .val agg l :: ss,i,b,j=>{ g:=[],s:=.one agg (freshC A.v B.v [] l i b) } :: initTm ng ss (i + nI l) (b + nB l) j
 | .ptr l :: ss,i,b,j=>{ g:=[],s:=.one false [.ptr [] (ng + j) 0] } :: initTm ng ss (i + nI l) (b + nB l) (j + 1)
def initHp (ng:Nat):List Sh -> Nat -> Nat -> Nat -> Hl
 | [],_,_,_=>[]
 | .val _ l :: ss,i,b,j=>initHp ng ss (i + nI l) (b + nB l) j
 | .ptr l :: ss,i,b,j=>(ng + j,{ g:=[],ro:=false,cells:=freshC A.v B.v [] l i b }) :: initHp ng ss (i + nI l) (b + nB l) (j + 1)
def argI:List Sh -> Nat
 | []=>0
 | .val _ l :: ss=>nI l + argI ss
 | .ptr l :: ss=>nI l + argI ss
def argB:List Sh -> Nat
 | []=>0
 | .val _ l :: ss=>nB l + argB ss
 | .ptr l :: ss=>nB l + argB ss

theorem flatArgs_len {w:World}:∀ {ss:List Sh} {vs:List Value} {is:List Int} {bs:List Bool} {ps:List Rg},flatArgs ss vs w = some (is,bs,ps) -> is.length = argI ss /\ bs.length = argB ss /\ ps.length = (ptrShapes ss).length /\ vs.length = ss.length
 | [],[],is,bs,ps,h=>by
  simp only [flatArgs,Option.some.injEq,Prod.mk.injEq] at h
  obtain ⟨rfl,rfl,rfl⟩:=h
  exact ⟨rfl,rfl,rfl,rfl⟩
 | .val agg l :: ss,v :: vs,is,bs,ps,h=>by
  unfold flatArgs at h
  split at h
  ·rename_i i b is' bs' ps' h1 h2
   simp only [Option.some.injEq,Prod.mk.injEq] at h
   obtain ⟨rfl,rfl,rfl⟩:=h
   obtain ⟨us,hf,_⟩:=flat1_inv h1
   have e1:=flatC_len hf
   have e2:=flatArgs_len h2
   simp only [argI,argB,ptrShapes,List.length_append,List.length_cons] at e1 e2 ⊢
   omega
  ·cases h
 | .ptr l :: ss,v :: vs,is,bs,ps,h=>by
  unfold flatArgs at h
  split at h
  ·rename_i b o is' bs' ps' h2
   split at h
   ·rename_i i bb h1
    simp only [Option.some.injEq,Prod.mk.injEq] at h
    obtain ⟨rfl,rfl,rfl⟩:=h
    cases hr:readCells w b o l.length with
    | none=>rw [hr] at h1; simp at h1
    | some us =>
     rw [hr] at h1
     simp only [Option.bind_some] at h1
     have e1:=flatC_len h1
     have e2:=flatArgs_len h2
     simp only [argI,argB,ptrShapes,List.length_append,List.length_cons] at e1 e2 ⊢
     omega
   ·cases h
  ·cases h
 | [],_ :: _,_,_,_,h=>by simp [flatArgs] at h
 | .val _ _ :: _,[],_,_,_,h=>by simp [flatArgs] at h
 | .ptr _ :: _,[],_,_,_,h=>by simp [flatArgs] at h

theorem init_ok {ρ:Env} {β:Beta} {w:World} (ng:Nat):∀ {ss:List Sh} {vs:List Value} {is:List Int} {bs:List Bool} {ps:List Rg} {i b j:Nat},flatArgs ss vs w = some (is,bs,ps) -> frzL ps w ->
  (∀ n,n < argI ss -> ρ.i (i + n) = is.getD n 0) -> (∀ n,n < argB ss -> ρ.b (b + n) = bs.getD n false) -> (∀ (k:Nat) (r:Rg),ps[k]? = some r -> β (ng + j + k) = some r) -> (∀ l,l ∈ ptrShapes ss -> nSl l = 0) -> (∀ r,r ∈ argRgs ss vs w -> ∃ i,β i = some r) ->
  (∀ (t:Nat) (x:SV),(initTm ng ss i b j)[t]? = some x -> x.mt β ρ (vs.getD t undef)) /\ (initTm ng ss i b j).length = vs.length /\ heapMt β ρ (hpOf (initHp ng ss i b j)) w
 | [],[],is,bs,ps,i,b,j,h,_,_,_,_,_,_=>⟨fun t x hx=>by simp [initTm] at hx,rfl,fun id b hb=>by simp [initHp,hpOf] at hb⟩
 | .val agg l :: ss,v :: vs,is,bs,ps,i,b,j,h,hf,hi,hb,hp,hn0,hs=>by
  unfold flatArgs at h
  split at h
  ·rename_i i1 b1 is' bs' ps' h1 h2
   simp only [Option.some.injEq,Prod.mk.injEq] at h
   obtain ⟨rfl,rfl,rfl⟩:=h
   obtain ⟨us,hfl,_⟩:=flat1_inv h1
   have e1:=flatC_len hfl
   simp only at e1
   obtain ⟨g1,g2,g3⟩:=init_ok ng (i:=i + nI l) (b:=b + nB l) (j:=j) h2 hf
    (fun n hn=>by
     have:=hi (nI l + n) (by simp only [argI]; omega)
     rw [show i + nI l + n = i + (nI l + n) by omega,this,<- e1.1,getD_append_right])
    (fun n hn=>by
     have:=hb (nB l + n) (by simp only [argB]; omega)
     rw [show b + nB l + n = b + (nB l + n) by omega,this,<- e1.2.1,getD_append_right]) hp (fun l' hl'=>hn0 l' (by simpa [ptrShapes] using hl')) (fun r hr=>hs r (by simp [argRgs,hr]))
   obtain ⟨m1,_,_⟩:=fresh1_mt (FI:=A.v) (FB:=B.v) (β:=β) (ρ:=ρ) (pp:=[]) (ps:=[]) trivial (i:=i) (b:=b) h1 (fun r hr=>hs r (by simp [argRgs,hr]))
    (fun n hn=>by have:=hi n (by simp only [argI]; omega); rwa [getD_append_left _ _ _ _ (by omega)] at this)
    (fun n hn=>by have:=hb n (by simp only [argB]; omega); rwa [getD_append_left _ _ _ _ (by omega)] at this)
   refine ⟨fun t x hx=>?_,by simp [initTm,g2],g3⟩
   unfold initTm at hx
   cases t with
   | zero=>simp at hx; subst hx; exact ⟨fun _=>m1,fun h=>(by cases h)⟩
   | succ t=>simp at hx; simpa using g1 t x hx
  ·cases h
 | .ptr l :: ss,v :: vs,is,bs,ps,i,b,j,h,hf,hi,hb,hp,hn0,hs=>by
  unfold flatArgs at h
  split at h
  ·rename_i bk o is' bs' ps' h2
   split at h
   ·rename_i i1 b1 h1
    simp only [Option.some.injEq,Prod.mk.injEq] at h
    obtain ⟨rfl,rfl,rfl⟩:=h
    cases hr:readCells w bk o l.length with
    | none=>rw [hr] at h1; simp at h1
    | some us =>
     rw [hr] at h1
     simp only [Option.bind_some] at h1
     have e1:=flatC_len h1
     simp only at e1
     have hp0:=hp 0 { blk:=bk,off:=o,len:=l.length,ro:=false } (by simp)
     simp only [Nat.add_zero] at hp0
     obtain ⟨g1,g2,g3⟩:=init_ok ng (i:=i + nI l) (b:=b + nB l) (j:=j + 1) h2 (fun r hr=>hf r (by simp [hr]))
      (fun n hn=>by
       have:=hi (nI l + n) (by simp only [argI]; omega)
       rw [show i + nI l + n = i + (nI l + n) by omega,this,<- e1.1,getD_append_right])
      (fun n hn=>by
       have:=hb (nB l + n) (by simp only [argB]; omega)
       rw [show b + nB l + n = b + (nB l + n) by omega,this,<- e1.2.1,getD_append_right])
      (fun k r hk=>by have:=hp (k + 1) r (by simpa using hk); rwa [show ng + (j + 1) + k = ng + j + (k + 1) by omega]) (fun l' hl'=>hn0 l' (by simp [ptrShapes,hl'])) (fun r hr=>hs r (by simpa [argRgs] using hr))
     have m1:=freshC_mt (FI:=A.v) (FB:=B.v) (β:=β) (ρ:=ρ) (pp:=[]) (ps:=[]) trivial (i:=i) (b:=b) h1 (fun r hr=>by rw [rgC_noSl (hn0 l (by simp [ptrShapes]))] at hr; cases hr)
      (fun n hn=>by have:=hi n (by simp only [argI]; omega); rwa [getD_append_left _ _ _ _ (by omega)] at this)
      (fun n hn=>by have:=hb n (by simp only [argB]; omega); rwa [getD_append_left _ _ _ _ (by omega)] at this)
     refine ⟨fun t x hx=>?_,by simp [initTm,g2],fun id bl hbl hg=>?_⟩
     ·unfold initTm at hx
      cases t with
      | zero =>
       simp at hx
       subst hx
       exact ⟨fun _=>⟨_,rfl,_,hp0,by simp [pick]⟩,fun h=>(by cases h)⟩
      | succ t=>simp at hx; simpa using g1 t x hx
     ·unfold initHp hpOf at hbl
      split at hbl
      ·rename_i he
       simp only [beq_iff_eq] at he
       subst he
       simp only [Option.some.injEq] at hbl
       subst hbl
       refine blkMt_mk ⟨_,hp0,rfl,by simp [freshC_length],rfl,cellsAt_of_read hr m1,fun _ n hn=>?_⟩
       exact hf _ (by simp) n (by simpa [freshC_length] using hn)
      ·exact g3 id bl hbl hg
   ·cases h
  ·cases h
 | [],_ :: _,_,_,_,_,_,_,h,_,_,_,_,_,_=>by simp [flatArgs] at h
 | .val _ _ :: _,[],_,_,_,_,_,_,h,_,_,_,_,_,_=>by simp [flatArgs] at h
 | .ptr _ :: _,[],_,_,_,_,_,_,h,_,_,_,_,_,_=>by simp [flatArgs] at h

def beta0 (gl:Gl) (ps sl:List Rg):Beta:=fun i=>if h:i < gl.length then some (gRg i gl[i]) else if i - gl.length < ps.length then ps[i - gl.length]? else sl[i - gl.length - ps.length]?
theorem beta0_gl {gl:Gl} {ps sl:List Rg} {g:Nat} {vs:List Value} (h:gl[g]? = some vs):beta0 gl ps sl g = some (gRg g vs):=by
 obtain ⟨hlt,he⟩:=List.getElem?_eq_some_iff.1 h
 unfold beta0
 rw [dif_pos hlt,he]
theorem beta0_ps {gl:Gl} {ps sl:List Rg} {k:Nat} {r:Rg} (h:ps[k]? = some r):beta0 gl ps sl (gl.length + k) = some r:=by
 have hk:=(List.getElem?_eq_some_iff.1 h).1
 unfold beta0
 rw [dif_neg (by omega),if_pos (by omega),Nat.add_sub_cancel_left]
 exact h
theorem beta0_sl {gl:Gl} {ps sl:List Rg} {r:Rg} (h:r ∈ sl):∃ i,beta0 gl ps sl i = some r:=by
 obtain ⟨k,hk⟩:=List.mem_iff_getElem?.1 h
 refine ⟨gl.length + ps.length + k,?_⟩
 unfold beta0
 rw [dif_neg (by omega),if_neg (by omega),show gl.length + ps.length + k - gl.length - ps.length = k by omega,hk]
theorem beta0_inv {gl:Gl} {ps sl:List Rg} {i:Nat} {r:Rg} (h:beta0 gl ps sl i = some r) :
  (∃ vs,gl[i]? = some vs /\ r = gRg i vs) \/ (gl.length <= i /\ ps[i - gl.length]? = some r) \/ (gl.length + ps.length <= i /\ sl[i - gl.length - ps.length]? = some r):=by
 unfold beta0 at h
 split at h
 ·rename_i hlt
  simp only [Option.some.injEq] at h
  exact .inl ⟨_,List.getElem?_eq_getElem hlt,h.symm⟩
 ·split at h
  ·exact .inr (.inl ⟨by omega,h⟩)
  ·exact .inr (.inr ⟨by omega,h⟩)
def argS:List Sh -> Nat
 | []=>0
 | .val _ l :: ss=>nSl l + argS ss
 | .ptr _ :: ss=>argS ss
theorem argRgs_len {w:World}:∀ {ss:List Sh} {vs:List Value},(argRgs ss vs w).length <= argS ss
 | .val agg l :: ss,v :: vs=>by
  have:=argRgs_len (w:=w) (ss:=ss) (vs:=vs)
  simp only [argRgs,argS,List.length_append]
  have h1:(rg1 w agg l v).length <= nSl l:=by
   unfold rg1
   split
   ·split
    ·exact rgC_len
    ·simp
   ·exact rgC_len
  omega
 | .ptr _ :: ss,v :: vs=>by simpa only [argRgs,argS] using argRgs_len (w:=w) (ss:=ss) (vs:=vs)
 | [],_=>by simp [argRgs]
 | .val _ _ :: _,[]=>by simp [argRgs]
 | .ptr _ :: _,[]=>by simp [argRgs]
theorem argRgs_sq {w:World} {r:Rg}:∀ {ss:List Sh} {vs:List Value},r ∈ argRgs ss vs w -> r.ro = true /\ r.row = false /\ ∃ ks q,r.sq = some (ks,q) /\ q.length = r.len /\ seqAt w r.blk r.off ks q
 | .val agg l :: ss,v :: vs,h=>by
  simp only [argRgs,List.mem_append] at h
  rcases h with h | h
  ·unfold rg1 at h
   split at h
   ·split at h
    ·exact rgC_sq h
    ·cases h
   ·exact rgC_sq h
  ·exact argRgs_sq h
 | .ptr _ :: ss,v :: vs,h=>argRgs_sq (ss:=ss) (vs:=vs) (by simpa only [argRgs] using h)
 | [],_,h=>by simp [argRgs] at h
 | .val _ _ :: _,[],h=>by simp [argRgs] at h
 | .ptr _ :: _,[],h=>by simp [argRgs] at h
theorem apartL_get:∀ {ps:List Rg},apartL ps -> ∀ {i j:Nat} {r q:Rg},i < j -> ps[i]? = some r -> ps[j]? = some q -> r.apart q
 | [],_,i,j,r,q,_,h,_=>by simp at h
 | p :: ps,⟨h1,h2⟩,i,j,r,q,hij,hi,hj=>by
  cases j with
  | zero=>omega
  | succ j =>
   simp at hj
   cases i with
   | zero=>simp at hi; subst hi; exact h1 q (List.mem_of_getElem? hj)
   | succ i=>simp at hi; exact apartL_get h2 (by omega) hi hj
theorem Rg.apart_symm {r q:Rg} (h:r.apart q):q.apart r:=by
 unfold Rg.apart at *; omega
theorem ghOf_get:∀ {gl:Gl} {g id:Nat} {b:Blk},hpOf (ghOf gl g) id = some b -> ∃ vs,gl[id - g]? = some vs /\ g <= id /\ b = { g:=[],ro:=true,cells:=vs.map ofC }
 | [],g,id,b,h=>by simp [ghOf,hpOf] at h
 | vs :: gl,g,id,b,h=>by
  unfold ghOf hpOf at h
  split at h
  ·rename_i he
   simp only [beq_iff_eq] at he
   subst he
   simp only [Option.some.injEq] at h
   exact ⟨vs,by simp,Nat.le_refl _,h.symm⟩
  ·rename_i he
   obtain ⟨us,h1,h2,h3⟩:=ghOf_get h
   refine ⟨us,?_,by omega,h3⟩
   rw [show id - g = (id - (g + 1)) + 1 by omega]
   simpa using h1
end Go.Proofs.YtfgbfdlacnihkaaGreatDoor.Sx
namespace Go.Proofs.YtfgbfdlacnihkaaGreatDoor.Sx
open Go

def obLp:Obj -> Bool
 | .loop _=>true
 | .deferred _=>true
 | _=>false
theorem putObj_cell {w:World} {D:Nat} {o o':Obj} (h:w.heap[D]? = some o) (ho:obLp o = true) (ho':obLp o' = true) (a:Addr):(w.putObj D o').cell? a = w.cell? a /\ (w.putObj D o').frozen? a = w.frozen? a:=by
 by_cases e:a.block = D
 ·have h1:=World.putObj_heap_same (w:=w) (o:=o') (Array.getElem?_eq_some_iff.1 h).1
  unfold World.cell? World.frozen?
  rw [e,h1,h]
  cases o <;> cases o' <;> simp_all [obLp]
 ·exact ⟨cell?_of_blk (World.putObj_heap_other e),frozen?_of_blk (World.putObj_heap_other e)⟩
theorem putObj_keep {R:List Rg} {w0 w:World} {D:Nat} {o o':Obj} (hk:Keep R w0 w) (hN:w0.heap.size <= D) (h:w.heap[D]? = some o) (ho:obLp o = true) (ho':obLp o' = true):Keep R w0 (w.putObj D o'):=by
 refine ⟨hk.os,hk.tape,hk.output,by rw [World.putObj_size]; exact hk.size,fun a ha hn=>?_,fun a ha=>?_,fun k hk'=>?_,fun k hk' hn=>?_⟩
 ·rw [(putObj_cell h ho ho' a).1]; exact hk.cell a ha hn
 ·rw [(putObj_cell h ho ho' a).2]; exact hk.frz a ha
 ·exact (shape?_of_blk (World.putObj_heap_other (by omega))).trans (hk.shp k hk')
 ·exact (World.putObj_heap_other (by omega)).trans (hk.blk k hk' hn)
theorem Rel.putObj {x y:Cx} {ρ:Env} {β:Beta} {σ:St} {a:Act} {w:World} {D:Nat} {o o':Obj} (hR:Rel x ρ β σ a w) (hN:x.w0.heap.size <= D) (h:w.heap[D]? = some o) (ho:obLp o = true) (ho':obLp o' = true)
  (hy:y.w0 = x.w0 /\ y.R = x.R /\ y.gl = x.gl /\ y.gr = x.gr /\ y.Q = x.Q /\ y.b0 = x.b0 /\ y.gi = x.gi) {js:Js} {a':Act} (ha:a'.tmps = a.tmps) (hl:Lk y ρ js a'.defers (w.putObj D o')):Rel y ρ β { σ with js:=js } a' (w.putObj D o'):=by
 obtain ⟨y1,y2,y3,y4,y5,y6,y7⟩:=hy
 have hc:=putObj_cell h ho ho'
 refine ⟨by rw [ha]; exact hR.size,fun t v hv=>by rw [ha]; exact hR.slot t v hv,hl,fun id b hb hg=>blkMt_cells hc (hR.hm id b hb hg),?_,?_,?_,?_,?_,?_,?_⟩
 ·have e:y.gh = x.gh:=by unfold Cx.gh; rw [y3]
  rw [e]
  exact fun id b hb hg=>blkMt_cells hc (hR.gm id b hb hg)
 ·have e:y.gh = x.gh:=by unfold Cx.gh; rw [y3]
  rw [e]; exact hR.gro
 ·rw [y1,y2,y5]; exact betaOk_cells (fun a=>(hc a).1) (by rw [World.putObj_size]; exact Nat.le_refl _) hR.bo
 ·rw [y1,y2]; exact putObj_keep hR.kp hN h ho ho'
 ·rw [y3]; exact hR.gl
 ·rw [y4,y7]; exact hR.ra
 ·rw [y6]; exact hR.eb
theorem leaves_ok {P:Program} {fn:Func} {x:Cx} {ρ:Env} {β:Beta} {σ:St} {T:Ending -> World -> Prop} (h1:x.lr = none) (h2:x.ds = []):∀ (dl:List Deferred) {tm:Array Value} {w:World},Rel x ρ β σ { tmps:=tm,defers:=[] } w -> Marks x.w0.heap.size w dl ->
  (∀ w',Rel x ρ β σ { tmps:=tm,defers:=[] } w' -> ∃ v,(results fn tm).run P w' = .ok v w' /\ T (.returned v) w') -> LeavesInM Fence.wide 0 P fn tm T dl .returning w
 | [],tm,w,hR,_,hT=>hT w hR
 | d :: dl,tm,w,hR,⟨D,e1,e2,e3,e4,e5⟩,hT=>by
  refine ⟨by simp,.inl ⟨D,w.putObj D (.deferred none),by rw [e1],run_takeDeferred e3,?_⟩⟩
  have hR2:=hR.putObj (y:=x) (js:=σ.js) (a':={ tmps:=tm,defers:=[] }) (o':=.deferred none) e2 e3 rfl rfl ⟨rfl,rfl,rfl,rfl,rfl,rfl,rfl⟩ rfl (Lk.nil h1 h2 _)
  refine leaves_ok h1 h2 dl hR2 ?_ hT
  clear hR hR2 hT
  induction dl with
  | nil=>trivial
  | cons d' dl ih =>
   obtain ⟨D',f1,f2,f3,f4,f5⟩:=e5
   have hne:D' ≠ D:=fun e=>e4 d' (by simp) (by rw [f1,e])
   exact ⟨D',f1,f2,(World.putObj_heap_other hne).trans f3,f4,ih (fun e he=>e4 e (by simp [he])) f5⟩
theorem Rel.noDf {x:Cx} {ρ:Env} {β:Beta} {σ:St} {a:Act} {w:World} (h:Rel x ρ β σ a w):Rel x ρ β σ { tmps:=a.tmps,defers:=[] } w :=
 ⟨h.size,h.slot,⟨h.df.rc,h.df.ds,trivial,fun _=>rfl⟩,h.hm,h.gm,h.gro,h.bo,h.kp,h.gl,h.ra,h.eb⟩
end Go.Proofs.YtfgbfdlacnihkaaGreatDoor.Sx
namespace Go.Proofs.YtfgbfdlacnihkaaGreatDoor.Sx
open Go

section
variable {P:Program} {Φ:Funs} {X:Hnd} {x:Cx} {ρ:Env}

def plainS (v:SV):Option S:=if v.g.isEmpty then some v.s else none
def rOne (P:Program) (gh:Hl) (ng:Nat) (σ:St):ResultVar -> M S
 | .tmp t=>lift (plainS (σ.tm.getD t anySV))
 | .cell a t=>xLoad P [] (hpX gh ng σ.hp) t (rs [] (σ.tm.getD a anySV))
def resSem (tmps:Array Value):ResultVar -> Sem Value
 | .tmp t=>pure (tmps.getD t undef)
 | .cell a t=>do loadVar t (<- asAddr (tmps.getD a undef))
theorem slot_getD {β:Beta} {σ:St} {a:Act} {w:World} (h:Rel x ρ β σ a w) (t:Nat):(σ.tm.getD t anySV).mt β ρ (a.tmps.getD t undef):=by
 rw [List.getD_eq_getElem?_getD]
 cases ht:σ.tm[t]? with
 | none=>exact anySV_mt _
 | some v=>exact h.slot t v ht
theorem rOne_snd (σ:St) (r:ResultVar):Snd Φ ρ (rOne P x.gh x.ng σ r) (fun s=>∀ β a w,Rel x ρ β σ a w -> ∃ v,(resSem a.tmps r).run P w = .ok v w /\ s.mt β ρ v):=by
 cases r with
 | tmp t =>
  refine (lift_snd _).mono fun s hs β a w h=>⟨_,rfl,?_⟩
  unfold plainS at hs
  split at hs
  ·rename_i hg
   simp only [Option.some.injEq] at hs
   subst hs
   rw [List.isEmpty_iff] at hg
   exact (slot_getD h t).1 (by rw [hg]; rfl)
  ·cases hs
 | cell p t =>
  have hL:=pure_load (P:=P) (Φ:=Φ) (Γ:=[]) (hp:=hpX x.gh x.ng σ.hp) (rv:=fun o=>match o with | .tmp t=>σ.tm.getD t anySV | _=>anySV) (dst:=none) (ty:=0) (pos:=default) (after:=#[]) (guard:=none) (ρ:=ρ) rfl t (.tmp p)
  refine hL.mono fun s hs β a w h=>?_
  obtain ⟨v,hv,hm⟩:=hs β a w (fun z hz=>by
   simp only [Op.operands,List.mem_toArray,List.mem_cons,List.not_mem_nil,or_false] at hz
   subst hz
   exact slot_getD h p) h.hx h.bo.sq
  refine ⟨v,?_,hm⟩
  simp only [execOp,Instr.loadAt,Act.eval,Sem.run_bind,Sem.run_pure] at hv
  cases hp:a.tmps.getD p undef with
  | pointer q =>
   rw [hp] at hv
   cases q with
   | none=>simp [Instr.sureAddr] at hv
   | some q =>
    simp only [Instr.sureAddr,Sem.run_pure,Result.andThen_ok] at hv
    cases hl:(loadVar t q).run P w with
    | ok u w' =>
     rw [hl] at hv
     simp only [Result.andThen_ok,Result.ok.injEq,Next.value.injEq] at hv
     obtain ⟨rfl,rfl⟩:=hv
     simp [resSem,hp,asAddr,hl]
    | halt hh w'=>rw [hl] at hv; simp [Result.andThen] at hv
  | _=>rw [hp] at hv; simp [Instr.sureAddr,Result.andThen] at hv
def rAll (P:Program) (gh:Hl) (ng:Nat) (σ:St):List ResultVar -> M (List S)
 | []=>pure []
 | r :: l=>do
  let s <- rOne P gh ng σ r
  let ss <- rAll P gh ng σ l
  pure (s :: ss)
theorem rAll_snd (σ:St):∀ l:List ResultVar,Snd Φ ρ (rAll P x.gh x.ng σ l) (fun ss=>∀ β a w,Rel x ρ β σ a w -> ∃ vs,(l.mapM (resSem a.tmps)).run P w = .ok vs w /\ mtAll β ρ ss vs)
 | []=>Snd.pure fun β a w _=>⟨[],rfl,trivial⟩
 | r :: l=>by
  unfold rAll
  refine Snd.bind (rOne_snd σ r) fun s hs=>Snd.bind (rAll_snd σ l) fun ss hss=>Snd.pure fun β a w h=>?_
  obtain ⟨v,hv,hm⟩:=hs β a w h
  obtain ⟨vs,hvs,hms⟩:=hss β a w h
  refine ⟨v :: vs,?_,hm,hms⟩
  rw [List.mapM_cons]
  simp only [Sem.run_bind,hv,Result.andThen_ok,hvs,Sem.run_pure]
def tupV:List Value -> Value
 | [v]=>v
 | vs=>.tuple vs.toArray
theorem results_run {fn:Func} {tmps:Array Value} {w:World} {vs:List Value} (h:(fn.results.toList.mapM (resSem tmps)).run P w = .ok vs w) :
  (results fn tmps).run P w = .ok (tupV vs) w:=by
 have e:(fn.results.mapM (resSem tmps)).run P w = .ok vs.toArray w:=by
  rw [Array.mapM_eq_mapM_toList,Sem.run_map,h]
  rfl
 have e2:results fn tmps = (do
   let vs <- fn.results.mapM (resSem tmps)
   pure (if h:vs.size = 1 then vs[0] else .tuple vs)):=by
  unfold results
  congr 1
 rw [e2,Sem.run_bind,e]
 simp only [Result.andThen_ok]
 match vs with
 | []=>rfl
 | [v]=>rfl
 | v :: u :: vs=>rfl

def takeR (ng np:Nat) (hp:Hp):List CK -> List C -> Option (List A × List B)
 | [],[]=>some ([],[])
 | .int k :: l,.int k' a :: cs=>match takeR ng np hp l cs with
  | some (aS,bs)=>if k' == k then some (a :: aS,bs) else none
  | none=>none
 | .bool :: l,.bool b :: cs=>match takeR ng np hp l cs with
  | some (aS,bs)=>some (aS,b :: bs)
  | none=>none
 | .pt k o :: l,.ptr [] id off :: cs=>match takeR ng np hp l cs with
  | some r=>if id == ng + k && off == o && Nat.blt k np then some r else none
  | none=>none
 | .str :: l,c :: cs=>match asStr c,takeR ng np hp l cs with
  | some q,some (aS,bs)=>some (q :: aS,bs)
  | _,_=>none
 | .sl ks :: l,c :: cs=>match slNum [] hp ks c,takeR ng np hp l cs with
  | some p,some (aS,bs)=>if slHot hp c == 2 then none else some (p.1 :: p.2 :: aS,bs)
  | _,_=>none
 | _,_=>none
def Lies (β:Beta) (l:List Rg):Prop:=∀ r',r' ∈ l -> ∃ i r0,β i = some r0 /\ r'.within r0 /\ (r0.ro = true \/ r0.row = true)
theorem Lies.nil {β:Beta}:Lies β []:=fun _ h=>by cases h
theorem Lies.append {β:Beta} {l m:List Rg} (h:Lies β l) (h':Lies β m):Lies β (l ++ m):=fun r hr=>(List.mem_append.1 hr).elim (h r) (h' r)
theorem takeR_flat {β:Beta} {w:World} {hp:Hp} (hh:heapMt β ρ hp w) (hsq:SqOk β w) {ps:List Rg} {ng np:Nat} (hnp:ps.length = np) (hb:∀ (k:Nat) (r:Rg),ps[k]? = some r -> β (ng + k) = some r):∀ {l:List CK} {cs:List C} {aS:List A} {bs:List B} {vs:List Value},
  takeR ng np hp l cs = some (aS,bs) -> mtL β ρ cs vs -> flatC w ps l vs = some (aS.map (A.d ρ),bs.map (B.d ρ)) /\ Lies β (rgC w l vs)
 | l,cs,aS,bs,vs,h,hm=>by
  induction l generalizing cs aS bs vs with
  | nil =>
   cases cs with
   | nil =>
    simp only [takeR,Option.some.injEq,Prod.mk.injEq] at h
    obtain ⟨rfl,rfl⟩:=h
    cases vs with
    | nil=>exact ⟨rfl,Lies.nil⟩
    | cons _ _=>exact hm.elim
   | cons _ _=>simp [takeR] at h
  | cons ck l ih =>
   cases cs with
   | nil=>cases ck <;> simp [takeR] at h
   | cons c cs =>
    cases vs with
    | nil=>exact hm.elim
    | cons v vs =>
     obtain ⟨h1,h2⟩:=hm
     unfold takeR at h
     split at h
     ·rename_i he1 he2; cases he1
     ·rename_i k l' k' a cs' he1 he2
      simp only [List.cons.injEq] at he1 he2
      obtain ⟨rfl,rfl⟩:=he1
      obtain ⟨rfl,rfl⟩:=he2
      obtain ⟨rfl,h3⟩:=h1
      split at h
      ·rename_i as' bs' ht
       split at h
       ·rename_i hk
        simp only [beq_iff_eq] at hk
        subst hk
        simp only [Option.some.injEq,Prod.mk.injEq] at h
        obtain ⟨rfl,rfl⟩:=h
        obtain ⟨i1,i2⟩:=ih _ _ _ _ ht h2
        refine ⟨?_,i2⟩
        unfold flatC
        rw [i1]
        simp [inR_mk h3]
       ·cases h
      ·cases h
     ·rename_i l' b cs' he1 he2
      simp only [List.cons.injEq] at he1 he2
      obtain ⟨rfl,rfl⟩:=he1
      obtain ⟨rfl,rfl⟩:=he2
      have h1:v = .bool (b.d ρ):=h1
      subst h1
      split at h
      ·rename_i as' bs' ht
       simp only [Option.some.injEq,Prod.mk.injEq] at h
       obtain ⟨rfl,rfl⟩:=h
       obtain ⟨i1,i2⟩:=ih _ _ _ _ ht h2
       refine ⟨?_,i2⟩
       unfold flatC
       rw [i1]
       simp
      ·cases h
     ·rename_i k o l' id off cs' he1 he2
      simp only [List.cons.injEq] at he1 he2
      obtain ⟨rfl,rfl⟩:=he1
      obtain ⟨rfl,rfl⟩:=he2
      split at h
      ·rename_i r ht
       split at h
       ·rename_i hc
        simp only [Bool.and_eq_true,beq_iff_eq,Nat.blt_eq] at hc
        obtain ⟨⟨rfl,rfl⟩,hk⟩:=hc
        simp only [Option.some.injEq] at h
        subst h
        obtain ⟨q,hq,rfl⟩:=h1
        have hlt:k < ps.length:=by omega
        have hg:=List.getElem?_eq_getElem hlt
        have:=hb k _ hg
        simp only [pick] at hq
        rw [this] at hq
        simp only [Option.some.injEq] at hq
        obtain ⟨i1,i2⟩:=ih _ _ _ _ ht h2
        refine ⟨?_,i2⟩
        unfold flatC
        rw [hg,i1]
        simp [hq,pick]
       ·cases h
      ·cases h
     ·rename_i l' c' cs' he1 he2
      simp only [List.cons.injEq] at he1 he2
      obtain ⟨rfl,rfl⟩:=he1
      obtain ⟨rfl,rfl⟩:=he2
      split at h
      ·rename_i q as' bs' hq ht
       simp only [Option.some.injEq,Prod.mk.injEq] at h
       obtain ⟨rfl,rfl⟩:=h
       obtain ⟨s,rfl,e1,e2⟩:=asStr_mt hq h1
       obtain ⟨i1,i2⟩:=ih _ _ _ _ ht h2
       refine ⟨?_,i2⟩
       unfold flatC
       rw [i1]
       simp [inR_mk e2,e1]
      ·cases h
     ·rename_i ks l' c' cs' he1 he2
      simp only [List.cons.injEq] at he1 he2
      obtain ⟨rfl,rfl⟩:=he1
      obtain ⟨rfl,rfl⟩:=he2
      split at h
      ·rename_i q as' bs' hq ht
       split at h
       ·cases h
       ·rename_i hot
        simp only [Option.some.injEq,Prod.mk.injEq] at h
        obtain ⟨rfl,rfl⟩:=h
        obtain ⟨ll,r,e1,e2,e3⟩:=slNum_flat (Γ:=[]) rfl hh hsq hq h1
        obtain ⟨i1,i2⟩:=ih _ _ _ _ ht h2
        constructor
        ·unfold flatC
         rw [i1,e1]
         simp [e2]
        ·unfold rgC
         rw [e1]
         refine Lies.append ?_ i2
         cases r with
         | none=>exact Lies.nil
         | some r' =>
          intro r2 hr2
          simp only [List.mem_singleton] at hr2
          subst hr2
          obtain ⟨i,r0,k1,k2,k3⟩:=e3 _ rfl
          refine ⟨i,r0,k1,k2,?_⟩
          rcases k3 with k3 | k3 | k3
          ·exact .inl k3
          ·exact .inr k3.1
          ·rw [k3] at hot; exact absurd rfl hot
      ·cases h
     ·cases h
def takeTup (ng np:Nat) (hp:Hp):List (Bool × List CK) -> List S -> Option (List A × List B)
 | [],[]=>some ([],[])
 | p :: l,.one agg cs :: ss=>match takeR ng np hp p.2 cs,takeTup ng np hp l ss with
  | some (a,b),some (aS,bs)=>if agg == p.1 && (agg || p.2.length == 1) then some (a ++ aS,b ++ bs) else none
  | _,_=>none
 | _,_=>none
theorem take1_flat {β:Beta} {w:World} {hp:Hp} (hh:heapMt β ρ hp w) (hsq:SqOk β w) {ps:List Rg} {ng np:Nat} (hnp:ps.length = np) (hb:∀ (k:Nat) (r:Rg),ps[k]? = some r -> β (ng + k) = some r) {agg:Bool} {l:List CK} {cs:List C} {a:List A} {b:List B} {v:Value}
  (h:takeR ng np hp l cs = some (a,b)) (hc:(agg || l.length == 1) = true) (hm:mt1 β ρ agg cs v):flat1 w ps agg l v = some (a.map (A.d ρ),b.map (B.d ρ)) /\ Lies β (rg1 w agg l v):=by
 unfold flat1 rg1
 cases agg
 ·obtain ⟨c,rfl,hcm⟩:=hm
  simp only [Bool.false_or,beq_iff_eq] at hc
  match l,hc,h with
  | [ck],_,h =>
   simp only [Bool.false_eq_true,if_false]
   exact takeR_flat (vs:=[v]) hh hsq hnp hb h ⟨hcm,trivial⟩
 ·obtain ⟨us,rfl,hcm⟩:=hm
  simp only [if_true]
  exact takeR_flat hh hsq hnp hb h hcm
theorem takeTup_flat {β:Beta} {w:World} {hp:Hp} (hh:heapMt β ρ hp w) (hsq:SqOk β w) {ps:List Rg} {ng np:Nat} (hnp:ps.length = np) (hb:∀ (k:Nat) (r:Rg),ps[k]? = some r -> β (ng + k) = some r):∀ {l:List (Bool × List CK)} {ss:List S} {aS:List A} {bs:List B} {vs:List Value},
  takeTup ng np hp l ss = some (aS,bs) -> mtAll β ρ ss vs -> flatTup w ps l vs = some (aS.map (A.d ρ),bs.map (B.d ρ)) /\ Lies β (rgTup w l vs)
 | [],[],aS,bs,vs,h,hm=>by
  simp only [takeTup,Option.some.injEq,Prod.mk.injEq] at h
  obtain ⟨rfl,rfl⟩:=h
  cases vs with
  | nil=>exact ⟨rfl,Lies.nil⟩
  | cons _ _=>exact hm.elim
 | p :: l,.one agg cs :: ss,aS,bs,vs,h,hm=>by
  cases vs with
  | nil=>exact hm.elim
  | cons v vs =>
   obtain ⟨h1,h2⟩:=hm
   unfold takeTup at h
   split at h
   ·rename_i a b as' bs' ht hr
    split at h
    ·rename_i hc
     simp only [Bool.and_eq_true,beq_iff_eq] at hc
     obtain ⟨rfl,hc⟩:=hc
     simp only [Option.some.injEq,Prod.mk.injEq] at h
     obtain ⟨rfl,rfl⟩:=h
     obtain ⟨i1,i2⟩:=take1_flat hh hsq hnp hb ht hc h1
     obtain ⟨j1,j2⟩:=takeTup_flat hh hsq hnp hb hr h2
     refine ⟨?_,i2.append j2⟩
     unfold flatTup
     rw [i1,j1]
     simp
    ·cases h
   ·cases h
 | [],_ :: _,_,_,_,h,_=>by simp [takeTup] at h
 | _ :: _,[],_,_,_,h,_=>by simp [takeTup] at h
 | _ :: _,.tup _ :: _,_,_,_,h,_=>by simp [takeTup] at h
 | _ :: _,.any :: _,_,_,_,h,_=>by simp [takeTup] at h
def takeRes (ng np:Nat) (hp:Hp) (s:Sum) (ss:List S):Option (List A × List B) :=
 if s.tup then (if ss.length == 1 then none else takeTup ng np hp s.res ss)
 else if s.res.length == 1 && ss.length == 1 then takeTup ng np hp s.res ss else none
theorem flatTup_one {w:World} {ps:List Rg} {p:Bool × List CK} {v:Value}:flatTup w ps [p] [v] = flat1 w ps p.1 p.2 v:=by
 unfold flatTup
 cases h:flat1 w ps p.1 p.2 v with
 | none=>simp
 | some f=>simp [flatTup]
theorem takeRes_flat {β:Beta} {w:World} {hp:Hp} (hh:heapMt β ρ hp w) (hsq:SqOk β w) {ps:List Rg} {ng np:Nat} (hnp:ps.length = np) (hb:∀ (k:Nat) (r:Rg),ps[k]? = some r -> β (ng + k) = some r) {s:Sum} {ss:List S} {aS:List A} {bs:List B} {vs:List Value}
  (h:takeRes ng np hp s ss = some (aS,bs)) (hm:mtAll β ρ ss vs):flatRes w ps s (tupV vs) = some (aS.map (A.d ρ),bs.map (B.d ρ)) /\ Lies β (resRgs w s (tupV vs)):=by
 have hlen:ss.length = vs.length:=by
  clear h
  induction ss generalizing vs with
  | nil=>cases vs with | nil=>rfl | cons _ _=>exact hm.elim
  | cons _ ss ih=>cases vs with | nil=>exact hm.elim | cons _ vs=>simp [ih hm.2]
 unfold takeRes at h
 unfold flatRes resRgs
 split at h
 ·rename_i ht
  rw [if_pos ht,if_pos ht]
  split at h
  ·cases h
  ·rename_i hl
   simp only [beq_iff_eq] at hl
   have:=takeTup_flat hh hsq hnp hb h hm
   match vs,hlen,this with
   | [],_,this=>simpa [tupV] using this
   | [v],hlen,_=>simp at hlen; omega
   | v :: u :: vs,_,this=>simpa [tupV] using this
 ·rename_i ht
  rw [if_neg ht,if_neg ht]
  split at h
  ·rename_i hl
   simp only [Bool.and_eq_true,beq_iff_eq] at hl
   have:=takeTup_flat hh hsq hnp hb h hm
   match vs,hlen,this with
   | [v],_,this =>
    match hr:s.res,hl.1 with
    | [p],_ =>
     rw [hr] at this
     rw [flatTup_one] at this
     exact ⟨this.1,by have:=this.2; simpa [rgTup,tupV] using this⟩
   | [],hlen,_=>have:=hl.2; rw [hlen] at this; simp at this
   | _ :: _ :: _,hlen,_=>have:=hl.2; rw [hlen] at this; simp at this
  ·cases h
def takePs (ng:Nat) (hp:Hl):List (List CK) -> Nat -> Option (List A × List B)
 | [],_=>some ([],[])
 | l :: ls,j=>match hpOf hp (ng + j) with
  | some b=>if b.g.isEmpty then match takeC [] (hpOf hp) l b.cells,takePs ng hp ls (j + 1) with
   | some (a,bb),some (aS,bs)=>some (a ++ aS,bb ++ bs)
   | _,_=>none
   else none
  | none=>none
theorem takePs_flat {β:Beta} {w:World} {ng:Nat} {hp:Hl} (hh:heapMt β ρ (hpOf hp) w) (hsq:SqOk β w):∀ {ls:List (List CK)} {ps:List Rg} {j:Nat} {aS:List A} {bs:List B},takePs ng hp ls j = some (aS,bs) -> lensOk ls ps ->
  (∀ (k:Nat) (r:Rg),ps[k]? = some r -> r.row = false /\ β (ng + j + k) = some r) -> flatPs w ls ps = some (aS.map (A.d ρ),bs.map (B.d ρ))
 | [],[],j,aS,bs,h,_,_=>by
  simp only [takePs,Option.some.injEq,Prod.mk.injEq] at h
  obtain ⟨rfl,rfl⟩:=h
  rfl
 | l :: ls,r :: ps,j,aS,bs,h,⟨hl,hls⟩,hb=>by
  unfold takePs at h
  split at h
  ·rename_i b hbk
   split at h
   ·rename_i hg
    rw [List.isEmpty_iff] at hg
    split at h
    ·rename_i a bb as' bs' h1 h2
     simp only [Option.some.injEq,Prod.mk.injEq] at h
     obtain ⟨rfl,rfl⟩:=h
     obtain ⟨hrow,hb0⟩:=hb 0 r (by simp)
     simp only [Nat.add_zero] at hb0
     have hmb:=hh _ b hbk (by rw [hg]; rfl)
     have hv:vecOf b.cells = none:=by
      cases hv:vecOf b.cells with
      | none=>rfl
      | some y =>
       obtain ⟨_,q,_,_,hq,hq2,_⟩:=(blkMt_row hv).1 hmb
       rw [hb0] at hq
       cases hq
       rw [hrow] at hq2
       cases hq2
     obtain ⟨q,hq,_,hql,_,hc,_⟩:=(blkMt_cs hv).1 hmb
     rw [hb0] at hq
     cases hq
     obtain ⟨us,hul,hum,hu⟩:=cellsAt_values hc
     have hrd:readCells w r.blk r.off l.length = some us:=by
      rw [<- hl,hql,<- hul]; exact readCells_mk hu
     unfold flatPs
     rw [hrd]
     simp only [Option.bind_some]
     rw [(takeC_flat (Γ:=[]) rfl hh hsq h1 hum).1,takePs_flat hh hsq h2 hls fun k q hk=>by have:=hb (k + 1) q (by simpa using hk); rwa [show ng + (j + 1) + k = ng + j + (k + 1) by omega]]
     simp
    ·cases h
   ·cases h
  ·cases h
 | [],_ :: _,_,_,_,_,h,_=>h.elim
 | _ :: _,[],_,_,_,_,h,_=>h.elim

def endSt (keep:Kp) (O:Outs):M St :=
 match getK .n O,getK .r O with
 | some (_,s),none=>if (dropK .n O).isEmpty then pure s else M.fail
 | none,some (_,s)=>if (dropK .r O).isEmpty then pure s else M.fail
 | some (q,s),some (_,t)=>if (dropK .r (dropK .n O)).isEmpty then do
   let a <- gAtom q
   M.mono (joinSt keep a s t)
  else M.fail
 | none,none=>M.fail
theorem dropK_empty {k K:Kd} {O:Outs} {q:Gd} {s:St} (h:(dropK k O).isEmpty = true) (hK:getK K O = some (q,s)):k = K:=by
 cases he:k.eq K with
 | true=>exact Kd.eq_sound he
 | false =>
  have:=dropK_get (k:=k) (l:=K) O
  rw [List.isEmpty_iff] at h
  rw [h,he] at this
  simp [getK,hK] at this
theorem endSt_ok {keep:Kp} (hx:GrOk x keep) {O:Outs} {u:St} {c c':Ctr} {out:List Em} (h:endSt keep O c = some (u,c',out)) (hg:Good Φ ρ out) {β:Beta} {K:Kd} {a:Act} {w:World} (hO:OutMt x ρ β c O K a w):(K = .n \/ K = .r) /\ ∃ β',Ext β β' /\ Rel x ρ β' u a w /\ Fresh β' c':=by
 obtain ⟨h1,q',s',β',hK,hE,hR,hF⟩:=hO
 unfold endSt at h
 cases hn:getK .n O with
 | none=>cases hr:getK .r O with
  | none=>rw [hn,hr] at h; simp [M.fail] at h
  | some p =>
   obtain ⟨q,s⟩:=p
   rw [hn,hr] at h
   simp only at h
   split at h
   ·rename_i he
    have hp:=M.pure_inv h
    simp only [Prod.mk.injEq] at hp
    obtain ⟨rfl,rfl,rfl⟩:=hp
    have:=dropK_empty he hK
    subst this
    rw [hr] at hK
    simp only [Option.some.injEq,Prod.mk.injEq] at hK
    obtain ⟨rfl,rfl⟩:=hK
    exact ⟨.inr rfl,β',hE,hR,hF⟩
   ·simp [M.fail] at h
 | some p =>
  obtain ⟨q,s⟩:=p
  cases hr:getK .r O with
  | none =>
   rw [hn,hr] at h
   simp only at h
   split at h
   ·rename_i he
    have hp:=M.pure_inv h
    simp only [Prod.mk.injEq] at hp
    obtain ⟨rfl,rfl,rfl⟩:=hp
    have:=dropK_empty he hK
    subst this
    rw [hn] at hK
    simp only [Option.some.injEq,Prod.mk.injEq] at hK
    obtain ⟨rfl,rfl⟩:=hK
    exact ⟨.inl rfl,β',hE,hR,hF⟩
   ·simp [M.fail] at h
  | some p =>
   obtain ⟨qr,t⟩:=p
   rw [hn,hr] at h
   simp only at h
   split at h
   ·rename_i he
    obtain ⟨g,c1,o1,c2,o2,y,g1,g2,hee⟩:=M.bind_inv h
    simp only [Prod.mk.injEq] at hee
    obtain ⟨rfl,rfl,rfl⟩:=hee
    rw [Good.append] at hg
    have hgd:=gAtom_snd q _ _ _ _ g1 hg.1
    have hid:=gAtom_id g1
    obtain ⟨hle,hj⟩:=joinSt_ok (Φ:=Φ) (x:=x) (ρ:=ρ) hx g2 hg.2
    have hqn:=h1 _ _ _ hn
    have hF1:Fresh β' c1:=hF.le (by omega)
    by_cases hKn:K = .n
    ·subst hKn
     rw [hn] at hK
     simp only [Option.some.injEq,Prod.mk.injEq] at hK
     obtain ⟨rfl,rfl⟩:=hK
     obtain ⟨β2,f1,f2,f3⟩:=hj β' a w (by rw [hgd,hqn.2 rfl]; simpa using hR) hF1
     exact ⟨.inl rfl,β2,hE.trans f1,f2,f3⟩
    ·have hf:Gd.d ρ q = false:=by
      cases hd:Gd.d ρ q with
      | false=>rfl
      | true=>exact absurd (hqn.1 hd).symm hKn
     have hK2:getK K (dropK .n O) = some (q',s'):=by
      rw [dropK_get,if_neg (fun h=>hKn (Kd.eq_sound h).symm)]; exact hK
     have:=dropK_empty he hK2
     subst this
     rw [hr] at hK
     simp only [Option.some.injEq,Prod.mk.injEq] at hK
     obtain ⟨rfl,rfl⟩:=hK
     obtain ⟨β2,f1,f2,f3⟩:=hj β' a w (by rw [hgd,hf]; simpa using hR) hF1
     exact ⟨.inr rfl,β2,hE.trans f1,f2,f3⟩
   ·simp [M.fail] at h
end

def ckNe:CK -> Bool
 | .sl ks=>!ks.isEmpty
 | _=>true
def shOk (s:Sum):Bool:=((ptrShapes s.args).all fun l=>!l.isEmpty && noSl l) && s.res.all fun p=>p.2.all ckNe
theorem shOk_ne {s:Sum} (h:shOk s = true):((ptrShapes s.args).all fun l=>!l.isEmpty) = true:=by
 unfold shOk at h
 simp only [Bool.and_eq_true,List.all_eq_true] at h ⊢
 exact fun l hl=>(h.1 l hl).1
theorem shOk_no {s:Sum} (h:shOk s = true):∀ l,l ∈ ptrShapes s.args -> nSl l = 0:=by
 unfold shOk at h
 simp only [Bool.and_eq_true,List.all_eq_true,noSl,beq_iff_eq] at h
 exact fun l hl=>(h.1 l hl).2
theorem flatSl_pos {w:World} {ks:List CK} {v:Value} {l:List Int} {n:Int} {r:Rg} (h:flatSl w ks v = some (l,n,some r)) (hk:ks.isEmpty = false):r.len ≠ 0:=by
 unfold flatSl at h
 split at h
 ·split at h
  ·cases h
  split at h
  ·simp only [Option.some.injEq,Prod.mk.injEq] at h
   cases h.2.2
  ·rename_i h0
   simp only [beq_iff_eq] at h0
   split at h
   ·split at h
    ·split at h
     ·simp only [Option.some.injEq,Prod.mk.injEq] at h
      obtain ⟨_,_,rfl⟩:=h
      have:0 < ks.length:=List.length_pos_iff.2 (fun e=>by rw [e] at hk; cases hk)
      have:=Nat.mul_pos (Nat.pos_of_ne_zero h0) this
      simp only
      omega
     ·cases h
    ·cases h
   ·cases h
 ·cases h
theorem rgC_pos {w:World} {r:Rg}:∀ {l:List CK} {vs:List Value},l.all ckNe = true -> r ∈ rgC w l vs -> r.len ≠ 0
 | [],_,_,h=>by simp [rgC] at h
 | ck :: l,[],_,h=>by cases ck <;> simp [rgC] at h
 | ck :: l,v :: vs,hc,h=>by
  simp only [List.all_cons,Bool.and_eq_true] at hc
  cases ck with
  | sl ks =>
   simp only [rgC,List.mem_append] at h
   rcases h with h | h
   ·split at h
    ·rename_i l' n r' hf
     simp only [List.mem_singleton] at h
     subst h
     exact flatSl_pos hf (by simpa [ckNe] using hc.1)
    ·cases h
   ·exact rgC_pos hc.2 h
  | _=>exact rgC_pos (vs:=vs) hc.2 (by simpa only [rgC] using h)
theorem rg1_pos {w:World} {r:Rg} {agg:Bool} {l:List CK} {v:Value} (hc:l.all ckNe = true) (h:r ∈ rg1 w agg l v):r.len ≠ 0:=by
 unfold rg1 at h
 split at h
 ·split at h
  ·exact rgC_pos hc h
  ·cases h
 ·exact rgC_pos hc h
theorem rgTup_pos {w:World} {r:Rg}:∀ {l:List (Bool × List CK)} {vs:List Value},(l.all fun p=>p.2.all ckNe) = true -> r ∈ rgTup w l vs -> r.len ≠ 0
 | p :: l,v :: vs,hc,h=>by
  simp only [List.all_cons,Bool.and_eq_true] at hc
  simp only [rgTup,List.mem_append] at h
  exact h.elim (rg1_pos hc.1) (rgTup_pos hc.2)
 | [],_,_,h=>by simp [rgTup] at h
 | _ :: _,[],_,h=>by simp [rgTup] at h
theorem resRgs_pos {w:World} {r:Rg} {s:Sum} {v:Value} (hs:shOk s = true) (h:r ∈ resRgs w s v):r.len ≠ 0:=by
 unfold shOk at hs
 simp only [Bool.and_eq_true] at hs
 have hs:=hs.2
 unfold resRgs at h
 split at h
 ·split at h
  ·exact rgTup_pos hs h
  ·cases h
 ·split at h
  ·rename_i p hp
   rw [hp] at hs
   simp only [List.all_cons,List.all_nil,Bool.and_true] at hs
   exact rg1_pos hs h
  ·cases h
theorem flatArgs_mem {w:World} {s:Sum} {vs:List Value} {is:List Int} {bs:List Bool} {ps:List Rg} (h:flatArgs s.args vs w = some (is,bs,ps)) (hne:shOk s = true):∀ r,r ∈ ps -> (r.ro = false /\ r.sq = none /\ r.row = false) /\ ∃ v,w.cell? ⟨r.blk,r.off,none⟩ = some v :=
 flatArgs_mem' h (shOk_ne hne)

def fnM (P:Program) (X:Hnd) (gl:Gl) (k:Ctl) (fn:Func) (s:Sum):M (List A × List B):=do
 let body <- lift fn.body
 let O <- exec P X (ghOf gl 0) gl.length k body { tm:=initTm gl.length s.args 0 0 0 ++ List.replicate (fn.ntmps - s.args.length) anySV,hp:=initHp gl.length s.args 0 0 0 }
 let σ <- endSt k.keep O
 let xs <- rAll P (ghOf gl 0) gl.length σ fn.results.toList
 let r <- lift (takeRes gl.length (ptrShapes s.args).length (hpOf σ.hp) s xs)
 let p <- lift (takePs gl.length σ.hp (ptrShapes s.args) 0)
 pure (r.1 ++ p.1,r.2 ++ p.2)
def fnX (P:Program) (X:Hnd) (gl:Gl) (k:Ctl) (fn:Func) (s:Sum):Option Smry :=
 match fnM P X gl k fn s { i:=argI s.args,b:=argB s.args,id:=gl.length + (ptrShapes s.args).length + argS s.args } with
 | some (r,_,out)=>some { em:=out,ri:=r.1,rb:=r.2 }
 | none=>none

def st0 (gl:Gl) (fn:Func) (s:Sum):St:={ tm:=initTm gl.length s.args 0 0 0 ++ List.replicate (fn.ntmps - s.args.length) anySV,hp:=initHp gl.length s.args 0 0 0 }
def ctr0 (gl:Gl) (s:Sum):Ctr:={ i:=argI s.args,b:=argB s.args,id:=gl.length + (ptrShapes s.args).length + argS s.args }
def EAll (P:Program) (Φ:Funs) (gl:Gl) (k:Ctl):Prop:=∀ x:Cx,x.gl = gl -> x.rl = none -> x.lr = none -> x.ds = [] -> GrOk x k.keep -> (∀ w,Keep x.R x.w0 w -> Laid gl w) -> EOk P Φ x k.E
theorem EAll.nil {P:Program} {Φ:Funs} {gl:Gl} {k:Ctl} (h:k.E = {}):EAll P Φ gl k:=fun _ _ _ _ _ _ _=>EOk.nil h
def fnCx (gl:Gl) (s:Sum) (vs:List Value) (w:World) (ps:List Rg):Cx :=
 { w0:=w,R:=ps,gl:=gl,gr:=ps,Q:=fun r=>∃ q,(q ∈ argRgs s.args vs w \/ ∃ (g:Nat) (us:List Value),gl[g]? = some us /\ q = gRg g us) /\ r.within q,b0:=beta0 gl ps (argRgs s.args vs w),gi:=fun j=>gl.length + j }
theorem Rg.within_refl (r:Rg):r.within r:=⟨rfl,Nat.le_refl _,Nat.le_refl _⟩
theorem run_gen {P:Program} {Φ:Funs} {X:Hnd} {gl:Gl} (hX:HOk P Φ gl X) {f:Nat} {fn:Func} (hf:P.funcs[f]? = some fn) {k:Ctl} (hK:LoopsOk Φ k) (hEA:EAll P Φ gl k) {s:Sum} {body:Code} (hbody:fn.body = some body) (hne:shOk s = true)
  {vs:List Value} {w:World} {is:List Int} {bs:List Bool} {ps:List Rg} (hL:Laid gl w) (hfl:flatArgs s.args vs w = some (is,bs,ps)) (hap:apartL ps) (hfz:frzL ps w) (hag:∀ q,q ∈ ps -> ∀ (g:Nat) (vs:List Value),gl[g]? = some vs -> q.apart (gRg g vs)) (hsl:∀ q,q ∈ ps -> ∀ r,r ∈ argRgs s.args vs w -> q.apart r)
  {ρ:Env} (hi:∀ n,n < argI s.args -> ρ.i (0 + n) = is.getD n 0) (hbb:∀ n,n < argB s.args -> ρ.b (0 + n) = bs.getD n false) {O:Outs} {c3:Ctr} {o3:List Em} (g3:exec P X (ghOf gl 0) gl.length k body (st0 gl fn s) (ctr0 gl s) = some (O,c3,o3)) (hg3:Good Φ ρ o3)
  {σ:St} {c5:Ctr} {o5:List Em} (g5:endSt k.keep O c3 = some (σ,c5,o5)) (hg5:Good Φ ρ o5) {xs:List S} {c7:Ctr} {o7:List Em} (g7:rAll P (ghOf gl 0) gl.length σ fn.results.toList c5 = some (xs,c7,o7)) (hg7:Good Φ ρ o7) :
  Calls P f vs.toArray w fun e w'=>∃ us β' a',e = .returned (tupV us) /\ mtAll β' ρ xs us /\ Rel (fnCx gl s vs w ps) ρ β' σ a' w':=by
 have hlen:=flatArgs_len hfl
 let x:Cx:=fnCx gl s vs w ps
 have hx:GrOk x k.keep:=fun _ q hq=>List.mem_iff_getElem?.1 hq
 obtain ⟨sl,hsle⟩:∃ sl,sl = argRgs s.args vs w:=⟨_,rfl⟩
 have hslm:∀ {k:Nat} {r:Rg},sl[k]? = some r -> r.ro = true /\ r.row = false /\ (r.len = 0 \/ r.blk < w.heap.size) /\ ∀ ks l,r.sq = some (ks,l) -> l.length = r.len /\ seqAt w r.blk r.off ks l:=fun {k r} hk=>by
  obtain ⟨g1,g2,ks,q,g3,g4,g5⟩:=argRgs_sq (hsle ▸ List.mem_of_getElem? hk)
  refine ⟨g1,g2,?_,fun ks' l' he=>?_⟩
  ·cases q with
   | nil=>exact .inl (by simpa using g4.symm)
   | cons n q =>
    obtain ⟨_,v,_,hv,_⟩:=g5 0 n rfl
    exact .inr (World.block_lt_of_cell? w ⟨r.blk,r.off + 0,none⟩ hv)
  ·rw [g3] at he
   cases he
   exact ⟨g4,g5⟩
 have hbps:∀ (k:Nat) (r:Rg),ps[k]? = some r -> beta0 gl ps sl (gl.length + k) = some r:=fun k r hk=>beta0_ps hk
 have hpsm:=flatArgs_mem hfl hne
 obtain ⟨i1,i2,i3⟩:=init_ok (ρ:=ρ) (β:=beta0 gl ps sl) gl.length (i:=0) (b:=0) (j:=0) hfl hfz hi hbb (fun k r hk=>by rw [Nat.add_zero]; exact hbps k r hk) (shOk_no hne) (fun r hr=>beta0_sl (hsle ▸ hr))
 have hglsq:∀ (g:Nat) (vs:List Value),(gRg g vs).sq = none:=fun _ _=>rfl
 have hbo:BetaOk w.heap.size ps x.Q (beta0 gl ps sl) w:=by
  refine ⟨fun i j r q hij hi hj=>?_,fun i r hi=>?_,fun i r hi=>?_,fun i r ks l hi hs=>?_,fun i r hi hro=>?_,fun r q hq hw=>?_,fun i r hi hrow=>?_⟩
  ·rcases beta0_inv hi with ⟨us,h1,rfl⟩ | ⟨h0,h1⟩ | ⟨h0,h1⟩
   ·rcases beta0_inv hj with ⟨us',h2,rfl⟩ | ⟨h0',h2⟩ | ⟨h0',h2⟩
    ·exact .inl ⟨rfl,rfl⟩
    ·exact .inr (Rg.apart_symm (hag q (List.mem_of_getElem? h2) i us h1))
    ·exact .inl ⟨rfl,(hslm h2).1⟩
   ·rcases beta0_inv hj with ⟨us',h2,rfl⟩ | ⟨h0',h2⟩ | ⟨h0',h2⟩
    ·exact .inr (hag r (List.mem_of_getElem? h1) j us' h2)
    ·rcases Nat.lt_or_ge i j with h | h
     ·exact .inr (apartL_get hap (by omega) h1 h2)
     ·exact .inr (Rg.apart_symm (apartL_get hap (by omega) h2 h1))
    ·exact .inr (hsl r (List.mem_of_getElem? h1) q (hsle ▸ List.mem_of_getElem? h2))
   ·rcases beta0_inv hj with ⟨us',h2,rfl⟩ | ⟨h0',h2⟩ | ⟨h0',h2⟩
    ·exact .inl ⟨(hslm h1).1,rfl⟩
    ·exact .inr (Rg.apart_symm (hsl q (List.mem_of_getElem? h2) r (hsle ▸ List.mem_of_getElem? h1)))
    ·exact .inl ⟨(hslm h1).1,(hslm h2).1⟩
  ·rcases beta0_inv hi with ⟨us,h1,rfl⟩ | ⟨h0,h1⟩ | ⟨h0,h1⟩
   ·exact .inr (hL i _ h1).1
   ·obtain ⟨_,v,hv⟩:=hpsm r (List.mem_of_getElem? h1)
    exact .inr (World.block_lt_of_cell? w _ hv)
   ·exact (hslm h1).2.2.1
  ·rcases beta0_inv hi with ⟨us,h1,rfl⟩ | ⟨h0,h1⟩ | ⟨h0,h1⟩
   ·exact .inl rfl
   ·exact .inr (.inr ⟨r,List.mem_of_getElem? h1,rfl,Nat.le_refl _,Nat.le_refl _⟩)
   ·exact .inl (hslm h1).1
  ·rcases beta0_inv hi with ⟨us,h1,rfl⟩ | ⟨h0,h1⟩ | ⟨h0,h1⟩
   ·cases hs
   ·rw [(hpsm r (List.mem_of_getElem? h1)).1.2.1] at hs
    cases hs
   ·exact ⟨(hslm h1).1,(hslm h1).2.1,(hslm h1).2.2.2 ks l hs⟩
  ·rcases beta0_inv hi with ⟨us,h1,rfl⟩ | ⟨h0,h1⟩ | ⟨h0,h1⟩
   ·exact .inr ⟨_,.inr ⟨i,us,h1,rfl⟩,Rg.within_refl _⟩
   ·rw [(hpsm r (List.mem_of_getElem? h1)).1.1] at hro
    cases hro
   ·exact .inr ⟨r,.inl (hsle ▸ List.mem_of_getElem? h1),Rg.within_refl _⟩
  ·obtain ⟨p,hp,hpw⟩:=hq
   exact ⟨p,hp,Rg.within_trans hw hpw⟩
  ·exfalso
   rcases beta0_inv hi with ⟨us,h1,rfl⟩ | ⟨h0,h1⟩ | ⟨h0,h1⟩
   ·cases hrow
   ·rw [(hpsm r (List.mem_of_getElem? h1)).1.2.2] at hrow
    cases hrow
   ·rw [(hslm h1).2.1] at hrow
    cases hrow
 have hgm:heapMt (beta0 gl ps sl) ρ (hpOf (ghOf gl 0)) w:=by
  intro id b hb _
  obtain ⟨us,hus,_,rfl⟩:=ghOf_get hb
  rw [Nat.sub_zero] at hus
  refine blkMt_mk ⟨_,beta0_gl hus,rfl,by simp [gRg],rfl,?_,fun h=>by cases h⟩
  rw [cellsAt_iff]
  intro j c hj
  rw [List.getElem?_map] at hj
  cases hu:us[j]? with
  | none=>rw [hu] at hj; simp at hj
  | some u =>
   rw [hu] at hj
   simp only [Option.map_some,Option.some.injEq] at hj
   subst hj
   have hl:=(hL id us hus).2 j u hu
   exact ⟨u,by simpa [gRg] using hl.1,ofC_mt hl.2⟩
 have hvl:vs.length = s.args.length:=hlen.2.2.2
 have hrel:Rel x ρ (beta0 gl ps sl) (st0 gl fn s) { tmps:=vs.toArray ++ Array.replicate (fn.ntmps - vs.toArray.size) undef,defers:=[] } w:=by
  refine ⟨?_,fun t v ht=>?_,Lk.nil rfl rfl _,i3,hgm,fun id b hb=>?_,hbo,Keep.refl _ _,fun g vs hg=>beta0_gl hg,fun j r hr=>⟨(hpsm r (List.mem_of_getElem? hr)).1.2.2,hbps j r hr⟩,hsle ▸ ExtP.refl _ _⟩
  ·simp [st0,i2,hvl]
  ·simp only [st0] at ht ⊢
   rcases Nat.lt_or_ge t (initTm gl.length s.args 0 0 0).length with h | h
   ·rw [List.getElem?_append_left h] at ht
    have:=i1 t v ht
    have hlt:t < vs.length:=by omega
    rw [List.getD_eq_getElem?_getD,List.getElem?_eq_getElem hlt] at this
    simpa [Array.getElem?_append,hlt] using this
   ·rw [List.getElem?_append_right h,List.getElem?_replicate] at ht
    split at ht
    ·simp only [Option.some.injEq] at ht
     subst ht
     exact anySV_mt _
    ·cases ht
  ·obtain ⟨us,_,_,rfl⟩:=ghOf_get hb
   rfl
 have hfresh:Fresh (beta0 gl ps sl) (ctr0 gl s):=by
  intro i hi
  simp only [ctr0] at hi
  cases hb:beta0 gl ps sl i with
  | none=>rfl
  | some r =>
   have hsll:sl.length <= argS s.args:=by rw [hsle]; exact argRgs_len
   rcases beta0_inv hb with ⟨us,h1,rfl⟩ | ⟨h0,h1⟩ | ⟨h0,h1⟩
   ·have:=(List.getElem?_eq_some_iff.1 h1).1; omega
   ·have:=(List.getElem?_eq_some_iff.1 h1).1; omega
   ·have:=(List.getElem?_eq_some_iff.1 h1).1; omega
 have hG:∀ w',Keep ps w w' -> Laid gl w':=by
  intro w' hk g us hg
  obtain ⟨h1,h2⟩:=hL g us hg
  refine ⟨by have:=hk.size; omega,fun j v hj=>?_⟩
  obtain ⟨h3,h4⟩:=h2 j v hj
  refine ⟨(hk.cell _ h1 fun r hr hin=>?_).trans h3,h4⟩
  have:=hag r hr g us hg
  have hlt:=(List.getElem?_eq_some_iff.1 hj).1
  unfold inRg at hin
  unfold Rg.apart gRg at this
  simp only at hin this
  omega
 have hrun:=exec_ok (x:=x) hX hG k hx hK (hEA x rfl rfl rfl rfl hx hG) body ρ _ _ _ O o3 g3 hg3 (beta0 gl ps sl) _ w hrel hfresh
  (bodyPostM Fence.wide 0 P fn fun e w'=>∃ us β' a',e = .returned (tupV us) /\ mtAll β' ρ xs us /\ Rel x ρ β' σ a' w') fun e a' w' K hk hO=>?_
 ·exact callsIn_wide.1 (callsIn_of_wp_marks hf hbody trivial hrun rfl)
 ·obtain ⟨hKK,β',hE,hR,_⟩:=endSt_ok hx g5 hg5 hO
  have hfin:LeavesInM Fence.wide 0 P fn a'.tmps (fun e w'=>∃ us β' a',e = .returned (tupV us) /\ mtAll β' ρ xs us /\ Rel x ρ β' σ a' w') a'.defers .returning w' :=
   leaves_ok rfl rfl a'.defers hR.noDf hR.df.ma fun w2 hR2=>by
    obtain ⟨us,hus,hum⟩:=rAll_snd (P:=P) (x:=x) σ fn.results.toList _ _ _ _ g7 hg7 β' _ w2 hR2
    exact ⟨_,results_run hus,us,β',_,rfl,hum,hR2⟩
  rcases hKK with rfl | rfl
  ·rw [kdOf_n hk]
   exact hfin
  ·cases e <;> simp only [kdOf,Option.some.injEq] at hk <;> (try (cases hk; done))
   exact hfin

theorem contract_gen {P:Program} {Φ:Funs} {X:Hnd} {gl:Gl} (hX:HOk P Φ gl X) {f:Nat} {fn:Func} (hf:P.funcs[f]? = some fn) {k:Ctl} (hK:LoopsOk Φ k) (hEA:EAll P Φ gl k) {s:Sum} {S:Smry} (h:fnX P X gl k fn s = some S)
  (hw:wsEm S.em (argI s.args) (argB s.args) = true) (hne:shOk s = true)
  (hob:∀ (vs:List Value) (w:World) (is:List Int) (bs:List Bool) (ps:List Rg),flatArgs s.args vs w = some (is,bs,ps) -> (s.pre = true -> (S.run Φ s.pre is bs).2.headD false = true) ->
   obAll (envOf (evEm Φ S.em is bs).1 (evEm Φ S.em is bs).2) S.em = true):Contract P gl f s (S.run Φ s.pre):=by
 intro vs w is bs ps hL hfl hap hfz hag hsl hpre
 have hlen:=flatArgs_len hfl
 have hlens:=flatArgs_lens hfl
 have ho:=hob vs w is bs ps hfl hpre
 have hw':wsEm S.em is.length bs.length = true:=by rw [hlen.1,hlen.2.1]; exact hw
 have hgood:=good_of hw' ho
 have hagree:=(evEm_spec Φ S.em is bs hw').1
 unfold fnX at h
 split at h
 ·rename_i r c' out hm
  simp only [Option.some.injEq] at h
  subst h
  simp only at hgood hagree ho hw' ⊢
  generalize hρ:envOf (evEm Φ out is bs).1 (evEm Φ out is bs).2 = ρ at hgood hagree ho
  unfold fnM at hm
  obtain ⟨body,c1,o1,c2,o2,y,g1,g2,he⟩:=M.bind_inv hm
  simp only [Prod.mk.injEq] at he
  obtain ⟨rfl,rfl,rfl⟩:=he
  obtain ⟨body',hbody,he⟩:=lift_inv g1
  simp only [Prod.mk.injEq] at he
  obtain ⟨rfl,rfl,rfl⟩:=he
  obtain ⟨O,c3,o3,c4,o4,y,g3,g4,he⟩:=M.bind_inv g2
  simp only [Prod.mk.injEq] at he
  obtain ⟨rfl,rfl,rfl⟩:=he
  obtain ⟨σ,c5,o5,c6,o6,y,g5,g6,he⟩:=M.bind_inv g4
  simp only [Prod.mk.injEq] at he
  obtain ⟨rfl,rfl,rfl⟩:=he
  obtain ⟨xs,c7,o7,c8,o8,y,g7,g8,he⟩:=M.bind_inv g6
  simp only [Prod.mk.injEq] at he
  obtain ⟨rfl,rfl,rfl⟩:=he
  obtain ⟨rr,c9,o9,c10,o10,y,g9,g10,he⟩:=M.bind_inv g8
  simp only [Prod.mk.injEq] at he
  obtain ⟨rfl,rfl,rfl⟩:=he
  obtain ⟨rr',hrr,he⟩:=lift_inv g9
  simp only [Prod.mk.injEq] at he
  obtain ⟨rfl,rfl,rfl⟩:=he
  obtain ⟨pp,c11,o11,c12,o12,y,g11,g12,he⟩:=M.bind_inv g10
  simp only [Prod.mk.injEq] at he
  obtain ⟨rfl,rfl,rfl⟩:=he
  obtain ⟨pp',hpp,he⟩:=lift_inv g11
  simp only [Prod.mk.injEq] at he
  obtain ⟨rfl,rfl,rfl⟩:=he
  have he:=M.pure_inv g12
  simp only [Prod.mk.injEq] at he
  obtain ⟨rfl,rfl,rfl⟩:=he
  simp only [Good.append] at hgood
  obtain ⟨_,hg3,hg5,hg7,_⟩:=hgood
  have hi:∀ n,n < argI s.args -> ρ.i (0 + n) = is.getD n 0:=fun n hn=>by rw [Nat.zero_add]; exact hagree.1 n (by omega)
  have hbb:∀ n,n < argB s.args -> ρ.b (0 + n) = bs.getD n false:=fun n hn=>by rw [Nat.zero_add]; exact hagree.2 n (by omega)
  refine Calls.mono (run_gen hX hf hK hEA hbody hne hL hfl hap hfz hag hsl hi hbb g3 hg3 g5 hg5 g7 hg7) fun e w' he=>?_
  obtain ⟨us,β',a',rfl,hum,hR⟩:=he
  have hra:∀ (k:Nat) (r:Rg),ps[k]? = some r -> r.row = false /\ β' (gl.length + k) = some r:=hR.ra
  obtain ⟨hfr,hlies⟩:=takeRes_flat hR.hm hR.bo.sq hlen.2.2.1 (fun k r hk=>(hra k r hk).2) hrr hum
  have hfp:=takePs_flat hR.hm hR.bo.sq hpp hlens (fun k r hk=>by rw [Nat.add_zero]; exact hra k r hk)
  refine ⟨_,rfl,hR.kp,⟨_,_,hfr,hfp,?_,?_⟩,fun r' hr'=>?_⟩
  ·simp only [Smry.run,hρ,List.map_append]
  ·simp only [Smry.run,hρ,List.map_append]
   cases s.pre <;> simp
  ·obtain ⟨i,r0,hi0,hw0,h0⟩:=hlies r' hr'
   have hpos:=resRgs_pos hne hr'
   rcases h0 with h0 | h0
   ·rcases hR.bo.rom i r0 hi0 h0 with h1 | h1
    ·exact .inl (by rw [hw0.1]; exact h1)
    ·exact .inr (hR.bo.qs r' r0 h1 hw0)
   ·have hro:=hR.bo.rw i r0 hi0 h0
    rcases hR.bo.may i r0 hi0 with h1 | h1
    ·rw [hro] at h1; cases h1
    ·rcases h1 with h1 | ⟨p,hp,h1,h2,h3⟩
     ·exact .inl (by rw [hw0.1]; exact h1)
     ·exfalso
      obtain ⟨k',hk'⟩:=List.mem_iff_getElem?.1 hp
      obtain ⟨e1,e2⟩:=hra k' p hk'
      have hne2:i ≠ gl.length + k':=fun e=>by rw [<- e,hi0] at e2; cases e2; rw [h0] at e1; cases e1
      have:=hR.bo.apartW hne2 hi0 e2 hro
      unfold Rg.apart at this
      unfold Rg.within at hw0
      omega
 ·cases h

theorem callable_of {P:Program} {f:Nat} {fn:Func} (hf:P.funcs[f]? = some fn) (hn:(fn.name == "runtime.NumGoroutine") = false) (hb:fn.body.isNone = false):∀ args w,(callFunc f args).run P w = .ok (.enter f args) w:=by
 intro args w
 unfold callFunc
 simp only [Sem.run_bind,run_program,Result.andThen_ok,hf,hn,hb,Bool.false_eq_true,if_false,Sem.run_pure]

def noOb (l:List Em):Bool:=l.all fun | .ob _ _=>false | _=>true
theorem noOb_all {ρ:Env} {l:List Em} (h:noOb l = true):obAll ρ l = true:=by
 unfold obAll noOb at *
 rw [List.all_eq_true] at *
 intro e he
 have:=h e he
 cases e <;> simp_all
theorem contract_of {P:Program} {Φ:Funs} {X:Hnd} {gl:Gl} (hX:HOk P Φ gl X) {f:Nat} {fn:Func} (hf:P.funcs[f]? = some fn) {k:Ctl} (hK:LoopsOk Φ k) {s:Sum} {S:Smry} (h:fnX P X gl k fn s = some S)
  (hw:(wsEm S.em (argI s.args) (argB s.args) && shOk s && noOb S.em) = true) (hE:k.E = {}:=by rfl):Contract P gl f s (S.run Φ s.pre):=by
 simp only [Bool.and_eq_true] at hw
 exact contract_gen hX hf hK (EAll.nil hE) h hw.1.1 hw.1.2 fun _ _ _ _ _ _ _=>noOb_all hw.2
theorem contract_pre {P:Program} {Φ:Funs} {X:Hnd} {gl:Gl} (hX:HOk P Φ gl X) {f:Nat} {fn:Func} (hf:P.funcs[f]? = some fn) {k:Ctl} (hK:LoopsOk Φ k) {s:Sum} {S:Smry} (h:fnX P X gl k fn s = some S)
  (hw:(wsEm S.em (argI s.args) (argB s.args) && shOk s && s.pre) = true) (hE:k.E = {}:=by rfl):Contract P gl f s (S.run Φ s.pre):=by
 simp only [Bool.and_eq_true] at hw
 refine contract_gen hX hf hK (EAll.nil hE) h hw.1.1 hw.1.2 fun vs w is bs ps _ hp=>?_
 have:=hp hw.2
 simpa [Smry.run,hw.2] using this
end Go.Proofs.YtfgbfdlacnihkaaGreatDoor.Sx
