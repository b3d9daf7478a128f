/-
  Merged texts (SxF, SxG, SxH, SxHr, SxHs, SxHt, SxHu, SxHv). No condition.
-/
import Derived.Laws.Append
import Derived.Laws.MakeOwn
import Derived.Laws.BytesArg
import Derived.Test.YtfgbfdlacnihkaaGreatDoorPz1
set_option linter.unusedVariables false
set_option linter.unusedSimpArgs false
namespace Go.Proofs.YtfgbfdlacnihkaaGreatDoor.Sx
open Go

def xPart2 (P:Program) (t:TypeId) (l:List C) (off:Nat):Option (Bool × List C) :=
 match tyN P t with
 | some (agg,n)=>if Nat.ble (off + n) l.length then some (agg,(l.drop off).take n) else none
 | none=>none
theorem xPart2_spec {P:Program} {t:TypeId} {l:List C} {off:Nat} {p:Bool × List C} (h:xPart2 P t l off = some p):xPart P t l off = some (.one p.1 p.2):=by
 unfold xPart2 at h
 unfold xPart
 split at h
 ·rename_i ht
  split at h
  ·simp only [Option.some.injEq] at h; subst h; rename_i hle; first | (rw [ht]; simp only []; rw [if_pos hle]) | rw [if_pos hle]
  ·cases h
 ·cases h

theorem encS_beq (s t:ByteArray):(encS s == encS t) = (s.toList == t.toList):=by
 rw [Bool.eq_iff_iff,beq_iff_eq,beq_iff_eq]
 constructor
 ·intro h; rw [encS_inj h]
 ·intro h
  have:s = t:=by
   have h2:s.data.toList = t.data.toList:=by simpa [ByteArray.toList_eq] using h
   cases s; cases t; congr 1; exact Array.toList_inj.1 h2
  rw [this]
def isFuncT (P:Program) (t:TypeId):Bool:=match P.underlying t with | some (.func _ _ _)=>true | _=>false
abbrev EqF:=TypeId -> Bool × List C -> Bool × List C -> M B
def eqFs (P:Program) (go:EqF) (xs ys:List C):List Field -> M B
 | []=>pure (.c true)
 | f :: fs=>if f.name == "_" then M.fail else do
  let a <- lift (xPart2 P f.type xs f.offset)
  let b <- lift (xPart2 P f.type ys f.offset)
  let r <- go f.type a b
  let s <- eqFs P go xs ys fs
  mkAnd r s
def eqAs (P:Program) (go:EqF) (e:TypeId) (s:Nat) (xs ys:List C):Nat -> Nat -> M B
 | _,0=>pure (.c true)
 | i,n + 1=>do
  let a <- lift (xPart2 P e xs (i * s))
  let b <- lift (xPart2 P e ys (i * s))
  let r <- go e a b
  let q <- eqAs P go e s xs ys (i + 1) n
  mkAnd r q
def eqX (P:Program):Nat -> EqF
 | 0=>fun _ _ _=>M.fail
 | d + 1=>fun t x y =>
  match P.underlying t with
  | some .bool=>match x,y with
   | (false,[.bool a]),(false,[.bool b])=>mkEqb a b
   | _,_=>M.fail
  | some (.int _)=>match x,y with
   | (false,[.int k a]),(false,[.int l b])=>if k == l then mkCm .eql a b else M.fail
   | _,_=>M.fail
  | some .string=>match x,y with
   | (false,[c]),(false,[d])=>match asStr c,asStr d with
    | some p,some q=>mkCm .eql p q
    | _,_=>M.fail
   | _,_=>M.fail
  | some (.struct fs)=>match x,y with
   | (true,xs),(true,ys)=>if P.stoodInHeld t then M.fail else eqFs P (eqX P d) xs ys fs.toList
   | _,_=>M.fail
  | some (.array n e)=>match x,y,tyN P e with
   | (true,xs),(true,ys),some (_,s)=>eqAs P (eqX P d) e s xs ys 0 n
   | _,_,_=>M.fail
  | _=>M.fail

def eqElems (d:Nat) (e:TypeId) (s:Nat) (xs ys:Array Value):Nat -> Nat -> Sem Bool
 | _,0=>pure true
 | i,n + 1=>do
  let a <- part e xs (i * s)
  let b <- part e ys (i * s)
  let r <- Op.equalIn d e a b
  if (!r) = true then pure false else eqElems d e s xs ys (i + 1) n
theorem run_equalIn_array {P:Program} (d:Nat) (t e:TypeId) (n s:Nat) (xs ys:Array Value) (ht:P.underlying t = some (.array n e)) (w:World) (hs:(sizeOf e).run P w = .ok s w) :
  (Op.equalIn (d + 1) t (.agg xs) (.agg ys)).run P w = (eqElems d e s xs ys 0 n).run P w:=by
 simp only [Op.equalIn,Sem.run_bind,run_underlying ht,Result.andThen_ok,hs]
 simp only [Std.Legacy.Range.forIn_eq_forIn_range',Std.Legacy.Range.size,Nat.sub_zero,Nat.add_one_sub_one,Nat.div_one]
 clear ht hs
 generalize 0 = i
 induction n generalizing i w with
 | zero=>simp [eqElems]
 | succ n ih =>
  simp only [List.range'_succ,List.forIn_cons,eqElems,Sem.run_bind,Sem.run_ite]
  generalize (part e xs (i * s)).run P w = r1
  cases r1 with
  | ok a w1 =>
   simp only [Result.andThen_ok]
   generalize (part e ys (i * s)).run P w1 = r2
   cases r2 with
   | ok b w2 =>
    simp only [Result.andThen_ok]
    generalize (Op.equalIn d e a b).run P w2 = r3
    cases r3 with
    | ok r w3 =>
     cases r
     ·simp only [Result.andThen_ok,Bool.not_false,if_true,Sem.run_pure]
     ·simp only [Result.andThen_ok,Bool.not_true,Bool.false_eq_true,if_false,Sem.run_pure]
      exact ih w3 (i + 1)
    | halt x w3=>simp [Result.andThen]
   | halt x w2=>simp [Result.andThen]
  | halt x w1=>simp [Result.andThen]

section ops
variable {P:Program} {Φ:Funs} {Γ:Gd} {hp:Hp} {rv:Operand -> SV} {dst:Option Tmp} {ty:TypeId} {pos:String} {after:Array Edge} {guard:Option (Nat × Bool)} {ρ:Env}

def EqOk (P:Program) (ρ:Env) (d:Nat) (t:TypeId) (x y:Bool × List C) (b:B):Prop :=
 ∀ (e:Nat) (β:Beta) (v u:Value) (w:World),mt1 β ρ x.1 x.2 v -> mt1 β ρ y.1 y.2 u -> (Op.equalIn (d + e) t v u).run P w = .ok (b.d ρ) w

theorem eqFs_snd {go:EqF} {d:Nat} (hgo:∀ t x y,Snd Φ ρ (go t x y) (EqOk P ρ d t x y)) (xs ys:List C):∀ fs:List Field,
  Snd Φ ρ (eqFs P go xs ys fs) (fun b=>∀ (e:Nat) (β:Beta) (vs us:List Value) (w:World),mtL β ρ xs vs -> mtL β ρ ys us -> (Op.eqFields (d + e) vs.toArray us.toArray fs).run P w = .ok (b.d ρ) w)
 | []=>Snd.pure fun e β vs us w _ _=>rfl
 | f :: fs=>by
  unfold eqFs
  split
  ·exact Snd.fail
  ·rename_i hn
   simp only [beq_iff_eq] at hn
   refine Snd.bind (lift_snd _) fun a ha=>Snd.bind (lift_snd _) fun b hb=>Snd.bind (hgo _ _ _) fun r hr=>Snd.bind (eqFs_snd hgo xs ys fs) fun s hs=>(mkAnd_snd r s).mono fun z hz=>?_
   intro e β vs us w hx hy
   obtain ⟨v,hv,hvm⟩:=run_part (xPart2_spec ha) hx w
   obtain ⟨u,hu,hum⟩:=run_part (xPart2_spec hb) hy w
   have h1:=hr e β v u w hvm hum
   have h2:=hs e β vs us w hx hy
   unfold Op.eqFields
   rw [if_pos hn]
   simp only [Sem.run_bind,hv,Result.andThen_ok,hu,h1,Sem.run_ite,Sem.run_pure,h2,hz]
   cases r.d ρ <;> simp
theorem eqAs_snd {go:EqF} {d:Nat} (hgo:∀ t x y,Snd Φ ρ (go t x y) (EqOk P ρ d t x y)) (el:TypeId) (sz:Nat) (xs ys:List C):∀ (n i:Nat),
  Snd Φ ρ (eqAs P go el sz xs ys i n) (fun b=>∀ (e:Nat) (β:Beta) (vs us:List Value) (w:World),mtL β ρ xs vs -> mtL β ρ ys us -> (eqElems (d + e) el sz vs.toArray us.toArray i n).run P w = .ok (b.d ρ) w)
 | 0,i=>Snd.pure fun e β vs us w _ _=>rfl
 | n + 1,i=>by
  unfold eqAs
  refine Snd.bind (lift_snd _) fun a ha=>Snd.bind (lift_snd _) fun b hb=>Snd.bind (hgo _ _ _) fun r hr=>Snd.bind (eqAs_snd hgo el sz xs ys n (i + 1)) fun s hs=>(mkAnd_snd r s).mono fun z hz=>?_
  intro e β vs us w hx hy
  obtain ⟨v,hv,hvm⟩:=run_part (xPart2_spec ha) hx w
  obtain ⟨u,hu,hum⟩:=run_part (xPart2_spec hb) hy w
  have h1:=hr e β v u w hvm hum
  have h2:=hs e β vs us w hx hy
  unfold eqElems
  simp only [Sem.run_bind,hv,Result.andThen_ok,hu,h1,Sem.run_ite,Sem.run_pure,h2,hz]
  cases r.d ρ <;> simp
theorem eqX_snd:∀ (d:Nat) (t:TypeId) (x y:Bool × List C),Snd Φ ρ (eqX P d t x y) (EqOk P ρ d t x y)
 | 0,_,_,_=>Snd.fail
 | d + 1,t,x,y=>by
  unfold eqX
  split
  ·rename_i hu
   split
   ·rename_i a b
    refine (mkEqb_snd a b).mono fun z hz e β v u w hv hw=>?_
    rw [mt_bool rfl hv,mt_bool rfl hw,show d + 1 + e = (d + e) + 1 by omega,run_equalIn_bool' w _ t _ _ hu,hz]
   ·exact Snd.fail
  ·rename_i k hu
   split
   ·rename_i k1 a k2 b
    split
    ·rename_i hk
     simp only [beq_iff_eq] at hk
     subst hk
     refine (mkCm_snd _ a b).mono fun z hz e β v u w hv hw=>?_
     rw [(mt_int rfl hv).1,(mt_int rfl hw).1,show d + 1 + e = (d + e) + 1 by omega,run_equalIn_int w _ t _ k _ _ hu,hz]
     rfl
    ·exact Snd.fail
   ·exact Snd.fail
  ·rename_i hu
   split
   ·rename_i c1 c2
    split
    ·rename_i p q hp hq
     refine (mkCm_snd _ p q).mono fun z hz e β v u w hv hw=>?_
     obtain ⟨s1,rfl,e1,_⟩:=asStr_mt hp (mt_cell (s:=.one false [c1]) rfl hv)
     obtain ⟨s2,rfl,e2,_⟩:=asStr_mt hq (mt_cell (s:=.one false [c2]) rfl hw)
     rw [show d + 1 + e = (d + e) + 1 by omega,run_equalIn_string w _ t _ _ hu,hz]
     show _ = Result.ok (p.d ρ == q.d ρ) w
     rw [e1,e2,encS_beq]
    ·exact Snd.fail
   ·exact Snd.fail
  ·rename_i fs hu
   split
   ·rename_i xs ys
    split
    ·exact Snd.fail
    ·rename_i hst
     refine (eqFs_snd (eqX_snd d) xs ys fs.toList).mono fun z hz e β v u w hv hw=>?_
     obtain ⟨vs,rfl,hv⟩:=hv
     obtain ⟨us,rfl,hw⟩:=hw
     have hf:P.fieldsOf t = fs:=by simp [Program.fieldsOf,hu]
     rw [show d + 1 + e = (d + e) + 1 by omega,run_equalIn_struct w _ t _ _ (by rw [hf]; exact hu) (by simpa using hst),hf]
     exact hz e β _ _ w hv hw
   ·exact Snd.fail
  ·rename_i n el hu
   split
   ·rename_i xs ys agg s ht
    refine (eqAs_snd (eqX_snd d) el s xs ys n 0).mono fun z hz e β v u w hv hw=>?_
    obtain ⟨vs,rfl,hv⟩:=hv
    obtain ⟨us,rfl,hw⟩:=hw
    rw [show d + 1 + e = (d + e) + 1 by omega,run_equalIn_array _ t el n s _ _ hu w (tyN_isAgg ht w).2.1]
    exact hz e β _ _ w hv hw
   ·exact Snd.fail
  ·exact Snd.fail

def nilF (d:FV):List (B × FV) -> M B
 | []=>pure (.c d.isNone)
 | (b,f) :: l=>do
  let r <- nilF d l
  mkIteB b (.c f.isNone) r
theorem nilF_snd (d:FV):∀ l:List (B × FV),Snd Φ ρ (nilF d l) (fun z=>z.d ρ = (pickF ρ l d).isNone)
 | []=>Snd.pure rfl
 | (b,f) :: l=>by
  unfold nilF
  refine Snd.bind (nilF_snd d l) fun r hr=>(mkIteB_snd _ _ _).mono fun z hz=>?_
  rw [hz,hr]
  simp only [pickF,B.d_c]
  split <;> rfl
theorem fvMt_nil {β:Beta} {f:FV} {v:Value} (h:fvMt β f v) {t:TypeId} (ht:isFuncT P t = true) (w:World):(Op.equal t v .nilFunc).run P w = .ok f.isNone w /\ (∀ op x y,eqGuard op t x y v .nilFunc = pure ()) /\
  (∀ w,(binOp .eql t v .nilFunc).run P w = (do pure (.bool (<- Op.equal t v .nilFunc)):Sem Value).run P w) /\ (∀ w,(binOp .neq t v .nilFunc).run P w = (do pure (.bool (!(<- Op.equal t v .nilFunc))):Sem Value).run P w):=by
 unfold isFuncT at ht
 split at ht
 ·rename_i a b c hu
  unfold fvMt at h
  split at h
  ·subst h
   refine ⟨?_,fun op x y=>by cases op <;> rfl,fun w=>rfl,fun w=>rfl⟩
   unfold Op.equal Op.maxDepth
   rw [show (10000:Nat) = 9999 + 1 from rfl,Op.equalIn]
   simp [underlying,hu]
  ·obtain ⟨vs,rfl,_⟩:=h
   obtain ⟨ff,ws,e⟩:=fvVal_fn _ vs
   rw [e]
   refine ⟨?_,fun op x y=>by cases op <;> rfl,fun w=>rfl,fun w=>rfl⟩
   unfold Op.equal Op.maxDepth
   rw [show (10000:Nat) = 9999 + 1 from rfl,Op.equalIn]
   simp [underlying,hu]
 ·cases ht
theorem encS_len (s:ByteArray):(dec (encS s)).length = s.size:=by
 unfold encS; rw [dec_enc]; unfold bytesI; rw [List.length_map,Array.length_toList]; rfl
def xBinA (P:Program) (op:BinOp) (t:TypeId) (x y:S):M S :=
 match x,y with
 | .one true xs,.one true ys =>
  if P.eqGuardType P.depth t then M.fail else do
  let e <- eqX P 20 t (true,xs) (true,ys)
  match op with
  | .eql=>pure (.one false [.bool e])
  | .neq=>do pure (.one false [.bool (<- mkNot e)])
  | _=>M.fail
 | .one false [c],.one false [d]=>match asStr c,asStr d with
  | some p,some q=>match op with
   | .eql=>do pure (.one false [.bool (<- mkCm .eql p q)])
   | .neq=>do pure (.one false [.bool (<- mkCm .neq p q)])
   | .add=>do
    let n <- mkLenq p 1
    let b1 <- mkCm .leq n (.c 4611686018427387903)
    oblige b1
    let m <- mkLenq q 1
    let b2 <- mkCm .leq m (.c 4611686018427387903)
    oblige b2
    let r <- mkCat p q
    pure (.one false [.str r])
   | _=>M.fail
  | _,_=>match asFn c,d with
   | some p,.val .nilFunc=>if isFuncT P t then match op with
     | .eql=>do pure (.one false [.bool (<- nilF p.2 p.1)])
     | .neq=>do pure (.one false [.bool (<- mkNot (<- nilF p.2 p.1))])
     | _=>M.fail
    else M.fail
   | _,_=>xBin P op t (.one false [c]) (.one false [d])
 | x,y=>xBin P op t x y
theorem pure_binA (hΓ:Gd.d ρ Γ = true) (op:BinOp) (t t':TypeId) (x y:Operand) :
  Snd Φ ρ (xBinA P op t (rs Γ (rv x)) (rs Γ (rv y))) (Pure P Γ hp rv ⟨dst,.binOp op t x y t',ty,pos,after,guard⟩ ρ):=by
 unfold xBinA
 split
 ·rename_i xs ys h1 h2
  split
  ·exact Snd.fail
  ·rename_i hg
   have hg':P.eqGuardType P.depth t = false:=by simpa using hg
   refine Snd.bind (eqX_snd 20 t _ _) fun b hb=>?_
   have key:∀ (β:Beta) (ac:Act) (w:World),(rv x).mt β ρ (ac.eval x) -> (rv y).mt β ρ (ac.eval y) -> ∃ vs us,ac.eval x = .agg vs /\ ac.eval y = .agg us /\ (Op.equalIn 10000 t (.agg vs) (.agg us)).run P w = .ok (b.d ρ) w:=by
    intro β ac w hx hy
    have mx:=rs_mt hΓ hx
    have my:=rs_mt hΓ hy
    rw [h1] at mx
    rw [h2] at my
    obtain ⟨vs,hv,hvl⟩:=mx
    obtain ⟨us,hu,hul⟩:=my
    exact ⟨vs,us,hv,hu,hb 9980 β _ _ w ⟨vs,rfl,hvl⟩ ⟨us,rfl,hul⟩⟩
   split
   ·refine Snd.pure fun β ac w hx hh hq=>?_
    obtain ⟨vs,us,hv,hu,he⟩:=key β ac w (hx x (by simp [Op.operands])) (hx y (by simp [Op.operands]))
    exact ⟨_,by simp only [execOp,Sem.run_bind,hv,hu,run_eqGuard_agg w _ t x y vs us hg',Result.andThen_ok,run_eql_struct,he,Sem.run_pure],S.mt_b⟩
   ·refine Snd.bind (mkNot_snd b) fun z hz=>Snd.pure fun β ac w hx hh hq=>?_
    obtain ⟨vs,us,hv,hu,he⟩:=key β ac w (hx x (by simp [Op.operands])) (hx y (by simp [Op.operands]))
    exact ⟨_,by simp only [execOp,Sem.run_bind,hv,hu,run_eqGuard_agg w _ t x y vs us hg',Result.andThen_ok,run_neq_struct,he,Sem.run_pure,<- hz],S.mt_b⟩
   ·exact Snd.fail
 ·rename_i c d h1 h2
  split
  ·rename_i p q hp hq
   have key:∀ (β:Beta) (ac:Act),(rv x).mt β ρ (ac.eval x) -> (rv y).mt β ρ (ac.eval y) -> ∃ s u:ByteArray,ac.eval x = .string s /\ ac.eval y = .string u /\ p.d ρ = encS s /\ q.d ρ = encS u:=by
    intro β ac hx hy
    obtain ⟨s,e1,e2,_⟩:=asStr_mt hp (mt_cell h1 (rs_mt hΓ hx))
    obtain ⟨u,e3,e4,_⟩:=asStr_mt hq (mt_cell h2 (rs_mt hΓ hy))
    exact ⟨s,u,e1,e3,e2,e4⟩
   split
   ·refine Snd.bind (mkCm_snd _ p q) fun z hz=>Snd.pure fun β ac w hx hh hq=>?_
    obtain ⟨s,u,e1,e2,e3,e4⟩:=key β ac (hx x (by simp [Op.operands])) (hx y (by simp [Op.operands]))
    refine ⟨.bool (z.d ρ),?_,S.mt_b⟩
    have hz':z.d ρ = (s.toList == u.toList):=by rw [hz,<- encS_beq,<- e3,<- e4]; rfl
    rw [hz']
    simp [execOp,e1,e2,eqGuard,binOp,Op.stringOp]
   ·refine Snd.bind (mkCm_snd _ p q) fun z hz=>Snd.pure fun β ac w hx hh hq=>?_
    obtain ⟨s,u,e1,e2,e3,e4⟩:=key β ac (hx x (by simp [Op.operands])) (hx y (by simp [Op.operands]))
    refine ⟨.bool (z.d ρ),?_,S.mt_b⟩
    have hz':z.d ρ = !(s.toList == u.toList):=by rw [hz,<- encS_beq,<- e3,<- e4]; rfl
    rw [hz']
    simp [execOp,e1,e2,eqGuard,binOp,Op.stringOp]
   ·refine Snd.bind (mkLenq_snd _ _) fun n hn=>Snd.bind (mkCm_snd _ _ _) fun b1 g1=>Snd.bind (oblige_snd b1) fun _ g2=>Snd.bind (mkLenq_snd _ _) fun m hm=>Snd.bind (mkCm_snd _ _ _) fun b2 g3=>Snd.bind (oblige_snd b2) fun _ g4 =>
     Snd.bind (mkCat_snd _ _) fun r hr=>Snd.pure fun β ac w hx hh hq=>?_
    obtain ⟨s,u,e1,e2,e3,e4⟩:=key β ac (hx x (by simp [Op.operands])) (hx y (by simp [Op.operands]))
    rw [g1] at g2
    rw [g3] at g4
    replace g2:n.d ρ <= 4611686018427387903:=of_decide_eq_true g2
    replace g4:m.d ρ <= 4611686018427387903:=of_decide_eq_true g4
    have hnd:n.d ρ = (s.size:Int):=by rw [hn]; simp only [RI.d,e3,encS_len,Nat.div_one]
    have hmd:m.d ρ = (u.size:Int):=by rw [hm]; simp only [RI.d,e4,encS_len,Nat.div_one]
    rw [hnd] at g2
    rw [hmd] at g4
    have hmax:IntKind.i64.max = 9223372036854775807:=rfl
    refine ⟨.string (s ++ u),?_,mt_of_cell ⟨_,rfl,?_,?_⟩⟩
    ·have:¬ ((s.size + u.size:Nat):Int) > IntKind.i64.max:=by rw [hmax]; omega
     have h':¬ IntKind.i64.max < (s.size:Int) + (u.size:Int):=by rw [hmax]; omega
     simp [execOp,e1,e2,eqGuard,binOp,Op.stringOp,hmax]
     omega
    ·show r.d ρ = _
     rw [hr,e3,e4]
     unfold encS
     rw [dec_enc,dec_enc]
     unfold bytesI
     rw [ByteArray.data_append,Array.toList_append,List.map_append]
    ·rw [ByteArray.size_append]
     exact ⟨by show (-9223372036854775808:Int) <= _; omega,by show _ <= (9223372036854775807:Int); omega⟩
   ·exact Snd.fail
  ·split
   ·rename_i p hp _
    split
    ·rename_i hft
     have key:∀ (β:Beta) (ac:Act),(rv x).mt β ρ (ac.eval x) -> (rv y).mt β ρ (ac.eval y) -> fvMt β (pickF ρ p.1 p.2) (ac.eval x) /\ ac.eval y = .nilFunc:=by
      intro β ac hx hy
      exact ⟨asFn_mt hp (mt_cell h1 (rs_mt hΓ hx)),(mt_cell h2 (rs_mt hΓ hy)).1⟩
     split
     ·refine Snd.bind (nilF_snd _ _) fun z hz=>Snd.pure fun β ac w hx hh hq=>?_
      obtain ⟨e1,e2⟩:=key β ac (hx x (by simp [Op.operands])) (hx y (by simp [Op.operands]))
      obtain ⟨g1,g2,g3,g4⟩:=fvMt_nil e1 hft w
      refine ⟨.bool (z.d ρ),?_,S.mt_b⟩
      simp only [execOp,Sem.run_bind,e2,g2,Sem.run_pure,Result.andThen_ok,g3,g1,hz]
     ·refine Snd.bind (nilF_snd _ _) fun z hz=>Snd.bind (mkNot_snd z) fun z' hz'=>Snd.pure fun β ac w hx hh hq=>?_
      obtain ⟨e1,e2⟩:=key β ac (hx x (by simp [Op.operands])) (hx y (by simp [Op.operands]))
      obtain ⟨g1,g2,g3,g4⟩:=fvMt_nil e1 hft w
      refine ⟨.bool (z'.d ρ),?_,S.mt_b⟩
      simp only [execOp,Sem.run_bind,e2,g2,Sem.run_pure,Result.andThen_ok,g4,g1,hz',hz]
     ·exact Snd.fail
    ·exact Snd.fail
   ·rw [<- h1,<- h2]
    exact pure_bin hΓ op t t' x y
 ·exact pure_bin hΓ op t t' x y

def xIdxC (c:C) (a:A) (s len:Nat):M C :=
 match a,c with
 | .c (.ofNat i),c=>if Nat.blt i len then lift (ptrAdd (i * s) c) else M.fail
 | .v n,.ptr [] id off=>do
  let b1 <- mkCm .geq (.v n) (.c 0)
  oblige b1
  let b2 <- mkCm .lss (.v n) (.c len)
  oblige b2
  pure (.pix id off s len (.v n) 0)
 | _,_=>M.fail
theorem xIdxC_snd (c:C) (a:A) (s len:Nat):Snd Φ ρ (xIdxC c a s len) (fun d=>0 <= a.d ρ /\ a.d ρ < len /\ ∀ β v,c.mt β ρ v -> ∃ b o,v = .pointer (some ⟨b,o,none⟩) /\ d.mt β ρ (.pointer (some ⟨b,o + (a.d ρ).toNat * s,none⟩))):=by
 unfold xIdxC
 split
 ·rename_i i
  split
  ·rename_i hlt
   simp only [Nat.blt_eq] at hlt
   refine (lift_snd _).mono fun d hd=>⟨by simp,by simp; omega,fun β v hv=>?_⟩
   obtain ⟨b,o,h1,h2⟩:=ptrAdd_mt hd hv
   exact ⟨b,o,h1,by simpa using h2⟩
  ·exact Snd.fail
 ·rename_i n id off
  refine Snd.bind (mkCm_snd _ _ _) fun b1 h1=>Snd.bind (oblige_snd b1) fun _ h2=>Snd.bind (mkCm_snd _ _ _) fun b2 h3=>Snd.bind (oblige_snd b2) fun _ h4=>Snd.pure ?_
  rw [h1] at h2
  rw [h3] at h4
  replace h2:0 <= (A.v n).d ρ:=of_decide_eq_true h2
  replace h4:(A.v n).d ρ < len:=of_decide_eq_true h4
  refine ⟨h2,h4,fun β v hv=>?_⟩
  obtain ⟨r,hr,hv⟩:=hv
  exact ⟨_,_,hv,h2,h4,r,hr,by simp only [pick]; congr 3; omega⟩
 ·exact Snd.fail

def xIndexAddr (P:Program) (Γ:Gd) (hp:Hp) (t:TypeId) (x ix:S):M S :=
 match P.underlying t,x,ix with
 | some (.array len e),.one false [c],.one false [.int _ a]=>do
  let (_,s) <- lift (tyN P e)
  pure (.one false [<- xIdxC c a s len])
 | some (.slice e),.one false [.sli id off len cap],.one false [.int _ a]=>do
  let (_,s) <- lift (tyN P e)
  pure (.one false [<- xIdxC (.ptr [] id off) a s len])
 | some (.slice e),.one false [.slx ks q len],.one false [.int _ a]=>do
  let (_,s) <- lift (tyN P e)
  if s == ks.length then do
   let b1 <- mkCm .geq a (.c 0)
   oblige b1
   let b2 <- mkCm .lss a len
   oblige b2
   pure (.one false [.pxq ks q a 0])
  else M.fail
 | some (.slice e),.one false [.slm id ks],.one false [.int _ a]=>do
  let (_,s) <- lift (tyN P e)
  let r <- lift (rowOf Γ hp id ks)
  if s == ks.length then do
   let b1 <- mkCm .geq a (.c 0)
   oblige b1
   let b2 <- mkCm .lss a r.2
   oblige b2
   pure (.one false [.pxm id ks a 0])
  else M.fail
 | _,_,_=>M.fail
theorem pure_indexAddr (hΓ:Gd.d ρ Γ = true) (t:TypeId) (x ix:Operand) :
  Snd Φ ρ (xIndexAddr P Γ hp t (rs Γ (rv x)) (rs Γ (rv ix))) (Pure P Γ hp rv ⟨dst,.indexAddr t x ix,ty,pos,after,guard⟩ ρ):=by
 unfold xIndexAddr
 split
 ·rename_i len e c k a hu h1 h2
  refine Snd.bind (lift_snd _) fun p ht=>?_
  obtain ⟨agg,s⟩:=p
  refine Snd.bind (xIdxC_snd _ _ _ _) fun d hd=>Snd.pure fun β ac w hx hh hq=>?_
  obtain ⟨g1,g2,g3⟩:=hd
  obtain ⟨b,o,hv,hm⟩:=g3 β _ (mt_cell h1 (rs_mt hΓ (hx x (by simp [Op.operands]))))
  have hi:=(mt_int h2 (rs_mt hΓ (hx ix (by simp [Op.operands])))).1
  refine ⟨_,?_,mt_of_cell hm⟩
  simp [execOp,Instr.indexAt,hi,asIntOf,underlying,hu,Instr.sureAddr,hv,g1,g2,(tyN_isAgg ht w).2.1,add_lit]
 ·rename_i e id off len cap k a hu h1 h2
  refine Snd.bind (lift_snd _) fun p ht=>?_
  obtain ⟨agg,s⟩:=p
  refine Snd.bind (xIdxC_snd _ _ _ _) fun d hd=>Snd.pure fun β ac w hx hh hq=>?_
  obtain ⟨g1,g2,g3⟩:=hd
  obtain ⟨r,hr,hs⟩:=mt_cell h1 (rs_mt hΓ (hx x (by simp [Op.operands])))
  obtain ⟨b,o,hv,hm⟩:=g3 β (.pointer (some ⟨r.blk,r.off + off,none⟩)) ⟨r,hr,rfl⟩
  simp only [Value.pointer.injEq,Option.some.injEq,Addr.mk.injEq,and_true] at hv
  obtain ⟨rfl,rfl⟩:=hv
  have hi:=(mt_int h2 (rs_mt hΓ (hx ix (by simp [Op.operands])))).1
  refine ⟨_,?_,mt_of_cell hm⟩
  simp [execOp,Instr.indexAt,hi,asIntOf,underlying,hu,hs,g1,g2,(tyN_isAgg ht w).2.1,add_lit]
 ·rename_i e ks q len k a hu h1 h2
  refine Snd.bind (lift_snd _) fun p ht=>?_
  obtain ⟨agg,s⟩:=p
  simp only
  split
  ·rename_i hs
   simp only [beq_iff_eq] at hs
   subst hs
   refine Snd.bind (mkCm_snd _ _ _) fun b1 e1=>Snd.bind (oblige_snd b1) fun _ e2=>Snd.bind (mkCm_snd _ _ _) fun b2 e3=>Snd.bind (oblige_snd b2) fun _ e4=>Snd.pure fun β ac w hx hh hq=>?_
   rw [e1] at e2
   rw [e3] at e4
   replace e2:0 <= a.d ρ:=of_decide_eq_true e2
   replace e4:a.d ρ < len.d ρ:=of_decide_eq_true e4
   obtain ⟨g1,g2,p,cap,hs,hcap,g3⟩:=mt_cell h1 (rs_mt hΓ (hx x (by simp [Op.operands])))
   have hi:=(mt_int h2 (rs_mt hΓ (hx ix (by simp [Op.operands])))).1
   rcases g3 with ⟨_,h0⟩ | ⟨i,r,o,l,hr,hsq,hqe,hl,rfl⟩
   ·omega
   ·have hlt:a.d ρ < ((len.d ρ).toNat:Int):=by omega
    refine ⟨.pointer (some ⟨r.blk,r.off + o + ((a.d ρ).toNat * ks.length + 0),none⟩),?_,mt_of_cell ⟨e2,i,r,o,l,hr,hsq,hqe,?_,rfl⟩⟩
    ·generalize (len.d ρ).toNat = n at hs hlt
     simp [execOp,Instr.indexAt,hi,asIntOf,underlying,hu,hs,e2,hlt,(tyN_isAgg ht w).2.1,add_lit]
    ·rw [hl]
     exact Nat.mul_le_mul_right _ (by omega)
  ·exact Snd.fail
 ·rename_i e id ks k a hu h1 h2
  refine Snd.bind (lift_snd _) fun p ht=>?_
  obtain ⟨agg,s⟩:=p
  refine Snd.bind (lift_snd _) fun rr hrr=>?_
  split
  ·rename_i hs
   simp only [beq_iff_eq] at hs
   subst hs
   refine Snd.bind (mkCm_snd _ _ _) fun b1 e1=>Snd.bind (oblige_snd b1) fun _ e2=>Snd.bind (mkCm_snd _ _ _) fun b2 e3=>Snd.bind (oblige_snd b2) fun _ e4=>Snd.pure fun β ac w hx hh hq=>?_
   rw [e1] at e2
   rw [e3] at e4
   replace e2:0 <= a.d ρ:=of_decide_eq_true e2
   replace e4:a.d ρ < rr.2.d ρ:=of_decide_eq_true e4
   obtain ⟨r,cap,p,hr,hrow,hlen,hcap,hs,hp0⟩:=mt_cell h1 (rs_mt hΓ (hx x (by simp [Op.operands])))
   obtain ⟨r',cap',l,hr',_,_,hk0,hlen',hcap',hqe,hne,_,hll,hsq,_⟩:=rowOf_spec hΓ (q:=rr.1) (n:=rr.2) hrr hh
   rw [hr] at hr'
   cases hr'
   have hi:=(mt_int h2 (rs_mt hΓ (hx ix (by simp [Op.operands])))).1
   have hlt:a.d ρ < (r.rn:Int):=by omega
   have hp:p = some ⟨r.blk,r.off,none⟩:=hp0.resolve_left (by omega)
   subst hp
   refine ⟨.pointer (some ⟨r.blk,r.off + ((a.d ρ).toNat * ks.length + 0),none⟩),?_,mt_of_cell ⟨e2,r,hr,hrow,by omega,rfl⟩⟩
   generalize hgn:r.rn = n at hs hlt
   simp [execOp,Instr.indexAt,hi,asIntOf,underlying,hu,hs,e2,hlt,(tyN_isAgg ht w).2.1,add_lit]
  ·exact Snd.fail
 ·exact Snd.fail

def chunksL (s n:Nat) (l:List C) (i:Nat):Nat -> Option (List (List C))
 | 0=>some []
 | len + 1=>if Nat.ble (i * s + n) l.length then match chunksL s n l (i + 1) len with
  | some xs=>some ((l.drop (i * s)).take n :: xs)
  | none=>none
  else none
theorem chunksL_spec {s n:Nat} {l:List C}:∀ {len k:Nat} {xs:List (List C)},chunksL s n l k len = some xs -> xs.length = len /\ ∀ i,i < len -> (k + i) * s + n <= l.length /\ xs[i]? = some ((l.drop ((k + i) * s)).take n)
 | 0,k,xs,h=>by simp [chunksL] at h; subst h; exact ⟨rfl,fun i hi=>by omega⟩
 | len + 1,k,xs,h=>by
  unfold chunksL at h
  split at h
  ·rename_i hle
   simp only [Nat.ble_eq] at hle
   split at h
   ·rename_i ys h2
    simp only [Option.some.injEq] at h
    subst h
    obtain ⟨g1,g2⟩:=chunksL_spec h2
    refine ⟨by simp [g1],fun i hi=>?_⟩
    cases i with
    | zero=>simpa using hle
    | succ i =>
     have:=g2 i (by omega)
     rwa [show k + 1 + i = k + (i + 1) by omega] at this
   ·cases h
  ·cases h

def selLit (a:A) (xs:List (List C)):M (List C) :=
 match allLit xs with
 | some (kd,ns)=>if ns.all (inR kd) then do pure [.int kd (<- newI (.tab ns a))] else M.fail
 | none=>selL a 0 xs
theorem selLit_snd (a:A) (xs:List (List C)):Snd Φ ρ (selLit a xs) (fun z=>∀ i:Nat,a.d ρ = i -> ∀ x,xs[i]? = some x -> ∀ β vs,mtL β ρ x vs -> mtL β ρ z vs):=by
 unfold selLit
 split
 ·rename_i kd ns hal
  split
  ·rename_i hall
   refine Snd.bind (newI_snd _) fun z hz=>Snd.pure fun i hi x hx β vs h=>?_
   have hxs2:=allLit_spec hal
   rw [hxs2,List.getElem?_map] at hx
   cases hn:ns[i]? with
   | none=>rw [hn] at hx; simp at hx
   | some m =>
    rw [hn] at hx
    simp at hx
    subst hx
    have hzd:z.d ρ = m:=by
     rw [hz]; simp only [RI.d,hi,Int.toNat_natCast]
     rw [List.getD_eq_getElem?_getD,hn]; rfl
    have hm:inR kd m = true:=(List.all_eq_true.1 hall) m (List.mem_of_getElem? hn)
    unfold inR at hm
    simp at hm
    cases vs with
    | nil=>exact h.elim
    | cons v vs =>
     refine ⟨?_,h.2⟩
     have h1:v = .int kd m /\ InR kd m:=h.1
     show v = .int kd (z.d ρ) /\ InR kd (z.d ρ)
     rw [hzd]
     exact h1
  ·exact Snd.fail
 ·refine (selL_snd a xs 0).mono fun z hz i hi x hx=>?_
  have hlt:i < xs.length:=(List.getElem?_eq_some_iff.1 hx).1
  exact (hz i hi (by omega) (by omega) x (by simpa using hx)).1

def xIndex (P:Program) (t:TypeId) (x ix:S):M S :=
 match P.underlying t,x,ix with
 | some (.array len e),.one true l,.one false [.int _ a]=>do
  let (agg,s) <- lift (tyN P e)
  match a with
  | .c (.ofNat i)=>if Nat.blt i len then lift (xPart P e l (i * s)) else M.fail
  | .c _=>M.fail
  | a=>do
   let b1 <- mkCm .geq a (.c 0)
   oblige b1
   let b2 <- mkCm .lss a (.c len)
   oblige b2
   let xs <- lift (chunksL s s l 0 len)
   let z <- selLit a xs
   if agg || z.length == 1 then pure (.one agg z) else M.fail
 | some .string,.one false [.val (.string str)],.one false [.int _ a] =>
  match a with
  | .c (.ofNat i)=>match str.data.toList[i]? with
   | some b=>pure (.one false [.int .u8 (.c b.toNat)])
   | none=>M.fail
  | .c _=>M.fail
  | a=>do
   let b1 <- mkCm .geq a (.c 0)
   oblige b1
   let b2 <- mkCm .lss a (.c str.data.toList.length)
   oblige b2
   pure (.one false [.int .u8 (<- newI (.tab (str.data.toList.map fun b=>(b.toNat:Int)) a))])
 | some .string,.one false [.str q],.one false [.int _ a]=>do
  let b1 <- mkCm .geq a (.c 0)
  oblige b1
  let n <- mkLenq q 1
  let b2 <- mkCm .lss a n
  oblige b2
  pure (.one false [.int .u8 (<- mkGet q a 1 0)])
 | _,_,_=>M.fail
theorem byte_inR (b:UInt8):InR .u8 (b.toNat:Int):=by
 have:=b.toNat_lt
 unfold InR IntKind.min IntKind.max
 simp [IntKind.signed,IntKind.bits]
 omega
theorem ba_get (s:ByteArray) (i:Nat):s[i]? = s.data.toList[i]?:=by
 rw [Array.getElem?_toList]
 rcases Nat.lt_or_ge i s.size with h | h
 ·rw [getElem?_pos s i h,getElem?_pos s.data i h]; rfl
 ·rw [getElem?_neg s i (by simpa using h),getElem?_neg s.data i (by simpa using h)]
theorem pure_index (hΓ:Gd.d ρ Γ = true) (t:TypeId) (x ix:Operand) :
  Snd Φ ρ (xIndex P t (rs Γ (rv x)) (rs Γ (rv ix))) (Pure P Γ hp rv ⟨dst,.index t x ix,ty,pos,after,guard⟩ ρ):=by
 unfold xIndex
 split
 ·rename_i len e l k a hu h1 h2
  refine Snd.bind (lift_snd _) fun p ht=>?_
  obtain ⟨agg,s⟩:=p
  simp only
  split
  ·rename_i i
   split
   ·rename_i hlt
    simp only [Nat.blt_eq] at hlt
    refine (lift_snd _).mono fun q hq β ac w hx hh hq2=>?_
    have hm:=rs_mt hΓ (hx x (by simp [Op.operands]))
    rw [h1] at hm
    obtain ⟨vs,hv,hl⟩:=hm
    obtain ⟨v,hr,hsm⟩:=run_part hq hl w
    have hi:=(mt_int h2 (rs_mt hΓ (hx ix (by simp [Op.operands])))).1
    refine ⟨v,?_,hsm⟩
    simp only [A.d_c] at hi
    simp [execOp,Instr.index,hi,asIntOf,underlying,hu,hv,(tyN_isAgg ht w).2.1,hlt,hr]
   ·exact Snd.fail
  ·exact Snd.fail
  ·refine Snd.bind (mkCm_snd _ _ _) fun b1 g1=>Snd.bind (oblige_snd b1) fun _ g2=>Snd.bind (mkCm_snd _ _ _) fun b2 g3=>Snd.bind (oblige_snd b2) fun _ g4=>Snd.bind (lift_snd _) fun xs hxs=>Snd.bind (selLit_snd a xs) fun z hz=>?_
   rw [g1] at g2
   rw [g3] at g4
   replace g2:0 <= a.d ρ:=of_decide_eq_true g2
   replace g4:a.d ρ < len:=of_decide_eq_true g4
   obtain ⟨i,hi⟩:=Int.eq_ofNat_of_zero_le g2
   obtain ⟨c1,c2⟩:=chunksL_spec hxs
   obtain ⟨c3,c4⟩:=c2 i (by omega)
   simp only [Nat.zero_add] at c3 c4
   split
   ·rename_i hagg
    refine Snd.pure fun β ac w hx hh hq=>?_
    have hm:=rs_mt hΓ (hx x (by simp [Op.operands]))
    rw [h1] at hm
    obtain ⟨vs,hv,hl⟩:=hm
    have hq:xPart P e l (i * s) = some (.one agg ((l.drop (i * s)).take s)):=by
     unfold xPart; rw [ht]; simp only []; rw [if_pos (by simpa using c3)]
    obtain ⟨v,hr,hsm⟩:=run_part hq hl w
    have hie:=(mt_int h2 (rs_mt hΓ (hx ix (by simp [Op.operands])))).1
    refine ⟨v,?_,?_⟩
    ·rw [hi] at hie
     have hlt2:i < len:=by omega
     simp [execOp,Instr.index,hie,asIntOf,underlying,hu,hv,(tyN_isAgg ht w).2.1,hlt2,hr]
    ·unfold S.mt mt1 at hsm ⊢
     cases agg
     ·simp only [Bool.false_eq_true,if_false] at hsm ⊢
      obtain ⟨c,hc,hcm⟩:=hsm
      have:=hz i hi _ c4 β [v] (by rw [hc]; exact ⟨hcm,trivial⟩)
      match z,this with
      | [d],⟨h,_⟩=>exact ⟨d,rfl,h⟩
     ·simp only [if_true] at hsm ⊢
      obtain ⟨us,hus,hul⟩:=hsm
      exact ⟨us,hus,hz i hi _ c4 β _ hul⟩
   ·exact Snd.fail
 ·rename_i str k a hu h1 h2
  split
  ·rename_i i
   split
   ·rename_i b hb
    refine Snd.pure fun β ac w hx hh hq=>?_
    have hv:=(mt_cell h1 (rs_mt hΓ (hx x (by simp [Op.operands])))).1
    have hi:=(mt_int h2 (rs_mt hΓ (hx ix (by simp [Op.operands])))).1
    simp only [A.d_c] at hi
    refine ⟨.int .u8 b.toNat,?_,mt_of_cell ⟨rfl,byte_inR b⟩⟩
    have hb':str.data[i]? = some b:=by rw [<- Array.getElem?_toList]; exact hb
    simp [execOp,Instr.index,hi,asIntOf,underlying,hu,hv,ba_get,hb']
   ·exact Snd.fail
  ·exact Snd.fail
  ·refine Snd.bind (mkCm_snd _ _ _) fun b1 g1=>Snd.bind (oblige_snd b1) fun _ g2=>Snd.bind (mkCm_snd _ _ _) fun b2 g3=>Snd.bind (oblige_snd b2) fun _ g4=>Snd.bind (newI_snd _) fun z hz=>Snd.pure fun β ac w hx hh hq=>?_
   rw [g1] at g2
   rw [g3] at g4
   replace g2:0 <= a.d ρ:=of_decide_eq_true g2
   replace g4:a.d ρ < str.data.toList.length:=of_decide_eq_true g4
   obtain ⟨i,hi⟩:=Int.eq_ofNat_of_zero_le g2
   have hv:=(mt_cell h1 (rs_mt hΓ (hx x (by simp [Op.operands])))).1
   have hie:=(mt_int h2 (rs_mt hΓ (hx ix (by simp [Op.operands])))).1
   rw [hi] at hie
   have hlt:i < str.data.toList.length:=by omega
   have hb:str.data.toList[i]? = some str.data.toList[i]:=List.getElem?_eq_getElem hlt
   have hzd:z.d ρ = (str.data.toList[i].toNat:Int):=by
    rw [hz]; simp only [RI.d,hi,Int.toNat_natCast]
    rw [List.getD_eq_getElem?_getD,List.getElem?_map,hb]; rfl
   refine ⟨.int .u8 (z.d ρ),?_,mt_of_cell ⟨rfl,by rw [hzd]; exact byte_inR _⟩⟩
   rw [hzd]
   have hb':str.data[i]? = some str.data.toList[i]:=by rw [<- Array.getElem?_toList]; exact hb
   generalize str.data.toList[i] = b at *
   simp [execOp,Instr.index,hie,asIntOf,underlying,hu,hv,ba_get,hb']
 ·rename_i q k a hu h1 h2
  refine Snd.bind (mkCm_snd _ _ _) fun b1 g1=>Snd.bind (oblige_snd b1) fun _ g2=>Snd.bind (mkLenq_snd _ _) fun n hn=>Snd.bind (mkCm_snd _ _ _) fun b2 g3=>Snd.bind (oblige_snd b2) fun _ g4=>Snd.bind (mkGet_snd _ _ _ _) fun z hz=>Snd.pure fun β ac w hx hh hq=>?_
  rw [g1] at g2
  rw [g3] at g4
  replace g2:0 <= a.d ρ:=of_decide_eq_true g2
  replace g4:a.d ρ < n.d ρ:=of_decide_eq_true g4
  obtain ⟨i,hi⟩:=Int.eq_ofNat_of_zero_le g2
  obtain ⟨str,hv,hqe,_⟩:=mt_cell h1 (rs_mt hΓ (hx x (by simp [Op.operands])))
  have hie:=(mt_int h2 (rs_mt hΓ (hx ix (by simp [Op.operands])))).1
  rw [hi] at hie
  have hlt:i < str.data.toList.length:=by
   rw [hn] at g4
   simp only [RI.d,hqe,encS_len,Nat.div_one] at g4
   rw [Array.length_toList]
   show i < str.size
   omega
  have hb:str.data.toList[i]? = some str.data.toList[i]:=List.getElem?_eq_getElem hlt
  have hzd:z.d ρ = (str.data.toList[i].toNat:Int):=by
   rw [hz]
   simp only [RI.d,hi,Int.toNat_natCast,hqe,encS,dec_enc,bytesI,Nat.mul_one,Nat.add_zero]
   rw [List.getD_eq_getElem?_getD,List.getElem?_map,hb]; rfl
  refine ⟨.int .u8 (z.d ρ),?_,mt_of_cell ⟨rfl,by rw [hzd]; exact byte_inR _⟩⟩
  rw [hzd]
  have hb':str.data[i]? = some str.data.toList[i]:=by rw [<- Array.getElem?_toList]; exact hb
  generalize str.data.toList[i] = b at *
  simp [execOp,Instr.index,hie,asIntOf,underlying,hu,hv,ba_get,hb']
 ·exact Snd.fail

def allInts:List S -> Option (IntKind × List A)
 | [.one false [.int k a]]=>some (k,[a])
 | .one false [.int k a] :: r=>match allInts r with
  | some (l,aS)=>if k == l then some (k,a :: aS) else none
  | none=>none
 | _=>none
def foldA (f:A -> A -> M A):A -> List A -> M A
 | a,[]=>pure a
 | a,b :: r=>do
  let c <- f a b
  foldA f c r
def xMinMax (mx:Bool) (xs:List S):M S :=
 match allInts xs with
 | some (k,a :: r)=>do pure (.one false [.int k (<- foldA (if mx then mkMx else mkMn) a r)])
 | _=>M.fail
end ops
end Go.Proofs.YtfgbfdlacnihkaaGreatDoor.Sx
namespace Go.Proofs.YtfgbfdlacnihkaaGreatDoor.Sx
open Go

section ops
variable {P:Program} {Φ:Funs} {Γ:Gd} {hp:Hp} {rv:Operand -> SV} {dst:Option Tmp} {ty:TypeId} {pos:String} {after:Array Edge} {guard:Option (Nat × Bool)} {ρ:Env}

theorem allInts_vals {β:Beta} {ev:Operand -> Value} {f:Operand -> S}:∀ {l:List Operand} {k:IntKind} {aS:List A},allInts (l.map f) = some (k,aS) -> (∀ x,x ∈ l -> (f x).mt β ρ (ev x)) ->
  l.map ev = aS.map (fun a=>Value.int k (a.d ρ)) /\ ∀ a,a ∈ aS -> InR k (a.d ρ)
 | [],_,_,h,_=>by simp [allInts] at h
 | [x],k,aS,h,hx=>by
  simp only [List.map_cons,List.map_nil] at h
  unfold allInts at h
  split at h
  ·rename_i l a he
   simp only [List.cons.injEq,and_true] at he
   simp only [Option.some.injEq,Prod.mk.injEq] at h
   obtain ⟨rfl,rfl⟩:=h
   obtain ⟨h1,h2⟩:=mt_int he (hx x (by simp))
   simp [h1,h2]
  ·rename_i k' a r hne he
   simp only [List.cons.injEq] at he
   obtain ⟨_,rfl⟩:=he
   exact (hne rfl).elim
  ·cases h
 | x :: y :: r,k,aS,h,hx=>by
  simp only [List.map_cons] at h
  unfold allInts at h
  split at h
  ·rename_i he; simp at he
  ·rename_i k' a r' hne he
   simp only [List.cons.injEq] at he
   obtain ⟨he1,he2⟩:=he
   split at h
   ·rename_i l' as' h2
    split at h
    ·rename_i hk
     simp only [beq_iff_eq] at hk
     simp only [Option.some.injEq,Prod.mk.injEq] at h
     obtain ⟨rfl,rfl⟩:=h
     subst hk
     obtain ⟨g1,g2⟩:=mt_int he1 (hx x (by simp))
     have ih:=allInts_vals (l:=y :: r) (k:=k') (aS:=as') (by rw [List.map_cons,he2]; exact h2) (fun z hz=>hx z (by simp only [List.mem_cons] at hz ⊢; exact .inr hz))
     refine ⟨by rw [List.map_cons,g1,ih.1,List.map_cons],fun b hb=>?_⟩
     rcases List.mem_cons.1 hb with rfl | hb
     ·exact g2
     ·exact ih.2 b hb
    ·cases h
   ·cases h
  ·cases h
theorem foldMn_snd (k:IntKind):∀ (r:List A) (a:A),Snd Φ ρ (foldA mkMn a r) (fun z=>InR k (a.d ρ) -> (∀ b,b ∈ r -> InR k (b.d ρ)) -> InR k (z.d ρ) /\ ∀ w,
  ((r.map fun b=>Value.int k (b.d ρ)).foldlM Builtin.min2 (.int k (a.d ρ))).run P w = .ok (.int k (z.d ρ)) w)
 | [],a=>Snd.pure fun h _=>⟨h,fun w=>rfl⟩
 | b :: r,a=>by
  unfold foldA
  refine Snd.bind (mkMn_snd a b) fun c hc=>(foldMn_snd k r c).mono fun z hz ha hb=>?_
  have hcr:InR k (c.d ρ):=by
   rw [hc]
   split
   ·exact hb b (by simp)
   ·exact ha
  obtain ⟨h1,h2⟩:=hz hcr fun x hx=>hb x (by simp [hx])
  refine ⟨h1,fun w=>?_⟩
  have:=h2 w
  rw [hc] at this
  simpa [Builtin.min2] using this
theorem foldMx_snd (k:IntKind):∀ (r:List A) (a:A),Snd Φ ρ (foldA mkMx a r) (fun z=>InR k (a.d ρ) -> (∀ b,b ∈ r -> InR k (b.d ρ)) -> InR k (z.d ρ) /\ ∀ w,
  ((r.map fun b=>Value.int k (b.d ρ)).foldlM Builtin.max2 (.int k (a.d ρ))).run P w = .ok (.int k (z.d ρ)) w)
 | [],a=>Snd.pure fun h _=>⟨h,fun w=>rfl⟩
 | b :: r,a=>by
  unfold foldA
  refine Snd.bind (mkMx_snd a b) fun c hc=>(foldMx_snd k r c).mono fun z hz ha hb=>?_
  have hcr:InR k (c.d ρ):=by
   rw [hc]
   split
   ·exact hb b (by simp)
   ·exact ha
  obtain ⟨h1,h2⟩:=hz hcr fun x hx=>hb x (by simp [hx])
  refine ⟨h1,fun w=>?_⟩
  have:=h2 w
  rw [hc] at this
  simpa [Builtin.max2] using this

def xBuiltin (P:Program) (Γ:Gd) (hp:Hp) (b:Builtin) (argTypes:Array TypeId) (xs:List S):M S :=
 match b with
 | .min=>xMinMax false xs
 | .max=>xMinMax true xs
 | .len=>match (argTypes[0]?).bind P.underlying,xs with
  | some .string,[.one false [.val (.string s)]]=>if inR .i64 s.size then pure (.one false [.int .i64 (.c s.size)]) else M.fail
  | some (.array n _),[_]=>if inR .i64 n then pure (.one false [.int .i64 (.c n)]) else M.fail
  | some (.slice _),[.one false [.sli id off n cap]]=>if inR .i64 n then pure (.one false [.int .i64 (.c n)]) else M.fail
  | some (.slice _),[.one false [.slx ks q len]]=>pure (.one false [.int .i64 len])
  | some .string,[.one false [.str q]]=>do pure (.one false [.int .i64 (<- mkLenq q 1)])
  | some (.slice _),[.one false [.slm id ks]]=>do
   let r <- lift (rowOf Γ hp id ks)
   pure (.one false [.int .i64 r.2])
  | some (.slice _),[.one false [c]]=>if asEmp c then pure (.one false [.int .i64 (.c 0)]) else M.fail
  | _,_=>M.fail
 | _=>M.fail
theorem inR_spec {k:IntKind} {n:Int} (h:inR k n = true):InR k n:=by
 unfold inR at h
 simpa [InR] using h
theorem pure_builtin (hΓ:Gd.d ρ Γ = true) (b:Builtin) (args:Array Operand) (argTypes:Array TypeId) :
  Snd Φ ρ (xBuiltin P Γ hp b argTypes (args.toList.map fun x=>rs Γ (rv x))) (Pure P Γ hp rv ⟨dst,.call { callee:=.builtin b,args:=args,argTypes:=argTypes },ty,pos,after,guard⟩ ρ):=by
 have hops:∀ x,x ∈ args.toList -> x ∈ (Op.call { callee:=.builtin b,args:=args,argTypes:=argTypes }).operands:=fun x hx=>by
  simp [Op.operands,Call.operands]; simpa using hx
 unfold xBuiltin
 split
 ·unfold xMinMax
  split
  ·rename_i k a r hai
   refine Snd.bind (foldMn_snd (P:=P) k r a) fun z hz=>Snd.pure fun β ac w hx hh hq=>?_
   obtain ⟨h1,h2⟩:=allInts_vals hai (fun x hxm=>rs_mt hΓ (hx x (hops x hxm)))
   obtain ⟨g1,g2⟩:=hz (h2 a (by simp)) (fun b hb=>h2 b (by simp [hb]))
   refine ⟨_,?_,S.mt_i g1⟩
   have hl:(args.map ac.eval).toList = Value.int k (a.d ρ) :: r.map (fun b=>Value.int k (b.d ρ)):=by simpa using h1
   simp only [execOp,resolve,Sem.run_bind,Sem.run_pure,Result.andThen_ok,invoke,builtin,Builtin.min_,hl,g2 w]
  ·exact Snd.fail
 ·unfold xMinMax
  split
  ·rename_i k a r hai
   refine Snd.bind (foldMx_snd (P:=P) k r a) fun z hz=>Snd.pure fun β ac w hx hh hq=>?_
   obtain ⟨h1,h2⟩:=allInts_vals hai (fun x hxm=>rs_mt hΓ (hx x (hops x hxm)))
   obtain ⟨g1,g2⟩:=hz (h2 a (by simp)) (fun b hb=>h2 b (by simp [hb]))
   refine ⟨_,?_,S.mt_i g1⟩
   have hl:(args.map ac.eval).toList = Value.int k (a.d ρ) :: r.map (fun b=>Value.int k (b.d ρ)):=by simpa using h1
   simp only [execOp,resolve,Sem.run_bind,Sem.run_pure,Result.andThen_ok,invoke,builtin,Builtin.max_,hl,g2 w]
  ·exact Snd.fail
 ·have one:∀ (s:S),args.toList.map (fun x=>rs Γ (rv x)) = [s] -> ∃ x,args = #[x] /\ rs Γ (rv x) = s:=fun s h=>by
   cases hl:args.toList with
   | nil=>rw [hl] at h; simp at h
   | cons x r =>
    rw [hl] at h
    simp only [List.map_cons,List.cons.injEq,List.map_eq_nil_iff] at h
    obtain ⟨h1,rfl⟩:=h
    exact ⟨x,by apply Array.toList_inj.1; simpa using hl,h1⟩
  split
  ·rename_i s hu hs
   split
   ·rename_i hr
    obtain ⟨x,rfl,hx1⟩:=one _ hs
    refine Snd.pure fun β ac w hx hh hq=>⟨_,?_,mt_of_cell ⟨rfl,inR_spec hr⟩⟩
    have hv:=(mt_cell hx1 (rs_mt hΓ (hx x (hops x (by simp))))).1
    cases ha:argTypes[0]? with
    | none=>rw [ha] at hu; simp at hu
    | some t =>
     rw [ha] at hu
     simp only [Option.bind_some] at hu
     simp [execOp,resolve,invoke,builtin,Builtin.len_,ha,underlying,hu,hv,goInt]
   ·exact Snd.fail
  ·rename_i n e s hu hs
   split
   ·rename_i hr
    obtain ⟨x,rfl,hx1⟩:=one _ hs
    refine Snd.pure fun β ac w hx hh hq=>⟨_,?_,mt_of_cell ⟨rfl,inR_spec hr⟩⟩
    cases ha:argTypes[0]? with
    | none=>rw [ha] at hu; simp at hu
    | some t =>
     rw [ha] at hu
     simp only [Option.bind_some] at hu
     simp [execOp,resolve,invoke,builtin,Builtin.len_,ha,underlying,hu,goInt]
   ·exact Snd.fail
  ·rename_i e id off n cap hu hs
   split
   ·rename_i hr
    obtain ⟨x,rfl,hx1⟩:=one _ hs
    refine Snd.pure fun β ac w hx hh hq=>⟨_,?_,mt_of_cell ⟨rfl,inR_spec hr⟩⟩
    obtain ⟨r,_,hv⟩:=mt_cell hx1 (rs_mt hΓ (hx x (hops x (by simp))))
    cases ha:argTypes[0]? with
    | none=>rw [ha] at hu; simp at hu
    | some t =>
     rw [ha] at hu
     simp only [Option.bind_some] at hu
     simp [execOp,resolve,invoke,builtin,Builtin.len_,ha,underlying,hu,hv,goInt]
   ·exact Snd.fail
  ·rename_i e ks q len hu hs
   obtain ⟨x,rfl,hx1⟩:=one _ hs
   refine Snd.pure fun β ac w hx hh hq=>?_
   obtain ⟨g1,g2,p,cap,hv,_⟩:=mt_cell hx1 (rs_mt hΓ (hx x (hops x (by simp))))
   refine ⟨.int .i64 (len.d ρ),?_,mt_of_cell ⟨rfl,g2⟩⟩
   cases ha:argTypes[0]? with
   | none=>rw [ha] at hu; simp at hu
   | some t =>
    rw [ha] at hu
    simp only [Option.bind_some] at hu
    simp [execOp,resolve,invoke,builtin,Builtin.len_,ha,underlying,hu,hv,goInt,Int.toNat_of_nonneg g1]
  ·rename_i q hu hs
   obtain ⟨x,rfl,hx1⟩:=one _ hs
   refine Snd.bind (mkLenq_snd _ _) fun z hz=>Snd.pure fun β ac w hx hh hq=>?_
   obtain ⟨str,hv,g2,g3⟩:=mt_cell hx1 (rs_mt hΓ (hx x (hops x (by simp))))
   have hzd:z.d ρ = (str.size:Int):=by rw [hz]; simp only [RI.d,g2,encS_len,Nat.div_one]
   refine ⟨.int .i64 (z.d ρ),?_,mt_of_cell ⟨rfl,by rw [hzd]; exact g3⟩⟩
   rw [hzd]
   cases ha:argTypes[0]? with
   | none=>rw [ha] at hu; simp at hu
   | some t =>
    rw [ha] at hu
    simp only [Option.bind_some] at hu
    simp [execOp,resolve,invoke,builtin,Builtin.len_,ha,underlying,hu,hv,goInt]
  ·rename_i e id ks hu hs
   obtain ⟨x,rfl,hx1⟩:=one _ hs
   refine Snd.bind (lift_snd _) fun rr hrr=>Snd.pure fun β ac w hx hh hq=>?_
   obtain ⟨r,cap,p,hr,hrow,hlen,hcap,hv,hp0⟩:=mt_cell hx1 (rs_mt hΓ (hx x (hops x (by simp))))
   obtain ⟨r',cap',l,hr',_,_,hk0,hlen',hcap',hqe,hne,hin,hll,hsq,_⟩:=rowOf_spec hΓ (q:=rr.1) (n:=rr.2) hrr hh
   rw [hr] at hr'
   cases hr'
   refine ⟨.int .i64 (rr.2.d ρ),?_,mt_of_cell ⟨rfl,hin⟩⟩
   rw [hne]
   cases ha:argTypes[0]? with
   | none=>rw [ha] at hu; simp at hu
   | some t =>
    rw [ha] at hu
    simp only [Option.bind_some] at hu
    simp [execOp,resolve,invoke,builtin,Builtin.len_,ha,underlying,hu,hv,goInt]
  ·rename_i e c _ _ hu hs
   split
   ·rename_i he
    obtain ⟨x,rfl,hx1⟩:=one _ hs
    refine Snd.pure fun β ac w hx hh hq=>?_
    obtain ⟨p,hv⟩:=asEmp_mt he (mt_cell hx1 (rs_mt hΓ (hx x (hops x (by simp)))))
    refine ⟨.int .i64 0,?_,mt_of_cell ⟨rfl,inR_spec (show inR .i64 0 = true by decide)⟩⟩
    cases ha:argTypes[0]? with
    | none=>rw [ha] at hu; simp at hu
    | some t =>
     rw [ha] at hu
     simp only [Option.bind_some] at hu
     simp [execOp,resolve,invoke,builtin,Builtin.len_,ha,underlying,hu,hv,goInt]
   ·exact Snd.fail
  ·exact Snd.fail
 ·exact Snd.fail

def setAt (l:List C) (off:Nat) (new:List C):List C:=l.take off ++ new ++ l.drop (off + new.length)
theorem mtL_append {β:Beta}:∀ {l m:List C} {vs us:List Value},mtL β ρ l vs -> mtL β ρ m us -> mtL β ρ (l ++ m) (vs ++ us)
 | [],_,[],_,_,h=>h
 | _ :: _,_,_ :: _,_,⟨h1,h2⟩,h=>⟨h1,mtL_append h2 h⟩
theorem mtL_setAt {β:Beta} {l:List C} {vs:List Value} {off:Nat} {new:List C} {us:List Value} (h:mtL β ρ l vs) (hn:mtL β ρ new us) :
  mtL β ρ (setAt l off new) (vs.take off ++ us ++ vs.drop (off + us.length)):=by
 unfold setAt
 rw [mtL_length hn]
 exact mtL_append (mtL_append (mtL_take _ h) hn) (mtL_drop _ h)
def S.cells:S -> Option (List C)
 | .one _ l=>some l
 | _=>none
def xFill (place:Nat -> Option (Nat × Nat)) (cells:List C):List (Nat × S) -> Option (List C)
 | []=>some cells
 | (i,s) :: rest=>match place i,s.cells with
  | some (off,size),some l=>if l.length == size && Nat.ble (off + size) cells.length then xFill place (setAt cells off l) rest else none
  | _,_=>none
theorem foldl_set (off:Nat):∀ (vs:List Value) (k:Nat) (cs:Array Value),off + k + vs.length <= cs.size ->
  ((vs.zipIdx k).foldl (fun (cs:Array Value) (p:Value × Nat)=>cs.setIfInBounds (off + p.2) p.1) cs).toList = cs.toList.take (off + k) ++ vs ++ cs.toList.drop (off + k + vs.length)
 | [],k,cs,h=>by simp
 | v :: vs,k,cs,h=>by
  simp only [List.length_cons] at h
  rw [List.zipIdx_cons,List.foldl_cons,foldl_set off vs (k + 1) _ (by simp; omega)]
  simp only [Array.toList_setIfInBounds,List.length_cons]
  have hlt:off + k < cs.toList.length:=by simp; omega
  rw [List.take_set,List.drop_set,if_pos (by omega)]
  rw [show off + (k + 1) = (off + k) + 1 by omega,List.take_succ_eq_append_getElem hlt,List.set_append]
  simp only [List.length_take,Nat.min_eq_left (Nat.le_of_lt hlt),Nat.lt_irrefl,if_false,Nat.sub_self,List.set_cons_zero,List.append_assoc,List.cons_append,List.nil_append]
  rw [show off + k + 1 + vs.length = off + k + (vs.length + 1) by omega]
theorem fill_spec {place:Nat -> Option (Nat × Nat)} {β:Beta}:∀ {parts:List (Nat × S)} {vals:List (Nat × Value)} {cells:List C} {vs:Array Value} {out:List C},
  xFill place cells parts = some out -> (parts.length = vals.length /\ ∀ (j i:Nat) (s:S) (v:Value),parts[j]? = some (i,s) -> ∀ (i':Nat),vals[j]? = some (i',v) -> i' = i /\ s.mt β ρ v) -> mtL β ρ cells vs.toList ->
  ∃ us,Instr.fill place vs vals = some us /\ mtL β ρ out us.toList
 | [],vals,cells,vs,out,h,hp,hm=>by
  have:vals = []:=by cases vals; rfl; simp at hp
  subst this
  simp only [xFill,Option.some.injEq] at h
  subst h
  exact ⟨vs,rfl,hm⟩
 | (i,s) :: parts,vals,cells,vs,out,h,hp,hm=>by
  cases vals with
  | nil=>simp at hp
  | cons p vals =>
   obtain ⟨i',v⟩:=p
   obtain ⟨hlen,hp⟩:=hp
   obtain ⟨rfl,hsv⟩:=hp 0 i s v (by simp) i' (by simp)
   unfold xFill at h
   split at h
   ·rename_i off size l h1 h2
    split at h
    ·rename_i hc
     simp only [Bool.and_eq_true,beq_iff_eq,Nat.ble_eq] at hc
     obtain ⟨hc1,hc2⟩:=hc
     cases s with
     | one agg l' =>
      simp only [S.cells,Option.some.injEq] at h2
      subst h2
      have hml:=mtL_cells hsv
      have hl2:=mtL_length hml
      have hl3:=mtL_length hm
      have hsz:v.cells.size = size:=by rw [<- Array.length_toList]; omega
      have e2:vs.toList.length = vs.size:=Array.length_toList
      have e3:v.cells.toList.length = v.cells.size:=Array.length_toList
      have hle:off + 0 + v.cells.toList.length <= vs.size:=by rw [e3,hsz]; omega
      have key:=foldl_set off v.cells.toList 0 vs hle
      obtain ⟨us,hus,hum⟩:=fill_spec (vals:=vals) (vs:=v.cells.zipIdx.foldl (fun cs (c,j)=>cs.setIfInBounds (off + j) c) vs) h
       ⟨by simpa using hlen,fun j a b c hj i' hv=>hp (j + 1) a b c (by simpa using hj) i' (by simpa using hv)⟩ (by
        rw [<- Array.foldl_toList,Array.toList_zipIdx,key,Nat.add_zero]
        have:=mtL_setAt (off:=off) hm hml
        exact this)
      refine ⟨us,?_,hum⟩
      unfold Instr.fill
      rw [h1]
      simp only
      have hno:¬ ((decide (v.cells.size ≠ size) || decide (off + v.cells.size > vs.size)) = true):=by simp; omega
      rw [if_neg hno]
      exact hus
     | tup _=>simp [S.cells] at h2
     | any=>simp [S.cells] at h2
    ·cases h
   ·cases h

def zeroC (P:Program) (t:TypeId):Option (List C) :=
 match (P.info? t).bind (·.zero) with
 | some v=>if v.cells.toList.all oneCell then some (v.cells.toList.map ofC) else none
 | none=>none
theorem zeroC_spec {t:TypeId} {l:List C} (h:zeroC P t = some l) (w:World):∃ v,(zeroValue t).run P w = .ok v w /\ ∀ β,mtL β ρ l v.cells.toList:=by
 unfold zeroC at h
 split at h
 ·rename_i v hv
  split at h
  ·rename_i ha
   simp only [Option.some.injEq] at h
   subst h
   cases hi:P.info? t with
   | none=>rw [hi] at hv; simp at hv
   | some i =>
    rw [hi] at hv
    simp only [Option.bind_some] at hv
    exact ⟨v,by simp [zeroValue,typeInfo,hi,hv],fun β=>mtL_ofC ha⟩
  ·cases h
 ·cases h

def sizeN (P:Program) (t:TypeId):Option Nat:=(P.info? t).map (·.size)
theorem sizeN_spec {t:TypeId} {n:Nat} (h:sizeN P t = some n) (w:World):(sizeOf t).run P w = .ok n w:=by
 unfold sizeN at h
 cases hi:P.info? t with
 | none=>rw [hi] at h; simp at h
 | some i=>rw [hi] at h; simp at h; simp [sizeOf,typeInfo,hi,h]
def structPlaces (P:Program):List Field -> Option (List (Nat × Nat))
 | []=>some []
 | f :: fs=>match sizeN P f.type,structPlaces P fs with
  | some n,some r=>some ((f.offset,n) :: r)
  | _,_=>none
theorem structPlaces_spec:∀ {fs:List Field} {r:List (Nat × Nat)},structPlaces P fs = some r -> ∀ w,(fs.mapM fun f=>do pure (f.offset,<- sizeOf f.type):Sem (List (Nat × Nat))).run P w = .ok r w
 | [],r,h,w=>by simp [structPlaces] at h; subst h; rfl
 | f :: fs,r,h,w=>by
  unfold structPlaces at h
  split at h
  ·rename_i n r' h1 h2
   simp only [Option.some.injEq] at h
   subst h
   rw [List.mapM_cons]
   simp only [Sem.run_bind,sizeN_spec h1 w,Result.andThen_ok,Sem.run_pure,structPlaces_spec h2 w]
  ·cases h
def xBuild (P:Program) (t:TypeId) (parts:List (Nat × S)):M S:=do
 let z <- lift (zeroC P t)
 match P.underlying t with
 | some (.struct fs)=>do
  let pl <- lift (structPlaces P fs.toList)
  pure (.one true (<- lift (xFill (fun i=>pl[i]?) z parts)))
 | some (.array _ e)=>do
  let s <- lift (sizeN P e)
  pure (.one true (<- lift (xFill (fun i=>some (i * s,s)) z parts)))
 | _=>M.fail
theorem partsMt {β:Beta} {ac:Act} {parts:List (Nat × Operand)} (hΓ:Gd.d ρ Γ = true) (h:∀ x,x ∈ parts.map (·.2) -> (rv x).mt β ρ (ac.eval x)) :
  (parts.map fun p=>(p.1,rs Γ (rv p.2))).length = (parts.map fun (i,x)=>(i,ac.eval x)).length /\ ∀ (j i:Nat) (s:S) (v:Value),(parts.map fun p=>(p.1,rs Γ (rv p.2)))[j]? = some (i,s) -> ∀ (i':Nat),(parts.map fun (i,x)=>(i,ac.eval x))[j]? = some (i',v) -> i' = i /\ s.mt β ρ v:=by
 refine ⟨by simp,fun j i s v hj i' hv=>?_⟩
 rw [List.getElem?_map] at hj hv
 cases hp:parts[j]? with
 | none=>rw [hp] at hj; simp at hj
 | some p =>
  rw [hp] at hj hv
  simp only [Option.map_some,Option.some.injEq,Prod.mk.injEq] at hj hv
  obtain ⟨rfl,rfl⟩:=hj
  obtain ⟨rfl,rfl⟩:=hv
  exact ⟨rfl,rs_mt hΓ (h _ (List.mem_map.2 ⟨p,List.mem_of_getElem? hp,rfl⟩))⟩
theorem pure_build (hΓ:Gd.d ρ Γ = true) (t:TypeId) (parts:Array (Nat × Operand)) :
  Snd Φ ρ (xBuild P t (parts.toList.map fun p=>(p.1,rs Γ (rv p.2)))) (Pure P Γ hp rv ⟨dst,.build t parts,ty,pos,after,guard⟩ ρ):=by
 unfold xBuild
 refine Snd.bind (lift_snd _) fun z hz=>?_
 split
 ·rename_i fs hu
  refine Snd.bind (lift_snd _) fun pl hpl=>Snd.bind (lift_snd _) fun out hout=>Snd.pure fun β ac w hx hh hq=>?_
  obtain ⟨v,hv,hvm⟩:=zeroC_spec (ρ:=ρ) hz w
  obtain ⟨us,hus,hum⟩:=fill_spec (β:=β) (vs:=v.cells) hout (partsMt hΓ fun x hxm=>hx x (by simpa [Op.operands] using hxm)) (hvm β)
  refine ⟨.agg us,?_,us,rfl,hum⟩
  have hm:(fs.mapM fun f=>do pure (f.offset,<- sizeOf f.type):Sem (Array (Nat × Nat))).run P w = .ok pl.toArray w:=by
   rw [Array.mapM_eq_mapM_toList,Sem.run_map,structPlaces_spec hpl w]
   rfl
  have hpl2:(fun (i:Nat)=>pl.toArray[i]?) = fun (i:Nat)=>pl[i]?:=by funext i; simp
  simp only [execOp,Instr.build,Sem.run_bind,hv,Result.andThen_ok,underlying,run_program,hu,Sem.run_pure,hm]
  rw [hpl2]
  simp only [Array.toList_map]
  rw [hus]
  simp
 ·rename_i n e hu
  refine Snd.bind (lift_snd _) fun s hs=>Snd.bind (lift_snd _) fun out hout=>Snd.pure fun β ac w hx hh hq=>?_
  obtain ⟨v,hv,hvm⟩:=zeroC_spec (ρ:=ρ) hz w
  obtain ⟨us,hus,hum⟩:=fill_spec (β:=β) (vs:=v.cells) hout (partsMt hΓ fun x hxm=>hx x (by simpa [Op.operands] using hxm)) (hvm β)
  refine ⟨.agg us,?_,us,rfl,hum⟩
  simp only [execOp,Instr.build,Sem.run_bind,hv,Result.andThen_ok,underlying,run_program,hu,Sem.run_pure,sizeN_spec hs w]
  simp only [Array.toList_map]
  rw [hus]
  simp
 ·exact Snd.fail
end ops
end Go.Proofs.YtfgbfdlacnihkaaGreatDoor.Sx
namespace Go.Proofs.YtfgbfdlacnihkaaGreatDoor.Sx
open Go

section ops
variable {P:Program} {Φ:Funs} {G:Beta -> World -> Prop} {Γ:Gd} {hp:Hp} {rv:Operand -> SV} {dst:Option Tmp} {ty:TypeId} {pos:String} {after:Array Edge} {guard:Option (Nat × Bool)}

theorem cellsAt_new {β:Beta} {ρ:Env} (w:World) (cs:Array Value) (t:TypeId) {l:List C} (h:mtL β ρ l cs.toList):cellsAt β ρ (w.alloc (.cells cs t)) w.heap.size 0 l:=by
 rw [cellsAt_iff]
 intro j c hj
 obtain ⟨v,hv,hm⟩:=mtL_get h j c hj
 exact ⟨v,by simpa using hv,hm⟩
theorem step_new {N:Nat} {R:List Rg} {Q:Rg -> Prop} {β:Beta} {ρ:Env} {w:World} {lo hi id:Nat} (hlo:lo <= id) (hhi:id < hi) (hn:β id = none) (hb:BetaOk N R Q β w) (hN:N <= w.heap.size)
  (cs:Array Value) (t:TypeId) {l:List C} (hm:mtL β ρ l cs.toList) :
  Step N R Q β w [id] [] lo hi (β.set id { blk:=w.heap.size,off:=0,len:=l.length,ro:=false }) (w.alloc (.cells cs t)) /\
   blkMt (β.set id { blk:=w.heap.size,off:=0,len:=l.length,ro:=false }) ρ (w.alloc (.cells cs t)) id { g:=[],ro:=false,cells:=l }:=by
 have he:=Beta.set_ext (r:={ blk:=w.heap.size,off:=0,len:=l.length,ro:=false }) (fun _=>true) hn
 refine ⟨⟨Beta.set_ext _ hn,hb.alloc hN _ _,⟨[],by simp,Keep.alloc _ _ _⟩,fun i hi' _=>?_,by simp⟩,?_⟩
 ·unfold Beta.set; rw [if_neg (by omega)]
 ·refine blkMt_mk ⟨_,Beta.set_same _ _ _,rfl,rfl,rfl,cellsAt_new w cs t (mtL_mv (Mv.of hb he) hm),fun _ j hj=>?_⟩
  simp
theorem step_newR {N:Nat} {R:List Rg} {Q:Rg -> Prop} {β:Beta} {ρ:Env} {w:World} {lo hi id:Nat} (ro:Bool) (hlo:lo <= id) (hhi:id < hi) (hn:β id = none) (hb:BetaOk N R Q β w) (hN:N <= w.heap.size)
  (cs:Array Value) (t:TypeId) {l:List C} (hm:mtL β ρ l cs.toList) :
  Step N R Q β w [id] [] lo hi (β.set id { blk:=w.heap.size,off:=0,len:=l.length,ro:=ro }) (w.alloc (.cells cs t)) /\
   blkMt (β.set id { blk:=w.heap.size,off:=0,len:=l.length,ro:=ro }) ρ (w.alloc (.cells cs t)) id { g:=[],ro:=ro,cells:=l }:=by
 have he:=Beta.set_ext (r:={ blk:=w.heap.size,off:=0,len:=l.length,ro:=ro }) (fun _=>true) hn
 refine ⟨⟨Beta.set_ext _ hn,hb.bind (W:=[]) (by simp) (Keep.alloc _ _ _) (fun j q _ hq=>.inr (hb.new_apart (Nat.le_refl _) hq)) (.inr (by simp)) (.inr (.inl hN)) (by simp) (fun _=>.inl hN) (by simp),⟨[],by simp,Keep.alloc _ _ _⟩,fun i hi' _=>?_,by simp⟩,?_⟩
 ·unfold Beta.set; rw [if_neg (by omega)]
 ·refine blkMt_mk ⟨_,Beta.set_same _ _ _,rfl,rfl,rfl,cellsAt_new w cs t (mtL_mv (Mv.of hb he) hm),fun _ j hj=>?_⟩
  simp
def litC:C -> Bool
 | .int _ (.c _)=>true
 | .bool (.c _)=>true
 | .val _=>true
 | _=>false
theorem newVar_run (t:TypeId) (v:Value) (w:World):(newVar t v).run P w = .ok ⟨w.heap.size,0,none⟩ (w.alloc (.cells v.cells t)):=by
 simp [newVar,newRow]

def mkNew (l:List C):M Res:=do
 let id <- newId
 pure { s:=.one false [.ptr [] id 0],w:=[(id,{ g:=[],ro:=false,cells:=l })] }
theorem mkNew_ok {o:Oper} {l:List C} (h:∀ ρ,Gd.d ρ Γ = true -> ∀ (β:Beta) (a:Act) (w:World),(∀ x,x ∈ o.op.operands -> (rv x).mt β ρ (a.eval x)) ->
  ∃ cs t,(execOp a.eval o).run P w = .ok (.value (.pointer (some ⟨w.heap.size,0,none⟩))) (w.alloc (.cells cs t)) /\ mtL β ρ l cs.toList):LOk P Φ G Γ hp rv o (mkNew l):=by
 intro ρ c res c' out he hg hΓ N R Q β a w hx hh hb hN hG hf
 simp only [mkNew,newId,Bind.bind,M.bind,Pure.pure,M.pure,Option.some.injEq,Prod.mk.injEq] at he
 obtain ⟨rfl,rfl,rfl⟩:=he
 obtain ⟨cs,t,hr,hm⟩:=h ρ hΓ β a w hx
 obtain ⟨h1,h2⟩:=step_new (lo:=c.id) (hi:=c.id + 1) (Nat.le_refl _) (by omega) (hf c.id (Nat.le_refl _) (by simp)) hb hN cs t hm
 refine OpG.value hr ⟨_,h1,⟨_,rfl,_,Beta.set_same _ _ _,rfl⟩,?_⟩
 intro p hp'
 simp only [List.mem_singleton] at hp'
 subst hp'
 exact h2

def xAlloc (P:Program) (t:TypeId):M Res:=match zeroC P t with
 | some l=>mkNew l
 | none=>M.fail
theorem ok_alloc (t:TypeId):LOk P Φ G Γ hp rv ⟨dst,.alloc t,ty,pos,after,guard⟩ (xAlloc P t):=by
 unfold xAlloc
 split
 ·rename_i l hl
  refine mkNew_ok fun ρ hΓ β a w hx=>?_
  obtain ⟨v,hv,hm⟩:=zeroC_spec (ρ:=ρ) hl w
  exact ⟨v.cells,t,by simp [execOp,Instr.alloc,hv,newVar_run],hm β⟩
 ·exact LOk.fail
def xBox (x:S):M Res:=match x.cells with
 | some l=>mkNew l
 | none=>M.fail
theorem ok_box (t:TypeId) (x:Operand):LOk P Φ G Γ hp rv ⟨dst,.box t x,ty,pos,after,guard⟩ (xBox (rs Γ (rv x))):=by
 unfold xBox
 split
 ·rename_i l hl
  refine mkNew_ok fun ρ hΓ β a w hx=>?_
  have hm:=rs_mt hΓ (hx x (by simp [Op.operands]))
  cases hs:rs Γ (rv x) with
  | one agg l' =>
   rw [hs] at hm hl
   simp only [S.cells,Option.some.injEq] at hl
   subst hl
   exact ⟨(a.eval x).cells,t,by simp [execOp,Instr.box,newVar_run],mtL_cells hm⟩
  | tup _=>rw [hs] at hl; simp [S.cells] at hl
  | any=>rw [hs] at hl; simp [S.cells] at hl
 ·exact LOk.fail

def repeatL (z:List C):Nat -> List C
 | 0=>[]
 | n + 1=>z ++ repeatL z n
def sliceElem (P:Program) (t:TypeId):Option TypeId:=match P.underlying t with | some (.slice e)=>some e | _=>none
def xBuildSlice (P:Program) (t:TypeId) (len:Nat) (parts:List (Nat × S)):M Res:=do
 let e <- lift (sliceElem P t)
 let s <- lift (sizeN P e)
 let z <- lift (zeroC P e)
 if z.length == s && Nat.ble 1 s && Nat.ble 1 len && Nat.ble (len * s) 4096 then do
  let l <- lift (xFill (fun i=>some (i * s,s)) (repeatL z len) parts)
  let id <- newId
  pure { s:=.one false [.sli id 0 len len],w:=[(id,{ g:=[],ro:=l.all litC,cells:=l })] }
 else M.fail
theorem repeatL_mt {β:Beta} {ρ:Env} {z:List C} {vs:List Value} (h:mtL β ρ z vs) (hs:1 <= vs.length):∀ n,mtL β ρ (repeatL z n) ((List.range (n * vs.length)).map fun i=>(vs.toArray)[i % vs.toArray.size]!)
 | 0=>by simp [repeatL,mtL]
 | n + 1=>by
  have e:(List.range ((n + 1) * vs.length)).map (fun i=>(vs.toArray)[i % vs.toArray.size]!) = vs ++ (List.range (n * vs.length)).map (fun i=>(vs.toArray)[i % vs.toArray.size]!):=by
   rw [show (n + 1) * vs.length = vs.length + n * vs.length by rw [Nat.add_mul]; omega,List.range_add,List.map_append,List.map_map]
   congr 1
   ·apply List.ext_getElem
    ·simp
    ·intro i h1 h2
     simp at h1
     simp [Nat.mod_eq_of_lt h1,h1]
   ·apply List.map_congr_left
    intro i _
    simp
  rw [e]
  exact mtL_append h (repeatL_mt h hs n)
theorem snd_lift_inv {α β:Type} {o:Option α} {f:α -> M β} {c:Ctr} {r:β × Ctr × List Em} (h:(lift o >>= f) c = some r):∃ x,o = some x /\ f x c = some r:=by
 cases o with
 | none=>simp [lift,Bind.bind,M.bind,M.fail] at h
 | some x =>
  refine ⟨x,rfl,?_⟩
  simp only [lift,Bind.bind,M.bind,Pure.pure,M.pure] at h
  cases hf:f x c with
  | none=>rw [hf] at h; cases h
  | some y=>rw [hf] at h; simpa using h
theorem ok_buildSlice (t:TypeId) (len:Nat) (parts:Array (Nat × Operand)):LOk P Φ G Γ hp rv ⟨dst,.buildSlice t len parts,ty,pos,after,guard⟩
  (xBuildSlice P t len (parts.toList.map fun p=>(p.1,rs Γ (rv p.2)))):=by
 intro ρ c res c' out he hg hΓ N R Q β a w hx hh hb hN hG hf
 unfold xBuildSlice at he
 obtain ⟨e,h1,he⟩:=snd_lift_inv he
 obtain ⟨s,h2,he⟩:=snd_lift_inv he
 obtain ⟨z,h3,he⟩:=snd_lift_inv he
 split at he
 ·rename_i hc
  simp only [Bool.and_eq_true,beq_iff_eq,Nat.ble_eq] at hc
  obtain ⟨⟨⟨hc1,hc2⟩,hc3⟩,hc4⟩:=hc
  obtain ⟨l,h4,he⟩:=snd_lift_inv he
  simp only [newId,Bind.bind,M.bind,Pure.pure,M.pure,Option.some.injEq,Prod.mk.injEq] at he
  obtain ⟨rfl,rfl,rfl⟩:=he
  obtain ⟨v,hv,hm⟩:=zeroC_spec (ρ:=ρ) h3 w
  have hzl:=mtL_length (hm β)
  have hvs:v.cells.size = s:=by rw [<- Array.length_toList]; omega
  have hrep:=repeatL_mt (hm β) (by omega) len
  have harr:((Array.range (len * s)).map fun i=>v.cells[i % v.cells.size]!).toList = (List.range (len * v.cells.toList.length)).map fun i=>(v.cells.toList.toArray)[i % v.cells.toList.toArray.size]!:=by
   simp [hvs]
  rw [<- harr] at hrep
  obtain ⟨us,hus,hum⟩:=fill_spec (β:=β) h4 (partsMt hΓ fun x hxm=>hx x (by simpa [Op.operands] using hxm)) hrep
  obtain ⟨g1,g2⟩:=step_newR (l.all litC) (lo:=c.id) (hi:=c.id + 1) (Nat.le_refl _) (by omega) (hf c.id (Nat.le_refl _) (by simp)) hb hN us e hum
  have hu:P.underlying t = some (.slice e):=by
   unfold sliceElem at h1
   split at h1
   ·rename_i hu; simp only [Option.some.injEq] at h1; subst h1; exact hu
   ·cases h1
  have hle:¬ (len * s > 2 ^ 24):=by omega
  have hne:¬ (len * s = 0):=by
   intro h0
   rcases Nat.mul_eq_zero.1 h0 with h | h <;> omega
  refine OpG.value (v:=.slice (some ⟨w.heap.size,0,none⟩) len len) (w':=w.alloc (.cells us e)) ?_ ⟨_,g1,⟨_,rfl,_,Beta.set_same _ _ _,rfl⟩,?_⟩
  ·simp only [execOp,Instr.buildSlice,Sem.run_bind,underlying,run_program,Result.andThen_ok,hu,Sem.run_pure,sizeN_spec h2 w,Sem.run_ite,hle,hne,if_false,hv]
   simp only [Array.toList_map]
   rw [hus]
   simp [newRow]
  ·intro p hp'
   simp only [List.mem_singleton] at hp'
   subst hp'
   exact g2
 ·cases he

def Hp.set (hp:Hp) (id:Nat) (b:Blk):Hp:=fun i=>if i == id then some b else hp i
def stOne (Γ:Gd) (hp:Hp) (e:B) (id off:Nat) (new:List C):M Hp :=
 match hp id with
 | some b=>if Gd.sub b.g Γ && !b.ro && Nat.ble (off + new.length) b.cells.length && (vecOf b.cells).isNone then do
   let z <- (match e with | .c true=>pure new | e=>muxL e new ((b.cells.drop off).take new.length))
   pure (hp.set id { b with cells:=setAt b.cells off z })
  else M.fail
 | none=>M.fail
def stAlt (Γ:Gd) (new:List C):Hp -> B -> List (B × Nat × Nat) -> Nat -> Nat -> M Hp
 | hp,rest,[],id,off=>stOne Γ hp rest id off new
 | hp,rest,(b,i,o) :: l,id,off=>do
  let e <- mkAnd rest b
  let nb <- mkNot b
  let rest' <- mkAnd rest nb
  let hp' <- stOne Γ hp e i o new
  stAlt Γ new hp' rest' l id off

theorem cellsAt_setAt {β:Beta} {ρ:Env} {w w':World} {b o off:Nat} {l z:List C} (hle:off + z.length <= l.length) (hc:cellsAt β ρ w b o l)
  (hz:cellsAt β ρ w' b (o + off) z) (hk:∀ j,(j < off \/ off + z.length <= j) -> j < l.length -> w'.cell? ⟨b,o + j,none⟩ = w.cell? ⟨b,o + j,none⟩) :
  cellsAt β ρ w' b o (setAt l off z):=by
 rw [cellsAt_iff] at *
 intro j c hj
 unfold setAt at hj
 rw [List.append_assoc] at hj
 by_cases h1:j < off
 ·rw [List.getElem?_append_left (by simp; omega),List.getElem?_take,if_pos h1] at hj
  obtain ⟨v,hv,hm⟩:=hc j c hj
  exact ⟨v,by rw [hk j (.inl h1) (by omega)]; exact hv,hm⟩
 ·rw [List.getElem?_append_right (by simp; omega)] at hj
  simp only [List.length_take,Nat.min_eq_left (show off <= l.length by omega)] at hj
  by_cases h2:j < off + z.length
  ·rw [List.getElem?_append_left (by omega)] at hj
   have:=hz (j - off) c hj
   rwa [show o + off + (j - off) = o + j by omega] at this
  ·rw [List.getElem?_append_right (by omega),List.getElem?_drop] at hj
   have e:off + z.length + (j - off - z.length) = j:=by omega
   rw [e] at hj
   obtain ⟨v,hv,hm⟩:=hc j c hj
   exact ⟨v,by rw [hk j (.inr (by omega)) (List.getElem?_eq_some_iff.1 hj).1]; exact hv,hm⟩

structure Stored (β:Beta) (ρ:Env) (w w':World) (id off:Nat) (new:List C) (r:Rg):Prop where
 at_:β id = some r
 ro:r.ro = false
 le:off + new.length <= r.len
 cells:cellsAt β ρ w' r.blk (r.off + off) new
 keep:Keep [{ blk:=r.blk,off:=r.off + off,len:=new.length,ro:=false }] w w'
 other:∀ a:Addr,¬ inRg { blk:=r.blk,off:=r.off + off,len:=new.length,ro:=false } a -> w'.cell? a = w.cell? a
 live:∃ j v,w.cell? ⟨r.blk,j,none⟩ = some v

theorem Stored.apart {N:Nat} {R:List Rg} {Q:Rg -> Prop} {β:Beta} {ρ:Env} {w w':World} {id off:Nat} {new:List C} {r:Rg} (h:Stored β ρ w w' id off new r) (hb:BetaOk N R Q β w) {i:Nat} (hi:i ≠ id) {b:Blk}
  (hm:blkMt β ρ w i b):blkMt β ρ w' i b:=by
 refine blkMt_keep' (ExtP.refl _ β) hb h.keep (fun q q' hq hq'=>?_) hm
 simp only [List.mem_singleton] at hq
 subst hq
 have h1:=(hb.apart id i r q' (Ne.symm hi) h.at_ hq').resolve_left fun hh=>by have:=h.ro; rw [hh.1] at this; cases this
 have h2:=h.le
 unfold Rg.apart at *
 simp only at *
 omega

theorem setAt_length {l z:List C} {off:Nat} (h:off + z.length <= l.length):(setAt l off z).length = l.length:=by
 unfold setAt; simp; omega
theorem blk_setAt {β:Beta} {ρ:Env} {w w':World} {i:Nat} {b:Blk} {off:Nat} {z:List C} (hv:vecOf b.cells = none) (hle:off + z.length <= b.cells.length) (hm:blkMt β ρ w i b)
  (hz:∀ r,β i = some r -> cellsAt β ρ w' r.blk (r.off + off) z) (hk:∀ r j,β i = some r -> (j < off \/ off + z.length <= j) -> j < b.cells.length -> w'.cell? ⟨r.blk,r.off + j,none⟩ = w.cell? ⟨r.blk,r.off + j,none⟩)
  (hf:∀ r j,β i = some r -> w'.frozen? ⟨r.blk,j,none⟩ = w.frozen? ⟨r.blk,j,none⟩):blkMt β ρ w' i { b with cells:=setAt b.cells off z }:=by
 obtain ⟨r,hr,hrow,hl,hro,hc,hfr⟩:=(blkMt_cs hv).1 hm
 refine blkMt_mk ⟨r,hr,hrow,by simp only [setAt_length hle]; exact hl,hro,cellsAt_setAt hle hc (hz r hr) (fun j hj hj2=>hk r j hr hj hj2),fun h0 j hj=>?_⟩
 simp only [setAt_length hle] at hj
 rw [hf r _ hr]
 exact hfr h0 j hj

theorem stOne_snd {N:Nat} {R:List Rg} {Q:Rg -> Prop} {β:Beta} {ρ:Env} (hΓ:Gd.d ρ Γ = true) {w w':World} {id off:Nat} {new:List C} {r:Rg} (hs:Stored β ρ w w' id off new r) (hb:BetaOk N R Q β w) (e:B) (i o:Nat) (rest:Bool)
  (he1:e.d ρ = true -> rest = true /\ i = id /\ o = off) :
  Snd Φ ρ (stOne Γ hp e i o new) (fun hp'=>heapMt β ρ hp (if rest then w else w') -> heapMt β ρ hp' (if rest && !(e.d ρ) then w else w')):=by
 unfold stOne
 split
 ·rename_i b hbk
  split
  ·rename_i hc
   simp only [Bool.and_eq_true,Bool.not_eq_true',Nat.ble_eq,Option.isNone_iff_eq_none] at hc
   obtain ⟨⟨⟨hc1,hc2⟩,hc3⟩,hvn⟩:=hc
   refine Snd.bind (p:=fun z=>z.length = new.length /\ ∀ β w k q,(if e.d ρ then cellsAt β ρ w k q new else cellsAt β ρ w k q ((b.cells.drop o).take new.length)) -> cellsAt β ρ w k q z) ?_ fun z hz=>Snd.pure fun hh=>?_
   ·split
    ·exact Snd.pure ⟨rfl,fun β w k q h=>by simpa using h⟩
    ·refine (muxL_snd _ _ _).mono fun z hz=>⟨hz.1,hz.2.2.2⟩
   ·obtain ⟨hz1,hz2⟩:=hz
    have hle:o + z.length <= b.cells.length:=by omega
    have hbg:=Gd.sub_d hc1 hΓ
    have hmi:=hh i b hbk hbg
    intro j bj hj hg
    unfold Hp.set at hj
    cases hed:e.d ρ
    ·simp only [Bool.not_false,Bool.and_true]
     by_cases hji:j = i
     ·subst hji
      simp only [BEq.rfl,if_true,Option.some.injEq] at hj
      subst hj
      refine blk_setAt hvn hle hmi (fun q hq=>hz2 _ _ _ _ ?_) (fun _ _ _ _ _=>rfl) (fun _ _ _=>rfl)
      rw [if_neg (by simp [hed])]
      obtain ⟨q',hq',_,_,_,hcs,_⟩:=(blkMt_cs hvn).1 hmi
      rw [hq] at hq'
      cases hq'
      rw [cellsAt_iff] at *
      intro k c hk
      rw [List.getElem?_take] at hk
      split at hk
      ·rw [List.getElem?_drop] at hk
       have:=hcs _ _ hk
       rwa [<- Nat.add_assoc] at this
      ·cases hk
     ·have hne:(j == i) = false:=by simpa using hji
      rw [hne] at hj
      exact hh j bj hj hg
    ·obtain ⟨hrest,rfl,rfl⟩:=he1 hed
     simp only [hrest,Bool.not_true,Bool.and_false,Bool.false_eq_true,if_false,if_true] at hh hmi ⊢
     by_cases hji:j = i
     ·subst hji
      simp only [BEq.rfl,if_true,Option.some.injEq] at hj
      subst hj
      have hpl:=hb.place j r hs.at_
      have hmi':=(blkMt_cs hvn).1 hmi
      refine blk_setAt hvn hle hmi (fun q hq=>hz2 _ _ _ _ ?_) (fun q k hq hk hk2=>?_) (fun q k hq=>?_)
      ·rw [if_pos hed]
       rw [hs.at_] at hq
       cases hq
       exact hs.cells
      ·rw [hs.at_] at hq
       cases hq
       refine hs.other _ ?_
       unfold inRg
       simp only
       omega
      ·rw [hs.at_] at hq
       cases hq
       rcases hpl with hpl | hpl
       ·obtain ⟨j0,v0,hv0⟩:=hs.live
        exact hs.keep.frz _ (World.block_lt_of_cell? w ⟨r.blk,j0,none⟩ hv0)
       ·exact hs.keep.frz _ hpl
     ·have hne:(j == i) = false:=by simpa using hji
      rw [hne] at hj
      exact hs.apart hb hji (hh j bj hj hg)
  ·exact Snd.fail
 ·exact Snd.fail

theorem stAlt_snd {N:Nat} {R:List Rg} {Q:Rg -> Prop} {β:Beta} {ρ:Env} (hΓ:Gd.d ρ Γ = true) {w w':World} {new:List C} {r:Rg} (id off:Nat) (hb:BetaOk N R Q β w):∀ (l:List (B × Nat × Nat)) (hp:Hp) (rest:B),
  (rest.d ρ = true -> Stored β ρ w w' (pick ρ l id off).1 (pick ρ l id off).2 new r) -> (∃ i o,Stored β ρ w w' i o new r) ->
  Snd Φ ρ (stAlt Γ new hp rest l id off) (fun hp'=>heapMt β ρ hp (if rest.d ρ then w else w') -> heapMt β ρ hp' w')
 | [],hp,rest,hs,⟨i0,o0,hs0⟩=>by
  unfold stAlt
  cases hr:rest.d ρ
  ·refine (stOne_snd hΓ hs0 hb rest id off false (by simp [hr])).mono fun hp' h hh=>?_
   simpa using h (by simpa using hh)
  ·refine (stOne_snd hΓ (hs hr) hb rest id off true (fun _=>⟨rfl,rfl,rfl⟩)).mono fun hp' h hh=>?_
   have:=h (by simpa using hh)
   simpa [hr] using this
 | (b,i,o) :: l,hp,rest,hs,hs0=>by
  unfold stAlt
  refine Snd.bind (mkAnd_snd _ _) fun e he=>Snd.bind (mkNot_snd _) fun nb hnb=>Snd.bind (mkAnd_snd _ _) fun rest' hr'=>?_
  have key:Snd Φ ρ (stOne Γ hp e i o new) (fun hp'=>heapMt β ρ hp (if rest.d ρ then w else w') -> heapMt β ρ hp' (if rest.d ρ && !(e.d ρ) then w else w')):=by
   by_cases h:rest.d ρ = true
   ·by_cases h2:b.d ρ = true
    ·have:=hs h
     unfold pick at this
     rw [if_pos h2] at this
     exact stOne_snd hΓ this hb e i o _ (fun _=>⟨h,rfl,rfl⟩)
    ·obtain ⟨i0,o0,hs0⟩:=hs0
     exact stOne_snd hΓ hs0 hb e i o _ (fun hc=>by rw [he] at hc; simp [h2] at hc)
   ·obtain ⟨i0,o0,hs0⟩:=hs0
    exact stOne_snd hΓ hs0 hb e i o _ (fun hc=>by rw [he] at hc; simp [h] at hc)
  refine Snd.bind key fun hp' hk=>?_
  refine (stAlt_snd hΓ id off hb l hp' rest' (fun h=>?_) hs0).mono fun hp'' h hh=>?_
  ·rw [hr',hnb] at h
   simp only [Bool.and_eq_true,Bool.not_eq_true'] at h
   have:=hs h.1
   unfold pick at this
   rw [if_neg (by simp [h.2])] at this
   exact this
  ·have h2:=hk hh
   refine h ?_
   have e2:(rest'.d ρ) = (rest.d ρ && !(e.d ρ)):=by
    rw [hr',hnb,he]
    cases rest.d ρ <;> simp
   rw [e2]
   exact h2

def pixAlts (a:A) (id s k off:Nat):Nat -> Nat -> M (List (B × Nat × Nat))
 | _,0=>pure []
 | j,n + 1=>do
  let b <- mkCm .eql a (.c j)
  let r <- pixAlts a id s k off (j + 1) n
  pure ((b,id,off + j * s + k) :: r)
theorem pixAlts_snd {ρ:Env} (a:A) (id s k off:Nat):∀ (n j:Nat),Snd Φ ρ (pixAlts a id s k off j n) (fun l=>∀ i:Nat,a.d ρ = i -> j <= i -> i <= j + n -> ∀ d,(i = j + n -> d = off + i * s + k) -> pick ρ l id d = (id,off + i * s + k))
 | 0,j=>Snd.pure fun i _ h1 h2 d hd=>by simp [pick,hd (by omega)]
 | n + 1,j=>by
  unfold pixAlts
  refine Snd.bind (mkCm_snd _ _ _) fun b hb=>Snd.bind (pixAlts_snd a id s k off n (j + 1)) fun r hr=>Snd.pure fun i hi h1 h2 d hd=>?_
  have hb':b.d ρ = decide (i = j):=by
   rw [hb]; simp only [cmB,A.d_c,hi]
   rw [Bool.eq_iff_iff]; simp; omega
  unfold pick
  by_cases e:i = j
  ·rw [if_pos (by simp [hb',e]),e]
  ·rw [if_neg (by simp [hb',e])]
   exact hr i hi (by omega) (by omega) d fun h=>hd (by omega)

def collectW (hp:Hp):List Nat -> List (Nat × Blk)
 | []=>[]
 | i :: l=>match hp i with
  | some b=>(i,b) :: collectW hp l
  | none=>collectW hp l
theorem collectW_mem {hp:Hp}:∀ {l:List Nat} {p:Nat × Blk},p ∈ collectW hp l -> p.1 ∈ l /\ hp p.1 = some p.2
 | [],p,h=>by simp [collectW] at h
 | i :: l,p,h=>by
  unfold collectW at h
  split at h
  ·rename_i b hb
   rcases List.mem_cons.1 h with rfl | h
   ·exact ⟨by simp,hb⟩
   ·obtain ⟨h1,h2⟩:=collectW_mem h
    exact ⟨by simp [h1],h2⟩
  ·obtain ⟨h1,h2⟩:=collectW_mem h
   exact ⟨by simp [h1],h2⟩
theorem collectW_ids {hp:Hp}:∀ {l:List Nat} {i:Nat},i ∈ l -> (hp i).isSome = true -> i ∈ (collectW hp l).map (·.1)
 | [],_,h,_=>by cases h
 | j :: l,i,h,hs=>by
  unfold collectW
  rcases List.mem_cons.1 h with rfl | h
  ·split
   ·simp
   ·rename_i hn; rw [hn] at hs; cases hs
  ·split
   ·have:=collectW_ids (hp:=hp) h hs; simp only [List.map_cons,List.mem_cons]; exact .inr this
   ·exact collectW_ids h hs

def chk (Γ:Gd) (hp:Hp) (n i o:Nat):Bool:=match hp i with | some b=>Gd.sub b.g Γ && !b.ro && Nat.ble (o + n) b.cells.length && (vecOf b.cells).isNone | none=>false
def chkAll (Γ:Gd) (hp:Hp) (n:Nat) (l:List (B × Nat × Nat)) (id off:Nat):Bool:=chk Γ hp n id off && l.all fun p=>chk Γ hp n p.2.1 p.2.2
theorem chkAll_pick {ρ:Env} {n id off:Nat}:∀ {l:List (B × Nat × Nat)},chkAll Γ hp n l id off = true -> chk Γ hp n (pick ρ l id off).1 (pick ρ l id off).2 = true
 | [],h=>by simpa [chkAll,pick] using h
 | (b,i,o) :: l,h=>by
  unfold chkAll at h
  simp only [List.all_cons,Bool.and_eq_true] at h
  unfold pick
  split
  ·exact h.2.1
  ·exact chkAll_pick (by unfold chkAll; simp only [Bool.and_eq_true]; exact ⟨h.1,h.2.2⟩)
def idsOf (l:List (B × Nat × Nat)) (id:Nat):List Nat:=if (ptrIds l).contains id then ptrIds l else id :: ptrIds l
theorem pick_idsOf {ρ:Env} (id off:Nat) (l:List (B × Nat × Nat)):(pick ρ l id off).1 ∈ idsOf l id:=by
 unfold idsOf
 rcases pick_mem (ρ:=ρ) id off l with h | h
 ·split
  ·rename_i hc; rw [h]; simpa using hc
  ·rw [h]; simp
 ·split
  ·exact h
  ·simp [h]
def gOk (Γ:Gd) (hp:Hp) (ids:List Nat):Bool:=ids.all fun i=>match hp i with | some b=>Gd.sub b.g Γ | none=>false

def xStore (P:Program) (Γ:Gd) (hp:Hp) (t:TypeId) (x y:S):M Res:=do
 let n <- lift (sizeN P t)
 let new <- lift y.cells
 if new.length == n && Nat.ble 1 n then
  match x with
  | .one false [.ptr l id off]=>do
   let hp' <- stAlt Γ new hp (.c true) l id off
   if chkAll Γ hp n l id off && gOk Γ hp' (idsOf l id) then pure { s:=.any,w:=collectW hp' (idsOf l id) } else M.fail
  | .one false [.pix id off s len a k]=>do
   let l <- pixAlts a id s k off 0 (len - 1)
   let hp' <- stAlt Γ new hp (.c true) l id (off + (len - 1) * s + k)
   if chkAll Γ hp n l id (off + (len - 1) * s + k) && gOk Γ hp' (idsOf l id) then pure { s:=.any,w:=collectW hp' (idsOf l id) } else M.fail
  | _=>M.fail
 else M.fail

theorem stored_run {β:Beta} {ρ:Env} {w:World} (hh:heapMt β ρ hp w) (hΓ:Gd.d ρ Γ = true) {id off:Nat} {n:Nat} (hn1:1 <= n) (hw:chk Γ hp n id off = true) {t:TypeId} (ht:sizeN P t = some n)
  {new:List C} {v:Value} (hn:new.length = n) (hv:mtL β ρ new v.cells.toList) (hvo:∀ u,u ∈ v.cells.toList -> oneCell u = true) :
  ∃ r,β id = some r /\ r.ro = false /\ ∃ w',(storeVar t ⟨r.blk,r.off + off,none⟩ v).run P w = .ok () w' /\ Stored β ρ w w' id off new r:=by
 unfold chk at hw
 split at hw
 ·rename_i b hb
  simp only [Bool.and_eq_true,Bool.not_eq_true',Nat.ble_eq,Option.isNone_iff_eq_none] at hw
  obtain ⟨⟨hw,hw3⟩,hvn⟩:=hw
  obtain ⟨r,hr,_,hl,hro,hc,hf⟩:=(blkMt_cs hvn).1 (hh id b hb (Gd.sub_d hw.1 hΓ))
  have hlen:=mtL_length hv
  rw [cellsAt_iff] at hc
  obtain ⟨w',h1,h2,h3,h4⟩:=run_storeCells (P:=P) (b:=r.blk) (o:=r.off + off) v.cells.toList 0 w hvo (fun j hj=>by
   have hjl:off + j < b.cells.length:=by omega
   obtain ⟨u,hu,_⟩:=hc (off + j) _ (List.getElem?_eq_getElem hjl)
   refine ⟨⟨u,?_⟩,?_⟩
   ·rwa [show r.off + off + 0 + j = r.off + (off + j) by omega]
   ·rw [show r.off + off + 0 + j = r.off + (off + j) by omega]
    exact hf hw.2 _ hjl)
  have hlive:∃ j v,w.cell? ⟨r.blk,j,none⟩ = some v:=by
   obtain ⟨u,hu,_⟩:=hc off _ (List.getElem?_eq_getElem (by omega))
   exact ⟨_,u,hu⟩
  refine ⟨r,hr,hro.trans hw.2,w',?_,hr,hro.trans hw.2,by omega,?_,?_,?_,hlive⟩
  ·unfold storeVar
   rw [Sem.run_bind,sizeN_spec ht w]
   have:¬ (v.cells.size ≠ n):=by rw [<- Array.length_toList]; omega
   simp only [Result.andThen_ok,Sem.run_bind,Sem.run_ite,this,if_false]
   exact h1
  ·rw [cellsAt_iff]
   intro j c hj
   obtain ⟨u,hu,hm⟩:=mtL_get hv j c hj
   exact ⟨u,by have:=h2 j u hu; simpa using this,hm⟩
  ·rw [hlen]; simpa using h3
  ·intro a ha
   exact h4 a (by rw [hlen] at ha; simpa using ha)
 ·cases hw

theorem Stored.keep' {β:Beta} {ρ:Env} {w w':World} {id off:Nat} {new:List C} {r:Rg} (h:Stored β ρ w w' id off new r):Keep [r] w w':=by
 refine (Keep.refl [r] w).trans h.keep fun q hq=>?_
 simp only [List.mem_singleton] at hq
 subst hq
 exact .inr ⟨r,by simp,rfl,by simp,by have:=h.le; simp; omega⟩
theorem mtL_oneCell {β:Beta} {ρ:Env}:∀ {l:List C} {vs:List Value},mtL β ρ l vs -> ∀ u,u ∈ vs -> oneCell u = true
 | [],[],_,u,hu=>by cases hu
 | _ :: _,_ :: _,⟨h1,h2⟩,u,hu=>by
  rcases List.mem_cons.1 hu with rfl | hu
  ·exact C.mt_oneCell h1
  ·exact mtL_oneCell h2 u hu

theorem LOk.of_snd {o:Oper} {m:M Res} (h:∀ ρ,Gd.d ρ Γ = true -> Snd Φ ρ m (fun res=>∀ (N:Nat) (R:List Rg) (Q:Rg -> Prop) (β:Beta) (a:Act) (w:World),
  (∀ x,x ∈ o.op.operands -> (rv x).mt β ρ (a.eval x)) -> heapMt β ρ hp w -> BetaOk N R Q β w -> N <= w.heap.size -> G β w -> OpG P o a w (fun v w'=>∀ lo hi,RPost N R Q ρ β w lo hi res v w'))) :
  LOk P Φ G Γ hp rv o m:=fun ρ c res c' out he hg hΓ N R Q β a w hx hh hb hN hG _ =>
 (h ρ hΓ c res c' out he hg N R Q β a w hx hh hb hN hG).mono fun v w' hv=>hv _ _

theorem store_tail {ρ:Env} (hΓ:Gd.d ρ Γ = true) {t:TypeId} {n:Nat} (ht:sizeN P t = some n) {x y:Operand} {new:List C} (hy:(rs Γ (rv y)).cells = some new) (hn:new.length = n) (hn1:1 <= n)
  (l:List (B × Nat × Nat)) (id off:Nat) (hptr:∀ (β:Beta) (ac:Act),(rv x).mt β ρ (ac.eval x) -> ∃ r,β (pick ρ l id off).1 = some r /\ ac.eval x = .pointer (some ⟨r.blk,r.off + (pick ρ l id off).2,none⟩)) :
  Snd Φ ρ (do
   let hp' <- stAlt Γ new hp (.c true) l id off
   if chkAll Γ hp n l id off && gOk Γ hp' (idsOf l id) then pure { s:=.any,w:=collectW hp' (idsOf l id) } else M.fail:M Res)
   (fun res=>∀ (N:Nat) (R:List Rg) (Q:Rg -> Prop) (β:Beta) (a:Act) (w:World),
  (∀ z,z ∈ (Op.store t x y).operands -> (rv z).mt β ρ (a.eval z)) -> heapMt β ρ hp w -> BetaOk N R Q β w -> N <= w.heap.size -> G β w -> OpG P ⟨dst,.store t x y,ty,pos,after,guard⟩ a w (fun v w'=>∀ lo hi,RPost N R Q ρ β w lo hi res v w')):=by
 intro c res c' out he hg N R Q β a w hx hh hb hN hG
 have hyv:=rs_mt hΓ (hx y (by simp [Op.operands]))
 have hyc:mtL β ρ new (a.eval y).cells.toList:=by
  cases hs:rs Γ (rv y) with
  | one agg l' =>
   rw [hs] at hyv hy
   simp only [S.cells,Option.some.injEq] at hy
   subst hy
   exact mtL_cells hyv
  | tup _=>rw [hs] at hy; simp [S.cells] at hy
  | any=>rw [hs] at hy; simp [S.cells] at hy
 obtain ⟨q,hq,hqv⟩:=hptr β a (hx x (by simp [Op.operands]))
 by_cases hchk:chkAll Γ hp n l id off = true
 ·obtain ⟨r,hr,hro,w',hrun,hst⟩:=stored_run (P:=P) hh hΓ hn1 (chkAll_pick (ρ:=ρ) hchk) ht hn hyc (mtL_oneCell hyc)
  have hrq:q = r:=by rw [hr] at hq; cases hq; rfl
  subst hrq
  have hrun2:(execOp a.eval ⟨dst,.store t x y,ty,pos,after,guard⟩).run P w = .ok .skip w':=by
   simp [execOp,Instr.storeAt,Instr.sureAddr,hqv,hrun]
  have key:Snd Φ ρ (do
   let hp' <- stAlt Γ new hp (.c true) l id off
   if chkAll Γ hp n l id off && gOk Γ hp' (idsOf l id) then pure { s:=.any,w:=collectW hp' (idsOf l id) } else M.fail:M Res)
    (fun res=>∃ hp',heapMt β ρ hp' w' /\ gOk Γ hp' (idsOf l id) = true /\ res = { s:=.any,w:=collectW hp' (idsOf l id) }):=by
   refine Snd.bind (stAlt_snd hΓ id off hb l hp (.c true) (fun _=>hst) ⟨_,_,hst⟩) fun hp' hh'=>?_
   split
   ·rename_i hc
    simp only [Bool.and_eq_true] at hc
    exact Snd.pure ⟨hp',hh' (by simpa using hh),hc.2,rfl⟩
   ·exact Snd.fail
  obtain ⟨hp',hh',hgo,rfl⟩:=key c res c' out he hg
  refine OpG.skip hrun2 fun lo hi=>⟨β,⟨ExtP.refl _ β,hb.keep (W:=[_]) (fun r' hr'=>List.mem_singleton.1 hr' ▸ ⟨_,hst.at_,hst.ro⟩) hst.keep',⟨[_],fun r' hr'=>?_,hst.keep'⟩,fun _ _ _=>rfl,by simp⟩,trivial,fun p hp2=>?_⟩
  ·simp only [List.mem_singleton] at hr'
   subst hr'
   have hm:=pick_idsOf (ρ:=ρ) id off l
   have hs:(hp' (pick ρ l id off).1).isSome = true:=by
    have:=(List.all_eq_true.1 hgo) _ hm
    cases hx:hp' (pick ρ l id off).1 with
    | none=>rw [hx] at this; cases this
    | some b=>rfl
   exact ⟨_,collectW_ids hm hs,hr,hro,hst.live⟩
  ·obtain ⟨h1,h2⟩:=collectW_mem hp2
   have:=(List.all_eq_true.1 hgo) _ h1
   rw [h2] at this
   exact hh' _ _ h2 (Gd.sub_d this hΓ)
 ·exfalso
  have key:Snd Φ ρ (do
   let hp' <- stAlt Γ new hp (.c true) l id off
   if chkAll Γ hp n l id off && gOk Γ hp' (idsOf l id) then pure { s:=.any,w:=collectW hp' (idsOf l id) } else M.fail:M Res) (fun _=>False):=by
   refine Snd.bind Snd.triv fun hp' _=>?_
   split
   ·rename_i hc
    simp only [Bool.and_eq_true] at hc
    exact absurd hc.1 hchk
   ·exact Snd.fail
  exact key c res c' out he hg

theorem ok_store (t:TypeId) (x y:Operand):LOk P Φ G Γ hp rv ⟨dst,.store t x y,ty,pos,after,guard⟩ (xStore P Γ hp t (rs Γ (rv x)) (rs Γ (rv y))):=by
 refine LOk.of_snd fun ρ hΓ=>?_
 unfold xStore
 refine Snd.bind (lift_snd _) fun n hn=>Snd.bind (lift_snd _) fun new hnew=>?_
 split
 ·rename_i hlen
  simp only [Bool.and_eq_true,beq_iff_eq,Nat.ble_eq] at hlen
  obtain ⟨hlen,hn1⟩:=hlen
  split
  ·rename_i l id off h1
   exact store_tail hΓ hn hnew hlen hn1 l id off fun β ac hx=>mt_cell h1 (rs_mt hΓ hx)
  ·rename_i id off s len a k h1
   refine Snd.bind (pixAlts_snd a id s k off (len - 1) 0) fun l hl=>store_tail hΓ hn hnew hlen hn1 l id _ fun β ac hx=>?_
   obtain ⟨h0,hlt,r,hr,hv⟩:=mt_cell h1 (rs_mt hΓ hx)
   obtain ⟨i,hi⟩:=Int.eq_ofNat_of_zero_le h0
   have:=hl i hi (by omega) (by omega) (off + (len - 1) * s + k) (fun h=>by rw [h]; simp)
   rw [this]
   refine ⟨r,hr,?_⟩
   rw [hv,hi]
   simp
  ·exact Snd.fail
 ·exact Snd.fail
end ops
end Go.Proofs.YtfgbfdlacnihkaaGreatDoor.Sx
namespace Go.Proofs.YtfgbfdlacnihkaaGreatDoor.Sx
open Go

def ckFields (P:Program) (g:TypeId -> Option (List CK)):List Field -> Nat -> Option (List CK)
 | [],_=>some []
 | f :: fs,off=>if f.offset == off then (match g f.type with
   | some l=>if l.length == P.cellsOf f.type then (match ckFields P g fs (off + l.length) with
     | some r=>some (l ++ r)
     | none=>none) else none
   | none=>none) else none
def repCK (l:List CK):Nat -> List CK
 | 0=>[]
 | n + 1=>l ++ repCK l n
def ckPlain:CK -> Bool
 | .int _=>true
 | .bool=>true
 | .str=>true
 | _=>false
def ckOf (P:Program):Nat -> TypeId -> Option (List CK)
 | 0,_=>none
 | n + 1,t=>match P.underlying t with
  | some .bool=>some [.bool]
  | some (.int k)=>some [.int k]
  | some .string=>some [.str]
  | some (.slice e)=>match ckOf P n e with
   | some ks=>if ks.length == P.cellsOf e && !ks.isEmpty && ks.all ckPlain then some [.sl ks] else none
   | none=>none
  | some (.struct fs)=>match ckFields P (ckOf P n) fs.toList 0 with
   | some l=>if l.length == P.cellsOf t then some l else none
   | none=>none
  | some (.array m e)=>match ckOf P n e with
   | some l=>if l.length == P.cellsOf e && m * l.length == P.cellsOf t then some (repCK l m) else none
   | none=>none
  | _=>none
def kz1:CK -> Value -> Bool
 | .int k,.int k' n=>k' == k && n == 0
 | .bool,.bool b=>!b
 | .str,.string s=>s.data.toList.isEmpty
 | _,_=>false
theorem kz1_spec {ck:CK} {v:Value} (h:kz1 ck v = true):ckv ck 0 v:=by
 unfold kz1 at h
 split at h
 ·rename_i k k' n
  simp only [Bool.and_eq_true,beq_iff_eq] at h
  rw [h.1,h.2]
  refine ⟨rfl,?_⟩
  cases k <;> exact ⟨by decide,by decide⟩
 ·rename_i b; simp at h; subst h; exact ⟨.inl rfl,rfl⟩
 ·rename_i s
  simp only [List.isEmpty_iff] at h
  refine ⟨s,rfl,?_,?_⟩
  ·unfold encS bytesI; rw [h]; rfl
  ·have:s.size = 0:=by show s.data.size = 0; rw [<- Array.length_toList,h]; rfl
   rw [this]
   exact ⟨by decide,by decide⟩
 ·cases h
def kzL:List CK -> List Value -> Bool
 | [],[]=>true
 | ck :: ks,v :: vs=>kz1 ck v && kzL ks vs
 | _,_=>false
theorem kzL_spec:∀ {ks:List CK} {vs:List Value},kzL ks vs = true -> ks.length = vs.length /\ ∀ (j:Nat) (v:Value),vs[j]? = some v -> ∃ ck,ks[j]? = some ck /\ ckv ck 0 v
 | [],[],_=>⟨rfl,by simp⟩
 | ck :: ks,v :: vs,h=>by
  simp only [kzL,Bool.and_eq_true] at h
  obtain ⟨h1,h2⟩:=kzL_spec h.2
  refine ⟨by simp [h1],fun j u hj=>?_⟩
  cases j with
  | zero=>simp at hj; subst hj; exact ⟨ck,rfl,kz1_spec h.1⟩
  | succ j=>simpa using h2 j u (by simpa using hj)
 | [],_ :: _,h=>by simp [kzL] at h
 | _ :: _,[],h=>by simp [kzL] at h
def rowTy (P:Program) (t:TypeId):Option (List CK × Nat) :=
 match P.underlying t with
 | some (.slice e)=>match P.info? e,ckOf P 8 e with
  | some i,some ks=>match i.zero with
   | some z=>if i.size == ks.length && !ks.isEmpty && kzL ks z.cells.toList && Nat.blt 0 i.bytes && Nat.ble i.bytes 65536 then some (ks,i.bytes) else none
   | none=>none
  | _,_=>none
 | _=>none
structure RowTy (P:Program) (t:TypeId) (ks:List CK) (bytes:Nat) (e:TypeId) (i:TypeInfo) (z:Value):Prop where
 ut:P.underlying t = some (.slice e)
 info:P.info? e = some i
 zero:i.zero = some z
 size:i.size = ks.length
 ne:ks ≠ []
 zs:z.cells.size = ks.length
 zv:∀ (j:Nat) (v:Value),z.cells[j]? = some v -> ∃ ck,ks[j]? = some ck /\ ckv ck 0 v
 by_:i.bytes = bytes
 b0:0 < bytes
 b1:bytes <= 65536
theorem rowTy_spec {P:Program} {t:TypeId} {ks:List CK} {bytes:Nat} (h:rowTy P t = some (ks,bytes)):∃ e i z,RowTy P t ks bytes e i z:=by
 unfold rowTy at h
 split at h
 ·rename_i e hu
  split at h
  ·rename_i i ks' hi hk
   split at h
   ·rename_i z hz
    split at h
    ·rename_i hc
     cases h
     simp only [Bool.and_eq_true,beq_iff_eq,Bool.not_eq_true',List.isEmpty_eq_false_iff,Nat.blt_eq,Nat.ble_eq] at hc
     obtain ⟨⟨⟨⟨h1,h2⟩,h3⟩,h4⟩,h5⟩:=hc
     obtain ⟨g1,g2⟩:=kzL_spec h3
     exact ⟨e,i,z,hu,hi,hz,h1,h2,by rw [g1,Array.length_toList],fun j v hv=>g2 j v (by rw [Array.getElem?_toList]; exact hv),rfl,h4,h5⟩
    ·cases h
   ·cases h
  ·cases h
 ·cases h

def setL:List Int -> Nat -> List Int -> List Int
 | l,_,[]=>l
 | l,o,n :: ns=>setL (l.set o n) (o + 1) ns
theorem setL_length:∀ {ns l:List Int} {o:Nat},(setL l o ns).length = l.length
 | [],_,_=>rfl
 | n :: ns,l,o=>by rw [setL,setL_length,List.length_set]
theorem setL_get:∀ {ns l:List Int} {o j:Nat},(setL l o ns)[j]? = if o <= j /\ j < o + ns.length /\ j < l.length then ns[j - o]? else l[j]?
 | [],l,o,j=>by rw [if_neg (by simp; omega)]; rfl
 | n :: ns,l,o,j=>by
  rw [setL,setL_get,List.length_set,List.getElem?_set]
  by_cases h1:j = o
  ·subst h1
   rw [if_neg (by omega),if_pos rfl]
   by_cases h2:j < l.length
   ·rw [if_pos h2,if_pos ⟨Nat.le_refl _,by simp,h2⟩]; simp
   ·rw [if_neg h2,if_neg (by omega),List.getElem?_eq_none (by omega)]
  ·by_cases h2:o <= j /\ j < o + (n :: ns).length /\ j < l.length
   ·rw [if_pos h2,if_pos (by simp at h2 ⊢; omega)]
    obtain ⟨m,rfl⟩:∃ m,j = o + (m + 1):=⟨j - o - 1,by omega⟩
    rw [show o + (m + 1) - (o + 1) = m by omega,show o + (m + 1) - o = m + 1 by omega]
    simp
   ·rw [if_neg h2,if_neg (by simp at h2 ⊢; omega),if_neg (by omega)]
def numOf:CK -> C -> M A
 | .int k,.int k' a=>if k' == k then pure a else M.fail
 | .bool,.bool b=>mkB2i b
 | .str,c=>lift (asStr c)
 | _,_=>M.fail
theorem numOf_snd {Φ:Funs} {ρ:Env} (ck:CK) (c:C):Snd Φ ρ (numOf ck c) (fun a=>∀ β v,c.mt β ρ v -> ckv ck (a.d ρ) v):=by
 unfold numOf
 split
 ·split
  ·rename_i h; simp only [beq_iff_eq] at h; subst h; exact Snd.pure fun β v h=>h
  ·exact Snd.fail
 ·rename_i b
  refine (mkB2i_snd b).mono fun a ha β v h=>?_
  rw [ha,show v = _ from h]
  cases b.d ρ
  ·exact ⟨.inl rfl,rfl⟩
  ·exact ⟨.inr rfl,rfl⟩
 ·refine (lift_snd _).mono fun a ha β v h=>?_
  obtain ⟨s,h1,h2,h3⟩:=asStr_mt ha h
  exact ⟨s,h1,h2,h3⟩
 ·exact Snd.fail
def numsOf:List CK -> List C -> M (List A)
 | [],[]=>pure []
 | ck :: ks,c :: cs=>do
  let a <- numOf ck c
  let l <- numsOf ks cs
  pure (a :: l)
 | _,_=>M.fail
theorem numsOf_snd {Φ:Funs} {ρ:Env}:∀ (ks:List CK) (cs:List C),Snd Φ ρ (numsOf ks cs) (fun aS=>aS.length = cs.length /\ ks.length = cs.length /\ ∀ β vs,mtL β ρ cs vs -> ∀ (j:Nat) (n:Int),(aS.map (A.d ρ))[j]? = some n -> ∃ ck v,ks[j]? = some ck /\ vs[j]? = some v /\ ckv ck n v)
 | [],[]=>Snd.pure ⟨rfl,rfl,fun β vs _ j n h=>by simp at h⟩
 | ck :: ks,c :: cs=>by
  unfold numsOf
  refine Snd.bind (numOf_snd ck c) fun a ha=>Snd.bind (numsOf_snd ks cs) fun l hl=>Snd.pure ⟨by simp [hl.1],by simp [hl.2.1],fun β vs hm j n hj=>?_⟩
  cases vs with
  | nil=>exact hm.elim
  | cons v vs =>
   cases j with
   | zero=>simp at hj; subst hj; exact ⟨ck,v,rfl,rfl,ha β v hm.1⟩
   | succ j=>simpa using hl.2.2 β vs hm.2 j n (by simpa using hj)
 | [],_ :: _=>Snd.fail
 | _ :: _,[]=>Snd.fail
def setAll (s:Nat) (a:A):Nat -> List A -> A -> M A
 | _,[],q=>pure q
 | k,x :: xs,q=>do
  let q' <- mkSetq q a s k x
  setAll s a (k + 1) xs q'
theorem setAll_snd {Φ:Funs} {ρ:Env} (s:Nat) (a:A):∀ (xs:List A) (k:Nat) (q:A),Snd Φ ρ (setAll s a k xs q) (fun z=>∀ l,q.d ρ = enc l -> z.d ρ = enc (setL l ((a.d ρ).toNat * s + k) (xs.map (A.d ρ))))
 | [],k,q=>Snd.pure fun l h=>h
 | x :: xs,k,q=>by
  unfold setAll
  refine Snd.bind (mkSetq_snd _ _ _ _ _) fun q' hq'=>(setAll_snd s a xs (k + 1) q').mono fun z hz l hl=>?_
  rw [hl,dec_enc] at hq'
  rw [hz _ hq']
  rfl

section ops
variable {P:Program} {Φ:Funs} {G:Beta -> World -> Prop} {Γ:Gd} {hp:Hp} {rv:Operand -> SV} {dst:Option Tmp} {ty:TypeId} {pos:String} {after:Array Edge} {guard:Option (Nat × Bool)}

def xStoreR (P:Program) (Γ:Gd) (hp:Hp) (t:TypeId) (x y:S):M Res :=
 match x with
 | .one false [.pxm id ks a k]=>do
  let n <- lift (sizeN P t)
  let new <- lift y.cells
  let r <- lift (rowOf Γ hp id ks)
  if new.length == n && Nat.ble 1 n && Nat.ble (k + n) ks.length then do
   let xs <- numsOf ((ks.drop k).take n) new
   let q <- setAll ks.length a k xs r.1
   pure { s:=.any,w:=[(id,{ g:=[],ro:=false,cells:=[.vec ks q r.2] })] }
  else M.fail
 | x=>xStore P Γ hp t x y
theorem ok_storeR (t:TypeId) (x y:Operand):LOk P Φ G Γ hp rv ⟨dst,.store t x y,ty,pos,after,guard⟩ (xStoreR P Γ hp t (rs Γ (rv x)) (rs Γ (rv y))):=by
 unfold xStoreR
 split
 ·rename_i id ks a k h1
  refine LOk.of_snd fun ρ hΓ=>?_
  refine Snd.bind (lift_snd _) fun n ht=>Snd.bind (lift_snd _) fun new hy=>Snd.bind (lift_snd _) fun rr hrr=>?_
  split
  ·rename_i hc
   simp only [Bool.and_eq_true,beq_iff_eq,Nat.ble_eq] at hc
   obtain ⟨⟨hn,hn1⟩,hk⟩:=hc
   refine Snd.bind (numsOf_snd _ _) fun xs hxs=>Snd.bind (setAll_snd _ _ _ _ _) fun q hq=>Snd.pure fun N R Q β ac w hx hh hb hN hG=>?_
   have hyv:=rs_mt hΓ (hx y (by simp [Op.operands]))
   have hyc:mtL β ρ new (ac.eval y).cells.toList:=by
    cases hs:rs Γ (rv y) with
    | one agg l' =>
     rw [hs] at hyv hy
     simp only [S.cells,Option.some.injEq] at hy
     subst hy
     exact mtL_cells hyv
    | tup _=>rw [hs] at hy; simp [S.cells] at hy
    | any=>rw [hs] at hy; simp [S.cells] at hy
   have hlen:=mtL_length hyc
   obtain ⟨h0,r,hr,hrow,hlt,hv⟩:=mt_cell h1 (rs_mt hΓ (hx x (by simp [Op.operands])))
   obtain ⟨r',cap,l,hr',_,hro,hne,hcl,hrc,hqe,hnn,hin,hll,hsq,hcells⟩:=rowOf_spec hΓ (q:=rr.1) (n:=rr.2) hrr hh
   rw [hr] at hr'
   cases hr'
   obtain ⟨hx1,hx2,hx3⟩:=hxs
   have hmul:((a.d ρ).toNat + 1) * ks.length <= r.rn * ks.length:=Nat.mul_le_mul_right _ hlt
   have hmul2:r.rn * ks.length <= cap * ks.length:=Nat.mul_le_mul_right _ hrc
   rw [Nat.add_mul] at hmul
   have hin2:∀ j,j < n -> (a.d ρ).toNat * ks.length + k + j < r.len:=fun j hj=>by omega
   obtain ⟨w',g1,g2,g3,g4⟩:=run_storeCells (P:=P) (b:=r.blk) (o:=r.off + ((a.d ρ).toNat * ks.length + k)) (ac.eval y).cells.toList 0 w (mtL_oneCell hyc) (fun j hj=>by
    have hj2:=hin2 j (by omega)
    obtain ⟨⟨u,hu,_⟩,hf⟩:=hcells _ hj2
    rw [show r.off + ((a.d ρ).toNat * ks.length + k) + 0 + j = r.off + ((a.d ρ).toNat * ks.length + k + j) by omega]
    exact ⟨⟨u,hu⟩,hf⟩)
   have hrun:(execOp ac.eval ⟨dst,.store t x y,ty,pos,after,guard⟩).run P w = .ok .skip w':=by
    have hs1:(storeVar t ⟨r.blk,r.off + ((a.d ρ).toNat * ks.length + k),none⟩ (ac.eval y)).run P w = .ok () w':=by
     unfold storeVar
     rw [Sem.run_bind,sizeN_spec ht w]
     have:¬ ((ac.eval y).cells.size ≠ n):=by rw [<- Array.length_toList]; omega
     simp only [Result.andThen_ok,Sem.run_bind,Sem.run_ite,this,if_false]
     exact g1
    simp [execOp,Instr.storeAt,Instr.sureAddr,hv,hs1]
   have hkeep:Keep [r] w w':=by
    refine (Keep.refl [r] w).trans g3 fun p hp'=>?_
    simp only [List.mem_singleton] at hp'
    subst hp'
    refine .inr ⟨r,by simp,rfl,?_,?_⟩ <;> simp only <;> omega
   have hlive:∃ j v,w.cell? ⟨r.blk,j,none⟩ = some v:=by
    obtain ⟨⟨u,hu,_⟩,_⟩:=hcells _ (hin2 0 (by omega))
    exact ⟨_,u,hu⟩
   refine OpG.skip hrun fun lo hi=>⟨β,⟨ExtP.refl _ β,hb.keep (W:=[r]) (fun r' hr'=>List.mem_singleton.1 hr' ▸ ⟨_,hr,hro⟩) hkeep,⟨[r],fun r' hr'=>?_,hkeep⟩,fun _ _ _=>rfl,by simp⟩,trivial,fun p hp2=>?_⟩
   ·simp only [List.mem_singleton] at hr'
    subst hr'
    exact ⟨id,by simp,hr,hro,hlive⟩
   ·simp only [List.mem_singleton] at hp2
    subst hp2
    have hpl:r.blk < w.heap.size:=by obtain ⟨j,v,h⟩:=hlive; exact World.block_lt_of_cell? w ⟨r.blk,j,none⟩ h
    refine (blkMt_row (x:=(ks,q,rr.2)) rfl).2 ⟨rfl,r,cap,setL l ((a.d ρ).toNat * ks.length + k) (xs.map (A.d ρ)),hr,hrow,hro,hne,hcl,hrc,hq l hqe,hnn,hin,by rw [setL_length]; exact hll,?_,fun j hj=>?_⟩
    ·intro j m hj
     rw [setL_get] at hj
     split at hj
     ·rename_i hc
      obtain ⟨c1,c2,c3⟩:=hc
      simp only [List.length_map] at c2
      obtain ⟨ck,v,e1,e2,e3⟩:=hx3 β _ hyc _ m hj
      have hjn:j - ((a.d ρ).toNat * ks.length + k) < n:=by omega
      refine ⟨ck,v,?_,?_,e3⟩
      ·rw [List.getElem?_take,if_pos hjn,List.getElem?_drop] at e1
       have:j % ks.length = k + (j - ((a.d ρ).toNat * ks.length + k)):=by
        obtain ⟨m,hm⟩:∃ m,j = (a.d ρ).toNat * ks.length + (k + m):=⟨j - ((a.d ρ).toNat * ks.length + k),by omega⟩
        rw [hm,mod_in (by omega)]
        omega
       rw [this]
       exact e1
      ·have:=g2 _ _ e2
       rwa [show r.off + ((a.d ρ).toNat * ks.length + k) + 0 + (j - ((a.d ρ).toNat * ks.length + k)) = r.off + j by omega] at this
     ·rename_i hc
      obtain ⟨ck,v,e1,e2,e3⟩:=hsq j m hj
      have hjl:=(List.getElem?_eq_some_iff.1 hj).1
      refine ⟨ck,v,e1,?_,e3⟩
      rw [g4 _ ?_]
      ·exact e2
      ·unfold inRg
       simp only [List.length_map] at hc
       simp only
       omega
    ·refine ⟨?_,(hkeep.frz _ hpl).trans (hcells j hj).2⟩
     by_cases hj2:(a.d ρ).toNat * ks.length + k <= j /\ j < (a.d ρ).toNat * ks.length + k + n
     ·obtain ⟨u,hu⟩:∃ u,(ac.eval y).cells.toList[j - ((a.d ρ).toNat * ks.length + k)]? = some u:=⟨_,List.getElem?_eq_getElem (by omega)⟩
      refine ⟨u,?_,mtL_oneCell hyc u (List.mem_of_getElem? hu)⟩
      have:=g2 _ _ hu
      rwa [show r.off + ((a.d ρ).toNat * ks.length + k) + 0 + (j - ((a.d ρ).toNat * ks.length + k)) = r.off + j by omega] at this
     ·obtain ⟨u,hu,ho⟩:=(hcells j hj).1
      refine ⟨u,?_,ho⟩
      rw [g4 _ ?_]
      ·exact hu
      ·unfold inRg
       simp only
       omega
  ·exact Snd.fail
 ·rename_i hns
  exact ok_store t x y
end ops
end Go.Proofs.YtfgbfdlacnihkaaGreatDoor.Sx
namespace Go.Proofs.YtfgbfdlacnihkaaGreatDoor.Sx
open Go

theorem M.bind_inv {α γ:Type} {m:M α} {f:α -> M γ} {c:Ctr} {r:γ × Ctr × List Em} (h:(m >>= f) c = some r):∃ x c1 o1 c2 o2 y,m c = some (x,c1,o1) /\ f x c1 = some (y,c2,o2) /\ r = (y,c2,o1 ++ o2):=by
 simp only [Bind.bind,M.bind] at h
 cases h1:m c with
 | none=>rw [h1] at h; cases h
 | some p =>
  obtain ⟨x,c1,o1⟩:=p
  rw [h1] at h
  simp only at h
  cases h2:f x c1 with
  | none=>rw [h2] at h; cases h
  | some q =>
   obtain ⟨y,c2,o2⟩:=q
   rw [h2] at h
   simp only [Option.some.injEq] at h
   exact ⟨x,c1,o1,c2,o2,y,rfl,h2,h.symm⟩
theorem M.pure_inv {α:Type} {x:α} {c:Ctr} {r:α × Ctr × List Em} (h:(Pure.pure x:M α) c = some r):r = (x,c,[]):=by
 simp only [Pure.pure,M.pure,Option.some.injEq] at h
 exact h.symm
theorem lift_inv {α:Type} {o:Option α} {c:Ctr} {r:α × Ctr × List Em} (h:lift o c = some r):∃ x,o = some x /\ r = (x,c,[]):=by
 cases o with
 | none=>simp [lift,M.fail] at h
 | some x=>exact ⟨x,rfl,M.pure_inv h⟩
theorem under_inv {α:Type} {g:Gd} {m:M α} {c:Ctr} {r:α × Ctr × List Em} (h:M.under g m c = some r):∃ x c1 o1,m c = some (x,c1,o1) /\ r = (x,c1,o1.map (M.emG g)):=by
 simp only [M.under] at h
 cases h1:m c with
 | none=>rw [h1] at h; cases h
 | some p =>
  obtain ⟨x,c1,o1⟩:=p
  rw [h1] at h
  simp only [Option.some.injEq] at h
  exact ⟨x,c1,o1,rfl,h.symm⟩

def rowRg (blk len n:Nat):Rg:={ blk:=blk,off:=0,len:=len,ro:=false,row:=true,rn:=n }
theorem row_new {β:Beta} {ρ:Env} {w:World} {id:Nat} {ks:List CK} {q n:A} (hne:ks ≠ []) (arr:Array Value) (e:TypeId) {l:List Int} {m cap:Nat} (ha:arr.size = cap * ks.length) (hl:l.length = m * ks.length) (hm:m <= cap)
  (hq:q.d ρ = enc l) (hn:n.d ρ = (m:Int)) (hin:InR .i64 (m:Int)) (hc:∀ (j:Nat) (x:Int),l[j]? = some x -> ∃ ck v,ks[j % ks.length]? = some ck /\ arr[j]? = some v /\ ckv ck x v)
  (ho:∀ (j:Nat) (v:Value),arr[j]? = some v -> oneCell v = true):rowMt (β.set id (rowRg w.heap.size (cap * ks.length) m)) ρ (w.alloc (.cells arr e)) id ks q n:=by
 refine ⟨_,cap,l,Beta.set_same _ _ _,rfl,rfl,hne,rfl,hm,hq,hn,by rw [hn]; exact hin,hl,fun j x hj=>?_,fun j hj=>?_⟩
 ·obtain ⟨ck,v,h1,h2,h3⟩:=hc j x hj
  exact ⟨ck,v,h1,by simpa [rowRg] using h2,h3⟩
 ·have hj':j < arr.size:=by rw [ha]; exact hj
  refine ⟨⟨arr[j],by simp [rowRg,hj'],ho j _ (by simp [hj'])⟩,by simp [rowRg]⟩
theorem row_nil {β:Beta} {ρ:Env} {w:World} {id:Nat} {ks:List CK} {q n:A} (hne:ks ≠ []) (b:Nat) (hq:q.d ρ = enc []) (hn:n.d ρ = 0):rowMt (β.set id (rowRg b 0 0)) ρ w id ks q n:=by
 refine ⟨_,0,[],Beta.set_same _ _ _,rfl,rfl,hne,by simp [rowRg],Nat.le_refl _,hq,hn,by rw [hn]; exact ⟨by decide,by decide⟩,by simp [rowRg],fun j x hj=>by simp at hj,fun j hj=>?_⟩
 simp [rowRg] at hj
theorem slm_new {β:Beta} {ρ:Env} {id:Nat} {ks:List CK} {b cap m:Nat} (hm:m <= cap):(S.one false [.slm id ks]).mt (β.set id (rowRg b (cap * ks.length) m)) ρ (.slice (some ⟨b,0,none⟩) m cap) :=
 ⟨_,rfl,_,cap,_,Beta.set_same _ _ _,rfl,rfl,hm,rfl,.inr rfl⟩
theorem slm_nil {β:Beta} {ρ:Env} {id:Nat} {ks:List CK} (b:Nat) (p:Option Addr):(S.one false [.slm id ks]).mt (β.set id (rowRg b 0 0)) ρ (.slice p 0 0) :=
 ⟨_,rfl,_,0,p,Beta.set_same _ _ _,rfl,by simp [rowRg],Nat.le_refl _,rfl,.inl rfl⟩
def rowW (id:Nat) (ks:List CK) (q n:A):List (Nat × Blk):=[(id,{ g:=[],ro:=false,cells:=[.vec ks q n] })]
theorem rowW_mt {β:Beta} {ρ:Env} {w:World} {id:Nat} {ks:List CK} {q n:A} (h:rowMt β ρ w id ks q n):∀ p,p ∈ rowW id ks q n -> blkMt β ρ w p.1 p.2:=by
 intro p hp
 simp only [rowW,List.mem_singleton] at hp
 subst hp
 exact (blkMt_row (x:=(ks,q,n)) rfl).2 ⟨rfl,h⟩

section ops
variable {P:Program} {Φ:Funs} {G:Beta -> World -> Prop} {Γ:Gd} {hp:Hp} {rv:Operand -> SV} {dst:Option Tmp} {ty:TypeId} {pos:String} {after:Array Edge} {guard:Option (Nat × Bool)}

theorem step_rowNew {N:Nat} {R:List Rg} {Q:Rg -> Prop} {β:Beta} {w w1:World} {lo hi id:Nat} (hlo:lo <= id) (hhi:id < hi) (hn:β id = none) (hb:BetaOk N R Q β w) (hN:N <= w.heap.size) (len m:Nat) (o:Obj)
  (hk:Keep [] w w1) (hs:w1.heap.size = w.heap.size):Step N R Q β w [id] [] lo hi (β.set id (rowRg w1.heap.size len m)) (w1.alloc o):=by
 have hk2:Keep [] w (w1.alloc o):=hk.trans (Keep.alloc [] w1 o) (by simp)
 refine ⟨Beta.set_ext _ hn,?_,⟨[],by simp,hk2⟩,fun i hi' _=>Beta.set_other _ _ (by omega),by simp⟩
 exact hb.bind (W:=[]) (by simp) hk2 (fun j q _ hj=>.inr (hb.new_apart (by simp [rowRg,hs]) hj)) (.inr (by simp [rowRg])) (.inr (.inl (by simp [rowRg]; omega))) (by simp [rowRg]) (by simp [rowRg]) (by simp [rowRg])
theorem step_rowNil {N:Nat} {R:List Rg} {Q:Rg -> Prop} {β:Beta} {w:World} {lo hi id:Nat} (hlo:lo <= id) (hhi:id < hi) (hn:β id = none) (hb:BetaOk N R Q β w) (hN:N <= w.heap.size) :
  Step N R Q β w [id] [] lo hi (β.set id (rowRg w.heap.size 0 0)) w:=by
 refine ⟨Beta.set_ext _ hn,?_,⟨[],by simp,Keep.refl _ _⟩,fun i hi' _=>Beta.set_other _ _ (by omega),by simp⟩
 exact hb.bind (W:=[]) (by simp) (Keep.refl _ _) (fun j q _ hj=>.inr (hb.new_apart (by simp [rowRg]) hj)) (.inl rfl) (.inr (.inl (by simp [rowRg]; omega))) (by simp [rowRg]) (by simp [rowRg]) (by simp [rowRg])

def getId:M Nat:=fun c=>some (c.id,c,[])
def withId (f:Nat -> M Res):M Res:=do
 let id <- newId
 let r <- f id
 let hi <- getId
 if Nat.blt id hi then pure r else M.fail
theorem LOk.withId {o:Oper} {f:Nat -> M Res} (h:∀ ρ,Gd.d ρ Γ = true -> ∀ id,Snd Φ ρ (f id) (fun res=>∀ (N:Nat) (R:List Rg) (Q:Rg -> Prop) (β:Beta) (a:Act) (w:World),
  (∀ x,x ∈ o.op.operands -> (rv x).mt β ρ (a.eval x)) -> heapMt β ρ hp w -> BetaOk N R Q β w -> N <= w.heap.size -> G β w -> β id = none -> OpG P o a w (fun v w'=>∀ lo hi,lo <= id -> id < hi -> RPost N R Q ρ β w lo hi res v w'))) :
  LOk P Φ G Γ hp rv o (Sx.withId f):=by
 intro ρ c res c' out he hg hΓ N R Q β a w hx hh hb hN hG hf
 unfold Sx.withId at he
 obtain ⟨x1,c1,o1,c2,o2,y,g1,g2,e1⟩:=M.bind_inv he
 simp only [newId,Option.some.injEq,Prod.mk.injEq] at g1
 obtain ⟨rfl,rfl,rfl⟩:=g1
 obtain ⟨r,c3,o3,c4,o4,y2,g3,g4,e2⟩:=M.bind_inv g2
 obtain ⟨hi,c5,o5,c6,o6,y3,g5,g6,e3⟩:=M.bind_inv g4
 simp only [getId,Option.some.injEq,Prod.mk.injEq] at g5
 obtain ⟨rfl,rfl,rfl⟩:=g5
 split at g6
 ·rename_i hlt
  have e4:=M.pure_inv g6
  simp only [Prod.mk.injEq] at e4 e3 e2 e1
  obtain ⟨rfl,rfl,rfl⟩:=e4
  obtain ⟨rfl,rfl,rfl⟩:=e3
  obtain ⟨rfl,rfl,rfl⟩:=e2
  obtain ⟨rfl,rfl,rfl⟩:=e1
  simp only [List.append_nil,List.nil_append] at hg
  rw [Nat.blt_eq] at hlt
  exact (h ρ hΓ c.id _ _ _ _ g3 hg N R Q β a w hx hh hb hN hG (hf c.id (Nat.le_refl _) hlt)).mono fun v w' hv=>hv _ _ (Nat.le_refl _) hlt
 ·cases g6

def xMakeSlice (P:Program) (t:TypeId) (len cap:S):M Res:=do
 let p <- lift (rowTy P t)
 match len,cap with
 | .one false [.int _ a],.one false [.int _ b]=>if a.eq b then (withId fun id=>do
   let b1 <- mkCm .geq a (.c 0)
   oblige b1
   let b2 <- mkCm .leq a (.c (281474976710656 / p.2:Nat))
   oblige b2
   let q <- mkRep a p.1.length
   pure { s:=.one false [.slm id p.1],w:=rowW id p.1 q a }) else M.fail
 | _,_=>M.fail
theorem getElem_made {z:Array Value} {n s:Nat} (hz:z.size = s) (hs:0 < s) {j:Nat} {v:Value} (h:(madeCells z (n * s))[j]? = some v):z[j % s]? = some v:=by
 unfold madeCells at h
 rw [Array.getElem?_map,Option.map_eq_some_iff] at h
 obtain ⟨i,hi,rfl⟩:=h
 rw [Array.getElem?_range] at hi
 split at hi
 ·cases hi
  have hlt:j % s < z.size:=by rw [hz]; exact Nat.mod_lt _ hs
  rw [hz,getElem!_pos z _ hlt]
  simp [hlt]
 ·cases hi
theorem RowTy.klen {t:TypeId} {ks:List CK} {bytes:Nat} {e:TypeId} {i:TypeInfo} {z:Value} (T:RowTy P t ks bytes e i z):0 < ks.length:=by
 have:=T.ne
 cases ks with
 | nil=>exact absurd rfl this
 | cons=>simp
theorem LOk.lift_bind {o:Oper} {α:Type} {x:Option α} {f:α -> M Res} (h:∀ y,x = some y -> LOk P Φ G Γ hp rv o (f y)):LOk P Φ G Γ hp rv o (lift x >>= f):=by
 intro ρ c res c' out he
 obtain ⟨y,h1,he⟩:=snd_lift_inv he
 exact h y h1 ρ c res c' out he
theorem ok_makeSlice (t:TypeId) (len cap:Operand):LOk P Φ G Γ hp rv ⟨dst,.makeSlice t len cap,ty,pos,after,guard⟩ (xMakeSlice P t (rs Γ (rv len)) (rs Γ (rv cap))):=by
 unfold xMakeSlice
 refine LOk.lift_bind fun p h1=>?_
 obtain ⟨ks,bytes⟩:=p
 obtain ⟨e,i,z,T⟩:=rowTy_spec h1
 split
 ·rename_i kl al kc ac hl hc
  split
  ·rename_i hab
   have hab:=A.eq_sound hab
   subst hab
   refine LOk.withId fun ρ hΓ id=>?_
   refine Snd.bind (mkCm_snd _ _ _) fun b1 e1=>Snd.bind (oblige_snd b1) fun _ e2=>Snd.bind (mkCm_snd _ _ _) fun b2 e3=>Snd.bind (oblige_snd b2) fun _ e4=>Snd.bind (mkRep_snd _ _) fun q hq=>Snd.pure fun N R Q β ac w hx hh hb hN hG hfr=>?_
   rw [e1] at e2
   rw [e3] at e4
   replace e2:0 <= al.d ρ:=of_decide_eq_true e2
   replace e4:al.d ρ <= (281474976710656 / bytes:Nat):=of_decide_eq_true e4
   obtain ⟨hv1,hi1⟩:=mt_int hl (rs_mt hΓ (hx len (by simp [Op.operands])))
   obtain ⟨hv2,_⟩:=mt_int hc (rs_mt hΓ (hx cap (by simp [Op.operands])))
   have hkl:=T.klen
   obtain ⟨m,hm⟩:=Int.eq_ofNat_of_zero_le e2
   have hmb:m <= 281474976710656 / bytes:=by omega
   have hmb2:i.bytes * m <= 281474976710656:=by
    rw [T.by_]
    exact Nat.le_trans (Nat.mul_le_mul_left _ hmb) (Nat.mul_div_le _ _)
   have h63:m <= 281474976710656:=Nat.le_trans hmb (Nat.div_le_self _ _)
   have hmb3:(i.bytes:Int) * (m:Int) <= 281474976710656:=by
    have h:((i.bytes * m:Nat):Int) <= 281474976710656:=by omega
    rwa [Int.natCast_mul] at h
   have hrun:=run_make (P:=P) w t e i z T.ut T.info T.zero kl kc (al.d ρ) (al.d ρ) e2 (Int.le_refl _) (by rw [hm]; exact hmb3) (by omega)
   rw [hm,Int.toNat_natCast,T.size] at hrun
   have hin:InR .i64 (m:Int):=⟨by show (-9223372036854775808:Int) <= _; omega,by show _ <= (9223372036854775807:Int); omega⟩
   refine OpG.value (v:=.slice (some ⟨w.heap.size,0,none⟩) m m) (w':=w.alloc (.cells (madeCells z.cells (m * ks.length)) e)) ?_ fun lo hi h2 h3=>⟨β.set id (rowRg w.heap.size (m * ks.length) m),?_,slm_new (Nat.le_refl _),rowW_mt ?_⟩
   ·simp only [execOp,hv1,hv2,hm,Sem.run_bind,hrun,Result.andThen_ok,Sem.run_pure]
   ·exact step_rowNew h2 h3 hfr hb hN _ _ _ (Keep.refl _ _) rfl
   ·refine row_new T.ne (madeCells z.cells (m * ks.length)) e (l:=List.replicate (m * ks.length) 0) (m:=m) (size_madeCells _ _) (by simp) (Nat.le_refl _) (by rw [hq,hm,Int.toNat_natCast]) hm hin (fun j x hj=>?_) (fun j v hj=>?_)
    ·have hjl:j < m * ks.length:=by have:=(List.getElem?_eq_some_iff.1 hj).1; simpa using this
     have hx0:x = 0:=by rw [List.getElem?_replicate,if_pos hjl] at hj; simpa using hj.symm
     subst hx0
     have hjs:j < (madeCells z.cells (m * ks.length)).size:=by rw [size_madeCells]; exact hjl
     have hget:(madeCells z.cells (m * ks.length))[j]? = some (madeCells z.cells (m * ks.length))[j]:=by simp [hjs]
     obtain ⟨ck,hck,hkv⟩:=T.zv _ _ (getElem_made T.zs hkl hget)
     exact ⟨ck,_,hck,hget,hkv⟩
    ·obtain ⟨ck,hck,hkv⟩:=T.zv _ _ (getElem_made T.zs hkl hj)
     exact ckv_one hkv
  ·exact LOk.fail
 ·exact LOk.fail
end ops
end Go.Proofs.YtfgbfdlacnihkaaGreatDoor.Sx
namespace Go.Proofs.YtfgbfdlacnihkaaGreatDoor.Sx
open Go

theorem seq_vals {w:World} {b o:Nat} {ks:List CK}:∀ {l:List Int} {d:Nat},(∀ (j:Nat) (n:Int),l[j]? = some n -> ∃ ck v,ks[(d + j) % ks.length]? = some ck /\ w.cell? ⟨b,o + d + j,none⟩ = some v /\ ckv ck n v) ->
  ∃ us:List Value,us.length = l.length /\ (∀ j u,us[j]? = some u -> w.cell? ⟨b,o + d + j,none⟩ = some u) /\ ∀ (j:Nat) (n:Int),l[j]? = some n -> ∃ ck v,ks[(d + j) % ks.length]? = some ck /\ us[j]? = some v /\ ckv ck n v
 | [],d,_=>⟨[],rfl,by simp,by simp⟩
 | n :: l,d,h=>by
  obtain ⟨ck,v,h1,h2,h3⟩:=h 0 n rfl
  obtain ⟨us,g1,g2,g3⟩:=seq_vals (l:=l) (d:=d + 1) (fun j m hj=>by
   have:=h (j + 1) m (by simpa using hj)
   rwa [show d + (j + 1) = d + 1 + j by omega,show o + d + (j + 1) = o + (d + 1) + j by omega] at this)
  refine ⟨v :: us,by simp [g1],fun j u hj=>?_,fun j m hj=>?_⟩
  ·cases j with
   | zero=>simp at hj; subst hj; exact h2
   | succ j=>have:=g2 j u (by simpa using hj); rwa [show o + (d + 1) + j = o + d + (j + 1) by omega] at this
  ·cases j with
   | zero=>simp at hj; subst hj; exact ⟨ck,v,h1,rfl,h3⟩
   | succ j=>have:=g3 j m (by simpa using hj); rw [show d + 1 + j = d + (j + 1) by omega] at this; simpa using this
theorem seqAt_vals {w:World} {b o:Nat} {ks:List CK} {l:List Int} (h:seqAt w b o ks l):∃ us:List Value,us.length = l.length /\ (∀ j u,us[j]? = some u -> w.cell? ⟨b,o + j,none⟩ = some u) /\
  (∀ (j:Nat) (n:Int),l[j]? = some n -> ∃ ck v,ks[j % ks.length]? = some ck /\ us[j]? = some v /\ ckv ck n v) /\ ∀ u,u ∈ us -> oneCell u = true:=by
 obtain ⟨us,g1,g2,g3⟩:=seq_vals (d:=0) (l:=l) (fun j n hj=>by simpa using h j n hj)
 refine ⟨us,g1,by simpa using g2,by simpa using g3,fun u hu=>?_⟩
 obtain ⟨j,hj⟩:=List.mem_iff_getElem?.1 hu
 have hjl:j < l.length:=by rw [<- g1]; exact (List.getElem?_eq_some_iff.1 hj).1
 obtain ⟨ck,v,_,e2,e3⟩:=g3 j _ (List.getElem?_eq_getElem hjl)
 rw [hj] at e2
 cases e2
 exact ckv_one e3
def SrcOk (w:World) (ks:List CK) (l:List Int) (m:Nat) (v:Value):Prop :=
 ∃ p cap,v = .slice p m cap /\ l.length = m * ks.length /\ (m = 0 \/ ∃ b o,p = some ⟨b,o,none⟩ /\ seqAt w b o ks l)
def srcOf (Γ:Gd) (hp:Hp) (ks:List CK) (s:S):M (A × A) :=
 match s with
 | .one false [.slx ls q n]=>if cksEq ks ls then pure (q,n) else M.fail
 | .one false [.slm id ls]=>if cksEq ks ls then lift (rowOf Γ hp id ks) else M.fail
 | .one false [.sli id off n cap]=>if inR .i64 n then do
   let cs <- lift (ldC Γ hp id off (n * ks.length))
   let aS <- numsOf (repCK ks n) cs
   let q <- mkLst aS
   pure (q,.c n)
  else M.fail
 | .one false [c]=>if asEmp c then pure (.c 0,.c 0) else M.fail
 | _=>M.fail
theorem repCK_get (l:List CK) (hl:0 < l.length):∀ m j,j < m * l.length -> (repCK l m)[j]? = l[j % l.length]?
 | 0,j,h=>by simp at h
 | m + 1,j,h=>by
  rw [repCK]
  by_cases hj:j < l.length
  ·rw [List.getElem?_append_left hj,Nat.mod_eq_of_lt hj]
  ·rw [List.getElem?_append_right (by omega),repCK_get l hl m _ (by rw [Nat.add_mul] at h; omega)]
   congr 1
   rw [Nat.mod_eq_sub_mod (show j >= l.length by omega)]
section
variable {Φ:Funs} {ρ:Env} {Γ:Gd} {hp:Hp}
theorem srcOf_snd (hΓ:Gd.d ρ Γ = true) {ks:List CK} (hkl:0 < ks.length) (s:S):Snd Φ ρ (srcOf Γ hp ks s) (fun r=>∀ β w v,s.mt β ρ v -> heapMt β ρ hp w -> SqOk β w -> ∃ l m,r.1.d ρ = enc l /\ r.2.d ρ = ((m:Nat):Int) /\ InR .i64 (m:Int) /\ SrcOk w ks l m v):=by
 unfold srcOf
 split
 ·rename_i ls q n
  split
  ·rename_i hk
   have hk:=cksEq_sound hk
   subst hk
   refine Snd.pure fun β w v hm hh hq=>?_
   obtain ⟨h0,hin,p,cap,hv,hcap,h3⟩:=mt_cell rfl hm
   obtain ⟨m,hm'⟩:=Int.eq_ofNat_of_zero_le h0
   rw [hm'] at hin hv hcap h3
   rw [Int.toNat_natCast] at hv hcap h3
   rcases h3 with ⟨e1,e2⟩ | ⟨i,r,o,l,hr,hs,e1,e2,e3⟩
   ·exact ⟨[],m,e1,hm',hin,p,cap,hv,by simp [show m = 0 by omega],.inl (by omega)⟩
   ·exact ⟨l,m,e1,hm',hin,p,cap,hv,e2,.inr ⟨_,_,e3,(partSq_seq hq hr hs).2.2.2⟩⟩
  ·exact Snd.fail
 ·rename_i id ls
  split
  ·rename_i hk
   have hk:=cksEq_sound hk
   subst hk
   refine (lift_snd _).mono fun rr hrr β w v hm hh hq=>?_
   obtain ⟨r,cap,p,hr,hrow,hlen,hcap,hs,hp0⟩:=mt_cell rfl hm
   obtain ⟨r',cap',l,hr',_,_,hk0,hlen',hcap',hqe,hne,hin,hll,hsq,_⟩:=rowOf_spec hΓ (q:=rr.1) (n:=rr.2) hrr hh
   rw [hr] at hr'
   cases hr'
   rw [hne] at hin
   refine ⟨l,r.rn,hqe,hne,hin,p,cap,hs,hll,?_⟩
   rcases hp0 with h0 | h0
   ·exact .inl (by omega)
   ·exact .inr ⟨_,_,h0,hsq⟩
  ·exact Snd.fail
 ·rename_i id off n cap
  split
  ·rename_i hin
   refine Snd.bind (lift_snd _) fun cs hcs=>Snd.bind (numsOf_snd _ _) fun aS has=>Snd.bind (mkLst_snd _) fun q hq=>Snd.pure fun β w v hm hh hsq=>?_
   obtain ⟨r,hr,hv⟩:=mt_cell rfl hm
   obtain ⟨hl,r',hr',hc⟩:=ldC_spec hΓ hh hcs
   rw [hr] at hr'
   cases hr'
   obtain ⟨vs,hvl,hvm,hvc⟩:=cellsAt_values hc
   obtain ⟨a1,a2,a3⟩:=has
   refine ⟨aS.map (A.d ρ),n,hq,rfl,inR_spec hin,_,cap,hv,by simp [a1,hl],.inr ⟨_,_,rfl,fun j x hj=>?_⟩⟩
   obtain ⟨ck,u,e1,e2,e3⟩:=a3 β vs hvm j x hj
   have hjl:j < n * ks.length:=by have:=(List.getElem?_eq_some_iff.1 hj).1; simpa [a1,hl] using this
   rw [repCK_get ks hkl n j hjl] at e1
   exact ⟨ck,u,e1,hvc j u e2,e3⟩
  ·exact Snd.fail
 ·rename_i c _ _ _
  split
  ·rename_i he
   refine Snd.pure fun β w v hm hh hq=>?_
   obtain ⟨p,hv⟩:=asEmp_mt he (mt_cell rfl hm)
   exact ⟨[],0,rfl,rfl,⟨by decide,by decide⟩,p,0,hv,by simp,.inl rfl⟩
  ·exact Snd.fail
 ·exact Snd.fail
end

section
variable {P:Program} {w:World} {t ty:TypeId} {ks:List CK} {bytes:Nat} {e:TypeId} {i:TypeInfo} {z:Value}
theorem zc_get {z:Value} {n j:Nat} {v:Value} (hs:0 < z.cells.size) (h:(Builtin.zeroCells z.cells n)[j]? = some v):z.cells[j % z.cells.size]? = some v:=by
 unfold Builtin.zeroCells at h
 rw [Array.getElem?_map,Option.map_eq_some_iff] at h
 obtain ⟨i,hi,rfl⟩:=h
 rw [Array.getElem?_range] at hi
 split at hi
 ·cases hi
  have hlt:j % z.cells.size < z.cells.size:=Nat.mod_lt _ hs
  rw [getElem!_pos z.cells _ hlt]
  simp [hlt]
 ·cases hi
theorem grown_arr (T:RowTy P t ks bytes e i z) {olds news:List Value} {l lx:List Int} {n m cap:Nat} (hn:olds.length = n * ks.length) (hl:l.length = n * ks.length) (hm:news.length = m * ks.length) (hlx:lx.length = m * ks.length) (hcap:n + m <= cap)
  (ho:∀ (j:Nat) (x:Int),l[j]? = some x -> ∃ ck v,ks[j % ks.length]? = some ck /\ olds[j]? = some v /\ ckv ck x v) (hw:∀ (j:Nat) (x:Int),lx[j]? = some x -> ∃ ck v,ks[j % ks.length]? = some ck /\ news[j]? = some v /\ ckv ck x v)
  (ho1:∀ u,u ∈ olds -> oneCell u = true) (hw1:∀ u,u ∈ news -> oneCell u = true) :
  let arr:=olds.toArray ++ news.toArray ++ Builtin.zeroCells z.cells (cap - (n + m))
  arr.size = cap * ks.length /\ (∀ (j:Nat) (x:Int),(l ++ lx)[j]? = some x -> ∃ ck v,ks[j % ks.length]? = some ck /\ arr[j]? = some v /\ ckv ck x v) /\ ∀ (j:Nat) (v:Value),arr[j]? = some v -> oneCell v = true:=by
 have hkl:=T.klen
 refine ⟨?_,fun j x hj=>?_,fun j v hj=>?_⟩
 ·simp only [Array.size_append,List.size_toArray,show ∀ (z:Array Value) (n:Nat),(Builtin.zeroCells z n).size = n * z.size from fun z n=>by simp [Builtin.zeroCells],T.zs,hn,hm]
  rw [<- Nat.add_mul,<- Nat.add_mul]
  congr 1
  omega
 ·by_cases h1:j < l.length
  ·rw [List.getElem?_append_left h1] at hj
   obtain ⟨ck,v,e1,e2,e3⟩:=ho j x hj
   refine ⟨ck,v,e1,?_,e3⟩
   rw [Array.getElem?_append_left (by simp; omega),Array.getElem?_append_left (by simp; omega)]
   simpa using e2
  ·rw [List.getElem?_append_right (by omega)] at hj
   obtain ⟨ck,v,e1,e2,e3⟩:=hw _ x hj
   have hlt:=(List.getElem?_eq_some_iff.1 hj).1
   refine ⟨ck,v,?_,?_,e3⟩
   ·rw [<- e1,hl]
    congr 1
    obtain ⟨d,rfl⟩:∃ d,j = n * ks.length + d:=⟨j - n * ks.length,by omega⟩
    rw [show n * ks.length + d - n * ks.length = d by omega,Nat.mul_comm,Nat.mul_add_mod]
   ·rw [Array.getElem?_append_left (by simp; omega),Array.getElem?_append_right (by simp; omega)]
    have:j - olds.toArray.size = j - l.length:=by simp [hn,hl]
    rw [this]
    simpa using e2
 ·have hv:v ∈ olds.toArray ++ news.toArray ++ Builtin.zeroCells z.cells (cap - (n + m)):=Array.mem_of_getElem? hj
  simp only [Array.mem_append,List.mem_toArray] at hv
  rcases hv with (h | h) | h
  ·exact ho1 v h
  ·exact hw1 v h
  ·obtain ⟨k,hk⟩:=Array.mem_iff_getElem?.1 h
   obtain ⟨ck,_,h3⟩:=T.zv _ _ (zc_get (by rw [T.zs]; exact hkl) hk)
   exact ckv_one h3
end

theorem bytesI_str (l:List Int) (h:∀ n,n ∈ l -> InR .u8 n):bytesI (strOfNums l) = l:=by
 unfold bytesI
 rw [strOfNums_data,List.map_map]
 conv=>rhs; rw [<- List.map_id l]
 refine List.map_congr_left fun n hn=>?_
 obtain ⟨h1,h2⟩:=h n hn
 have h1:0 <= n:=h1
 have h2:n <= 255:=h2
 simp only [Function.comp,id_eq,UInt8.toNat_ofNat']
 omega
def xConvX (P:Program) (Γ:Gd) (hp:Hp) (src dst:TypeId) (x:S):M S :=
 match P.underlying src,P.underlying dst with
 | some (.slice e),some .string=>(match intKindOf P e with
  | some .u8=>do
   let r <- srcOf Γ hp [.int .u8] x
   pure (.one false [.str r.1])
  | _=>M.fail)
 | _,_=>xConv P src dst x
theorem pure_convX {P:Program} {Φ:Funs} {Γ:Gd} {hp:Hp} {rv:Operand -> SV} {dst:Option Tmp} {ty:TypeId} {pos:String} {after:Array Edge} {guard:Option (Nat × Bool)} {ρ:Env} (hΓ:Gd.d ρ Γ = true) (src d:TypeId) (x:Operand) :
  Snd Φ ρ (xConvX P Γ hp src d (rs Γ (rv x))) (Pure P Γ hp rv ⟨dst,.convert src d x,ty,pos,after,guard⟩ ρ):=by
 unfold xConvX
 split
 ·rename_i e h1 h2
  split
  ·rename_i h3
   have h3:=intKindOf_spec h3
   refine Snd.bind (srcOf_snd hΓ (by simp) _) fun r hr=>Snd.pure fun β ac w hx hh hq=>?_
   obtain ⟨l,m,hre,hrm,hin,p,cap,hv,hl,hs⟩:=hr β w _ (rs_mt hΓ (hx x (by simp [Op.operands]))) hh hq
   simp only [List.length_cons,List.length_nil,Nat.zero_add,Nat.mul_one] at hl
   have hrun:(convert src d (ac.eval x)).run P w = .ok (.string (strOfNums l)) w /\ ∀ n,n ∈ l -> InR .u8 n:=by
    rw [hv]
    by_cases hm:m = 0
    ·subst hm
     have:l = []:=List.length_eq_zero_iff.1 hl
     subst this
     refine ⟨?_,by simp⟩
     cases p with
     | none=>rw [run_convert_bytes_nil w src e h1 h3 0 cap d h2]; rfl
     | some ad =>
      rw [run_convert_bytes_string w src d e _ 0 cap h1 h3 h2,run_bytesToString w ad 0 cap [] (run_loadCells_list (P:=P) w ad [] (fun j v hj=>by simp at hj))]
      rfl
    ·obtain ⟨b,o,hp',hsq⟩:=hs.resolve_left hm
     subst hp'
     have hc:∀ j n,l[j]? = some n -> w.cell? ⟨b,o + j,none⟩ = some (.int .u8 n) /\ InR .u8 n:=fun j n hj=>by
      obtain ⟨ck,v,g1,g2,g3⟩:=hsq j n hj
      have:j % 1 = 0:=Nat.mod_one j
      simp only [List.length_cons,List.length_nil,Nat.zero_add,this,List.getElem?_cons_zero,Option.some.injEq] at g1
      subst g1
      obtain ⟨rfl,g4⟩:=g3
      exact ⟨g2,g4⟩
     refine ⟨run_convert_bytes_arg w src e h1 h3 b o m cap l hl (fun i hi=>?_) d h2,fun n hn=>?_⟩
     ·have hi':i < l.length:=by omega
      have:=(hc i _ (List.getElem?_eq_getElem hi')).1
      rw [this]
      simp [List.getD,List.getElem?_eq_getElem hi']
     ·obtain ⟨j,hj⟩:=List.mem_iff_getElem?.1 hn
      exact (hc j n hj).2
   refine ⟨.string (strOfNums l),?_,⟨_,rfl,?_⟩⟩
   ·simp [execOp,hrun.1]
   ·exact ⟨strOfNums l,rfl,by rw [hre]; unfold encS; rw [bytesI_str l hrun.2],by rw [strOfNums_size,hl]; exact hin⟩
  ·exact Snd.fail
 ·exact pure_conv hΓ _ _ _
end Go.Proofs.YtfgbfdlacnihkaaGreatDoor.Sx
namespace Go.Proofs.YtfgbfdlacnihkaaGreatDoor.Sx
open Go

section
variable {P:Program} {w:World} {t ty:TypeId} {ks:List CK} {bytes:Nat} {e:TypeId} {i:TypeInfo} {z:Value}
theorem append_zero (T:RowTy P t ks bytes e i z) (p p':Option Addr) (n cap cap':Nat) (h:n <= cap):(Builtin.append_ #[t,t] ty #[.slice p n cap,.slice p' 0 cap']).run P w = .ok (.slice p n cap) w:=by
 have hf:(Builtin.firstCells i.size 0 (.slice p' 0 cap')).run P w = .ok #[] w:=by
  cases p' with
  | none=>simp [Builtin.firstCells]
  | some a =>
   have:=run_firstCells_some (P:=P) w i.size 0 a 0 cap' [] (by simp) (by simp)
   simpa using this
 cases p with
 | none=>simp [Builtin.append_,run_underlying T.ut,sizeOf,typeInfo,T.info,Builtin.lenOf,hf,h]
 | some a=>simp [Builtin.append_,run_underlying T.ut,sizeOf,typeInfo,T.info,Builtin.lenOf,hf,h,storeCells]
theorem append_room (T:RowTy P t ks bytes e i z) {a b:Addr} {n cap m c:Nat} {news:List Value} {w':World} (hl:news.length = m * ks.length) (hnews:∀ j u,news[j]? = some u -> w.cell? (b.add j) = some u) (h:n + m <= cap)
  (hst:(storeCells (a.add (n * ks.length)) news).run P w = .ok () w'):(Builtin.append_ #[t,t] ty #[.slice (some a) n cap,.slice (some b) m c]).run P w = .ok (.slice (some a) (n + m) cap) w':=by
 have hf:=run_firstCells_some (P:=P) w i.size m b m c news (by rw [T.size]; exact hl) hnews
 simp only [T.size] at hf
 simp [Builtin.append_,run_underlying T.ut,sizeOf,typeInfo,T.info,T.size,Builtin.lenOf,hf,h,hst]
theorem append_new (T:RowTy P t ks bytes e i z) {p:Option Addr} {b:Addr} {n cap m c:Nat} {olds news:List Value} (hp:(n = 0 /\ cap = 0) \/ ∃ a,p = some a /\ ∀ j u,olds[j]? = some u -> w.cell? (a.add j) = some u)
  (ho:olds.length = n * ks.length) (hl:news.length = m * ks.length) (hnews:∀ j u,news[j]? = some u -> w.cell? (b.add j) = some u) (h:cap < n + m) (hK:(n + m) * bytes <= 140737488355328) :
  ∃ cap',n + m <= cap' /\ (p = none -> cap = 0 -> True) /\ ((p = none /\ cap ≠ 0) \/ (Builtin.append_ #[t,t] ty #[.slice p n cap,.slice (some b) m c]).run P w = .ok (.slice (some ⟨w.heap.size,0,none⟩) (n + m) cap')
   (w.drew.alloc (.cells (olds.toArray ++ news.toArray ++ Builtin.zeroCells z.cells (cap' - (n + m))) e))):=by
 have h63:n + m <= 140737488355328:=Nat.le_trans (Nat.le_mul_of_pos_right _ T.b0) hK
 rcases p with _ | a
 ·by_cases hc:cap = 0
  ·subst hc
   have hn:n = 0 \/ n ≠ 0:=by omega
   rcases hp with ⟨hn,_⟩ | ⟨a,ha,_⟩
   ·subst hn
    have hoe:olds = []:=List.eq_nil_of_length_eq_zero (by simpa using ho)
    subst hoe
    have hr:=run_append_nil (P:=P) w t ty e i z T.ut T.info T.zero b m c news (by rw [T.size]; exact hl) hnews (by omega) (by omega) (by rw [T.by_]; simp only [Nat.zero_add] at hK; omega)
    refine ⟨grownCap w m 0 e,by have:=grownCap_ge' w m 0 e; omega,fun _ _=>trivial,.inr ?_⟩
    simpa using hr
   ·cases ha
  ·exact ⟨n + m,Nat.le_refl _,fun _ _=>trivial,.inl ⟨rfl,hc⟩⟩
 ·have holds:∀ j u,olds[j]? = some u -> w.cell? (a.add j) = some u:=by
   rcases hp with ⟨hn,_⟩ | ⟨a',ha,h2⟩
   ·subst hn
    have hoe:olds = []:=List.eq_nil_of_length_eq_zero (by simpa using ho)
    subst hoe
    simp
   ·cases ha; exact h2
  have hr:=run_append_grow (P:=P) w t ty e i z T.ut T.info T.zero a n cap olds (by rw [T.size]; exact ho) holds b m c news (by rw [T.size]; exact hl) hnews h (by omega) (by rw [T.by_]; exact growslice_fits h hK)
  exact ⟨grownCap w (n + m) cap e,grownCap_ge' w _ _ _,fun _ _=>trivial,.inr hr⟩
where
 grownCap_ge' (w:World) (need old:Nat) (e:TypeId):need <= grownCap w need old e:=by
  simp [grownCap,Question.cut]
end

section ops
variable {P:Program} {Φ:Funs} {G:Beta -> World -> Prop} {Γ:Gd} {hp:Hp} {rv:Operand -> SV} {dst:Option Tmp} {ty:TypeId} {pos:String} {after:Array Edge} {guard:Option (Nat × Bool)}
def appK (bytes:Nat):Nat:=70368744177664 / bytes
def slmOf:S -> Option (Nat × List CK)
 | .one false [.slm id ls]=>some (id,ls)
 | _=>none
theorem slmOf_spec {s:S} {id:Nat} {ls:List CK} (h:slmOf s = some (id,ls)):s = .one false [.slm id ls]:=by
 unfold slmOf at h
 split at h
 ·cases h; rfl
 ·cases h
def empOf:S -> Bool
 | .one false [c]=>asEmp c
 | _=>false
theorem empOf_spec {s:S} (h:empOf s = true):∃ c,s = .one false [c] /\ asEmp c = true:=by
 unfold empOf at h
 split at h
 ·exact ⟨_,rfl,h⟩
 ·cases h
def appRow (Γ:Gd) (hp:Hp) (ks:List CK) (bytes:Nat) (p:Nat × List CK) (r:A × A):M Res :=
 if cksEq ks p.2 then do
   let o <- lift (rowOf Γ hp p.1 ks)
   let b <- mkCm .leq o.2 (.c (appK bytes))
   oblige b
   let q <- mkCat o.1 r.1
   let n <- mkAr .add .i64 o.2 r.2
   pure { s:=.one false [.slm p.1 ks],w:=rowW p.1 ks q n,rb:=[p.1] }
  else M.fail
def appTo (Γ:Gd) (hp:Hp) (ks:List CK) (bytes:Nat) (s:S) (r:A × A):M Res :=
 match slmOf s with
 | some p=>appRow Γ hp ks bytes p r
 | none=>if empOf s then Sx.withId fun id=>pure { s:=.one false [.slm id ks],w:=rowW id ks r.1 r.2 } else M.fail
def sameId {α:Type} (m:M α):M α:=fun c =>
 match m c with
 | some (x,c',o)=>if c'.id == c.id then some (x,c',o) else none
 | none=>none
theorem sameId_inv {α:Type} {m:M α} {c c':Ctr} {x:α} {o:List Em} (h:sameId m c = some (x,c',o)):m c = some (x,c',o) /\ c'.id = c.id:=by
 unfold sameId at h
 cases hm:m c with
 | none=>rw [hm] at h; cases h
 | some p =>
  obtain ⟨y,c1,o1⟩:=p
  rw [hm] at h
  simp only at h
  split at h
  ·rename_i he
   simp only [Option.some.injEq,Prod.mk.injEq] at h
   obtain ⟨rfl,rfl,rfl⟩:=h
   exact ⟨rfl,by simpa using he⟩
  ·cases h
def xAppend (P:Program) (Γ:Gd) (hp:Hp) (argTypes:Array TypeId) (xs:List S):M Res :=
 match argTypes.toList,xs with
 | [t,u],[s,x]=>if t == u then do
   let p <- lift (rowTy P t)
   let r <- sameId (do
    let r <- srcOf Γ hp p.1 x
    let b <- mkCm .leq r.2 (.c (appK p.2))
    oblige b
    pure r)
   appTo Γ hp p.1 p.2 s r
  else M.fail
 | _,_=>M.fail
theorem appK_le {bytes n m:Nat} (h1:n <= appK bytes) (h2:m <= appK bytes) (hb:0 < bytes):(n + m) * bytes <= 140737488355328 /\ n + m <= 140737488355328:=by
 unfold appK at *
 have h3:n * bytes <= 70368744177664:=Nat.le_trans (Nat.mul_le_mul_right _ h1) (Nat.div_mul_le_self _ _)
 have h4:m * bytes <= 70368744177664:=Nat.le_trans (Nat.mul_le_mul_right _ h2) (Nat.div_mul_le_self _ _)
 have h5:(n + m) * bytes <= 140737488355328:=by rw [Nat.add_mul]; omega
 exact ⟨h5,Nat.le_trans (Nat.le_mul_of_pos_right _ hb) h5⟩
theorem add_addr (b o j:Nat):Addr.add ⟨b,o,none⟩ j = ⟨b,o + j,none⟩:=add_lit b o j
theorem execOp_append {a:Act} {w w':World} {x y:Operand} {at_:Array TypeId} {v:Value} (h:(Builtin.append_ at_ ty #[a.eval x,a.eval y]).run P w = .ok v w') :
  (execOp a.eval ⟨dst,.call { callee:=.builtin .append,args:=#[x,y],argTypes:=at_ },ty,pos,after,guard⟩).run P w = .ok (.value v) w':=by
 simp [execOp,resolve,invoke,builtin,h]
theorem appTo_ok (t:TypeId) {ks:List CK} {bytes:Nat} {e:TypeId} {i:TypeInfo} {z:Value} (T:RowTy P t ks bytes e i z) (x y:Operand) {ρ:Env} (hΓ:Gd.d ρ Γ = true) (r:A × A) (hb0:r.2.d ρ <= (appK bytes:Nat))
  (hsrc:∀ β w v,(rs Γ (rv y)).mt β ρ v -> heapMt β ρ hp w -> SqOk β w -> ∃ l m,r.1.d ρ = enc l /\ r.2.d ρ = ((m:Nat):Int) /\ InR .i64 (m:Int) /\ SrcOk w ks l m v) :
  ∀ c res c' out,appTo Γ hp ks bytes (rs Γ (rv x)) r c = some (res,c',out) -> Good Φ ρ out -> ∀ (N:Nat) (R:List Rg) (Q:Rg -> Prop) (β:Beta) (a:Act) (w:World),
  (∀ z,z ∈ [x,y] -> (rv z).mt β ρ (a.eval z)) -> heapMt β ρ hp w -> BetaOk N R Q β w -> N <= w.heap.size -> (∀ i,c.id <= i -> i < c'.id -> β i = none) ->
  OpG P ⟨dst,.call { callee:=.builtin .append,args:=#[x,y],argTypes:=#[t,t] },ty,pos,after,guard⟩ a w (RPost N R Q ρ β w c.id c'.id res):=by
 intro c res c' out he hg N R Q β a w hx hh hb hN hf
 obtain ⟨lx,m,hqx,hnx,hinm,p',capx,hvx,hlx,hpx⟩:=hsrc β w _ (rs_mt hΓ (hx y (by simp))) hh hb.sq
 have hkl:=T.klen
 have hmK:m <= appK bytes:=by omega
 unfold appTo at he
 cases hs:slmOf (rs Γ (rv x)) with
 | some pp =>
  obtain ⟨id,ls⟩:=pp
  rw [hs] at he
  simp only at he
  replace hs:=slmOf_spec hs
  unfold appRow at he
  split at he
  ·rename_i hk
   have hk:=cksEq_sound hk
   subst hk
   have key:Snd Φ ρ (do
    let o <- lift (rowOf Γ hp id ks)
    let b <- mkCm .leq o.2 (.c (appK bytes))
    oblige b
    let q <- mkCat o.1 r.1
    let n <- mkAr .add .i64 o.2 r.2
    pure { s:=.one false [.slm id ks],w:=rowW id ks q n,rb:=[id] }:M Res) (fun res=>∃ oq on q n,rowOf Γ hp id ks = some (oq,on) /\ on.d ρ <= (appK bytes:Nat) /\ q.d ρ = enc (dec (oq.d ρ) ++ dec (r.1.d ρ)) /\ n.d ρ = arI .add .i64 (on.d ρ) (r.2.d ρ) /\
     res = { s:=.one false [.slm id ks],w:=rowW id ks q n,rb:=[id] }):=by
    refine Snd.bind (lift_snd _) fun o ho=>Snd.bind (mkCm_snd _ _ _) fun b e1=>Snd.bind (oblige_snd b) fun _ e2=>Snd.bind (mkCat_snd _ _) fun q hq=>Snd.bind (mkAr_snd _ _ _ _) fun n hn=>Snd.pure ⟨o.1,o.2,q,n,ho,?_,hq,hn,rfl⟩
    rw [e1] at e2
    exact of_decide_eq_true e2
   obtain ⟨oq,on,q,n,hro,hbo,hq,hn,rfl⟩:=key c res c' out he hg
   obtain ⟨rg,cap,p,hr,hrow,hlen,hcap,hvs,hp0⟩:=mt_cell hs (rs_mt hΓ (hx x (by simp)))
   obtain ⟨r',cap',l,hr',_,hrno,hk0,hlen',hcap',hqe,hne,hin,hll,hsq,hcells⟩:=rowOf_spec hΓ (q:=oq) (n:=on) hro hh
   rw [hr] at hr'
   cases hr'
   have hcc:cap' = cap:=by
    have:cap' * ks.length = cap * ks.length:=by rw [<- hlen',hlen]
    exact Nat.eq_of_mul_eq_mul_right hkl this
   subst hcc
   obtain ⟨hK,hK2⟩:=appK_le (n:=rg.rn) (m:=m) (by omega) hmK T.b0
   have hnid:id < c.id \/ c'.id <= id:=by
    rcases Nat.lt_or_ge id c.id with h | h
    ·exact .inl h
    ·rcases Nat.lt_or_ge id c'.id with h2 | h2
     ·have:=hf id h h2; rw [hr] at this; cases this
     ·exact .inr h2
   have hqd:q.d ρ = enc (l ++ lx):=by rw [hq,hqe,hqx,dec_enc,dec_enc]
   have hnd:n.d ρ = ((rg.rn + m:Nat):Int):=by
    rw [hn,hne,hnx]
    show IntKind.wrap .i64 _ = _
    rw [IntKind.wrap_i64]
    omega
   have hinn:InR .i64 ((rg.rn + m:Nat):Int):=⟨by show (-9223372036854775808:Int) <= _; omega,by show _ <= (9223372036854775807:Int); omega⟩
   have hlen2:(l ++ lx).length = (rg.rn + m) * ks.length:=by rw [List.length_append,hll,hlx,Nat.add_mul]
   have bindS:∀ (r2:Rg) (w':World) (W:List Rg),(∀ q,q ∈ W -> q = rg /\ ∃ j v,w.cell? ⟨q.blk,j,none⟩ = some v) -> Keep W w w' -> r2.row = true -> r2.ro = false -> r2.sq = none -> (∀ j q,j ≠ id -> β j = some q -> r2.apart q) -> (r2.len = 0 \/ r2.blk < w'.heap.size) -> Cov R N r2 ->
     Step N R Q β w ((rowW id ks q n).map (·.1)) [id] c.id c'.id (β.set id r2) w':=by
    intro r2 w' W hW hk h1 h2 h3 h4 h5 h6
    refine ⟨fun j q' hj hp'=>?_,?_,⟨W,fun q' hq'=>?_,hk⟩,fun j _ hj=>Beta.set_other _ _ (by simpa using hj),fun j hj=>?_⟩
    ·by_cases e:j = id
     ·subst e
      rw [hr] at hj
      cases hj
      rcases hp' with h | h
      ·rw [hrow] at h; cases h
      ·simp at h
     ·rw [Beta.set_other _ _ e]; exact hj
    ·exact hb.bind (W:=W) (fun q' hq'=>⟨id,by rw [(hW q' hq').1]; exact hr,by rw [(hW q' hq').1]; exact hrno⟩) hk (fun j q' hj hβ=>.inr (h4 j q' hj hβ)) h5 (.inr h6) (by rw [h3]; simp) (by rw [h2]; simp) (fun _=>h2)
    ·obtain ⟨e1,e2⟩:=hW q' hq'
     exact ⟨id,by simp [rowW],by rw [e1]; exact hr,by rw [e1]; exact hrno,e2⟩
    ·simp only [List.mem_singleton] at hj
     subst hj
     exact ⟨by simp [rowW],hnid,rg,hr,hrow⟩
   have hapO:∀ j q,j ≠ id -> β j = some q -> rg.apart q:=fun j q' hj hβ=>hb.apartW (Ne.symm hj) hr hβ hrno
   have hcov:Cov R N rg:=(hb.may id rg hr).resolve_left (by rw [hrno]; simp)
   have hspell:∀ v w',(Builtin.append_ #[t,t] ty #[a.eval x,a.eval y]).run P w = .ok v w' -> RPost N R Q ρ β w c.id c'.id { s:=.one false [.slm id ks],w:=rowW id ks q n,rb:=[id] } v w' -> OpG P ⟨dst,.call { callee:=.builtin .append,args:=#[x,y],argTypes:=#[t,t] },ty,pos,after,guard⟩ a w (RPost N R Q ρ β w c.id c'.id { s:=.one false [.slm id ks],w:=rowW id ks q n,rb:=[id] }) :=
    fun v w' h1 h2=>OpG.value (execOp_append h1) h2
   by_cases hm0:m = 0
   ·subst hm0
    have hlx0:lx = []:=List.eq_nil_of_length_eq_zero (by simpa using hlx)
    subst hlx0
    refine hspell _ _ (by rw [hvs,hvx]; exact append_zero T p p' rg.rn cap' capx hcap) ⟨β.set id rg,?_,?_,rowW_mt ?_⟩
    ·exact bindS rg w [] (by simp) (Keep.refl _ _) hrow hrno (by
      cases e:rg.sq with
      | none=>rfl
      | some y=>have:=hb.sq id rg y.1 y.2 hr e; rw [hrow] at this; exact absurd this.2.1 (by simp)) hapO (hb.place id rg hr) hcov
    ·exact ⟨_,rfl,rg,cap',p,Beta.set_same _ _ _,hrow,hlen,hcap,rfl,hp0⟩
    ·exact ⟨rg,cap',l,Beta.set_same _ _ _,hrow,hrno,hk0,hlen,hcap,by simpa using hqd,by simpa using hnd,by simpa [hnd] using hinn,hll,hsq,hcells⟩
   ·rcases hpx with h0 | ⟨bx,ox,hpx,hsx⟩
    ·exact absurd h0 hm0
    ·subst hpx
     obtain ⟨news,hn1,hn2,hn3,hn4⟩:=seqAt_vals hsx
     obtain ⟨olds,ho1,ho2,ho3,ho4⟩:=seqAt_vals hsq
     by_cases hroom:rg.rn + m <= cap'
     ·have hp1:p = some ⟨rg.blk,rg.off,none⟩:=hp0.resolve_left (by omega)
      subst hp1
      have hmulr:(rg.rn + m) * ks.length <= cap' * ks.length:=Nat.mul_le_mul_right _ hroom
      rw [Nat.add_mul] at hmulr
      have hm1:1 * ks.length <= m * ks.length:=Nat.mul_le_mul_right _ (by omega)
      obtain ⟨w',g1,g2,g3,g4⟩:=run_storeCells (P:=P) (b:=rg.blk) (o:=rg.off + rg.rn * ks.length) news 0 w hn4 (fun j hj=>by
       obtain ⟨⟨u,hu,_⟩,hfz⟩:=hcells (rg.rn * ks.length + j) (by rw [hlen]; omega)
       rw [show rg.off + rg.rn * ks.length + 0 + j = rg.off + (rg.rn * ks.length + j) by omega]
       exact ⟨⟨u,hu⟩,hfz⟩)
      have hlive:∃ j v,w.cell? ⟨rg.blk,j,none⟩ = some v:=by
       obtain ⟨⟨u,hu,_⟩,_⟩:=hcells 0 (by rw [hlen]; omega)
       exact ⟨_,u,hu⟩
      have hkeep:Keep [rg] w w':=by
       refine (Keep.refl [rg] w).trans g3 fun q' hq'=>?_
       simp only [List.mem_singleton] at hq'
       subst hq'
       refine .inr ⟨rg,by simp,rfl,?_,?_⟩ <;> simp only <;> omega
      have hpl:rg.blk < w.heap.size:=by obtain ⟨j,v,h⟩:=hlive; exact World.block_lt_of_cell? w ⟨rg.blk,j,none⟩ h
      refine hspell _ _ (by rw [hvs,hvx]; exact append_room T (by rw [hn1,hlx]) (fun j u hj=>by rw [add_addr]; exact hn2 j u hj) hroom (by rw [add_addr]; exact g1)) ⟨β.set id { rg with rn:=rg.rn + m },?_,?_,rowW_mt ?_⟩
      ·exact bindS { rg with rn:=rg.rn + m } w' [rg] (fun q' hq'=>by simp only [List.mem_singleton] at hq'; exact ⟨hq',hq' ▸ hlive⟩) hkeep hrow hrno (by
        show rg.sq = none
        cases e:rg.sq with
        | none=>rfl
        | some y=>have:=hb.sq id rg y.1 y.2 hr e; rw [hrow] at this; exact absurd this.2.1 (by simp)) hapO (.inr (Nat.lt_of_lt_of_le hpl hkeep.size)) hcov
      ·exact ⟨_,rfl,_,cap',_,Beta.set_same _ _ _,hrow,hlen,hroom,rfl,.inr rfl⟩
      ·refine ⟨_,cap',l ++ lx,Beta.set_same _ _ _,hrow,hrno,hk0,hlen,hroom,hqd,hnd,by rw [hnd]; exact hinn,hlen2,fun j x' hj=>?_,fun j hj=>⟨?_,(hkeep.frz _ hpl).trans (hcells j hj).2⟩⟩
       ·by_cases h1:j < l.length
        ·rw [List.getElem?_append_left h1] at hj
         obtain ⟨ck,v,e1,e2,e3⟩:=hsq j x' hj
         refine ⟨ck,v,e1,?_,e3⟩
         rw [g4 _ (by unfold inRg; simp only; omega)]
         exact e2
        ·rw [List.getElem?_append_right (by omega)] at hj
         obtain ⟨ck,v,e1,e2,e3⟩:=hn3 _ x' hj
         refine ⟨ck,v,?_,?_,e3⟩
         ·rw [<- e1,hll]
          congr 1
          obtain ⟨d,rfl⟩:∃ d,j = rg.rn * ks.length + d:=⟨j - rg.rn * ks.length,by omega⟩
          rw [show rg.rn * ks.length + d - rg.rn * ks.length = d by omega,Nat.mul_comm,Nat.mul_add_mod]
         ·have:=g2 _ _ e2
          rwa [show rg.off + rg.rn * ks.length + 0 + (j - l.length) = rg.off + j by omega] at this
       ·by_cases h1:rg.rn * ks.length <= j /\ j < rg.rn * ks.length + news.length
        ·obtain ⟨u,hu⟩:∃ u,news[j - rg.rn * ks.length]? = some u:=⟨_,List.getElem?_eq_getElem (by omega)⟩
         refine ⟨u,?_,hn4 u (List.mem_of_getElem? hu)⟩
         have:=g2 _ _ hu
         rwa [show rg.off + rg.rn * ks.length + 0 + (j - rg.rn * ks.length) = rg.off + j by omega] at this
        ·obtain ⟨u,hu,ho⟩:=(hcells j hj).1
         refine ⟨u,?_,ho⟩
         rw [g4 _ (by unfold inRg; simp only; omega)]
         exact hu
     ·obtain ⟨cap2,hc2,_,hrun⟩:=append_new (P:=P) (w:=w) (ty:=ty) (p:=p) (n:=rg.rn) (cap:=cap') (m:=m) (c:=capx) (b:=⟨bx,ox,none⟩) T (olds:=olds) (news:=news)
        (hp0.imp (fun h=>⟨by omega,h⟩) (fun h=>⟨_,h,fun j u hj=>by rw [add_addr]; exact ho2 j u hj⟩)) (by rw [ho1,hll]) (by rw [hn1,hlx]) (fun j u hj=>by rw [add_addr]; exact hn2 j u hj) (by omega) hK
      have hrun:=hrun.resolve_left (fun h=>by
       rcases hp0 with h0 | h0
       ·exact h.2 h0
       ·rw [h.1] at h0; cases h0)
      obtain ⟨a1,a2,a3⟩:=grown_arr T (olds:=olds) (news:=news) (l:=l) (lx:=lx) (n:=rg.rn) (m:=m) (cap:=cap2) (by rw [ho1,hll]) hll (by rw [hn1,hlx]) hlx hc2 ho3 hn3 ho4 hn4
      have hkd:Keep [] w (w.drew.alloc (.cells (olds.toArray ++ news.toArray ++ Builtin.zeroCells z.cells (cap2 - (rg.rn + m))) e)) :=
       (Keep.drew [] w).trans (Keep.alloc [] w.drew _) (by simp)
      refine hspell _ _ (by rw [hvs,hvx]; exact hrun) ⟨β.set id (rowRg w.heap.size (cap2 * ks.length) (rg.rn + m)),?_,slm_new hc2,rowW_mt ?_⟩
      ·exact bindS (rowRg w.heap.size (cap2 * ks.length) (rg.rn + m)) _ [] (by simp) hkd rfl rfl rfl (fun j q' _ hβ=>hb.new_apart (Nat.le_refl _) hβ) (.inr (by simp [rowRg])) (.inl hN)
      ·have:=row_new (β:=β) (ρ:=ρ) (w:=w.drew) (id:=id) (q:=q) (n:=n) T.ne (olds.toArray ++ news.toArray ++ Builtin.zeroCells z.cells (cap2 - (rg.rn + m))) e a1 hlen2 hc2 hqd hnd hinn a2 a3
       exact this
  ·cases he
 | none =>
  rw [hs] at he
  simp only at he
  split at he
  ·rename_i hemp
   obtain ⟨cc,hs,hemp⟩:=empOf_spec hemp
   unfold Sx.withId at he
   obtain ⟨x1,c1,o1,c2,o2,y1,g1,g2,e1⟩:=M.bind_inv he
   simp only [newId,Option.some.injEq,Prod.mk.injEq] at g1
   obtain ⟨rfl,rfl,rfl⟩:=g1
   obtain ⟨rr,c3,o3,c4,o4,y2,g3,g4,e2⟩:=M.bind_inv g2
   have g3:=M.pure_inv g3
   simp only [Prod.mk.injEq] at g3
   obtain ⟨rfl,rfl,rfl⟩:=g3
   obtain ⟨hi,c5,o5,c6,o6,y3,g5,g6,e3⟩:=M.bind_inv g4
   simp only [getId,Option.some.injEq,Prod.mk.injEq] at g5
   obtain ⟨rfl,rfl,rfl⟩:=g5
   split at g6
   ·rename_i hlt
    have e4:=M.pure_inv g6
    simp only [Prod.mk.injEq] at e4 e3 e2 e1
    obtain ⟨rfl,rfl,rfl⟩:=e4
    obtain ⟨rfl,rfl,rfl⟩:=e3
    obtain ⟨rfl,rfl,rfl⟩:=e2
    obtain ⟨rfl,rfl,rfl⟩:=e1
    have hfr:=hf c.id (Nat.le_refl _) (by simp)
    obtain ⟨p,hvs⟩:=asEmp_mt hemp (mt_cell hs (rs_mt hΓ (hx x (by simp))))
    obtain ⟨hK,hK2⟩:=appK_le (n:=0) (m:=m) (by omega) hmK T.b0
    by_cases hm0:m = 0
    ·subst hm0
     have hlx0:lx = []:=List.eq_nil_of_length_eq_zero (by simpa using hlx)
     subst hlx0
     refine OpG.value (execOp_append (by rw [hvs,hvx]; exact append_zero T p p' 0 0 capx (Nat.le_refl _))) ⟨_,step_rowNil (Nat.le_refl _) (by simp) hfr hb hN,slm_nil _ p,rowW_mt (row_nil T.ne _ hqx (by simpa using hnx))⟩
    ·rcases hpx with h0 | ⟨bx,ox,hpx,hsx⟩
     ·exact absurd h0 hm0
     ·subst hpx
      obtain ⟨news,hn1,hn2,hn3,hn4⟩:=seqAt_vals hsx
      obtain ⟨cap2,hc2,_,hrun⟩:=append_new (P:=P) (w:=w) (ty:=ty) (p:=p) (n:=0) (cap:=0) (m:=m) (c:=capx) (b:=⟨bx,ox,none⟩) T (olds:=[]) (news:=news)
       (.inl ⟨rfl,rfl⟩) (by simp) (by rw [hn1,hlx]) (fun j u hj=>by rw [add_addr]; exact hn2 j u hj) (by omega) hK
      have hrun:=hrun.resolve_left (fun h=>h.2 rfl)
      obtain ⟨a1,a2,a3⟩:=grown_arr T (olds:=[]) (news:=news) (l:=[]) (lx:=lx) (n:=0) (m:=m) (cap:=cap2) (by simp) (by simp) (by rw [hn1,hlx]) hlx hc2 (by simp) hn3 (by simp) hn4
      refine OpG.value (execOp_append (by rw [hvs,hvx]; exact hrun)) ⟨_,step_rowNew (w1:=w.drew) (Nat.le_refl _) (by simp) hfr hb hN (cap2 * ks.length) (0 + m) _ (Keep.drew [] w) rfl,slm_new hc2,rowW_mt ?_⟩
      exact row_new (β:=β) (ρ:=ρ) (w:=w.drew) (id:=c.id) T.ne _ e a1 (by simpa using hlx) hc2 (by simpa using hqx) (by simpa using hnx) (by simpa using hinm) (by simpa using a2) a3
   ·cases g6
  ·cases he
end ops
end Go.Proofs.YtfgbfdlacnihkaaGreatDoor.Sx
namespace Go.Proofs.YtfgbfdlacnihkaaGreatDoor.Sx
open Go

section ops
variable {P:Program} {Φ:Funs} {G:Beta -> World -> Prop} {Γ:Gd} {hp:Hp} {rv:Operand -> SV} {dst:Option Tmp} {ty:TypeId} {pos:String} {after:Array Edge} {guard:Option (Nat × Bool)}
theorem ok_append (args:Array Operand) (argTypes:Array TypeId) :
  LOk P Φ G Γ hp rv ⟨dst,.call { callee:=.builtin .append,args:=args,argTypes:=argTypes },ty,pos,after,guard⟩ (xAppend P Γ hp argTypes (args.toList.map fun x=>rs Γ (rv x))):=by
 unfold xAppend
 split
 ·rename_i t u s x hat hxs
  split
  ·rename_i htu
   simp only [beq_iff_eq] at htu
   subst htu
   obtain ⟨x0,y0,rfl,rfl,rfl⟩:∃ x0 y0,args = #[x0,y0] /\ s = rs Γ (rv x0) /\ x = rs Γ (rv y0):=by
    cases hl:args.toList with
    | nil=>rw [hl] at hxs; simp at hxs
    | cons a l =>
     cases l with
     | nil=>rw [hl] at hxs; simp at hxs
     | cons b l =>
      rw [hl] at hxs
      simp only [List.map_cons,List.cons.injEq,List.map_eq_nil_iff] at hxs
      obtain ⟨h1,h2,rfl⟩:=hxs
      exact ⟨a,b,by apply Array.toList_inj.1; simpa using hl,h1.symm,h2.symm⟩
   have hat':argTypes = #[t,t]:=by apply Array.toList_inj.1; simpa using hat
   subst hat'
   refine LOk.lift_bind fun p h1=>?_
   obtain ⟨ks,bytes⟩:=p
   obtain ⟨e,i,z,T⟩:=rowTy_spec h1
   intro ρ c res c' out he hg hΓ N R Q β a w hx hh hb hN hG hf
   obtain ⟨r,c1,o1,c2,o2,y,g1,g2,e1⟩:=M.bind_inv he
   simp only [Prod.mk.injEq] at e1
   obtain ⟨rfl,rfl,rfl⟩:=e1
   obtain ⟨hg1,hg2⟩:=Good.append.1 hg
   obtain ⟨g1,hid⟩:=sameId_inv g1
   have key:Snd Φ ρ (do
    let r <- srcOf Γ hp ks (rs Γ (rv y0))
    let b <- mkCm .leq r.2 (.c (appK bytes))
    oblige b
    pure r:M (A × A)) (fun r=>r.2.d ρ <= (appK bytes:Nat) /\ ∀ β w v,(rs Γ (rv y0)).mt β ρ v -> heapMt β ρ hp w -> SqOk β w -> ∃ l m,r.1.d ρ = enc l /\ r.2.d ρ = ((m:Nat):Int) /\ InR .i64 (m:Int) /\ SrcOk w ks l m v):=by
    refine Snd.bind (srcOf_snd hΓ T.klen _) fun r hr=>Snd.bind (mkCm_snd _ _ _) fun b e1=>Snd.bind (oblige_snd b) fun _ e2=>Snd.pure ⟨?_,hr⟩
    rw [e1] at e2
    exact of_decide_eq_true e2
   obtain ⟨hb2,hsrc⟩:=key _ _ _ _ g1 hg1
   have:=appTo_ok (P:=P) (Φ:=Φ) (Γ:=Γ) (hp:=hp) (rv:=rv) (dst:=dst) (ty:=ty) (pos:=pos) (after:=after) (guard:=guard) t T x0 y0 hΓ r hb2 hsrc _ _ _ _ g2 hg2 N R Q β a w (fun z hz=>hx z (by simpa [Op.operands,Call.operands] using hz)) hh hb hN (by rw [hid]; exact hf)
   rwa [hid] at this
  ·exact LOk.fail
 ·exact LOk.fail

def xBuildSlice0 (P:Program) (t:TypeId) (len:Nat) (parts:List (Nat × S)):M Res :=
 if len == 0 && parts.isEmpty then do
  let e <- lift (sliceElem P t)
  let _ <- lift (sizeN P e)
  pure { s:=.one false [.emp],w:=[] }
 else xBuildSlice P t len parts
theorem ok_buildSlice0 (t:TypeId) (len:Nat) (parts:Array (Nat × Operand)):LOk P Φ G Γ hp rv ⟨dst,.buildSlice t len parts,ty,pos,after,guard⟩
  (xBuildSlice0 P t len (parts.toList.map fun p=>(p.1,rs Γ (rv p.2)))):=by
 unfold xBuildSlice0
 split
 ·rename_i hc
  simp only [Bool.and_eq_true,beq_iff_eq,List.isEmpty_iff,List.map_eq_nil_iff] at hc
  obtain ⟨rfl,hp0⟩:=hc
  have hp0:parts = #[]:=by apply Array.toList_inj.1; simpa using hp0
  subst hp0
  refine LOk.lift_bind fun e h1=>LOk.lift_bind fun s h2=>LOk.of_snd fun ρ hΓ=>Snd.pure fun N R Q β a w hx hh hb hN hG=>?_
  have hu:P.underlying t = some (.slice e):=by
   unfold sliceElem at h1
   split at h1
   ·rename_i hu; simp only [Option.some.injEq] at h1; subst h1; exact hu
   ·cases h1
  refine OpG.value (v:=.slice (some ⟨w.heap.size,0,none⟩) 0 0) (w':=w.alloc (.cells #[] e)) ?_ fun lo hi=>⟨β,⟨ExtP.refl _ β,hb.keep (W:=[]) (by simp) (Keep.alloc [] w _),⟨[],by simp,Keep.alloc [] w _⟩,fun _ _ _=>rfl,by simp⟩,mt_of_cell ⟨_,rfl⟩,by simp⟩
  simp [execOp,Instr.buildSlice,underlying,hu,sizeN_spec h2 w,newRow,Instr.fill,show Array.range 0 = #[] from rfl]
 ·exact ok_buildSlice t len parts

end ops
end Go.Proofs.YtfgbfdlacnihkaaGreatDoor.Sx
