/-
  Merged texts (PoX, PoY1, PoY2, PoY3, PoS3, SxAr, PoX4). No condition.
-/
import Derived.Laws.RangeString
import Derived.Laws.RangeAny
import Derived.Test.YtfgbfdlacnihkaaDoorPq7
import Derived.Test.YtfgbfdlacnihkaaDoorPq9
import Derived.Test.YtfgbfdlacnihkaaDoorPq10
set_option linter.unusedVariables false
set_option linter.unusedSimpArgs false
namespace Go.Proofs.YtfgbfdlacnihkaaDoor.Po
open Go Go.Proofs Go.Proofs.YtfgbfdlacnihkaaDoor.Sx
theorem lns_10 (l:List UInt8):lns (10 :: l) = [] :: lns l:=by
 conv=>lhs; unfold lns
 rw [if_pos rfl]
theorem lns_c {c:UInt8} (h:c ≠ 10) (l:List UInt8):lns (c :: l) = match lns l with
  | a :: m=>(c :: a) :: m
  | []=>[[c]]:=by
 conv=>lhs; unfold lns
 rw [if_neg h]
 cases lns l <;> rfl
theorem lns_ne:∀ s:List UInt8,lns s ≠ []
 | []=>by simp [lns]
 | c :: s=>by
  by_cases hc:c = 10
  ·subst hc; rw [lns_10]; simp
  ·rw [lns_c hc]; split <;> simp
theorem lns_app:∀ (s t:List UInt8),lns (s ++ 10 :: t) = lns s ++ lns t
 | [],t=>by rw [List.nil_append,lns_10]; rfl
 | c :: s,t=>by
  rw [List.cons_append]
  by_cases hc:c = 10
  ·subst hc; rw [lns_10,lns_10,lns_app s t]; rfl
  ·rw [lns_c hc,lns_c hc,lns_app s t]
   cases h:lns s with
   | nil=>exact absurd h (lns_ne s)
   | cons a m=>rfl
def lineD (l:List UInt8):Option Pol:=lineO nilP l
theorem Pol.cat_nil (P:Pol):P.cat nilP = P:=by
 obtain ⟨p0,p1,r,s⟩:=P
 simp [Pol.cat,nilP]
theorem Pol.nil_cat (P:Pol):nilP.cat P = P:=by
 obtain ⟨p0,p1,r,s⟩:=P
 simp [Pol.cat,nilP]
theorem Pol.cat_assoc (P Q R:Pol):(P.cat Q).cat R = P.cat (Q.cat R):=by
 simp [Pol.cat,Bool.or_assoc,List.append_assoc]
theorem lineO_D (P:Pol) (l:List UInt8):lineO P l = (lineD l).map fun D=>P.cat D:=by
 obtain ⟨p0,p1,r,s⟩:=P
 unfold lineD lineO
 split
 ·simp [nilP,Pol.cat]
 ·split
  ·simp [nilP,Pol.cat]
  ·split
   ·simp [nilP,Pol.cat]
   ·split
    ·cases spanO (Lib.cut l [32]).2.1 2048 <;> simp [nilP,Pol.cat]
    ·split
     ·cases spanO (Lib.cut l [32]).2.1 8192 <;> simp [nilP,Pol.cat]
     ·rfl
theorem foldO_cat:∀ (ls:List (List UInt8)) (P:Pol) (n:Nat),foldO P n ls = match foldO nilP n ls with
  | .inl D=>.inl (P.cat D)
  | .inr k=>.inr k
 | [],P,n=>by simp only [foldO]; rw [Pol.cat_nil]
 | l :: ls,P,n=>by
  simp only [foldO]
  rw [lineO_D P l,lineO_D nilP l]
  cases lineD l with
  | none=>rfl
  | some D =>
   simp only [Option.map_some]
   rw [foldO_cat ls (P.cat D) (n + 1),foldO_cat ls (nilP.cat D) (n + 1)]
   cases foldO nilP (n + 1) ls with
   | inl E=>simp only [Pol.nil_cat,Pol.cat_assoc]
   | inr k=>rfl
theorem foldO_app:∀ (xs ys:List (List UInt8)) (P:Pol) (n:Nat),foldO P n (xs ++ ys) = match foldO P n xs with
  | .inl Q=>foldO Q (n + xs.length) ys
  | .inr k=>.inr k
 | [],ys,P,n=>rfl
 | l :: xs,ys,P,n=>by
  rw [List.cons_append]
  simp only [foldO]
  cases lineO P l with
  | none=>rfl
  | some Q =>
   simp only
   rw [foldO_app xs ys Q (n + 1),List.length_cons,show n + 1 + xs.length = n + (xs.length + 1) by omega]
theorem foldO_num:∀ (ls:List (List UInt8)) (P:Pol) (n m:Nat),foldO P n ls = match foldO P m ls with
  | .inl Q=>.inl Q
  | .inr k=>.inr (k - m + n)
 | [],P,n,m=>rfl
 | l :: ls,P,n,m=>by
  simp only [foldO]
  cases lineO P l with
  | none=>simp only; congr 1; omega
  | some Q =>
   simp only
   rw [foldO_num ls Q (n + 1) m,foldO_num ls Q (m + 1) m]
   cases h:foldO Q m ls with
   | inl R=>rfl
   | inr k=>simp only; congr 1; omega
theorem foldO_pos:∀ (ls:List (List UInt8)) (P:Pol) (n k:Nat),foldO P n ls = .inr k -> n < k
 | [],P,n,k,h=>by simp [foldO] at h
 | l :: ls,P,n,k,h=>by
  simp only [foldO] at h
  cases hl:lineO P l with
  | none=>rw [hl] at h; simp only [Sum.inr.injEq] at h; omega
  | some Q=>rw [hl] at h; have:=foldO_pos ls Q (n + 1) k h; omega
theorem foldO_gd:∀ (ls:List (List UInt8)) (P Q:Pol) (n:Nat),Gdp n P -> foldO P n ls = .inl Q -> Gdp (n + ls.length) Q
 | [],P,Q,n,hg,h=>by simp only [foldO,Sum.inl.injEq] at h; subst h; exact hg
 | l :: ls,P,Q,n,hg,h=>by
  simp only [foldO] at h
  cases hl:lineO P l with
  | none=>rw [hl] at h; cases h
  | some R =>
   rw [hl] at h
   have:=foldO_gd ls R Q (n + 1) (lineO_gd hl hg) h
   rw [List.length_cons,show n + (ls.length + 1) = n + 1 + ls.length by omega]
   exact this
theorem nil_gd:Gdp 0 nilP:=⟨fun p hp=>(by cases hp),fun p hp=>(by cases hp),Nat.le_refl _,Nat.le_refl _⟩
theorem rOk.okL {z:Int} {l m:List Pr} (h:rOk z l) (ht:Tid l m):OkL z m:=by
 refine ⟨ht.tdy,fun p hp=>?_⟩
 have hpp:=(ht.tdy.ok p hp).2
 obtain ⟨q,hq,_,hle⟩:=(ht.plc p.2).1 ⟨p,hp,hpp,Int.le_refl _⟩
 have:=(h q hq).2.2
 omega
theorem Gdp.ok {n:Nat} {P Q:Pol} (h:Gdp n P) (ht:Tdd P Q):Q.ok:=⟨h.r.okL ht.r,h.s.okL ht.s⟩
theorem Tdd.two {A0 B0 A B X J:Pol} (hA:Tdd A0 A) (hB:Tdd B0 B) (hX:Tdd (A0.cat B0) X) (hJ:Tdd (A.cat B) J):X = J:=by
 refine Pol.ext' ?_ ?_ ?_ ?_
 ·rw [hX.p0,hJ.p0]; show (A0.p0 || B0.p0) = (A.p0 || B.p0); rw [hA.p0,hB.p0]
 ·rw [hX.p1,hJ.p1]; show (A0.p1 || B0.p1) = (A.p1 || B.p1); rw [hA.p1,hB.p1]
 ·refine hX.r.uniq ⟨hJ.r.tdy,fun t=>(hJ.r.plc t).trans ?_⟩
  show Plc (A.r ++ B.r) t ↔ Plc (A0.r ++ B0.r) t
  rw [Plc.append,Plc.append,hA.r.plc,hB.r.plc]
 ·refine hX.s.uniq ⟨hJ.s.tdy,fun t=>(hJ.s.plc t).trans ?_⟩
  show Plc (A.s ++ B.s) t ↔ Plc (A0.s ++ B0.s) t
  rw [Plc.append,Plc.append,hA.s.plc,hB.s.plc]
theorem p7 (s:List UInt8) (hs:s.length <= 4096) :
  (∃ k:Nat,0 < k /\ foldO nilP 0 (lns s) = .inr k /\ F7 [eS s] [] = ([0,0,0,0,(k:Int),7],[true,false,false])) \/
  (∃ P Q,foldO nilP 0 (lns s) = .inl P /\ Tdd P Q /\ Q.ok /\ Q.r.length <= 5000 /\ Q.s.length <= 5000 /\ F7 [eS s] [] = ([eP Q.r,Q.r.length,eP Q.s,Q.s.length,0,0],[true,Q.p0,Q.p1])):=by
 obtain ⟨h1,h2⟩:=(w7 s (by omega)).2 hs
 cases h:foldO nilP 0 (lns s) with
 | inl P =>
  obtain ⟨Q,hQ,l1,l2,e⟩:=h1 P h
  exact .inr ⟨P,Q,rfl,hQ,(foldO_gd _ _ _ _ nil_gd h).ok hQ,l1,l2,e⟩
 | inr k=>exact .inl ⟨k,foldO_pos _ _ _ _ h,rfl,h2 k h⟩
theorem eS_cat (a b:List UInt8):enc (dec (eS a) ++ dec (eS b)) = eS (a ++ b):=by
 rw [eS_dec,eS_dec]
 unfold eS ubyt
 rw [List.map_append]
def nlB (r:List UInt8) (i:Nat):Bool:=decide (r.getD i 0 = 10)
theorem t5 {Φ:Funs} (g10:Φ 10 = F10) {r:List UInt8} (hr:r.length <= 100) (i:Nat) (hi:i <= r.length):∃ x y:Bool,L100500.S.run Φ true [eS r,i] [] =
  ([eS r,((i + 1:Nat):Int)],[true,decide (i < r.length) && !nlB r i,decide (i < r.length) && nlB r i,!decide (i < r.length),true]):=by
 refine ⟨true,true,?_⟩
 obtain ⟨ρ,e1,e2,e3,e4⟩:=Smry.run_specT (Φ:=Φ) (S:=L100500.S) (is:=[eS r,i]) (bs:=[]) rfl
 rw [e1,obAll_eq]
 clear e1
 simp only [L100500,obs,Gd.d_cons,Gd.d_nil,eqns,Em.eqn,headsI,headsB,↓RI_ite,↓RB_ite,RI.d,RB.d,A.d,B.d,cm_eql,cm_neq,cm_lss,cm_leq,cm_gtr,cm_geq,List.map_cons,List.map_nil,and_true,Nat.zero_add,Nat.reduceAdd,ltn,upto,true_and,Nat.add_zero,List.getD_cons_zero,List.getD_cons_succ] at e2 e3 e4 ⊢
 simp only [e2,e3,Int.toNat_natCast] at e4 ⊢
 clear e2 e3
 rw [g10,w10] at e4
 simp only [List.getD_cons_zero,List.getD_cons_succ] at e4
 obtain ⟨i2,b0,b1,i3,b2,i4,b3,⟨b4,b5⟩,i5,b6,b7,b8,b9,b10⟩:=e4
 have i2:ρ.i 2 = (r.length:Int):=i2.trans (eS_len r)
 have i3:ρ.i 3 = (r.length:Int):=i3.trans (eS_len r)
 have b0:ρ.b 0 = decide (i < r.length):=by rw [b0,i2,Bool.eq_iff_iff]; simp
 have b1:ρ.b 1 = true:=by rw [b1]; exact decide_eq_true (by omega)
 have b2:ρ.b 2 = decide (i < r.length):=by rw [b2,i3,Bool.eq_iff_iff]; simp
 have i4:ρ.i 4 = ((r.getD i 0).toNat:Int):=i4.trans (eS_get r i)
 have b3:ρ.b 3 = nlB r i:=by
  rw [b3,i4,Bool.eq_iff_iff,beq_iff_eq]
  unfold nlB
  rw [decide_eq_true_eq]
  constructor
  ·intro h
   have:(r.getD i 0).toNat = 10:=by omega
   exact UInt8.toNat_inj.1 this
  ·intro h; rw [h]; rfl
 have i5:ρ.i 5 = ((i + 1:Nat):Int):=by rw [i5,arAdd (by omega) (by omega)]; omega
 simp [b4,b5,b6,b7,b8,b9,b10,b0,b1,b2,b3,i5]
theorem lp5 {Φ:Funs} (g10:Φ 10 = F10) {r:List UInt8} (hr:r.length <= 100) :
  (10 ∈ r -> loopF (L100500.S.run Φ true) 2 0 [eS r,0] [] = ([],[true,true,false,true])) /\
  (10 ∉ r -> loopF (L100500.S.run Φ true) 2 0 [eS r,0] [] = ([],[true,false,true,true])):=by
 have h:=idx_rule (α:=Unit) (F:=L100500.S.run Φ true) (nI:=2) (nB:=0) r.length (fun i _=>[eS r,i]) (fun _ x=>x)
  (fun i _=>if nlB r i then some ([],[true,false,true]) else none) (fun _=>([],[false,true,true])) (fun _ _=>True) (fun i _ hi _ hs=>?_) (fun i _ o hi _ hs=>?_) (fun _ _=>?_) () trivial
 ·have h:loopF (L100500.S.run Φ true) 2 0 [eS r,0] [] = _:=h
  rw [h,search_runI]
  constructor
  ·intro hm
   have:(List.range' 0 r.length).any (nlB r) = true:=by
    rw [List.any_eq_true]
    obtain ⟨i,hi,he⟩:=List.mem_iff_getElem.1 hm
    refine ⟨i,by rw [List.mem_range'_1]; omega,?_⟩
    unfold nlB
    simp [hi,he]
   rw [if_pos this]
  ·intro hm
   have:(List.range' 0 r.length).any (nlB r) = false:=by
    rw [List.any_eq_false]
    intro i hi hn
    rw [List.mem_range'_1] at hi
    unfold nlB at hn
    rw [decide_eq_true_eq] at hn
    have hlt:i < r.length:=by omega
    rw [List.getD_eq_getElem?_getD,List.getElem?_eq_getElem hlt,Option.getD_some] at hn
    exact hm (hn ▸ List.getElem_mem hlt)
   rw [if_neg (by rw [this]; exact Bool.false_ne_true)]
 ·obtain ⟨_,_,e⟩:=t5 g10 hr i (Nat.le_of_lt hi)
  rw [e]
  simp only [hi,decide_true,Bool.true_and]
  cases hn:nlB r i
  ·exact ⟨_,rfl,rfl,rfl,trivial⟩
  ·rw [hn] at hs; simp at hs
 ·obtain ⟨_,_,e⟩:=t5 g10 hr i (Nat.le_of_lt hi)
  rw [e]
  simp only [hi,decide_true,Bool.true_and]
  cases hn:nlB r i
  ·rw [hn] at hs; simp at hs
  ·rw [hn] at hs
   simp only [if_true,Option.some.injEq] at hs
   subst hs
   exact ⟨_,rfl,rfl⟩
 ·obtain ⟨_,_,e⟩:=t5 g10 hr r.length (Nat.le_refl _)
  rw [e]
  simp only [Nat.lt_irrefl,decide_false,Bool.false_and]
  exact ⟨_,rfl,rfl⟩
theorem skip_hash (r:List UInt8) (P:Pol):lineO P (35 :: r) = some P:=by
 unfold lineO
 rw [if_pos]
 unfold skip
 simp
theorem skip_nil (P:Pol):lineO P [] = some P:=by
 unfold lineO
 rw [if_pos]
 rfl
set_option maxHeartbeats 4000000 in
theorem v5 (s t r:List UInt8):F5 [eS s,eS t,eS r] [] = ([],[true,true]):=by
 have hlp:(lpF (l5.map (·.2)) (tabF T33)) 100500 = loopF (L100500.S.run (tabF T33) true) 2 0:=by kernel_rfl
 have g10:(lpF (l5.map (·.2)) (tabF T33)) 10 = F10:=by kernel_rfl
 have g7:(lpF (l5.map (·.2)) (tabF T33)) 7 = F7:=by kernel_rfl
 have g12:(lpF (l5.map (·.2)) (tabF T33)) 12 = F12:=by kernel_rfl
 have g9:(lpF (l5.map (·.2)) (tabF T33)) 9 = F9:=by kernel_rfl
 have q10:(tabF T33) 10 = F10:=by kernel_rfl
 have hlo:=fun h=>lp5 (Φ:=tabF T33) q10 (r:=r) h
 have hF:F5 [eS s,eS t,eS r] [] = S5.run (lpF (l5.map (·.2)) (tabF T33)) true [eS s,eS t,eS r] []:=rfl
 rw [hF]
 clear hF q10
 generalize lpF (l5.map (·.2)) (tabF T33) = Φ at hlp g10 g7 g12 g9
 generalize tabF T33 = Ψ at hlp hlo
 obtain ⟨ρ,e1,e2,e3,e4⟩:=Smry.run_specT (Φ:=Φ) (S:=S5) (is:=[eS s,eS t,eS r]) (bs:=[]) rfl
 rw [e1,obAll_eq]
 clear e1
 simp only [S5,obs,Gd.d_cons,Gd.d_nil,eqns,Em.eqn,headsI,headsB,↓RI_ite,↓RB_ite,RI.d,RB.d,A.d,B.d,cm_eql,cm_neq,cm_lss,cm_leq,cm_gtr,cm_geq,List.map_cons,List.map_nil,and_true,Nat.zero_add,Nat.reduceAdd,ltn,upto,true_and,Nat.add_zero,List.getD_cons_zero,List.getD_cons_succ] at e2 e3 e4 ⊢
 simp only [e2,e3,Int.toNat_natCast] at e4 ⊢
 clear e2 e3
 rw [hlp,g10,g7,g12,g9,w10] at e4
 simp only [List.getD_cons_zero,List.getD_cons_succ] at e4
 obtain ⟨i3,b0,i4,b1,b2,i5,b3,b4,⟨b5,b6⟩,⟨b7,b8,b9,b10⟩,⟨⟨i6,i7,i8,i9,i10,i11⟩,b11,b12,b13⟩,⟨⟨i12,i13,i14,i15,i16,i17⟩,b14,b15,b16⟩,b17,b18,b19,i18,b20,i19,i20,b21,i21,b22,i22,⟨⟨i23,i24,i25,i26,i27,i28⟩,b23,b24,b25⟩,b26,b27,b28,⟨b29,b30⟩,b31,i29,b32,i30,i31,b33,i32,b34,i33,i34,b35,i35,i36,b36,i37,b37,i38,⟨⟨i39,i40,i41,i42,i43,i44⟩,b38,b39,b40⟩,⟨⟨i45,i46,i47,i48,i49⟩,b41,b42,b43⟩,b44,b45,b46,b47,b48,⟨b49,b50⟩,b51,⟨b52,b53⟩,b54,b55,b56,b57,b58,b59⟩:=e4
 have i3:ρ.i 3 = (s.length:Int):=i3.trans (eS_len s)
 have i4:ρ.i 4 = (t.length:Int):=i4.trans (eS_len t)
 have i5:ρ.i 5 = (r.length:Int):=i5.trans (eS_len r)
 by_cases hbig:s.length <= 1000 /\ t.length <= 1000 /\ r.length <= 100
 ·obtain ⟨hs,ht,hr⟩:=hbig
  have b4:ρ.b 4 = false:=by
   rw [b4,b2,b0,b1,b3,i3,i4,i5]
   rw [decide_eq_false (by omega),decide_eq_false (by omega),decide_eq_false (by omega)]; rfl
  have b58:ρ.b 58 = true:=by rw [b58,b4]; rfl
  obtain ⟨k1,k2⟩:=hlo hr
  by_cases hnl:10 ∈ r
  ·rw [k1 hnl] at b7 b8 b9 b10
   simp only [List.getD_cons_zero,List.getD_cons_succ] at b7 b8 b9 b10
   have b57:ρ.b 57 = true:=by rw [b57,b9,b10]; rfl
   have b59:ρ.b 59 = true:=by rw [b59,b58,b57]; rfl
   simp [b4,b7,b9,b59]
  ·rw [k2 hnl] at b7 b8 b9 b10
   simp only [List.getD_cons_zero,List.getD_cons_succ] at b7 b8 b9 b10
   have le1:∀ {x:Int},x <= 10000 -> decide (x <= 4611686018427387903) = true:=fun h=>decide_eq_true (by omega)
   have i18:ρ.i 18 = (s.length:Int):=i18.trans (eS_len s)
   have i21:ρ.i 21 = (t.length:Int):=i21.trans (eS_len t)
   have i29:ρ.i 29 = (s.length:Int):=i29.trans (eS_len s)
   have i32:ρ.i 32 = (r.length:Int):=i32.trans (eS_len r)
   have i37:ρ.i 37 = (t.length:Int):=i37.trans (eS_len t)
   have c10:(1048576:Int) = eS [10]:=by kernel_rfl
   have c1035:(2475880078570760549799297024:Int) = eS [10,35]:=by kernel_rfl
   have c1010:(2199024304128:Int) = eS [10,10]:=by kernel_rfl
   rw [c10,eS_cat] at i19
   rw [c1035,eS_cat] at i30
   have i20:ρ.i 20 = (s.length:Int) + 1:=by rw [i20,i19]; refine (eS_len _).trans ?_; rw [List.length_append]; simp
   have i22:ρ.i 22 = eS (s ++ 10 :: t):=by rw [i22,i19,eS_cat]; congr 1; simp
   have i31:ρ.i 31 = (s.length:Int) + 2:=by rw [i31,i30]; refine (eS_len _).trans ?_; rw [List.length_append]; simp
   have i33:ρ.i 33 = eS (s ++ [10,35] ++ r):=by rw [i33,i30,eS_cat]
   have i34:ρ.i 34 = (s.length:Int) + 2 + r.length:=by rw [i34,i33]; refine (eS_len _).trans ?_; rw [List.length_append,List.length_append]; simp
   have i35:ρ.i 35 = eS (s ++ [10,35] ++ r ++ [10,10]):=by rw [i35,i33,c1010,eS_cat]
   have i36:ρ.i 36 = (s.length:Int) + 2 + r.length + 2:=by rw [i36,i35]; refine (eS_len _).trans ?_; rw [List.length_append,List.length_append,List.length_append]; simp
   have i38:ρ.i 38 = eS (s ++ 10 :: ((35 :: r) ++ 10 :: ([] ++ 10 :: t))):=by rw [i38,i35,eS_cat]; congr 1; simp
   have b20:ρ.b 20 = true:=by rw [b20,i18]; exact le1 (by omega)
   have b21:ρ.b 21 = true:=by rw [b21,i20]; exact le1 (by omega)
   have b22:ρ.b 22 = true:=by rw [b22,i21]; exact le1 (by omega)
   have b32:ρ.b 32 = true:=by rw [b32,i29]; exact le1 (by omega)
   have b33:ρ.b 33 = true:=by rw [b33,i31]; exact le1 (by omega)
   have b34:ρ.b 34 = true:=by rw [b34,i32]; exact le1 (by omega)
   have b35:ρ.b 35 = true:=by rw [b35,i34]; exact le1 (by omega)
   have b36:ρ.b 36 = true:=by rw [b36,i36]; exact le1 (by omega)
   have b37:ρ.b 37 = true:=by rw [b37,i37]; exact le1 (by omega)
   rw [i22] at i23 i24 i25 i26 i27 i28 b23 b24 b25
   rw [i38] at i39 i40 i41 i42 i43 i44 b38 b39 b40
   have hno:(10:UInt8) ∉ 35 :: r:=by simp only [List.mem_cons,not_or]; exact ⟨by decide,hnl⟩
   have hcat:lns (s ++ 10 :: ((35 :: r) ++ 10 :: ([] ++ 10 :: t))) = lns s ++ ((35 :: r) :: [] :: lns t):=by
    rw [lns_app,lns_app,lns_app,lns_no hno]; rfl
   have two:=p7 (s ++ 10 :: t) (by rw [List.length_append,List.length_cons]; omega)
   have thr:=p7 (s ++ 10 :: ((35 :: r) ++ 10 :: ([] ++ 10 :: t))) (by simp only [List.length_append,List.length_cons,List.length_nil]; omega)
   rw [lns_app,foldO_app] at two
   rw [hcat,foldO_app] at thr
   have bad:(∃ k:Nat,0 < k /\ F7 [eS (s ++ 10 :: t)] [] = ([0,0,0,0,(k:Int),7],[true,false,false])) -> ρ.b 11 = true -> ρ.b 14 = true -> ρ.b 19 = true -> ([],[true,true]) = (([]:List Int),[true,ρ.b 59]) /\ True:=by
    rintro ⟨k,hk,e⟩ _ _ b19
    simp only [e,List.getD_cons_zero,List.getD_cons_succ] at i27 i28 b23
    have b26:ρ.b 26 = true:=by rw [b26,i27]; exact decide_eq_true (by omega)
    have b28:ρ.b 28 = true:=by rw [b28,b26,b27,i28]; rfl
    have b31:ρ.b 31 = true:=by rw [b31,b28,b30]; rfl
    have b55:ρ.b 55 = false:=by rw [b55,b19]; rfl
    have b59:ρ.b 59 = true:=by rw [b59,b58,b57,b9,b56,b55,b31]; rfl
    rw [b59]
    exact ⟨rfl,trivial⟩
   have bad23:(∃ k:Nat,0 < k /\ F7 [eS (s ++ 10 :: t)] [] = ([0,0,0,0,(k:Int),7],[true,false,false])) -> ρ.b 23 = true:=by
    rintro ⟨k,hk,e⟩
    simp only [e,List.getD_cons_zero] at b23
    exact b23
   rcases p7 s (by omega) with ⟨k,hk,hf,e⟩ | ⟨A0,A,hA0,hA,oA,lA1,lA2,eA⟩
   ·-- the first one
    rw [hf] at two
    simp only at two
    have h2:∃ k:Nat,0 < k /\ F7 [eS (s ++ 10 :: t)] [] = ([0,0,0,0,(k:Int),7],[true,false,false]):=by
     rcases two with ⟨k',hk',_,e'⟩ | ⟨_,_,h',_⟩
     ·exact ⟨k',hk',e'⟩
     ·cases h'
    simp only [e,List.getD_cons_zero,List.getD_cons_succ] at i11 b11
    have b17:ρ.b 17 = true:=by rw [b17,i11]; rfl
    have b19:ρ.b 19 = true:=by rw [b19,b17]; rfl
    have b14:ρ.b 14 = true:=by
     rcases p7 t (by omega) with ⟨_,_,_,e'⟩ | ⟨_,_,_,_,_,_,_,e'⟩ <;> (rw [e'] at b14; exact b14)
    have hh:=(bad h2 b11 b14 b19).1
    simp only [Prod.mk.injEq,List.cons.injEq,and_true,true_and] at hh
    simp [b4,b7,b9,b11,b14,b19,b20,b21,b22,bad23 h2,b29,<- hh]
   ·rw [hA0] at two thr
    simp only at two thr
    simp only [eA,List.getD_cons_zero,List.getD_cons_succ] at i6 i7 i8 i9 i11 b11 b12 b13
    rcases p7 t (by omega) with ⟨k,hk,hf,e⟩ | ⟨B0,Bq,hB0,hB,oB,lB1,lB2,eB⟩
    ·-- the second one
     rw [foldO_num (lns t) A0 _ 0,foldO_cat (lns t) A0 0,hf] at two
     simp only at two
     have h2:∃ k:Nat,0 < k /\ F7 [eS (s ++ 10 :: t)] [] = ([0,0,0,0,(k:Int),7],[true,false,false]):=by
      rcases two with ⟨k',hk',_,e'⟩ | ⟨_,_,h',_⟩
      ·exact ⟨k',hk',e'⟩
      ·cases h'
     simp only [e,List.getD_cons_zero,List.getD_cons_succ] at i17 b14
     have b18:ρ.b 18 = true:=by rw [b18,i17]; rfl
     have b19:ρ.b 19 = true:=by rw [b19,b18,Bool.or_true]
     have hh:=(bad h2 b11 b14 b19).1
     simp only [Prod.mk.injEq,List.cons.injEq,and_true,true_and] at hh
     simp [b4,b7,b9,b11,b14,b19,b20,b21,b22,bad23 h2,b29,<- hh]
    ·-- both
     have hx:foldO A0 (0 + (lns s).length) ((35 :: r) :: [] :: lns t) = .inl (A0.cat B0):=by
      simp only [foldO,skip_hash,skip_nil]
      rw [foldO_num (lns t) A0 _ 0,foldO_cat (lns t) A0 0,hB0]
     rw [hx] at thr
     rcases thr with ⟨_,_,h',_⟩ | ⟨X0,X,h',hX,oX,lX1,lX2,eX⟩
     ·cases h'
     obtain rfl:A0.cat B0 = X0:=Sum.inl.inj h'
     simp only [eB,List.getD_cons_zero,List.getD_cons_succ] at i12 i13 i14 i15 i17 b14 b15 b16
     simp only [eX,List.getD_cons_zero,List.getD_cons_succ] at i39 i40 i41 i42 i43 i44 b38 b39 b40
     obtain ⟨J,hJ,_,_,eJ⟩:=(j12 (P:=A) (Q:=Bq) ⟨by omega,by omega⟩ ⟨by omega,by omega⟩).2 oA oB
     obtain rfl:X = J:=Tdd.two hA hB hX hJ
     simp only [i6,i7,i8,i9,b12,b13,i12,i13,i14,i15,b15,b16,eJ,List.getD_cons_zero,List.getD_cons_succ] at i45 i46 i47 i48 i49 b41 b42 b43
     simp only [i39,i40,i41,i42,b39,b40,i45,i46,i47,i48,b42,b43,j9 (P:=X) ⟨by omega,by omega⟩,List.getD_cons_zero,List.getD_cons_succ] at b49 b50
     have b19:ρ.b 19 = false:=by rw [b19,b17,b18,i11,i17]; rfl
     have b48:ρ.b 48 = true:=by rw [b48,b46,b44,b45,b47,i43,i44,i49]; rfl
     have b51:ρ.b 51 = true:=by rw [b51,b48,b50]; rfl
     have b54:ρ.b 54 = true:=by rw [b54,b51,b53]; rfl
     have b55:ρ.b 55 = true:=by rw [b55,b19]; rfl
     have b59:ρ.b 59 = true:=by rw [b59,b58,b57,b9,b56,b55,b54]; rfl
     simp [b4,b7,b9,b11,b14,b19,b32,b33,b34,b35,b36,b37,b38,b41,b48,b49,b51,b52,b59]
 ·have b4:ρ.b 4 = true:=by
   rw [b4,b2,b0,b1,b3,i3,i4,i5]
   by_cases h1:s.length <= 1000
   ·by_cases h2:t.length <= 1000
    ·rw [show decide ((r.length:Int) > 100) = true from decide_eq_true (by omega),Bool.or_true]
    ·rw [show decide ((t.length:Int) > 1000) = true from decide_eq_true (by omega),Bool.or_true,Bool.true_or]
   ·rw [show decide ((s.length:Int) > 1000) = true from decide_eq_true (by omega),Bool.true_or,Bool.true_or]
  have b58:ρ.b 58 = false:=by rw [b58,b4]; rfl
  have b59:ρ.b 59 = true:=by rw [b59,b58,b6]; rfl
  simp [b4,b5,b59]
end Go.Proofs.YtfgbfdlacnihkaaDoor.Po
namespace Go.Proofs.YtfgbfdlacnihkaaDoor.Po
open Go Go.Proofs Go.Proofs.YtfgbfdlacnihkaaDoor.Sx
def hexN (n:Nat):Int:=if decide (48 <= n) && decide (n <= 57) then (n:Int) - 48 else if decide (97 <= n) && decide (n <= 102) then (n:Int) - 87 else -1
def hexv (c:UInt8):Int:=hexN c.toNat
def isH (c:UInt8):Bool:=decide (0 <= hexv c)
set_option maxRecDepth 100000 in
theorem hexR_N:∀ n:Nat,n < 128 -> Tryd.hexR n = hexN n:=by decide
theorem hexN_high {n:Nat} (h:128 <= n):hexN n = -1:=by
 unfold hexN
 rw [decide_eq_false (p:=n <= 57) (by omega),decide_eq_false (p:=n <= 102) (by omega)]
 simp
theorem hexN_lt (n:Nat):hexN n < 16:=by
 unfold hexN
 split
 ·rename_i h; rw [Bool.and_eq_true,decide_eq_true_eq,decide_eq_true_eq] at h; omega
 ·split
  ·rename_i h; rw [Bool.and_eq_true,decide_eq_true_eq,decide_eq_true_eq] at h; omega
  ·omega
def numF:Nat -> List UInt8 -> Int -> Option Int
 | 0,_,n=>some n
 | _ + 1,[],n=>some n
 | k + 1,c :: l,n=>if hexv c < 0 then none else numF k l (n * 16 + hexv c)
theorem numFrom_F (s:ByteArray):∀ (k pos:Nat) (n:Int),Tryd.numFrom s k pos n = numF k (s.data.toList.drop pos) n
 | 0,pos,n=>by rw [Tryd.numFrom,numF]
 | k + 1,pos,n=>by
  rw [Tryd.numFrom]
  by_cases hp:pos < s.size
  ·have hp':pos < s.data.toList.length:=by simpa using hp
   have hd:s.data.toList.drop pos = s[pos] :: s.data.toList.drop (pos + 1):=by
    rw [List.drop_eq_getElem_cons hp']
    rfl
   rw [if_pos hp,hd,numF]
   by_cases ha:(s[pos]'hp).toNat < 128
   ·rw [decode_ascii s pos hp ha]
    simp only
    rw [hexR_N _ ha,numFrom_F s k (pos + 1)]
    rfl
   ·obtain ⟨h1,_⟩:=decode_high s pos hp (by omega)
    have h2:Tryd.hexR (Utf8.decode s pos).1 = -1:=by unfold Tryd.hexR; rw [if_neg (by omega)]
    rw [h2,if_pos (by decide)]
    have:hexv s[pos] = -1:=hexN_high (by omega)
    rw [this,if_pos (by decide)]
  ·rw [if_neg hp,List.drop_eq_nil_of_le (by simp; omega),numF]
def numV (l:List UInt8):Int:=l.foldl (fun n c=>n * 16 + hexv c) 0
theorem numF_all:∀ (l:List UInt8) (n:Int),numF l.length l n = if l.all isH then some (l.foldl (fun n c=>n * 16 + hexv c) n) else none
 | [],n=>rfl
 | c :: l,n=>by
  rw [List.length_cons,numF,numF_all l]
  simp only [List.all_cons,List.foldl_cons]
  by_cases h:hexv c < 0
  ·have:isH c = false:=decide_eq_false (by omega)
   simp [h,this]
  ·have:isH c = true:=decide_eq_true (by omega)
   simp [h,this]
theorem numB_eq (l:List UInt8):numB l = if decide (1 <= l.length) && decide (l.length <= 4) && l.all isH then some (numV l) else none:=by
 unfold numB Tryd.num
 have hs:(⟨l.toArray⟩:ByteArray).size = l.length:=by show l.toArray.size = _; simp
 rw [hs]
 by_cases h:l.length < 1 \/ 4 < l.length
 ·rw [if_pos h,if_neg]
  rw [Bool.and_eq_true,Bool.and_eq_true,decide_eq_true_eq,decide_eq_true_eq]
  omega
 ·rw [if_neg h,numFrom_F]
  show numF l.length l 0 = _
  rw [numF_all]
  rw [decide_eq_true (p:=1 <= l.length) (by omega),decide_eq_true (p:=l.length <= 4) (by omega)]
  rfl
def numL:List UInt8 -> Int -> Int × Nat
 | [],n=>(n,0)
 | c :: l,n=>if hexv c < 0 then (n,0) else ((numL l (min (16 * n + hexv c) 100000)).1,(numL l (min (16 * n + hexv c) 100000)).2 + 1)
def Stop (R:List UInt8):Prop:=∀ c R',R = c :: R' -> isH c = false
theorem numL_stop {R:List UInt8} (h:Stop R) (n:Int):numL R n = (n,0):=by
 cases R with
 | nil=>rfl
 | cons c R =>
  have:=h c R rfl
  unfold numL
  rw [if_pos]
  have:=of_decide_eq_false this
  omega
theorem numL_len:∀ (D R:List UInt8) (n:Int),D.all isH = true -> Stop R -> (numL (D ++ R) n).2 = D.length
 | [],R,n,_,h=>by rw [List.nil_append,numL_stop h]; rfl
 | c :: D,R,n,hD,h=>by
  simp only [List.all_cons,Bool.and_eq_true] at hD
  have h0:=of_decide_eq_true hD.1
  rw [List.cons_append,numL,if_neg (by omega),List.length_cons,numL_len D R _ hD.2 h]
theorem numL_val:∀ (D R:List UInt8) (n:Int) (j:Nat),D.all isH = true -> Stop R -> 0 <= n -> n < 16 ^ j -> D.length + j <= 4 -> (numL (D ++ R) n).1 = D.foldl (fun n c=>n * 16 + hexv c) n
 | [],R,n,j,_,h,_,_,_=>by rw [List.nil_append,numL_stop h]; rfl
 | c :: D,R,n,j,hD,h,h0,h1,hj=>by
  simp only [List.all_cons,Bool.and_eq_true] at hD
  have hc:=of_decide_eq_true hD.1
  have hc2:hexv c < 16:=hexN_lt _
  have hp:(16:Int) ^ (j + 1) = 16 ^ j * 16:=Int.pow_succ _ _
  have hlt:16 * n + hexv c < 16 ^ (j + 1):=by omega
  have hle:(16:Int) ^ (j + 1) <= 65536:=by
   have:(16:Int) ^ (j + 1) <= 16 ^ 4:=Tryd.pow16 (by simp only [List.length_cons] at hj; omega)
   omega
  rw [List.cons_append,numL,if_neg (by omega)]
  have hm:min (16 * n + hexv c) 100000 = n * 16 + hexv c:=by omega
  simp only [hm,List.foldl_cons]
  exact numL_val D R _ (j + 1) hD.2 h (by omega) (by omega) (by simp only [List.length_cons] at hj; omega)
theorem splitH:∀ L:List UInt8,∃ D R,L = D ++ R /\ D.all isH = true /\ Stop R
 | []=>⟨[],[],rfl,rfl,fun c R' h=>by cases h⟩
 | c :: L=>by
  cases h:isH c with
  | false=>exact ⟨[],c :: L,rfl,rfl,fun d R' e=>by cases e; exact h⟩
  | true =>
   obtain ⟨D,R,rfl,h1,h2⟩:=splitH L
   exact ⟨c :: D,R,rfl,by simp only [List.all_cons,h,h1,Bool.and_self],h2⟩
def chk (a b z:Int):Option Pr:=if decide (a <= b) && decide (b < z) then some (a,b) else none
def rspan (l:List UInt8) (z:Int):Option Pr :=
 if (numL l 0).2 < 1 \/ 4 < (numL l 0).2 then none
 else if (numL l 0).2 < l.length then
  (if l.getD (numL l 0).2 0 ≠ 45 then none
   else if (numL (l.drop ((numL l 0).2 + 1)) 0).2 < 1 \/ 4 < (numL (l.drop ((numL l 0).2 + 1)) 0).2 \/ (numL l 0).2 + 1 + (numL (l.drop ((numL l 0).2 + 1)) 0).2 ≠ l.length then none
   else chk (numL l 0).1 (numL (l.drop ((numL l 0).2 + 1)) 0).1 z)
 else chk (numL l 0).1 (numL l 0).1 z
theorem not45:isH 45 = false:=by decide
theorem spanO_chk (l:List UInt8) (z:Int):spanO l z = match numB (Lib.cut l [45]).1,numB (lastP l) with
 | some a,some b=>chk a b z
 | _,_=>none:=rfl
theorem numB_none {l:List UInt8} (h:¬(1 <= l.length /\ l.length <= 4 /\ l.all isH = true)):numB l = none:=by
 rw [numB_eq,if_neg]
 rw [Bool.and_eq_true,Bool.and_eq_true,decide_eq_true_eq,decide_eq_true_eq]
 exact fun ⟨⟨a,b⟩,c⟩=>h ⟨a,b,c⟩
theorem numB_some {l:List UInt8} (h1:1 <= l.length) (h2:l.length <= 4) (h3:l.all isH = true):numB l = some (numV l):=by
 rw [numB_eq,if_pos]
 rw [Bool.and_eq_true,Bool.and_eq_true,decide_eq_true_eq,decide_eq_true_eq]
 exact ⟨⟨h1,h2⟩,h3⟩
theorem all_no {l:List UInt8} {c:UInt8} (hc:isH c = false) (hm:c ∈ l):l.all isH = false:=by
 rw [List.all_eq_false]
 exact ⟨c,hm,by rw [hc]; exact Bool.false_ne_true⟩
theorem rspan_eq (l:List UInt8) (z:Int):rspan l z = spanO l z:=by
 obtain ⟨D,R,rfl,hD,hR⟩:=splitH l
 have k1:=numL_len D R 0 hD hR
 have v1:=fun h=>numL_val D R 0 0 hD hR (Int.le_refl _) (by decide) h
 have hno:(45:UInt8) ∉ D:=fun hm=>by have:=all_no not45 hm; rw [hD] at this; cases this
 rw [spanO_chk]
 unfold rspan
 rw [k1]
 by_cases hk:D.length < 1 \/ 4 < D.length
 ·rw [if_pos hk]
  have:numB (Lib.cut (D ++ R) [45]).1 = none:=by
   apply numB_none
   rintro ⟨g1,g2,g3⟩
   cases R with
   | nil=>rw [List.append_nil,cut_no hno] at g1 g2; simp only at g1 g2; omega
   | cons c R =>
    have hc:=hR c R rfl
    by_cases e:c = 45
    ·subst e; rw [cut_at D R hno] at g1 g2; simp only at g1 g2; omega
    ·rcases around 45 (D ++ c :: R) with ⟨h1,_⟩ | ⟨a,b,h1,h2,_⟩
     ·rw [cut_no h1] at g3
      rw [all_no hc (by simp)] at g3; cases g3
     ·rw [h1,cut_at a b h2] at g3
      have hm:c ∈ a:=by
       have hpre:D ++ [c] <+: a:=by
        refine List.prefix_of_prefix_length_le (l₃:=D ++ c :: R) ⟨R,by simp⟩ ⟨45 :: b,h1.symm⟩ ?_
        apply Nat.le_of_not_lt
        intro hlt
        have h45:(D ++ [c])[a.length]? = some 45:=by
         have e1:(D ++ c :: R)[a.length]? = some 45:=by rw [h1]; simp
         have e2:D ++ c :: R = (D ++ [c]) ++ R:=by simp
         rw [e2,List.getElem?_append_left (by simpa using hlt)] at e1
         exact e1
        have:=List.mem_of_getElem? h45
        simp only [List.mem_append,List.mem_singleton] at this
        rcases this with h | h
        ·exact hno h
        ·exact e h.symm
       exact hpre.subset (by simp)
      rw [all_no hc hm] at g3; cases g3
  rw [this]
 ·rw [if_neg hk]
  have hD1:numB D = some (numV D):=numB_some (by omega) (by omega) hD
  have hv:(numL (D ++ R) 0).1 = numV D:=v1 (by omega)
  cases R with
  | nil =>
   rw [List.append_nil] at hv ⊢
   rw [if_neg (by omega),cut_no hno]
   unfold lastP
   rw [cut_no hno]
   simp only [Bool.false_eq_true,if_false,hD1,hv]
  | cons c R =>
   have hc:=hR c R rfl
   rw [if_pos (by simp)]
   have hg:(D ++ c :: R).getD D.length 0 = c:=by simp [List.getD_eq_getElem?_getD]
   have hd:(D ++ c :: R).drop (D.length + 1) = R:=by
    rw [show D ++ c :: R = (D ++ [c]) ++ R by simp,List.drop_left' (by simp)]
   rw [hg,hd,hv]
   by_cases e:c = 45
   ·subst e
    rw [if_neg (by simp),cut_at D R hno]
    have hl:lastP (D ++ 45 :: R) = R:=by unfold lastP; rw [cut_at D R hno]; rfl
    rw [hl,hD1]
    obtain ⟨D2,R2,rfl,hD2,hR2⟩:=splitH R
    rw [numL_len D2 R2 0 hD2 hR2]
    by_cases hk2:D2.length < 1 \/ 4 < D2.length \/ D.length + 1 + D2.length ≠ (D ++ 45 :: (D2 ++ R2)).length
    ·rw [if_pos hk2]
     have:numB (D2 ++ R2) = none:=by
      apply numB_none
      rintro ⟨g1,g2,g3⟩
      cases R2 with
      | nil=>rw [List.append_nil] at g1 g2; simp only [List.length_append,List.length_cons,List.length_nil] at hk2; omega
      | cons d R2=>rw [all_no (hR2 d R2 rfl) (by simp)] at g3; cases g3
     rw [this]
    ·rw [if_neg hk2]
     have hR20:R2 = []:=by
      apply List.eq_nil_of_length_eq_zero
      simp only [List.length_append,List.length_cons] at hk2
      omega
     subst hR20
     have hv2:=numL_val D2 [] 0 0 hD2 hR2 (Int.le_refl _) (by decide) (by omega)
     rw [hv2,List.append_nil,numB_some (by omega) (by omega) hD2]
     rfl
   ·rw [if_pos e]
    have:numB (Lib.cut (D ++ c :: R) [45]).1 = none:=by
     apply numB_none
     rintro ⟨g1,g2,g3⟩
     rcases around 45 (D ++ c :: R) with ⟨h1,_⟩ | ⟨a,b,h1,h2,_⟩
     ·rw [cut_no h1] at g3
      rw [all_no hc (by simp)] at g3; cases g3
     ·rw [h1,cut_at a b h2] at g3
      have hm:c ∈ a:=by
       have hpre:D ++ [c] <+: a:=by
        refine List.prefix_of_prefix_length_le (l₃:=D ++ c :: R) ⟨R,by simp⟩ ⟨45 :: b,h1.symm⟩ ?_
        apply Nat.le_of_not_lt
        intro hlt
        have h45:(D ++ [c])[a.length]? = some 45:=by
         have e1:(D ++ c :: R)[a.length]? = some 45:=by rw [h1]; simp
         have e2:D ++ c :: R = (D ++ [c]) ++ R:=by simp
         rw [e2,List.getElem?_append_left (by simpa using hlt)] at e1
         exact e1
        have:=List.mem_of_getElem? h45
        simp only [List.mem_append,List.mem_singleton] at this
        rcases this with h | h
        ·exact hno h
        ·exact e h.symm
       exact hpre.subset (by simp)
      rw [all_no hc hm] at g3; cases g3
    rw [this]
end Go.Proofs.YtfgbfdlacnihkaaDoor.Po
namespace Go.Proofs.YtfgbfdlacnihkaaDoor.Po
open Go Go.Proofs Go.Proofs.YtfgbfdlacnihkaaDoor.Sx
theorem hexN_bif (k:Nat):hexN k = bif decide ((k:Int) >= 48) && decide ((k:Int) <= 57) then (k:Int) - 48 else bif decide ((k:Int) >= 97) && decide ((k:Int) <= 102) then (k:Int) - 87 else -1:=by
 have e1:decide ((k:Int) >= 48) = decide (48 <= k):=decide_eq_decide.2 (by omega)
 have e2:decide ((k:Int) <= 57) = decide (k <= 57):=decide_eq_decide.2 (by omega)
 have e3:decide ((k:Int) >= 97) = decide (97 <= k):=decide_eq_decide.2 (by omega)
 have e4:decide ((k:Int) <= 102) = decide (k <= 102):=decide_eq_decide.2 (by omega)
 rw [e1,e2,e3,e4]
 unfold hexN
 cases decide (48 <= k) <;> cases decide (k <= 57) <;> cases decide (97 <= k) <;> cases decide (k <= 102) <;> rfl
theorem arSub {x y:Int} (h0:-9223372036854775808 <= x - y) (h1:x - y <= 9223372036854775807):arI .sub .i64 x y = x - y:=wrap_i64_in h0 h1
theorem arMul {x y:Int} (h0:-9223372036854775808 <= x * y) (h1:x * y <= 9223372036854775807):arI .mul .i64 x y = x * y:=wrap_i64_in h0 h1
set_option maxHeartbeats 1000000 in
theorem t56 {Φ:Funs} {L:List UInt8} (hL:L.length <= 5000) (a:Nat) (ha:a <= L.length) (n:Int) (h0:0 <= n) (h1:n <= 100000):∃ n':Int,L105600.S.run Φ true [eS L,a,n] [] =
  ([eS L,((a + 1:Nat):Int),n',a,n],[true,decide (a < L.length) && isH (L.getD a 0),!(decide (a < L.length) && isH (L.getD a 0))]) /\ (isH (L.getD a 0) = true -> n' = min (16 * n + hexv (L.getD a 0)) 100000):=by
 have hk:(L.getD a 0).toNat < 256:=UInt8.toNat_lt _
 obtain ⟨ρ,e1,e2,e3,e4⟩:=Smry.run_specT (Φ:=Φ) (S:=L105600.S) (is:=[eS L,a,n]) (bs:=[]) rfl
 rw [e1,obAll_eq]
 clear e1
 simp only [L105600,obs,Gd.d_cons,Gd.d_nil,eqns,Em.eqn,headsI,headsB,↓RI_ite,↓RB_ite,RI.d,RB.d,A.d,B.d,cm_eql,cm_neq,cm_lss,cm_leq,cm_gtr,cm_geq,List.map_cons,List.map_nil,and_true,Nat.zero_add,Nat.reduceAdd,ltn,upto,true_and,Nat.add_zero,List.getD_cons_zero,List.getD_cons_succ] at e2 e3 e4 ⊢
 simp only [e2,e3,Int.toNat_natCast] at e4 ⊢
 clear e2 e3
 obtain ⟨i3,b0,b1,i4,b2,i5,b3,b4,b5,i6,i7,b6,b7,b8,i8,i9,b9,i10,b10,i11,b11,b12,i12,b13,i13,b14,i14,b15,b16,b17,i15,i16,b18,b19,b20,i17,i18,b21,i19,b22,i20,i21,i22,i23,b23⟩:=e4
 have i3:ρ.i 3 = (L.length:Int):=i3.trans (eS_len L)
 have i4:ρ.i 4 = (L.length:Int):=i4.trans (eS_len L)
 have i13:ρ.i 13 = (L.length:Int):=i13.trans (eS_len L)
 have i5:ρ.i 5 = ((L.getD a 0).toNat:Int):=i5.trans (eS_get L a)
 have i14:ρ.i 14 = ((L.getD a 0).toNat:Int):=i14.trans (eS_get L a)
 have b0:ρ.b 0 = decide (a < L.length):=by rw [b0,i3,Bool.eq_iff_iff]; simp
 have b2:ρ.b 2 = decide (a < L.length):=by rw [b2,i4,Bool.eq_iff_iff]; simp
 have b14:ρ.b 14 = decide (a < L.length):=by rw [b14,i13,Bool.eq_iff_iff]; simp
 have b1:ρ.b 1 = true:=by rw [b1]; exact decide_eq_true (by omega)
 have b13:ρ.b 13 = true:=by rw [b13]; exact decide_eq_true (by omega)
 have i6:ρ.i 6 = ((L.getD a 0).toNat:Int):=by rw [i6,i5]; exact wrap_i64_in (by omega) (by omega)
 have i8:ρ.i 8 = ((L.getD a 0).toNat:Int):=by rw [i8,i5]; exact wrap_i64_in (by omega) (by omega)
 have i15:ρ.i 15 = ((L.getD a 0).toNat:Int):=by rw [i15,i14]; exact wrap_i64_in (by omega) (by omega)
 have i17:ρ.i 17 = ((L.getD a 0).toNat:Int):=by rw [i17,i14]; exact wrap_i64_in (by omega) (by omega)
 have i11:ρ.i 11 = hexv (L.getD a 0):=by
  unfold hexv
  rw [hexN_bif,i11,b10,b5,b3,b4,i10,b9,b8,b6,b7,i7,i9,i6,i8,i5,arSub (by omega) (by omega),arSub (by omega) (by omega)]
  cases (decide (((L.getD a 0).toNat:Int) >= 48) && decide (((L.getD a 0).toNat:Int) <= 57)) <;> cases (decide (((L.getD a 0).toNat:Int) >= 97) && decide (((L.getD a 0).toNat:Int) <= 102)) <;> rfl
 have i20:ρ.i 20 = hexv (L.getD a 0):=by
  unfold hexv
  rw [hexN_bif,i20,b22,b17,b15,b16,i19,b21,b20,b18,b19,i16,i18,i15,i17,i14,arSub (by omega) (by omega),arSub (by omega) (by omega)]
  cases (decide (((L.getD a 0).toNat:Int) >= 48) && decide (((L.getD a 0).toNat:Int) <= 57)) <;> cases (decide (((L.getD a 0).toNat:Int) >= 97) && decide (((L.getD a 0).toNat:Int) <= 102)) <;> rfl
 have hx16:hexv (L.getD a 0) < 16:=hexN_lt _
 have b12:ρ.b 12 = (decide (a < L.length) && isH (L.getD a 0)):=by rw [b12,b0,b11,i11]; rfl
 have i12:ρ.i 12 = 16 * n:=by rw [i12,arMul (by omega) (by omega)]
 have i23:ρ.i 23 = ((a + 1:Nat):Int):=by rw [i23,arAdd (by omega) (by omega)]; omega
 refine ⟨ρ.i 22,?_,fun h=>?_⟩
 ·simp [b0,b1,b2,b12,b13,b14,b23,i23]
  by_cases hlt:a < L.length
  ·exact .inr hlt
  ·exact .inl (.inl (by omega))
 ·have h2:=of_decide_eq_true h
  have i21:ρ.i 21 = 16 * n + hexv (L.getD a 0):=by rw [i21,i12,i20,arAdd (by omega) (by omega)]
  by_cases hc:(100000:Int) < ρ.i 21
  ·rw [i22.trans (if_pos hc)]; rw [i21] at hc; omega
  ·rw [i22.trans (if_neg hc),i21]; rw [i21] at hc; omega
theorem w56 (L:List UInt8) (hL:L.length <= 5000) (a:Nat) (ha:a <= L.length):F56 [eS L,a] [] = ([(numL (L.drop a) 0).1,((a + (numL (L.drop a) 0).2:Nat):Int)],[true]):=by
 have hlp:(lpF (l56.map (·.2)) (tabF T16)) 105600 = loopF (L105600.S.run (tabF T16) true) 3 0:=by kernel_rfl
 have hlo:loopF (L105600.S.run (tabF T16) true) 3 0 [eS L,a,0] [] = ([((a + (numL (L.drop a) 0).2:Nat):Int),(numL (L.drop a) 0).1],[true,true]):=by
  generalize tabF T16 = Φ
  have h:=loop_rule (F:=L105600.S.run Φ true) (nI:=3) (nB:=0)
   (fun is bs=>∃ (c:Nat) (n:Int),is = [eS L,c,n] /\ bs = [] /\ c <= L.length /\ 0 <= n /\ n <= 100000 /\ (numL (L.drop c) n).1 = (numL (L.drop a) 0).1 /\ c + (numL (L.drop c) n).2 = a + (numL (L.drop a) 0).2)
   (fun is _=>L.length - (is.getD 1 0).toNat) (fun o=>o = ([((a + (numL (L.drop a) 0).2:Nat):Int),(numL (L.drop a) 0).1],[true])) ?_ [eS L,a,0] [] ⟨a,0,rfl,rfl,ha,by omega,by omega,rfl,rfl⟩
  ·obtain ⟨o,h1,rfl⟩:=h
   exact h1
  ·rintro is bs ⟨c,n,rfl,rfl,hc,h0,h1,e1,e2⟩
   obtain ⟨n',he,hn'⟩:=t56 (Φ:=Φ) hL c hc n h0 h1
   rw [he]
   refine ⟨_,_,rfl,fun hf=>?_,fun ht=>?_⟩
   ·have hst:numL (L.drop c) n = (n,0):=by
     apply numL_stop
     intro d R hd
     rw [Bool.and_eq_false_iff] at hf
     have hlt:c < L.length:=by
      apply Nat.lt_of_not_le
      intro hle
      rw [List.drop_eq_nil_of_le hle] at hd; cases hd
     rcases hf with hf | hf
     ·exact absurd hlt (of_decide_eq_false hf)
     ·rw [List.drop_eq_getElem_cons hlt] at hd
      cases hd
      rw [List.getD_eq_getElem?_getD,List.getElem?_eq_getElem hlt] at hf
      exact hf
    rw [hst] at e1 e2
    simp only at e1 e2
    rw [<- e1,<- e2,hf]
    rfl
   ·have ht2:=ht
    rw [Bool.and_eq_true,decide_eq_true_eq] at ht2
    obtain ⟨hlt,hH⟩:=ht2
    have hn2:=hn' hH
    have hd:L.drop c = L.getD c 0 :: L.drop (c + 1):=by
     rw [List.drop_eq_getElem_cons hlt,List.getD_eq_getElem?_getD,List.getElem?_eq_getElem hlt]; rfl
    have h2:=of_decide_eq_true hH
    rw [hd,numL,if_neg (by omega)] at e1 e2
    refine ⟨⟨c + 1,n',rfl,rfl,by omega,by omega,by omega,?_,?_⟩,?_⟩
    ·rw [hn2]; exact e1
    ·rw [hn2]; simp only at e2; omega
    ·show L.length - (((c + 1:Nat):Int)).toNat < L.length - ((c:Int)).toNat
     omega
 show S56.run (lpF (l56.map (·.2)) (tabF T16)) true [eS L,a] [] = _
 generalize lpF (l56.map (·.2)) (tabF T16) = Φ at hlp
 obtain ⟨ρ,e1,e2,e3,e4⟩:=Smry.run_specT (Φ:=Φ) (S:=S56) (is:=[eS L,a]) (bs:=[]) rfl
 rw [e1,obAll_eq]
 clear e1
 simp only [S56,obs,Gd.d_cons,Gd.d_nil,eqns,Em.eqn,headsI,headsB,↓RI_ite,↓RB_ite,RI.d,RB.d,A.d,B.d,cm_eql,cm_neq,cm_lss,cm_leq,cm_gtr,cm_geq,List.map_cons,List.map_nil,and_true,Nat.zero_add,Nat.reduceAdd,ltn,upto,true_and,Nat.add_zero,List.getD_cons_zero,List.getD_cons_succ] at e2 e3 e4 ⊢
 simp only [e2,e3,Int.toNat_natCast] at e4 ⊢
 clear e2 e3
 rw [hlp,hlo] at e4
 simp only [List.getD_cons_zero,List.getD_cons_succ] at e4
 simp [e4]
set_option maxHeartbeats 1000000 in
theorem w35 (l:List UInt8) (hl:l.length <= 5000) (z:Int):∃ x y,F35 [eS l,z] [] = ([x,y],[true,(rspan l z).isSome]) /\ ∀ p,rspan l z = some p -> p = (x,y):=by
 have g56:tabF T17 56 = F56:=by kernel_rfl
 have hF:F35 [eS l,z] [] = S35.run (tabF T17) true [eS l,z] []:=rfl
 rw [hF]
 clear hF
 generalize tabF T17 = Φ at g56
 obtain ⟨ρ,e1,e2,e3,e4⟩:=Smry.run_specT (Φ:=Φ) (S:=S35) (is:=[eS l,z]) (bs:=[]) rfl
 rw [e1,obAll_eq]
 clear e1
 simp only [S35,obs,Gd.d_cons,Gd.d_nil,eqns,Em.eqn,headsI,headsB,↓RI_ite,↓RB_ite,RI.d,RB.d,A.d,B.d,cm_eql,cm_neq,cm_lss,cm_leq,cm_gtr,cm_geq,List.map_cons,List.map_nil,and_true,Nat.zero_add,Nat.reduceAdd,ltn,upto,true_and,Nat.add_zero,List.getD_cons_zero,List.getD_cons_succ] at e2 e3 e4 ⊢
 simp only [e2,e3,Int.toNat_natCast] at e4 ⊢
 clear e2 e3
 have e0:=w56 l hl 0 (Nat.zero_le _)
 rw [List.drop_zero,Nat.zero_add] at e0
 have e0:F56 [eS l,0] [] = _:=e0
 rw [g56,e0] at e4
 obtain ⟨⟨⟨i2,i3⟩,b0⟩,b1,b2,b3,i4,b4,b5,i5,b6,i6,b7,i7,⟨⟨i8,i9⟩,b8⟩,i10,b9,i11,b10,b11,i12,b12,b13,b14,b15,b16,b17,b18,b19,i13,i14,b20,b21,b22,b23,i15,i16,b24,b25,i17,i18⟩:=e4
 simp only [List.getD_cons_zero,List.getD_cons_succ] at i2 i3 b0
 have hk:(numL l 0).2 <= l.length:=by
  obtain ⟨D,R,rfl,hD,hR⟩:=splitH l
  rw [numL_len D R 0 hD hR,List.length_append]; omega
 have hm:(numL (l.drop ((numL l 0).2 + 1)) 0).2 <= l.length:=by
  obtain ⟨D,R,hDR,hD,hR⟩:=splitH (l.drop ((numL l 0).2 + 1))
  rw [hDR,numL_len D R 0 hD hR]
  have:=congrArg List.length hDR
  rw [List.length_drop,List.length_append] at this
  omega
 unfold rspan chk
 generalize hkk:(numL l 0).2 = k at *
 generalize hvv:(numL l 0).1 = v at *
 have i4:ρ.i 4 = (l.length:Int):=i4.trans (eS_len l)
 have i5:ρ.i 5 = (l.length:Int):=i5.trans (eS_len l)
 have i12:ρ.i 12 = (l.length:Int):=i12.trans (eS_len l)
 have b3:ρ.b 3 = decide (k < 1 \/ 4 < k):=by
  rw [b3,b1,b2,i3,Bool.eq_iff_iff,Bool.or_eq_true,decide_eq_true_eq,decide_eq_true_eq,decide_eq_true_eq]
  omega
 have b4:ρ.b 4 = decide (k < l.length):=by rw [b4,i3,i4,Bool.eq_iff_iff]; simp
 have b5:ρ.b 5 = true:=by rw [b5,i3]; exact decide_eq_true (by omega)
 have b6:ρ.b 6 = decide (k < l.length):=by rw [b6,i3,i5,Bool.eq_iff_iff]; simp
 by_cases h1:k < 1 \/ 4 < k
 ·have b3:ρ.b 3 = true:=by rw [b3]; exact decide_eq_true h1
  refine ⟨0,0,?_,fun p hp=>by rw [if_pos h1] at hp; cases hp⟩
  rw [if_pos h1]
  have b25:ρ.b 25 = false:=by rw [b25,b24,b3]; rfl
  have i17:ρ.i 17 = 0:=by rw [i17,b24,b3]; rfl
  have i18:ρ.i 18 = 0:=by rw [i18,b24,b3]; rfl
  simp [b0,b3,b25,i17,i18]
 ·have b3:ρ.b 3 = false:=by rw [b3]; exact decide_eq_false h1
  rw [if_neg h1]
  by_cases h2:k < l.length
  ·have b4:ρ.b 4 = true:=by rw [b4]; exact decide_eq_true h2
   have b6:ρ.b 6 = true:=by rw [b6]; exact decide_eq_true h2
   rw [if_pos h2]
   have i6:ρ.i 6 = ((l.getD k 0).toNat:Int):=by rw [i6,i3,Int.toNat_natCast]; exact eS_get l k
   have i7:ρ.i 7 = ((k + 1:Nat):Int):=by rw [i7,i3,arAdd (by omega) (by omega)]; omega
   have b7:ρ.b 7 = decide (l.getD k 0 ≠ 45):=by
    rw [b7,i6,Bool.eq_iff_iff,bne_iff_ne,decide_eq_true_eq]
    constructor
    ·intro h h'; rw [h'] at h; exact h rfl
    ·intro h h'
     exact h (UInt8.toNat_inj.1 (by rw [show (l.getD k 0).toNat = 45 by omega]; rfl))
   rw [i7,w56 l hl (k + 1) (by omega)] at i8 i9 b8
   simp only [List.getD_cons_zero,List.getD_cons_succ] at i8 i9 b8
   by_cases h3:l.getD k 0 ≠ 45
   ·have b7:ρ.b 7 = true:=by rw [b7]; exact decide_eq_true h3
    rw [if_pos h3]
    have b19:ρ.b 19 = false:=by rw [b19,b4,b18,b16,b7]; rfl
    have b25:ρ.b 25 = false:=by rw [b25,b24,b3,b23,b19]; rfl
    refine ⟨ρ.i 17,ρ.i 18,?_,fun p hp=>by cases hp⟩
    simp [b0,b3,b4,b5,b6,b7,b25]
   ·have b7:ρ.b 7 = false:=by rw [b7]; exact decide_eq_false h3
    rw [if_neg h3]
    generalize hmm:(numL (l.drop (k + 1)) 0).2 = m at *
    generalize hww:(numL (l.drop (k + 1)) 0).1 = w at *
    have i10:ρ.i 10 = (m:Int):=by rw [i10,i9,i7,arSub (by omega) (by omega)]; omega
    have i11:ρ.i 11 = (m:Int):=by rw [i11,i9,i7,arSub (by omega) (by omega)]; omega
    have b13:ρ.b 13 = decide (m < 1 \/ 4 < m \/ k + 1 + m ≠ l.length):=by
     rw [b13,b11,b9,b10,b12,i10,i11,i9,i12,Bool.eq_iff_iff,Bool.or_eq_true,Bool.or_eq_true,decide_eq_true_eq,decide_eq_true_eq,decide_eq_true_eq,bne_iff_ne]
     omega
    by_cases h4:m < 1 \/ 4 < m \/ k + 1 + m ≠ l.length
    ·have b13:ρ.b 13 = true:=by rw [b13]; exact decide_eq_true h4
     rw [if_pos h4]
     have b19:ρ.b 19 = false:=by rw [b19,b4,b18,b17,b13,Bool.not_true,Bool.and_false]; rfl
     have b25:ρ.b 25 = false:=by rw [b25,b24,b3,b23,b19]; rfl
     refine ⟨ρ.i 17,ρ.i 18,?_,fun p hp=>by cases hp⟩
     simp [b0,b3,b4,b5,b6,b7,b8,b25]
    ·have b13:ρ.b 13 = false:=by rw [b13]; exact decide_eq_false h4
     rw [if_neg h4]
     have b19:ρ.b 19 = true:=by rw [b19,b4,b18,b16,b17,b7,b13]; rfl
     have i14:ρ.i 14 = w:=by rw [i14,b4,i8]; rfl
     have b23:ρ.b 23 = (decide (v <= w) && decide (w < z)):=by rw [b23,b19,b22,b20,b21,i2,i14]; rfl
     have b25:ρ.b 25 = (decide (v <= w) && decide (w < z)):=by rw [b25,b24,b3,b23]; rfl
     have i17:ρ.i 17 = v:=by rw [i17,b24,b3,i15,b19,i2]; rfl
     have i18:ρ.i 18 = w:=by rw [i18,b24,b3,i16,b19,i14]; rfl
     refine ⟨v,w,?_,fun p hp=>?_⟩
     ·cases hc:(decide (v <= w) && decide (w < z)) <;> simp [b0,b3,b4,b5,b6,b7,b8,b25,hc,i17,i18]
     ·split at hp
      ·cases hp; rfl
      ·cases hp
  ·have b4:ρ.b 4 = false:=by rw [b4]; exact decide_eq_false h2
   rw [if_neg h2]
   have b19:ρ.b 19 = true:=by rw [b19,b4]; rfl
   have i14:ρ.i 14 = v:=by rw [i14,b4,i2]; rfl
   have b23:ρ.b 23 = (decide (v <= v) && decide (v < z)):=by rw [b23,b19,b22,b20,b21,i2,i14]; rfl
   have b25:ρ.b 25 = (decide (v <= v) && decide (v < z)):=by rw [b25,b24,b3,b23]; rfl
   have i17:ρ.i 17 = v:=by rw [i17,b24,b3,i15,b19,i2]; rfl
   have i18:ρ.i 18 = v:=by rw [i18,b24,b3,i16,b19,i14]; rfl
   refine ⟨v,v,?_,fun p hp=>?_⟩
   ·cases hc:(decide (v <= v) && decide (v < z)) <;> simp [b0,b3,b4,b25,hc,i17,i18] <;> simpa using hc
   ·split at hp
    ·cases hp; rfl
    ·cases hp
def beg (l w:List UInt8):Bool:=decide (w.length <= l.length) && decide (l.take w.length = w)
theorem w34 (l w:List UInt8) (hl:l.length <= 5000):F34 [eS l,eS w] [] = ([],[true,beg l w]):=by
 show S34.run (tabF T18) true [eS l,eS w] [] = _
 generalize tabF T18 = Φ
 obtain ⟨ρ,e1,e2,e3,e4⟩:=Smry.run_specT (Φ:=Φ) (S:=S34) (is:=[eS l,eS w]) (bs:=[]) rfl
 rw [e1,obAll_eq]
 clear e1
 simp only [S34,obs,Gd.d_cons,Gd.d_nil,eqns,Em.eqn,headsI,headsB,↓RI_ite,↓RB_ite,RI.d,RB.d,A.d,B.d,cm_eql,cm_neq,cm_lss,cm_leq,cm_gtr,cm_geq,List.map_cons,List.map_nil,and_true,Nat.zero_add,Nat.reduceAdd,ltn,upto,true_and,Nat.add_zero,List.getD_cons_zero,List.getD_cons_succ] at e2 e3 e4 ⊢
 simp only [e2,e3,Int.toNat_natCast] at e4 ⊢
 clear e2 e3
 obtain ⟨i2,i3,b0,i4,i5,b1,b2,i6,b3,b4⟩:=e4
 have i2:ρ.i 2 = (l.length:Int):=i2.trans (eS_len l)
 have i3:ρ.i 3 = (w.length:Int):=i3.trans (eS_len w)
 have i4:ρ.i 4 = (w.length:Int):=i4.trans (eS_len w)
 have i5:ρ.i 5 = (l.length:Int):=i5.trans (eS_len l)
 have b0:ρ.b 0 = decide (w.length <= l.length):=by rw [b0,i2,i3,Bool.eq_iff_iff]; simp
 have b1:ρ.b 1 = true:=by rw [b1,i4]; exact decide_eq_true (by omega)
 have b2:ρ.b 2 = decide (w.length <= l.length):=by rw [b2,i4,i5,Bool.eq_iff_iff]; simp
 have i6:ρ.i 6 = eS (l.take w.length):=by
  rw [i6,i4,Int.toNat_natCast]
  refine (eS_sub l 0 w.length).trans ?_
  rw [List.drop_zero,Nat.sub_zero]
 have b4:ρ.b 4 = beg l w:=by rw [b4,b0,b3,i6,eS_eq]; rfl
 simp [b0,b1,b2,b4]
def ramS:List UInt8:=[114,97,109,32]
def saveS:List UInt8:=[115,97,118,101,32]
theorem k_ramS:(673297395398191808945096467479145250065008181184167419315352869621791955472343115302168078794351350169167927619673915307814153730969278090716634912611640904164747440035570957683320308354830997095852696053844279296:Int) = eS ramS:=by kernel_rfl
theorem k_saveS:(9076030935533343889394336988630724078093093587135212337716790028131575744441157651624044294081355167201375844120737036631266793366386133293787891686241204800536128141339719729593284677222534595967732621833034659995557837512776775954339150798446591213760134942539945918190338441216:Int) = eS saveS:=by kernel_rfl
def lineR (P:Pol) (l:List UInt8):Option Pol :=
 if skip l then some P
 else if decide (l = port1) then some { P with p0:=true }
 else if decide (l = port2) then some { P with p1:=true }
 else if beg l ramS then (rspan (l.drop 4) 2048).map fun p=>{ P with r:=P.r ++ [p] }
 else if beg l saveS then (rspan (l.drop 5) 8192).map fun p=>{ P with s:=P.s ++ [p] }
 else none
theorem span_nil (z:Int):spanO [] z = none:=by
 rw [spanO_chk]
 have:numB (Lib.cut [] [45]).1 = none:=numB_none (by rintro ⟨h,_⟩; exact absurd h (by decide))
 rw [this]
theorem beg_cut {w l:List UInt8} (hw:(32:UInt8) ∉ w):(beg l (w ++ [32]) = true -> Lib.cut l [32] = (w,l.drop (w.length + 1),true)) /\ ((Lib.cut l [32]).1 = w -> beg l (w ++ [32]) = false -> (Lib.cut l [32]).2.1 = []) /\ (beg l (w ++ [32]) = false -> (Lib.cut l [32]).1 = w -> l = w):=by
 have hb:beg l (w ++ [32]) = true ↔ ∃ b,l = w ++ 32 :: b:=by
  unfold beg
  rw [Bool.and_eq_true,decide_eq_true_eq,decide_eq_true_eq]
  constructor
  ·rintro ⟨_,h2⟩
   refine ⟨l.drop (w ++ [32]).length,?_⟩
   have:=List.take_append_drop (w ++ [32]).length l
   rw [h2] at this
   rw [<- this]; simp
  ·rintro ⟨b,rfl⟩
   refine ⟨by simp,?_⟩
   rw [show w ++ 32 :: b = (w ++ [32]) ++ b by simp,List.take_left]
 refine ⟨fun h=>?_,fun h1 h2=>?_,fun h2 h1=>?_⟩
 ·obtain ⟨b,rfl⟩:=hb.1 h
  rw [cut_at w b hw,show w ++ 32 :: b = (w ++ [32]) ++ b by simp,List.drop_left' (by simp)]
 ·rcases around 32 l with ⟨h3,_⟩ | ⟨a,b,rfl,h3,_⟩
  ·rw [cut_no h3]
  ·rw [cut_at a b h3] at h1
   simp only at h1
   subst h1
   have:=hb.2 ⟨b,rfl⟩
   rw [h2] at this; cases this
 ·rcases around 32 l with ⟨h3,_⟩ | ⟨a,b,rfl,h3,_⟩
  ·rw [cut_no h3] at h1; exact h1
  ·rw [cut_at a b h3] at h1
   simp only at h1
   subst h1
   have:=hb.2 ⟨b,rfl⟩
   rw [h2] at this; cases this
theorem lineR_eq (P:Pol) (l:List UInt8):lineR P l = lineO P l:=by
 unfold lineR lineO
 obtain ⟨r1,r2,r3⟩:=beg_cut (w:=ramW) (l:=l) (by decide)
 obtain ⟨s1,s2,s3⟩:=beg_cut (w:=saveW) (l:=l) (by decide)
 have er:ramW ++ [32] = ramS:=rfl
 have es:saveW ++ [32] = saveS:=rfl
 rw [er] at r1 r2 r3
 rw [es] at s1 s2 s3
 split
 ·rfl
 ·split
  ·rfl
  ·split
   ·rfl
   ·cases hr:beg l ramS with
    | true =>
     rw [r1 hr]
     simp only [decide_true,if_true,rspan_eq]
     rfl
    | false =>
     cases hs:beg l saveS with
     | true =>
      have h2:=s1 hs
      rw [h2]
      have hne:decide (saveW = ramW) = false:=by decide
      simp only [hne,decide_true,if_true,Bool.false_eq_true,if_false,rspan_eq]
      rfl
     | false =>
      simp only [Bool.false_eq_true,if_false]
      split
      ·rename_i h
       rw [r2 (of_decide_eq_true h) hr,span_nil]; rfl
      ·split
       ·rename_i h
        rw [s2 (of_decide_eq_true h) hs,span_nil]; rfl
       ·rfl
set_option maxHeartbeats 4000000 in
theorem w20 (P:Pol) (l:List UInt8) (hl:l.length <= 5000) (hr:P.r.length <= 100000) (hs:P.s.length <= 100000) :
  (∀ Q,lineO P l = some Q -> F20 [eP P.r,P.r.length,eP P.s,P.s.length,eS l] [P.p0,P.p1] = ([eP Q.r,Q.r.length,eP Q.s,Q.s.length],[true,Q.p0,Q.p1,true])) /\
  (lineO P l = none -> ∃ x0 x1 x2 x3 y0 y1,F20 [eP P.r,P.r.length,eP P.s,P.s.length,eS l] [P.p0,P.p1] = ([x0,x1,x2,x3],[true,y0,y1,false])):=by
 have g34:tabF T19 34 = F34:=by kernel_rfl
 have g35:tabF T19 35 = F35:=by kernel_rfl
 have hF:F20 [eP P.r,P.r.length,eP P.s,P.s.length,eS l] [P.p0,P.p1] = S20.run (tabF T19) true [eP P.r,P.r.length,eP P.s,P.s.length,eS l] [P.p0,P.p1]:=rfl
 rw [hF]
 clear hF
 generalize tabF T19 = Φ at g34 g35
 obtain ⟨ρ,e1,e2,e3,e4⟩:=Smry.run_specT (Φ:=Φ) (S:=S20) (is:=[eP P.r,P.r.length,eP P.s,P.s.length,eS l]) (bs:=[P.p0,P.p1]) rfl
 rw [e1,obAll_eq]
 clear e1
 simp only [S20,obs,Gd.d_cons,Gd.d_nil,eqns,Em.eqn,headsI,headsB,↓RI_ite,↓RB_ite,RI.d,RB.d,A.d,B.d,cm_eql,cm_neq,cm_lss,cm_leq,cm_gtr,cm_geq,List.map_cons,List.map_nil,and_true,Nat.zero_add,Nat.reduceAdd,ltn,upto,true_and,Nat.add_zero,List.getD_cons_zero,List.getD_cons_succ] at e2 e3 e4 ⊢
 simp only [e2,e3,Int.toNat_natCast] at e4 ⊢
 clear e2 e3
 rw [g34,g35,k_ramS,k_saveS,w34 l ramS hl,w34 l saveS hl] at e4
 simp only [List.getD_cons_zero,List.getD_cons_succ] at e4
 obtain ⟨b2,i5,b3,i6,b4,b5,b6,b7,⟨b8,b9⟩,i7,b10,b11,i8,⟨⟨i9,i10⟩,b12,b13⟩,b14,i11,b15,i12,i13,⟨b16,b17⟩,i14,b18,b19,i15,⟨⟨i16,i17⟩,b20,b21⟩,b22,i18,b23,i19,i20,b24,b25,i21,i22,b26,b27,i23,i24,i25,i26,b28,b29,b30,i27,i28,i29,i30,b31,b32,b33,b34,i31,i32,i33,i34,b35,b36,b37,b38,i35,i36,i37,i38⟩:=e4
 have i5:ρ.i 5 = (l.length:Int):=i5.trans (eS_len l)
 have i7:ρ.i 7 = (l.length:Int):=i7.trans (eS_len l)
 have i14:ρ.i 14 = (l.length:Int):=i14.trans (eS_len l)
 have b2:ρ.b 2 = decide (l = []):=by rw [b2,show (0:Int) = eS [] from rfl,eS_eq]
 have b3:ρ.b 3 = !decide (l = []):=by
  rw [b3,i5,Bool.eq_iff_iff,decide_eq_true_eq,Bool.not_eq_true',decide_eq_false_iff_not,<- List.length_eq_zero_iff]
  omega
 have b5:ρ.b 5 = skip l:=by
  rw [b5,b2,b4,i6]
  unfold skip
  rw [show (dec (eS l)).getD (Int.toNat 0 * 1) 0 = ((l.getD 0 0).toNat:Int) from eS_get l 0]
 have b6:ρ.b 6 = decide (l = port1):=by rw [b6,k_port1,eS_eq]
 have b7:ρ.b 7 = decide (l = port2):=by rw [b7,k_port2,eS_eq]
 have i8:ρ.i 8 = eS (l.drop 4):=by
  rw [i8,i7,Int.toNat_natCast]
  refine (eS_sub l 4 l.length).trans ?_
  rw [List.take_of_length_le (by rw [List.length_drop]; exact Nat.le_refl _)]
 have i15:ρ.i 15 = eS (l.drop 5):=by
  rw [i15,i14,Int.toNat_natCast]
  refine (eS_sub l 5 l.length).trans ?_
  rw [List.take_of_length_le (by rw [List.length_drop]; exact Nat.le_refl _)]
 obtain ⟨x1,y1,s1,t1⟩:=w35 (l.drop 4) (by rw [List.length_drop]; omega) 2048
 obtain ⟨x2,y2,s2,t2⟩:=w35 (l.drop 5) (by rw [List.length_drop]; omega) 8192
 rw [i8,s1] at i9 i10 b12 b13
 rw [i15,s2] at i16 i17 b20 b21
 simp only [List.getD_cons_zero,List.getD_cons_succ] at i9 i10 b12 b13 i16 i17 b20 b21
 have b10:beg l ramS = true -> ρ.b 10 = true:=fun h=>by
  unfold beg at h
  rw [Bool.and_eq_true,decide_eq_true_eq] at h
  have h4:4 <= l.length:=h.1
  rw [b10,i7]; exact decide_eq_true (by omega)
 have b18:beg l saveS = true -> ρ.b 18 = true:=fun h=>by
  unfold beg at h
  rw [Bool.and_eq_true,decide_eq_true_eq] at h
  have h4:5 <= l.length:=h.1
  rw [b18,i14]; exact decide_eq_true (by omega)
 have b11:ρ.b 11 = true:=by rw [b11]; exact decide_eq_true (Int.le_refl _)
 have b19:ρ.b 19 = true:=by rw [b19]; exact decide_eq_true (Int.le_refl _)
 have b14:ρ.b 14 = true:=by rw [b14]; exact decide_eq_true (by omega)
 have b15:ρ.b 15 = true:=by rw [b15]; exact decide_eq_true (by omega)
 have b22:ρ.b 22 = true:=by rw [b22]; exact decide_eq_true (by omega)
 have b23:ρ.b 23 = true:=by rw [b23]; exact decide_eq_true (by omega)
 have i12:ρ.i 12 = eP (P.r ++ [(x1,y1)]):=by
  rw [i12,i11,i9,i10]
  exact eP_cat P.r [(x1,y1)]
 have i19:ρ.i 19 = eP (P.s ++ [(x2,y2)]):=by
  rw [i19,i18,i16,i17]
  exact eP_cat P.s [(x2,y2)]
 have i13:ρ.i 13 = ((P.r ++ [(x1,y1)]).length:Int):=by rw [i13,arAdd (by omega) (by omega),List.length_append]; rfl
 have i20:ρ.i 20 = ((P.s ++ [(x2,y2)]).length:Int):=by rw [i20,arAdd (by omega) (by omega),List.length_append]; rfl
 clear i6 i11 i18 b4 i5 i7 i14 i8 i15 s1 s2 g34 g35
 rw [<- lineR_eq]
 unfold lineR
 cases h1:skip l with
 | true =>
  refine ⟨fun Q hQ=>?_,fun h=>by simp at h⟩
  obtain rfl:P = Q:=by simpa using hQ
  have hne:ρ.b 2 = true \/ ρ.b 3 = true:=by rw [b2,b3]; cases decide (l = []) <;> simp
  rcases hne with hne | hne <;> simp [b24,b25,b26,b27,b28,b29,b30,b31,b32,b33,b34,b35,b36,b37,b38,i21,i22,i23,i24,i25,i26,i27,i28,i29,i30,i31,i32,i33,i34,i35,i36,i37,i38,hne,b2,b5,h1,b8,b16]
 | false =>
  have b2':ρ.b 2 = false:=by
   rw [b2]
   unfold skip at h1
   rw [Bool.or_eq_false_iff] at h1
   exact h1.1
  have b3':ρ.b 3 = true:=by rw [b3,<- b2,b2']; rfl
  cases h2:decide (l = port1) with
  | true =>
   refine ⟨fun Q hQ=>?_,fun h=>by simp at h⟩
   obtain rfl:({ P with p0:=true }:Pol) = Q:=by simpa using hQ
   simp [b24,b25,b26,b27,b28,b29,b30,b31,b32,b33,b34,b35,b36,b37,b38,i21,i22,i23,i24,i25,i26,i27,i28,i29,i30,i31,i32,i33,i34,i35,i36,i37,i38,b2',b3',b5,b6,h1,h2,b8,b16]
  | false =>
   cases h3:decide (l = port2) with
   | true =>
    refine ⟨fun Q hQ=>?_,fun h=>by simp at h⟩
    obtain rfl:({ P with p1:=true }:Pol) = Q:=by simpa using hQ
    simp [b24,b25,b26,b27,b28,b29,b30,b31,b32,b33,b34,b35,b36,b37,b38,i21,i22,i23,i24,i25,i26,i27,i28,i29,i30,i31,i32,i33,i34,i35,i36,i37,i38,b2',b3',b5,b6,b7,h1,h2,h3,b8,b16]
   | false =>
    cases h4:beg l ramS with
    | true =>
     have b10:=b10 h4
     cases h5:rspan (l.drop 4) 2048 with
     | none =>
      refine ⟨fun Q hQ=>by simp at hQ,fun _=>⟨ρ.i 35,ρ.i 36,ρ.i 37,ρ.i 38,ρ.b 37,ρ.b 38,?_⟩⟩
      have b36:ρ.b 36 = false:=by simp [b24,b25,b26,b27,b28,b29,b30,b31,b32,b33,b34,b35,b36,b37,b38,i21,i22,i23,i24,i25,i26,i27,i28,i29,i30,i31,i32,i33,i34,i35,i36,i37,i38,b5,b6,b7,b9,b13,h1,h2,h3,h4,h5]
      simp [b36,b2',b3',b5,b6,b7,b9,b10,b11,b12,b14,b15,h1,h2,h3,h4,b8,b16]
     | some p =>
      obtain rfl:=t1 p h5
      refine ⟨fun Q hQ=>?_,fun h=>by simp at h⟩
      obtain rfl:({ P with r:=P.r ++ [(x1,y1)] }:Pol) = Q:=by simpa using hQ
      simp [b24,b25,b26,b27,b28,b29,b30,b31,b32,b33,b34,b35,b36,b37,b38,i21,i22,i23,i24,i25,i26,i27,i28,i29,i30,i31,i32,i33,i34,i35,i36,i37,i38,b2',b3',b5,b6,b7,b9,b10,b11,b12,b13,b14,b15,i12,i13,h1,h2,h3,h4,h5,b8,b16]
    | false =>
     cases h6:beg l saveS with
     | true =>
      have b18:=b18 h6
      cases h5:rspan (l.drop 5) 8192 with
      | none =>
       refine ⟨fun Q hQ=>by simp at hQ,fun _=>⟨ρ.i 35,ρ.i 36,ρ.i 37,ρ.i 38,ρ.b 37,ρ.b 38,?_⟩⟩
       have b36:ρ.b 36 = false:=by simp [b24,b25,b26,b27,b28,b29,b30,b31,b32,b33,b34,b35,b36,b37,b38,i21,i22,i23,i24,i25,i26,i27,i28,i29,i30,i31,i32,i33,i34,i35,i36,i37,i38,b5,b6,b7,b9,b17,b21,h1,h2,h3,h4,h6,h5]
       simp [b36,b2',b3',b5,b6,b7,b9,b17,b18,b19,b20,b22,b23,h1,h2,h3,h4,h6,b8,b16]
      | some p =>
       obtain rfl:=t2 p h5
       refine ⟨fun Q hQ=>?_,fun h=>by simp at h⟩
       obtain rfl:({ P with s:=P.s ++ [(x2,y2)] }:Pol) = Q:=by simpa using hQ
       simp [b24,b25,b26,b27,b28,b29,b30,b31,b32,b33,b34,b35,b36,b37,b38,i21,i22,i23,i24,i25,i26,i27,i28,i29,i30,i31,i32,i33,i34,i35,i36,i37,i38,b2',b3',b5,b6,b7,b9,b17,b18,b19,b20,b21,b22,b23,i19,i20,h1,h2,h3,h4,h5,h6,b8,b16]
     | false =>
      refine ⟨fun Q hQ=>by simp at hQ,fun _=>⟨ρ.i 35,ρ.i 36,ρ.i 37,ρ.i 38,ρ.b 37,ρ.b 38,?_⟩⟩
      have b36:ρ.b 36 = false:=by simp [b24,b25,b26,b27,b28,b29,b30,b31,b32,b33,b34,b35,b36,b37,b38,i21,i22,i23,i24,i25,i26,i27,i28,i29,i30,i31,i32,i33,i34,i35,i36,i37,i38,b5,b6,b7,b9,b17,h1,h2,h3,h4,h6]
      simp [b36,b2',b3',b5,b6,b7,b9,b17,h1,h2,h3,h4,h6,b8,b16]
end Go.Proofs.YtfgbfdlacnihkaaDoor.Po
namespace Go.Proofs.YtfgbfdlacnihkaaDoor.Po
open Go Go.Proofs Go.Proofs.YtfgbfdlacnihkaaDoor.Sx
def E8 (s:List UInt8) (n fr i:Nat) (P:Pol):List Int:=[eS s,(n:Int) + 1,fr,i,eP P.r,P.r.length,eP P.s,P.s.length]
def O8 (n:Nat) (P:Pol):List Int:=[(n:Int) + 1,eP P.r,P.r.length,eP P.s,P.s.length]
def seg (s:List UInt8) (fr i:Nat):List UInt8:=(s.drop fr).take (i - fr)
set_option maxHeartbeats 4000000 in
theorem t8 {Φ:Funs} (g20:Φ 20 = F20) {s:List UInt8} (hs:s.length <= 4096) (n fr i:Nat) (hfi:fr <= i) (hi:i <= s.length + 1) (hn:n <= 5000) (P:Pol) (hr:P.r.length <= 5000) (hsv:P.s.length <= 5000) :
  (i = s.length + 1 -> ∃ X,X.length = 8 /\ ∃ c1 c2,L100800.S.run Φ true (E8 s n fr i P) P.B = (X ++ O8 n P,true :: false :: c1 :: c2 :: [false,true,P.p0,P.p1])) /\
  (i < s.length -> s.getD i 0 ≠ 10 -> ∃ Y Z,L100800.S.run Φ true (E8 s n fr i P) P.B = (E8 s n fr (i + 1) P ++ Y,true :: true :: (P.B ++ Z))) /\
  (i <= s.length -> (i = s.length \/ s.getD i 0 = 10) ->
   (∀ Q,lineO P (seg s fr i) = some Q -> ∃ Y Z,L100800.S.run Φ true (E8 s n fr i P) P.B = (E8 s (n + 1) (i + 1) (i + 1) Q ++ Y,true :: true :: (Q.B ++ Z))) /\
   (lineO P (seg s fr i) = none -> ∃ X,X.length = 8 /\ ∃ c1 c2,L100800.S.run Φ true (E8 s n fr i P) P.B = (X ++ O8 n P,true :: false :: c1 :: c2 :: [true,false,P.p0,P.p1]))):=by
 unfold E8
 unfold Pol.B
 obtain ⟨ρ,e1,e2,e3,e4⟩:=Smry.run_specT (Φ:=Φ) (S:=L100800.S) (is:=[eS s,(n:Int) + 1,fr,i,eP P.r,P.r.length,eP P.s,P.s.length]) (bs:=[P.p0,P.p1]) rfl
 rw [e1,obAll_eq]
 clear e1
 simp only [L100800,obs,Gd.d_cons,Gd.d_nil,eqns,Em.eqn,headsI,headsB,↓RI_ite,↓RB_ite,RI.d,RB.d,A.d,B.d,cm_eql,cm_neq,cm_lss,cm_leq,cm_gtr,cm_geq,List.map_cons,List.map_nil,and_true,Nat.zero_add,Nat.reduceAdd,ltn,upto,true_and,Nat.add_zero,List.getD_cons_zero,List.getD_cons_succ] at e2 e3 e4 ⊢
 simp only [e2,e3,Int.toNat_natCast] at e4 ⊢
 clear e2 e3
 rw [g20] at e4
 obtain ⟨i8,b2,i9,b3,b4,i10,b5,i11,b6,b7,i12,b8,b9,b10,i13,⟨⟨i14,i15,i16,i17⟩,b11,b12,b13,b14⟩,b15,i18,i19,b16,b17,b18,b19,b20,b21,i20,i21,b22,b23,i22,i23,i24,i25,i26,b24,b25,b26,b27,b28⟩:=e4
 have i8:ρ.i 8 = (s.length:Int):=i8.trans (eS_len s)
 have i9:ρ.i 9 = (s.length:Int):=i9.trans (eS_len s)
 have i10:ρ.i 10 = (s.length:Int):=i10.trans (eS_len s)
 have i12:ρ.i 12 = (s.length:Int):=i12.trans (eS_len s)
 have i11:ρ.i 11 = ((s.getD i 0).toNat:Int):=i11.trans (eS_get s i)
 have b2:ρ.b 2 = decide (i <= s.length):=by rw [b2,i8,Bool.eq_iff_iff]; simp
 have b3:ρ.b 3 = decide (i < s.length):=by rw [b3,i9,Bool.eq_iff_iff]; simp
 have b5:ρ.b 5 = decide (i < s.length):=by rw [b5,i10,Bool.eq_iff_iff]; simp
 have b4:ρ.b 4 = true:=by rw [b4]; exact decide_eq_true (by omega)
 have b8:ρ.b 8 = true:=by rw [b8]; exact decide_eq_true (by omega)
 have b9:ρ.b 9 = true:=by rw [b9]; exact decide_eq_true (by omega)
 have b10:ρ.b 10 = decide (i <= s.length):=by rw [b10,i12,Bool.eq_iff_iff]; simp
 have b6:ρ.b 6 = decide (s.getD i 0 ≠ 10):=by
  rw [b6,i11,Bool.eq_iff_iff,bne_iff_ne,decide_eq_true_eq]
  constructor
  ·intro h h'; rw [h'] at h; exact h rfl
  ·intro h h'
   exact h (UInt8.toNat_inj.1 (by
    have:(s.getD i 0).toNat = 10:=by omega
    rw [this]; rfl))
 have i13:ρ.i 13 = eS (seg s fr i):=i13.trans (eS_sub s fr i)
 have i18:ρ.i 18 = (n:Int) + 1 + 1:=by rw [i18,arAdd (by omega) (by omega)]
 have i19:ρ.i 19 = ((i + 1:Nat):Int):=by rw [i19,arAdd (by omega) (by omega)]; omega
 have i26:ρ.i 26 = ((i + 1:Nat):Int):=by rw [i26,arAdd (by omega) (by omega)]; omega
 have hsl:(seg s fr i).length <= 5000:=by unfold seg; rw [List.length_take,List.length_drop]; omega
 obtain ⟨q1,q2⟩:=w20 P (seg s fr i) hsl (by omega) (by omega)
 rw [i13] at i14 i15 i16 i17 b11 b12 b13 b14
 refine ⟨fun h1=>?_,fun h1 h2=>?_,fun h1 h2=>?_⟩
 ·have b2:ρ.b 2 = false:=by rw [b2]; exact decide_eq_false (by omega)
  have b24:ρ.b 24 = false:=by rw [b24,b2]; rfl
  have b27:ρ.b 27 = false:=by rw [b27,b2]; rfl
  have b28:ρ.b 28 = true:=by rw [b28,b2]; rfl
  refine ⟨[eS s,ρ.i 20,ρ.i 21,ρ.i 26,ρ.i 22,ρ.i 23,ρ.i 24,ρ.i 25],rfl,ρ.b 22,ρ.b 23,?_⟩
  simp [O8,b2,b24,b27,b28]
 ·have b2:ρ.b 2 = true:=by rw [b2]; exact decide_eq_true (by omega)
  have b3:ρ.b 3 = true:=by rw [b3]; exact decide_eq_true h1
  have b5:ρ.b 5 = true:=by rw [b5]; exact decide_eq_true h1
  have b6:ρ.b 6 = true:=by rw [b6]; exact decide_eq_true h2
  have b7:ρ.b 7 = true:=by rw [b7,b3,b6]; rfl
  have b20:ρ.b 20 = false:=by rw [b20,b18,b7]; rfl
  have b24:ρ.b 24 = true:=by rw [b24,b2,b21,b7,Bool.or_true]; rfl
  have b22:ρ.b 22 = P.p0:=by rw [b22,b20]; rfl
  have b23:ρ.b 23 = P.p1:=by rw [b23,b20]; rfl
  have i20:ρ.i 20 = (n:Int) + 1:=by rw [i20,b20]; rfl
  have i21:ρ.i 21 = (fr:Int):=by rw [i21,b20]; rfl
  have i22:ρ.i 22 = eP P.r:=by rw [i22,b20]; rfl
  have i23:ρ.i 23 = (P.r.length:Int):=by rw [i23,b20]; rfl
  have i24:ρ.i 24 = eP P.s:=by rw [i24,b20]; rfl
  have i25:ρ.i 25 = (P.s.length:Int):=by rw [i25,b20]; rfl
  refine ⟨O8 n P,[ρ.b 27,ρ.b 28,P.p0,P.p1],?_⟩
  simp [O8,b2,b3,b4,b5,b7,b24,b22,b23,i20,i21,i22,i23,i24,i25,i26]
 ·have b2:ρ.b 2 = true:=by rw [b2]; exact decide_eq_true h1
  have b10:ρ.b 10 = true:=by rw [b10]; exact decide_eq_true h1
  have b7:ρ.b 7 = false:=by
   rw [b7,b3,b6]
   rcases h2 with h2 | h2
   ·rw [decide_eq_false (p:=i < s.length) (by omega)]; rfl
   ·rw [decide_eq_false (p:=s.getD i 0 ≠ 10) (fun h=>h h2),Bool.and_false]
  have hb5:ρ.b 3 = false \/ ρ.b 5 = true:=by
   rw [b3,b5]
   cases decide (i < s.length) <;> simp
  refine ⟨fun Q hQ=>?_,fun hQ=>?_⟩
  ·rw [q1 Q hQ] at i14 i15 i16 i17 b11 b12 b13 b14
   simp only [List.getD_cons_zero,List.getD_cons_succ] at i14 i15 i16 i17 b11 b12 b13 b14
   have b15:ρ.b 15 = false:=by rw [b15,b14]; rfl
   have b20:ρ.b 20 = true:=by rw [b20,b18,b19,b7,b15]; rfl
   have b24:ρ.b 24 = true:=by rw [b24,b2,b21,b20]; rfl
   have b22:ρ.b 22 = Q.p0:=by rw [b22,b20,b12]; rfl
   have b23:ρ.b 23 = Q.p1:=by rw [b23,b20,b13]; rfl
   have i20:ρ.i 20 = ((n + 1:Nat):Int) + 1:=by rw [i20,b20,i18]; simp
   have i21:ρ.i 21 = ((i + 1:Nat):Int):=by rw [i21,b20,i19]; rfl
   have i22:ρ.i 22 = eP Q.r:=by rw [i22,b20,i14]; rfl
   have i23:ρ.i 23 = (Q.r.length:Int):=by rw [i23,b20,i15]; rfl
   have i24:ρ.i 24 = eP Q.s:=by rw [i24,b20,i16]; rfl
   have i25:ρ.i 25 = (Q.s.length:Int):=by rw [i25,b20,i17]; rfl
   refine ⟨O8 n P,[ρ.b 27,ρ.b 28,P.p0,P.p1],?_⟩
   rcases hb5 with hb5 | hb5 <;> simp [O8,b2,b4,hb5,b7,b8,b9,b10,b11,b24,b22,b23,i20,i21,i22,i23,i24,i25,i26]
  ·obtain ⟨x0,x1,x2,x3,y0,y1,e⟩:=q2 hQ
   rw [e] at i14 i15 i16 i17 b11 b12 b13 b14
   simp only [List.getD_cons_zero,List.getD_cons_succ] at b11 b14
   have b15:ρ.b 15 = true:=by rw [b15,b14]; rfl
   have b20:ρ.b 20 = false:=by rw [b20,b19,b15,Bool.not_true,Bool.and_false]
   have b24:ρ.b 24 = false:=by rw [b24,b21,b20,b7,Bool.or_false,Bool.and_false]
   have b27:ρ.b 27 = true:=by rw [b27,b2,b26,b25,b7,b15]; rfl
   have b28:ρ.b 28 = false:=by rw [b28,b2]; rfl
   refine ⟨[eS s,ρ.i 20,ρ.i 21,ρ.i 26,ρ.i 22,ρ.i 23,ρ.i 24,ρ.i 25],rfl,ρ.b 22,ρ.b 23,?_⟩
   rcases hb5 with hb5 | hb5 <;> simp [O8,b2,b4,hb5,b7,b8,b9,b10,b11,b24,b27,b28]
theorem lns_seg {s:List UInt8} {fr i:Nat} (hfi:fr <= i) (hi:i <= s.length) (hno:(10:UInt8) ∉ seg s fr i) :
  (i = s.length -> lns (s.drop fr) = [seg s fr i]) /\ (i < s.length -> s.getD i 0 = 10 -> lns (s.drop fr) = seg s fr i :: lns (s.drop (i + 1))):=by
 refine ⟨fun h=>?_,fun h h10=>?_⟩
 ·have e:seg s fr i = s.drop fr:=by unfold seg; exact List.take_of_length_le (by rw [List.length_drop]; omega)
  rw [e] at hno ⊢
  exact lns_no hno
 ·have e:s.drop fr = seg s fr i ++ 10 :: s.drop (i + 1):=by
   have h1:=List.take_append_drop (i - fr) (s.drop fr)
   rw [List.drop_drop,show fr + (i - fr) = i by omega,List.drop_eq_getElem_cons h] at h1
   have h2:s[i] = 10:=by rw [List.getD_eq_getElem?_getD,List.getElem?_eq_getElem h] at h10; exact h10
   rw [h2] at h1
   exact h1.symm
  rw [e]
  exact lns_at _ _ hno
theorem seg_snoc {s:List UInt8} {fr i:Nat} (hfi:fr <= i) (hi:i < s.length):seg s fr (i + 1) = seg s fr i ++ [s.getD i 0]:=by
 unfold seg
 rw [show i + 1 - fr = (i - fr) + 1 by omega,List.take_add_one,List.getElem?_drop,show fr + (i - fr) = i by omega,List.getElem?_eq_getElem hi,List.getD_eq_getElem?_getD,List.getElem?_eq_getElem hi]
 rfl
def Inv8 (s:List UInt8) (R:Pol ⊕ Nat) (is:List Int) (bs:List Bool):Prop :=
 ∃ n fr i P,is = E8 s n fr i P /\ bs = P.B /\ fr <= i /\ i <= s.length + 1 /\ n <= fr /\ Gdp n P /\
  ((i = s.length + 1 /\ R = .inl P) \/ (i <= s.length /\ (10:UInt8) ∉ seg s fr i /\ foldO P n (lns (s.drop fr)) = R))
def Post8 (s:List UInt8) (R:Pol ⊕ Nat) (o:Fl):Prop :=
 (∃ n P,Gdp n P /\ n <= s.length + 1 /\ R = .inl P /\ o = (O8 n P,[false,true,P.p0,P.p1])) \/ (∃ n P,R = .inr (n + 1) /\ o = (O8 n P,[true,false,P.p0,P.p1]))
theorem loop8 {Φ:Funs} (g20:Φ 20 = F20) (s:List UInt8) (hs:s.length <= 4096) :
  ∃ o,loopF (L100800.S.run Φ true) 8 2 (E8 s 0 0 0 nilP) [false,false] = (o.1,true :: o.2) /\ Post8 s (foldO nilP 0 (lns s)) o:=by
 refine loop_rule (F:=L100800.S.run Φ true) (nI:=8) (nB:=2) (Inv8 s (foldO nilP 0 (lns s))) (fun is _=>s.length + 2 - (is.getD 3 0).toNat) _ ?_ _ _
  ⟨0,0,0,nilP,rfl,rfl,Nat.le_refl _,by omega,Nat.le_refl _,nil_gd,.inr ⟨Nat.zero_le _,by simp [seg],rfl⟩⟩
 rintro is bs ⟨n,fr,i,P,rfl,rfl,hfi,hi,hnf,hg,hR⟩
 have hlr:=hg.lr
 have hls:=hg.ls
 obtain ⟨q1,q2,q3⟩:=t8 (Φ:=Φ) g20 hs n fr i hfi hi (by omega) P (by omega) (by omega)
 rcases hR with ⟨h1,h2⟩ | ⟨h1,hno,hR⟩
 ·obtain ⟨X,hX,c1,c2,e⟩:=q1 h1
  rw [e]
  refine ⟨false,_,rfl,fun _=>.inl ⟨n,P,hg,by omega,h2,?_⟩,fun h=>by cases h⟩
  simp only [List.drop_succ_cons,List.drop_zero]
  rw [List.drop_left' hX]
 ·by_cases hc:i < s.length /\ s.getD i 0 ≠ 10
  ·obtain ⟨Y,Z,e⟩:=q2 hc.1 hc.2
   rw [e]
   refine ⟨true,_,rfl,fun h=>(by cases h),fun _=>⟨⟨n,fr,i + 1,P,List.take_left' rfl,List.take_left' rfl,by omega,by omega,hnf,hg,.inr ⟨by omega,?_,hR⟩⟩,?_⟩⟩
   ·rw [seg_snoc hfi hc.1,List.mem_append,List.mem_singleton,not_or]
    exact ⟨hno,fun h=>hc.2 h.symm⟩
   ·show s.length + 2 - (((i + 1:Nat):Int)).toNat < s.length + 2 - ((i:Int)).toNat
    omega
  ·have hend:i = s.length \/ s.getD i 0 = 10:=by
    by_cases h:i < s.length
    ·exact .inr (Classical.byContradiction fun h'=>hc ⟨h,h'⟩)
    ·exact .inl (by omega)
   obtain ⟨r1,r2⟩:=q3 h1 hend
   obtain ⟨m1,m2⟩:=lns_seg hfi h1 hno
   cases hl:lineO P (seg s fr i) with
   | some Q =>
    obtain ⟨Y,Z,e⟩:=r1 Q hl
    rw [e]
    refine ⟨true,_,rfl,fun h=>(by cases h),fun _=>⟨⟨n + 1,i + 1,i + 1,Q,List.take_left' rfl,List.take_left' rfl,Nat.le_refl _,by omega,by omega,lineO_gd hl hg,?_⟩,?_⟩⟩
    ·by_cases hlt:i < s.length
     ·have h10:s.getD i 0 = 10:=hend.resolve_left (by omega)
      rw [m2 hlt h10] at hR
      simp only [foldO,hl] at hR
      exact .inr ⟨by omega,by simp [seg],hR⟩
     ·have he:i = s.length:=by omega
      rw [m1 he] at hR
      simp only [foldO,hl] at hR
      exact .inl ⟨by omega,hR.symm⟩
    ·show s.length + 2 - (((i + 1:Nat):Int)).toNat < s.length + 2 - ((i:Int)).toNat
     omega
   | none =>
    obtain ⟨X,hX,c1,c2,e⟩:=r2 hl
    rw [e]
    have hRn:foldO nilP 0 (lns s) = .inr (n + 1):=by
     rw [<- hR]
     by_cases hlt:i < s.length
     ·have h10:s.getD i 0 = 10:=hend.resolve_left (by omega)
      rw [m2 hlt h10]; simp only [foldO,hl]
     ·have he:i = s.length:=by omega
      rw [m1 he]; simp only [foldO,hl]
    refine ⟨false,_,rfl,fun _=>.inr ⟨n,P,hRn,?_⟩,fun h=>by cases h⟩
    simp only [List.drop_succ_cons,List.drop_zero]
    rw [List.drop_left' hX]
set_option maxHeartbeats 2000000 in
theorem w8 (s:List UInt8):(4096 < s.length -> F8 [eS s] [] = ([0,0,0,0,0,9],[true,false,false])) /\
  (s.length <= 4096 -> (∀ P,foldO nilP 0 (lns s) = .inl P -> ∃ Q,Tdd P Q /\ F8 [eS s] [] = ([eP Q.r,Q.r.length,eP Q.s,Q.s.length,0,0],[true,Q.p0,Q.p1])) /\ (∀ k,foldO nilP 0 (lns s) = .inr k -> F8 [eS s] [] = ([0,0,0,0,(k:Int),7],[true,false,false]))):=by
 have hlp:(lpF (l8.map (·.2)) (tabF T30)) 100800 = loopF (L100800.S.run (tabF T30) true) 8 2:=by kernel_rfl
 have g21:(lpF (l8.map (·.2)) (tabF T30)) 21 = F21:=by kernel_rfl
 have q20:(tabF T30) 20 = F20:=by kernel_rfl
 have hlo:=fun h=>loop8 (Φ:=tabF T30) q20 s h
 have hF:F8 [eS s] [] = S8.run (lpF (l8.map (·.2)) (tabF T30)) true [eS s] []:=rfl
 rw [hF]
 clear hF q20
 generalize lpF (l8.map (·.2)) (tabF T30) = Φ at hlp g21
 generalize tabF T30 = Ψ at hlp hlo
 obtain ⟨ρ,e1,e2,e3,e4⟩:=Smry.run_specT (Φ:=Φ) (S:=S8) (is:=[eS s]) (bs:=[]) rfl
 rw [e1,obAll_eq]
 clear e1
 simp only [S8,obs,Gd.d_cons,Gd.d_nil,eqns,Em.eqn,headsI,headsB,↓RI_ite,↓RB_ite,RI.d,RB.d,A.d,B.d,cm_eql,cm_neq,cm_lss,cm_leq,cm_gtr,cm_geq,List.map_cons,List.map_nil,and_true,Nat.zero_add,Nat.reduceAdd,ltn,upto,true_and,Nat.add_zero,List.getD_cons_zero,List.getD_cons_succ] at e2 e3 e4 ⊢
 simp only [e2,e3,Int.toNat_natCast] at e4 ⊢
 clear e2 e3
 rw [hlp,g21] at e4
 obtain ⟨i1,b0,⟨⟨i2,i3,i4,i5,i6⟩,b1,b2,b3,b4,b5⟩,⟨⟨i7,i8⟩,b6⟩,⟨⟨i9,i10⟩,b7⟩,i11,i12,b8,b9,i13,i14,i15,i16,b10,i17,i18,b11,b12,i19,i20,i21,i22⟩:=e4
 have i1:ρ.i 1 = (s.length:Int):=i1.trans (eS_len s)
 constructor
 ·intro hbig
  have b0:ρ.b 0 = true:=by rw [b0,i1]; exact decide_eq_true (by omega)
  simp [b0,b10,b11,b12,i17,i18,i19,i20,i21,i22]
 ·intro hsm
  have b0:ρ.b 0 = false:=by rw [b0,i1]; exact decide_eq_false (by omega)
  have b10:ρ.b 10 = true:=by rw [b10,b0]; rfl
  obtain ⟨o,ho,hp⟩:=hlo hsm
  have ho:loopF (L100800.S.run Ψ true) 8 2 [eS s,1,0,0,0,0,0,0] [false,false] = (o.1,true :: o.2):=ho
  rw [ho] at i2 i3 i4 i5 i6 b1 b2 b3 b4 b5
  rcases hp with ⟨n,P,hg,hn,hR,rfl⟩ | ⟨n,P,hR,rfl⟩
  ·simp only [O8,List.getD_cons_zero,List.getD_cons_succ] at i2 i3 i4 i5 i6 b1 b2 b3 b4 b5
   rw [hR]
   refine ⟨fun P' hP=>?_,fun k hk=>by cases hk⟩
   obtain rfl:P = P':=Sum.inl.inj hP
   have hlr:=hg.lr
   have hls:=hg.ls
   obtain ⟨Qr,hr,er⟩:=w21 P.r (by omega) (hg.r.whl (by decide))
   obtain ⟨Qs,hs',es⟩:=w21 P.s (by omega) (hg.s.whl (by decide))
   rw [i3,i4,er] at i7 i8 b6
   rw [i5,i6,es] at i9 i10 b7
   simp only [List.getD_cons_zero,List.getD_cons_succ] at i7 i8 b6 i9 i10 b7
   refine ⟨⟨P.p0,P.p1,Qr,Qs⟩,⟨hr,hs',rfl,rfl⟩,?_⟩
   simp [b0,b1,b3,b4,b5,b6,b7,b8,b9,b10,b11,b12,i7,i8,i9,i10,i11,i12,i13,i14,i15,i16,i17,i18,i19,i20,i21,i22]
  ·simp only [O8,List.getD_cons_zero,List.getD_cons_succ] at i2 i3 i4 i5 i6 b1 b2 b3 b4 b5
   rw [hR]
   refine ⟨fun P' hP=>(by cases hP),fun k hk=>?_⟩
   obtain rfl:n + 1 = k:=Sum.inr.inj hk
   have i2':ρ.i 2 = ((n + 1:Nat):Int):=by rw [i2]; omega
   simp [b0,b1,b3,b8,b9,b10,b11,b12,i2',i11,i12,i13,i14,i15,i16,i17,i18,i19,i20,i21,i22]
set_option maxHeartbeats 1000000 in
theorem v3 (s0:List UInt8):F3 [eS s0] [] = ([],[true,true]):=by
 have g7:tabF T34 7 = F7:=by kernel_rfl
 have g8:tabF T34 8 = F8:=by kernel_rfl
 have g9:tabF T34 9 = F9:=by kernel_rfl
 have g10:tabF T34 10 = F10:=by kernel_rfl
 have hF:F3 [eS s0] [] = S3.run (tabF T34) true [eS s0] []:=rfl
 rw [hF]
 clear hF
 generalize tabF T34 = Φ at g7 g8 g9 g10
 obtain ⟨ρ,e1,e2,e3,e4⟩:=Smry.run_specT (Φ:=Φ) (S:=S3) (is:=[eS s0]) (bs:=[]) rfl
 rw [e1,obAll_eq]
 clear e1
 simp only [S3,obs,Gd.d_cons,Gd.d_nil,eqns,Em.eqn,headsI,headsB,↓RI_ite,↓RB_ite,RI.d,RB.d,A.d,B.d,cm_eql,cm_neq,cm_lss,cm_leq,cm_gtr,cm_geq,List.map_cons,List.map_nil,and_true,Nat.zero_add,Nat.reduceAdd,ltn,upto,true_and,Nat.add_zero,List.getD_cons_zero,List.getD_cons_succ] at e2 e3 e4 ⊢
 simp only [e2,e3,Int.toNat_natCast] at e4 ⊢
 clear e2 e3
 rw [g7,g8,g9,g10,w10] at e4
 simp only [List.getD_cons_zero,List.getD_cons_succ] at e4
 obtain ⟨i1,b0,i2,b1,i3,i4,⟨⟨i5,i6,i7,i8,i9,i10⟩,b2,b3,b4⟩,⟨⟨i11,i12,i13,i14,i15,i16⟩,b5,b6,b7⟩,⟨b8,b9⟩,b10,b11,b12,b13,⟨b14,b15⟩,b16⟩:=e4
 have i1:ρ.i 1 = (s0.length:Int):=i1.trans (eS_len s0)
 have i2:ρ.i 2 = (s0.length:Int):=i2.trans (eS_len s0)
 have hb:ρ.b 0 = false \/ ρ.b 1 = true:=by
  rw [b0,b1,i1,i2]
  by_cases h:(s0.length:Int) > 4097
  ·exact .inr (decide_eq_true (by omega))
  ·exact .inl (decide_eq_false h)
 have i4:∃ s:List UInt8,s.length <= 4097 /\ ρ.i 4 = eS s:=by
  rw [i4]
  cases h:ρ.b 0 with
  | true =>
   refine ⟨s0.take 4097,by rw [List.length_take]; omega,?_⟩
   show ρ.i 3 = _
   rw [i3]
   refine (eS_sub s0 0 4097).trans ?_
   rw [List.drop_zero,Nat.sub_zero]
  | false =>
   refine ⟨s0,?_,rfl⟩
   rw [b0,i1] at h
   have:=of_decide_eq_false h
   omega
 obtain ⟨s,hs,i4⟩:=i4
 rw [i4] at i5 i6 i7 i8 i9 i10 b2 b3 b4 i11 i12 i13 i14 i15 i16 b5 b6 b7
 have key:∃ x0 x1 x2 x3 x4 x5 y0 y1 Q,F7 [eS s] [] = ([x0,x1,x2,x3,x4,x5],[true,y0,y1]) /\ F8 [eS s] [] = ([x0,x1,x2,x3,x4,x5],[true,y0,y1]) /\ Pol.sw Q /\ x0 = eP Q.r /\ x1 = (Q.r.length:Int) /\ x2 = eP Q.s /\ x3 = (Q.s.length:Int) /\ y0 = Q.p0 /\ y1 = Q.p1:=by
  obtain ⟨a1,a2⟩:=w7 s (by omega)
  obtain ⟨c1,c2⟩:=w8 s
  by_cases hbig:4096 < s.length
  ·exact ⟨_,_,_,_,_,_,_,_,nilP,a1 hbig,c1 hbig,⟨by decide,by decide⟩,rfl,rfl,rfl,rfl,rfl,rfl⟩
  ·obtain ⟨a3,a4⟩:=a2 (by omega)
   obtain ⟨c3,c4⟩:=c2 (by omega)
   cases h:foldO nilP 0 (lns s) with
   | inr k=>exact ⟨_,_,_,_,_,_,_,_,nilP,a4 k h,c4 k h,⟨by decide,by decide⟩,rfl,rfl,rfl,rfl,rfl,rfl⟩
   | inl P =>
    obtain ⟨Q,hQ,l1,l2,e⟩:=a3 P h
    obtain ⟨Q',hQ',e'⟩:=c3 P h
    obtain rfl:Q' = Q:=hQ'.uniq hQ
    have e:F7 [eS s] [] = ([eP Q'.r,Q'.r.length,eP Q'.s,Q'.s.length,0,0],[true,Q'.p0,Q'.p1]):=e
    exact ⟨_,_,_,_,_,_,_,_,Q',e,e',⟨by omega,by omega⟩,rfl,rfl,rfl,rfl,rfl,rfl⟩
 obtain ⟨x0,x1,x2,x3,x4,x5,y0,y1,Q,e,e',hsw,rfl,rfl,rfl,rfl,rfl,rfl⟩:=key
 rw [e] at i5 i6 i7 i8 i9 i10 b2 b3 b4
 rw [e'] at i11 i12 i13 i14 i15 i16 b5 b6 b7
 simp only [List.getD_cons_zero,List.getD_cons_succ] at i5 i6 i7 i8 i9 i10 b2 b3 b4 i11 i12 i13 i14 i15 i16 b5 b6 b7
 simp only [i5,i6,i7,i8,i11,i12,i13,i14,b3,b4,b6,b7,j9 hsw,List.getD_cons_zero,List.getD_cons_succ] at b8 b9
 have b10:ρ.b 10 = true:=by rw [b10,i9,i15]; exact beq_self_eq_true _
 have b12:ρ.b 12 = true:=by rw [b12,i10,i16]; exact beq_self_eq_true _
 have b16:ρ.b 16 = true:=by rw [b16,b13,b11,b9,b10,b12,b15]; rfl
 rcases hb with hb | hb <;> simp [hb,b2,b5,b8,b14,b16]
end Go.Proofs.YtfgbfdlacnihkaaDoor.Po
namespace Go.Proofs.YtfgbfdlacnihkaaDoor.Po
open Go Go.Proofs Go.Proofs.YtfgbfdlacnihkaaDoor.Sx
variable {m:Int}
def s4:Sum:={ args:=[(.val true [(.int .u16),(.int .u16),(.int .u16),.bool])],tup:=false,res:=[(false,[.bool])],pre:=true }
def S4:Smry:=(.mk [(.di 3 (.cv .i64 (.v 0))),(.di 4 (.ar .rem .i64 (.v 3) (.c 2048))),(.di 5 (.cv .i64 (.v 0))),(.di 6 (.ar .rem .i64 (.v 5) (.c 8192))),(.di 7 (.ite (.v 0) (.v 6) (.v 4))),(.di 8 (.ite (.v 0) (.c 8192) (.c 2048))),(.di 9 (.ite (.v 0) (.c 9076030935533343889394336988630724078093093587135212337716790028131575744441157651624044294081355167201375844120737036631266793366386133293787891686241204800536128141339719729593284677222534595967732621833034659995557837512776775954339150798446591213760134942539945918190338441216) (.c 673297395398191808945096467479145250065008181184167419315352869621791955472343115302168078794351350169167927619673915307814153730969278090716634912611640904164747440035570957683320308354830997095852696053844279296))),(.di 10 (.ite (.v 0) (.c 2) (.c 1))),(.di 11 (.cv .i64 (.v 1))),(.di 12 (.ar .rem .i64 (.v 11) (.c 200))),(.di 13 (.ar .add .i64 (.v 7) (.v 12))),(.di 14 (.ar .sub .i64 (.v 8) (.c 1))),(.di 15 (.mn (.v 13) (.v 14))),(.di 16 (.ar .shr .i64 (.v 7) (.c 12))),(.di 17 (.ar .shr .i64 (.v 7) (.c 12))),(.di 18 (.ar .add .i64 (.v 17) (.c 1))),(.db 1 (.cm .geq (.v 16) (.c 0))),(.ob [] (.v 1)),(.db 2 (.cm .leq (.v 16) (.v 18))),(.ob [] (.v 2)),(.db 3 (.cm .leq (.v 18) (.c 16))),(.ob [] (.v 3)),(.di 19 (.sub (.c 106355561538638694184101034737134411307861478903975463178632552299126374030103501309356592935536522156252839228395858556753244350281377574264404231941571475365267315451320715327454932778167650351721474946058800651914921862827067724571023862040642631697130690668325684237285430961694803638185731658373248420806912603559248068116582988732128849867796064978659839802983017147560365862792065390863874704876683344155425577752395085141051151686966551865065466119919336170310199751405254089131374618282017640393299563634360199680498400689321416420074191928778855544652692799821599375746107950928594080671298010240371760160788716622354279346496193110650256249209882199583617761876740407296) (.v 16) (.v 18) 1)),(.di 20 (.lenq (.v 9) 1)),(.db 4 (.cm .leq (.v 20) (.c 4611686018427387903))),(.ob [] (.v 4)),(.di 21 (.lenq (.v 19) 1)),(.db 5 (.cm .leq (.v 21) (.c 4611686018427387903))),(.ob [] (.v 5)),(.di 22 (.cat (.v 9) (.v 19))),(.di 23 (.ar .shr .i64 (.v 7) (.c 8))),(.di 24 (.ar .and .i64 (.v 23) (.c 15))),(.di 25 (.ar .shr .i64 (.v 7) (.c 8))),(.di 26 (.ar .and .i64 (.v 25) (.c 15))),(.di 27 (.ar .add .i64 (.v 26) (.c 1))),(.db 6 (.cm .geq (.v 24) (.c 0))),(.ob [] (.v 6)),(.db 7 (.cm .leq (.v 24) (.v 27))),(.ob [] (.v 7)),(.db 8 (.cm .leq (.v 27) (.c 16))),(.ob [] (.v 8)),(.di 28 (.sub (.c 106355561538638694184101034737134411307861478903975463178632552299126374030103501309356592935536522156252839228395858556753244350281377574264404231941571475365267315451320715327454932778167650351721474946058800651914921862827067724571023862040642631697130690668325684237285430961694803638185731658373248420806912603559248068116582988732128849867796064978659839802983017147560365862792065390863874704876683344155425577752395085141051151686966551865065466119919336170310199751405254089131374618282017640393299563634360199680498400689321416420074191928778855544652692799821599375746107950928594080671298010240371760160788716622354279346496193110650256249209882199583617761876740407296) (.v 24) (.v 27) 1)),(.di 29 (.lenq (.v 22) 1)),(.db 9 (.cm .leq (.v 29) (.c 4611686018427387903))),(.ob [] (.v 9)),(.di 30 (.lenq (.v 28) 1)),(.db 10 (.cm .leq (.v 30) (.c 4611686018427387903))),(.ob [] (.v 10)),(.di 31 (.cat (.v 22) (.v 28))),(.di 32 (.ar .shr .i64 (.v 7) (.c 4))),(.di 33 (.ar .and .i64 (.v 32) (.c 15))),(.di 34 (.ar .shr .i64 (.v 7) (.c 4))),(.di 35 (.ar .and .i64 (.v 34) (.c 15))),(.di 36 (.ar .add .i64 (.v 35) (.c 1))),(.db 11 (.cm .geq (.v 33) (.c 0))),(.ob [] (.v 11)),(.db 12 (.cm .leq (.v 33) (.v 36))),(.ob [] (.v 12)),(.db 13 (.cm .leq (.v 36) (.c 16))),(.ob [] (.v 13)),(.di 37 (.sub (.c 106355561538638694184101034737134411307861478903975463178632552299126374030103501309356592935536522156252839228395858556753244350281377574264404231941571475365267315451320715327454932778167650351721474946058800651914921862827067724571023862040642631697130690668325684237285430961694803638185731658373248420806912603559248068116582988732128849867796064978659839802983017147560365862792065390863874704876683344155425577752395085141051151686966551865065466119919336170310199751405254089131374618282017640393299563634360199680498400689321416420074191928778855544652692799821599375746107950928594080671298010240371760160788716622354279346496193110650256249209882199583617761876740407296) (.v 33) (.v 36) 1)),(.di 38 (.lenq (.v 31) 1)),(.db 14 (.cm .leq (.v 38) (.c 4611686018427387903))),(.ob [] (.v 14)),(.di 39 (.lenq (.v 37) 1)),(.db 15 (.cm .leq (.v 39) (.c 4611686018427387903))),(.ob [] (.v 15)),(.di 40 (.cat (.v 31) (.v 37))),(.di 41 (.ar .and .i64 (.v 7) (.c 15))),(.di 42 (.ar .and .i64 (.v 7) (.c 15))),(.di 43 (.ar .add .i64 (.v 42) (.c 1))),(.db 16 (.cm .geq (.v 41) (.c 0))),(.ob [] (.v 16)),(.db 17 (.cm .leq (.v 41) (.v 43))),(.ob [] (.v 17)),(.db 18 (.cm .leq (.v 43) (.c 16))),(.ob [] (.v 18)),(.di 44 (.sub (.c 106355561538638694184101034737134411307861478903975463178632552299126374030103501309356592935536522156252839228395858556753244350281377574264404231941571475365267315451320715327454932778167650351721474946058800651914921862827067724571023862040642631697130690668325684237285430961694803638185731658373248420806912603559248068116582988732128849867796064978659839802983017147560365862792065390863874704876683344155425577752395085141051151686966551865065466119919336170310199751405254089131374618282017640393299563634360199680498400689321416420074191928778855544652692799821599375746107950928594080671298010240371760160788716622354279346496193110650256249209882199583617761876740407296) (.v 41) (.v 43) 1)),(.di 45 (.lenq (.v 40) 1)),(.db 19 (.cm .leq (.v 45) (.c 4611686018427387903))),(.ob [] (.v 19)),(.di 46 (.lenq (.v 44) 1)),(.db 20 (.cm .leq (.v 46) (.c 4611686018427387903))),(.ob [] (.v 20)),(.di 47 (.cat (.v 40) (.v 44))),(.di 48 (.lenq (.v 47) 1)),(.db 21 (.cm .leq (.v 48) (.c 4611686018427387903))),(.ob [] (.v 21)),(.di 49 (.cat (.v 47) (.c 1237940039285380274899124224))),(.di 50 (.ar .shr .i64 (.v 15) (.c 12))),(.di 51 (.ar .shr .i64 (.v 15) (.c 12))),(.di 52 (.ar .add .i64 (.v 51) (.c 1))),(.db 22 (.cm .geq (.v 50) (.c 0))),(.ob [] (.v 22)),(.db 23 (.cm .leq (.v 50) (.v 52))),(.ob [] (.v 23)),(.db 24 (.cm .leq (.v 52) (.c 16))),(.ob [] (.v 24)),(.di 53 (.sub (.c 106355561538638694184101034737134411307861478903975463178632552299126374030103501309356592935536522156252839228395858556753244350281377574264404231941571475365267315451320715327454932778167650351721474946058800651914921862827067724571023862040642631697130690668325684237285430961694803638185731658373248420806912603559248068116582988732128849867796064978659839802983017147560365862792065390863874704876683344155425577752395085141051151686966551865065466119919336170310199751405254089131374618282017640393299563634360199680498400689321416420074191928778855544652692799821599375746107950928594080671298010240371760160788716622354279346496193110650256249209882199583617761876740407296) (.v 50) (.v 52) 1)),(.di 54 (.lenq (.v 49) 1)),(.db 25 (.cm .leq (.v 54) (.c 4611686018427387903))),(.ob [] (.v 25)),(.di 55 (.lenq (.v 53) 1)),(.db 26 (.cm .leq (.v 55) (.c 4611686018427387903))),(.ob [] (.v 26)),(.di 56 (.cat (.v 49) (.v 53))),(.di 57 (.ar .shr .i64 (.v 15) (.c 8))),(.di 58 (.ar .and .i64 (.v 57) (.c 15))),(.di 59 (.ar .shr .i64 (.v 15) (.c 8))),(.di 60 (.ar .and .i64 (.v 59) (.c 15))),(.di 61 (.ar .add .i64 (.v 60) (.c 1))),(.db 27 (.cm .geq (.v 58) (.c 0))),(.ob [] (.v 27)),(.db 28 (.cm .leq (.v 58) (.v 61))),(.ob [] (.v 28)),(.db 29 (.cm .leq (.v 61) (.c 16))),(.ob [] (.v 29)),(.di 62 (.sub (.c 106355561538638694184101034737134411307861478903975463178632552299126374030103501309356592935536522156252839228395858556753244350281377574264404231941571475365267315451320715327454932778167650351721474946058800651914921862827067724571023862040642631697130690668325684237285430961694803638185731658373248420806912603559248068116582988732128849867796064978659839802983017147560365862792065390863874704876683344155425577752395085141051151686966551865065466119919336170310199751405254089131374618282017640393299563634360199680498400689321416420074191928778855544652692799821599375746107950928594080671298010240371760160788716622354279346496193110650256249209882199583617761876740407296) (.v 58) (.v 61) 1)),(.di 63 (.lenq (.v 56) 1)),(.db 30 (.cm .leq (.v 63) (.c 4611686018427387903))),(.ob [] (.v 30)),(.di 64 (.lenq (.v 62) 1)),(.db 31 (.cm .leq (.v 64) (.c 4611686018427387903))),(.ob [] (.v 31)),(.di 65 (.cat (.v 56) (.v 62))),(.di 66 (.ar .shr .i64 (.v 15) (.c 4))),(.di 67 (.ar .and .i64 (.v 66) (.c 15))),(.di 68 (.ar .shr .i64 (.v 15) (.c 4))),(.di 69 (.ar .and .i64 (.v 68) (.c 15))),(.di 70 (.ar .add .i64 (.v 69) (.c 1))),(.db 32 (.cm .geq (.v 67) (.c 0))),(.ob [] (.v 32)),(.db 33 (.cm .leq (.v 67) (.v 70))),(.ob [] (.v 33)),(.db 34 (.cm .leq (.v 70) (.c 16))),(.ob [] (.v 34)),(.di 71 (.sub (.c 106355561538638694184101034737134411307861478903975463178632552299126374030103501309356592935536522156252839228395858556753244350281377574264404231941571475365267315451320715327454932778167650351721474946058800651914921862827067724571023862040642631697130690668325684237285430961694803638185731658373248420806912603559248068116582988732128849867796064978659839802983017147560365862792065390863874704876683344155425577752395085141051151686966551865065466119919336170310199751405254089131374618282017640393299563634360199680498400689321416420074191928778855544652692799821599375746107950928594080671298010240371760160788716622354279346496193110650256249209882199583617761876740407296) (.v 67) (.v 70) 1)),(.di 72 (.lenq (.v 65) 1)),(.db 35 (.cm .leq (.v 72) (.c 4611686018427387903))),(.ob [] (.v 35)),(.di 73 (.lenq (.v 71) 1)),(.db 36 (.cm .leq (.v 73) (.c 4611686018427387903))),(.ob [] (.v 36)),(.di 74 (.cat (.v 65) (.v 71))),(.di 75 (.ar .and .i64 (.v 15) (.c 15))),(.di 76 (.ar .and .i64 (.v 15) (.c 15))),(.di 77 (.ar .add .i64 (.v 76) (.c 1))),(.db 37 (.cm .geq (.v 75) (.c 0))),(.ob [] (.v 37)),(.db 38 (.cm .leq (.v 75) (.v 77))),(.ob [] (.v 38)),(.db 39 (.cm .leq (.v 77) (.c 16))),(.ob [] (.v 39)),(.di 78 (.sub (.c 106355561538638694184101034737134411307861478903975463178632552299126374030103501309356592935536522156252839228395858556753244350281377574264404231941571475365267315451320715327454932778167650351721474946058800651914921862827067724571023862040642631697130690668325684237285430961694803638185731658373248420806912603559248068116582988732128849867796064978659839802983017147560365862792065390863874704876683344155425577752395085141051151686966551865065466119919336170310199751405254089131374618282017640393299563634360199680498400689321416420074191928778855544652692799821599375746107950928594080671298010240371760160788716622354279346496193110650256249209882199583617761876740407296) (.v 75) (.v 77) 1)),(.di 79 (.lenq (.v 74) 1)),(.db 40 (.cm .leq (.v 79) (.c 4611686018427387903))),(.ob [] (.v 40)),(.di 80 (.lenq (.v 78) 1)),(.db 41 (.cm .leq (.v 80) (.c 4611686018427387903))),(.ob [] (.v 41)),(.di 81 (.cat (.v 74) (.v 78))),(.call 7 [(.v 81)] [] 82 6 42 3),(.ob [] (.v 42)),(.di 88 (.cv .i64 (.v 2))),(.db 45 (.cm .neq (.v 8) (.c 0))),(.ob [] (.v 45)),(.di 89 (.ar .rem .i64 (.v 88) (.v 8))),(.db 46 (.cm .eql (.v 86) (.c 0))),(.db 47 (.cm .eql (.v 87) (.c 0))),(.db 48 (.and (.v 46) (.v 47))),(.call 11 [(.v 82),(.v 83),(.v 84),(.v 85),(.v 10),(.v 89)] [(.v 43),(.v 44)] 90 0 49 2),(.ob [((.v 48),true)] (.v 49)),(.db 51 (.cm .geq (.v 89) (.v 7))),(.db 52 (.cm .leq (.v 89) (.v 15))),(.db 53 (.and (.v 51) (.v 52))),(.db 54 (.eqb (.v 50) (.v 53))),(.db 55 (.and (.v 48) (.v 54))),(.di 90 (.ar .sub .i64 (.c 3) (.v 10))),(.call 11 [(.v 82),(.v 83),(.v 84),(.v 85),(.v 90),(.v 89)] [(.v 43),(.v 44)] 91 0 56 2),(.ob [((.v 55),true)] (.v 56)),(.db 58 (.not (.v 57))),(.db 59 (.and (.v 55) (.v 58))),(.di 91 (.ar .rem .u16 (.v 2) (.c 2))),(.di 92 (.cv .i64 (.v 91))),(.call 11 [(.v 82),(.v 83),(.v 84),(.v 85),(.c 0),(.v 92)] [(.v 43),(.v 44)] 93 0 60 2),(.ob [((.v 59),true)] (.v 60)),(.db 62 (.not (.v 61))),(.db 63 (.and (.v 59) (.v 62))),(.call 11 [(.v 82),(.v 83),(.v 84),(.v 85),(.v 10),(.v 8)] [(.v 43),(.v 44)] 93 0 64 2),(.ob [((.v 63),true)] (.v 64)),(.db 66 (.not (.v 65))),(.db 67 (.and (.v 63) (.v 66))),(.call 10 [] [] 93 0 68 2),(.ob [((.v 67),true)] (.v 68)),(.db 70 (.and (.v 67) (.v 69)))] [] [(.v 70)])
def i4:List (Nat × List Nat × List Nat × List Nat × Bool):=sp0
theorem x4:AllOk Tryd.prog (tabF T35) (gl m) (tabS T35):=A35
theorem y4l:LsOk (tabF T35) []:=fun p hp=>by cases hp
theorem h4:HOk Tryd.prog (tabF T35) (gl m) (hC m (mkIs [] i4) (tabS T35)):=hC_ok x4 (by kernel_rfl) (by kernel_rfl) (mkIs_ok y4l)
theorem k4:fnX Tryd.prog (hC m (mkIs [] i4) (tabS T35)) (gl m) (ctlL Tryd.f4 (gl m) s4 []) Tryd.f4 s4 = some S4:=by kernel_rfl
noncomputable def F4:Fun:=S4.run (tabF T35) true
theorem y4:LoopsOk (tabF T35) (ctlL Tryd.f4 (gl m) s4 []):=fun p hp=>by cases hp
theorem z4:(wsEm S4.em (argI s4.args) (argB s4.args) && shOk s4 && s4.pre) = true:=by kernel_rfl
theorem d4:Contract Tryd.prog (gl m) 4 s4 F4:=contract_pre h4 Tryd.func4 y4 k4 z4
theorem c4:Contract Tryd.prog (gl m) 4 s4 F4:=d4
noncomputable def e4:Nat × Sum × Fun:=(4,s4,F4)
end Go.Proofs.YtfgbfdlacnihkaaDoor.Po
namespace Go.Proofs.YtfgbfdlacnihkaaDoor.Sx
open Go

theorem shrC (k:IntKind) (x:Int) (c n:Nat) (hn:n = 2 ^ min c k.bits):arI .shr k x (c:Nat) = x / (n:Nat):=by
 show x.fdiv (2 ^ min (Int.toNat (c:Nat)) k.bits) = _
 rw [Int.toNat_natCast,hn,Int.fdiv_eq_ediv_of_nonneg _ (by exact Int.le_of_lt (Int.pow_pos (by decide)))]
 simp
end Go.Proofs.YtfgbfdlacnihkaaDoor.Sx
namespace Go.Proofs.YtfgbfdlacnihkaaDoor.Po
open Go Go.Proofs Go.Proofs.YtfgbfdlacnihkaaDoor.Sx
theorem and64_15 (n:Nat) (h:n < 65536):arI .and .i64 (n:Int) 15 = ((n % 16:Nat):Int):=by
 show IntKind.wrap .i64 (((BitVec.ofInt 64 (n:Int) &&& BitVec.ofInt 64 15).toNat:Nat):Int) = _
 rw [BitVec.toNat_and,BitVec.toNat_ofInt,BitVec.toNat_ofInt]
 have e1:(((n:Int)) % ((2 ^ 64:Nat):Int)).toNat = n:=by omega
 have e2:((15:Int) % ((2 ^ 64:Nat):Int)).toNat = 15:=by decide
 rw [e1,e2,show (15:Nat) = 2 ^ 4 - 1 from rfl,Nat.and_two_pow_sub_one_eq_mod,IntKind.wrap_i64]
 omega
theorem sh4096 (n:Nat):arI .shr .i64 (n:Int) 12 = ((n / 4096:Nat):Int):=(shrC .i64 n 12 4096 (by decide)).trans (by omega)
theorem sh256 (n:Nat):arI .shr .i64 (n:Int) 8 = ((n / 256:Nat):Int):=(shrC .i64 n 8 256 (by decide)).trans (by omega)
theorem sh16 (n:Nat):arI .shr .i64 (n:Int) 4 = ((n / 16:Nat):Int):=(shrC .i64 n 4 16 (by decide)).trans (by omega)
def hexS:List UInt8:=[48,49,50,51,52,53,54,55,56,57,97,98,99,100,101,102]
def hx (k:Nat):UInt8:=hexS.getD k 0
theorem k_hex:(106355561538638694184101034737134411307861478903975463178632552299126374030103501309356592935536522156252839228395858556753244350281377574264404231941571475365267315451320715327454932778167650351721474946058800651914921862827067724571023862040642631697130690668325684237285430961694803638185731658373248420806912603559248068116582988732128849867796064978659839802983017147560365862792065390863874704876683344155425577752395085141051151686966551865065466119919336170310199751405254089131374618282017640393299563634360199680498400689321416420074191928778855544652692799821599375746107950928594080671298010240371760160788716622354279346496193110650256249209882199583617761876740407296:Int) = eS hexS:=by kernel_rfl
theorem hx_one:∀ k:Nat,k < 16 -> (hexS.drop k).take 1 = [hx k]:=by decide
theorem hx_v:∀ k:Nat,k < 16 -> hexv (hx k) = (k:Int):=by decide
theorem hx_H:∀ k:Nat,k < 16 -> isH (hx k) = true:=by decide
theorem hx_n:∀ k:Nat,k < 16 -> hx k ≠ 45 /\ hx k ≠ 10 /\ hx k ≠ 32:=by decide
theorem sub1 {k:Nat} (h:k < 16):enc (List.take ((((k + 1:Nat):Int).toNat - ((k:Nat):Int).toNat) * 1) (List.drop (((k:Nat):Int).toNat * 1) (dec 106355561538638694184101034737134411307861478903975463178632552299126374030103501309356592935536522156252839228395858556753244350281377574264404231941571475365267315451320715327454932778167650351721474946058800651914921862827067724571023862040642631697130690668325684237285430961694803638185731658373248420806912603559248068116582988732128849867796064978659839802983017147560365862792065390863874704876683344155425577752395085141051151686966551865065466119919336170310199751405254089131374618282017640393299563634360199680498400689321416420074191928778855544652692799821599375746107950928594080671298010240371760160788716622354279346496193110650256249209882199583617761876740407296))) = eS [hx k]:=by
 rw [k_hex,Int.toNat_natCast,Int.toNat_natCast]
 refine (eS_sub hexS k (k + 1)).trans ?_
 rw [show k + 1 - k = 1 by omega,hx_one k h]
theorem le20 {l:List UInt8} (h:l.length <= 20):decide ((((dec (eS l)).length / 1:Nat):Int) <= 4611686018427387903) = true:=by
 rw [eS_len]; exact decide_eq_true (by omega)
def dg (f:Nat):List UInt8:=[hx (f / 4096),hx (f / 256 % 16),hx (f / 16 % 16),hx (f % 16)]
theorem dg_num {f:Nat} (h:f < 65536):numB (dg f) = some (f:Int):=by
 rw [numB_some (by simp [dg]) (by simp [dg]) (by
  simp only [dg,List.all_cons,List.all_nil,hx_H _ (show f / 4096 < 16 by omega),hx_H _ (show f / 256 % 16 < 16 by omega),hx_H _ (show f / 16 % 16 < 16 by omega),hx_H _ (show f % 16 < 16 by omega),Bool.and_self])]
 unfold numV dg
 simp only [List.foldl_cons,List.foldl_nil,hx_v _ (show f / 4096 < 16 by omega),hx_v _ (show f / 256 % 16 < 16 by omega),hx_v _ (show f / 16 % 16 < 16 by omega),hx_v _ (show f % 16 < 16 by omega)]
 congr 1
 omega
theorem dg_no {f:Nat} (h:f < 65536):(45:UInt8) ∉ dg f /\ (10:UInt8) ∉ dg f /\ (32:UInt8) ∉ dg f:=by
 obtain ⟨a1,a2,a3⟩:=hx_n _ (show f / 4096 < 16 by omega)
 obtain ⟨b1,b2,b3⟩:=hx_n _ (show f / 256 % 16 < 16 by omega)
 obtain ⟨c1,c2,c3⟩:=hx_n _ (show f / 16 % 16 < 16 by omega)
 obtain ⟨d1,d2,d3⟩:=hx_n _ (show f % 16 < 16 by omega)
 unfold dg
 simp only [List.mem_cons,List.not_mem_nil,or_false,not_or]
 exact ⟨⟨a1.symm,b1.symm,c1.symm,d1.symm⟩,⟨a2.symm,b2.symm,c2.symm,d2.symm⟩,⟨a3.symm,b3.symm,c3.symm,d3.symm⟩⟩
theorem span_dg {f g:Nat} {z:Int} (hf:f < 65536) (hg:g < 65536) (hfg:f <= g) (hz:(g:Int) < z):spanO (dg f ++ 45 :: dg g) z = some ((f:Int),(g:Int)):=by
 obtain ⟨n1,_,_⟩:=dg_no hf
 rw [spanO_chk,cut_at _ _ n1]
 have hl:lastP (dg f ++ 45 :: dg g) = dg g:=by unfold lastP; rw [cut_at _ _ n1]; rfl
 rw [hl,dg_num hf,dg_num hg]
 simp only
 unfold chk
 rw [decide_eq_true (p:=(f:Int) <= (g:Int)) (by omega),decide_eq_true hz]
 rfl
theorem line_dg {f g:Nat} (sv:Bool) (hf:f < 65536) (hg:g < 65536) (hfg:f <= g) (hz:(g:Int) < if sv then 8192 else 2048) :
  lineO nilP ((if sv then saveW else ramW) ++ 32 :: (dg f ++ 45 :: dg g)) = some (if sv then ⟨false,false,[],[((f:Int),(g:Int))]⟩ else ⟨false,false,[((f:Int),(g:Int))],[]⟩):=by
 cases sv with
 | true =>
  have hz:(g:Int) < 8192:=hz
  have hc:Lib.cut (saveW ++ 32 :: (dg f ++ 45 :: dg g)) [32] = (saveW,dg f ++ 45 :: dg g,true):=cut_at _ _ (by decide)
  unfold lineO
  simp only [if_true,hc,span_dg hf hg hfg hz]
  have h1:skip (saveW ++ 32 :: (dg f ++ 45 :: dg g)) = false:=by unfold skip saveW; simp
  have h2:decide (saveW ++ 32 :: (dg f ++ 45 :: dg g) = port1) = false:=by unfold saveW port1; simp
  have h3:decide (saveW ++ 32 :: (dg f ++ 45 :: dg g) = port2) = false:=by unfold saveW port2; simp
  have h4:decide (saveW = ramW) = false:=by decide
  rw [h1,h2,h3,h4]
  simp [nilP]
 | false =>
  have hz:(g:Int) < 2048:=hz
  have hc:Lib.cut (ramW ++ 32 :: (dg f ++ 45 :: dg g)) [32] = (ramW,dg f ++ 45 :: dg g,true):=cut_at _ _ (by decide)
  unfold lineO
  simp only [Bool.false_eq_true,if_false,hc,span_dg hf hg hfg hz]
  have h1:skip (ramW ++ 32 :: (dg f ++ 45 :: dg g)) = false:=by unfold skip ramW; simp
  have h2:decide (ramW ++ 32 :: (dg f ++ 45 :: dg g) = port1) = false:=by unfold ramW port1; simp
  have h3:decide (ramW ++ 32 :: (dg f ++ 45 :: dg g) = port2) = false:=by unfold ramW port2; simp
  rw [h1,h2,h3]
  simp [nilP]
def onePol (sv:Bool) (f g:Nat):Pol:=if sv then ⟨false,false,[],[((f:Int),(g:Int))]⟩ else ⟨false,false,[((f:Int),(g:Int))],[]⟩
theorem parse_dg {f g:Nat} (sv:Bool) (hf:f < 65536) (hg:g < 65536) (hfg:f <= g) (hz:(g:Int) < if sv then 8192 else 2048) :
  F7 [eS ((if sv then saveW else ramW) ++ 32 :: (dg f ++ 45 :: dg g))] [] = ((onePol sv f g).I ++ [0,0],[true,false,false]):=by
 obtain ⟨_,n1,_⟩:=dg_no hf
 obtain ⟨_,n2,_⟩:=dg_no hg
 have hlen:((if sv then saveW else ramW) ++ 32 :: (dg f ++ 45 :: dg g)).length <= 4096:=by cases sv <;> simp [saveW,ramW,dg]
 have hno:(10:UInt8) ∉ (if sv then saveW else ramW) ++ 32 :: (dg f ++ 45 :: dg g):=by
  simp only [List.mem_append,List.mem_cons,not_or]
  exact ⟨by cases sv <;> decide,by decide,n1,by decide,n2⟩
 have hfo:foldO nilP 0 (lns ((if sv then saveW else ramW) ++ 32 :: (dg f ++ 45 :: dg g))) = .inl (onePol sv f g):=by
  rw [lns_no hno]
  simp only [foldO,line_dg sv hf hg hfg hz]
  rfl
 rcases p7 _ hlen with ⟨k,_,h,_⟩ | ⟨P,Q,h,hT,_,_,_,e⟩
 ·rw [hfo] at h; cases h
 ·rw [hfo] at h
  obtain rfl:onePol sv f g = P:=Sum.inl.inj h
  have hself:Tdd (onePol sv f g) (onePol sv f g):=by
   have ht:Tdy 0 [((f:Int),(g:Int))]:=⟨by show (0:Int) <= f; omega,by show (f:Int) <= g; omega,trivial⟩
   cases sv
   ·exact ⟨Tid.self ht,Tid.self trivial,rfl,rfl⟩
   ·exact ⟨Tid.self trivial,Tid.self ht,rfl,rfl⟩
  obtain rfl:onePol sv f g = Q:=hself.uniq hT
  rw [e]
  cases sv <;> rfl
def inB (l:List Pr) (t:Int):Bool:=(List.range' 0 l.length).any fun i=>inR' (l.getD i (0,0)) t
def secB (P:Pol) (k t:Int):Bool:=bif k == 0 then (decide (0 <= t) && decide (t < 2)) && (bif t == 0 then P.p0 else P.p1) else bif k == 1 then inB P.r t else (k == 2) && inB P.s t
theorem w11 {P:Pol} (h:P.sw) (k t:Int):F11 [eP P.r,P.r.length,eP P.s,P.s.length,k,t] [P.p0,P.p1] = ([],[true,secB P k t]):=by
 have g25:tabF T9 25 = F25:=by kernel_rfl
 have hF:F11 [eP P.r,P.r.length,eP P.s,P.s.length,k,t] [P.p0,P.p1] = S11.run (tabF T9) true [eP P.r,P.r.length,eP P.s,P.s.length,k,t] [P.p0,P.p1]:=rfl
 rw [hF]
 clear hF
 generalize tabF T9 = Φ at g25
 obtain ⟨h1,h2⟩:=h
 obtain ⟨ρ,e1,e2,e3,e4⟩:=Smry.run_specT (Φ:=Φ) (S:=S11) (is:=[eP P.r,P.r.length,eP P.s,P.s.length,k,t]) (bs:=[P.p0,P.p1]) rfl
 rw [e1,obAll_eq]
 clear e1
 simp only [S11,obs,Gd.d_cons,Gd.d_nil,eqns,Em.eqn,headsI,headsB,↓RI_ite,↓RB_ite,RI.d,RB.d,A.d,B.d,cm_eql,cm_neq,cm_lss,cm_leq,cm_gtr,cm_geq,List.map_cons,List.map_nil,and_true,Nat.zero_add,Nat.reduceAdd,ltn,upto,true_and,Nat.add_zero,List.getD_cons_zero,List.getD_cons_succ] at e2 e3 e4 ⊢
 simp only [e2,e3,Int.toNat_natCast] at e4 ⊢
 clear e2 e3
 rw [g25,w25 (l:=P.r) (t:=t) (by unfold small; omega),w25 (l:=P.s) (t:=t) (by unfold small; omega)] at e4
 simp only [List.getD_cons_zero,List.getD_cons_succ] at e4
 obtain ⟨b2,b3,b4,b5,b6,b7,b8,b9,b10,b11,⟨b12,b13⟩,b14,⟨b15,b16⟩,b17,b18,b19,b20,b21,b22,b23,b24,b25,b26⟩:=e4
 have b3':ρ.b 3 = decide (0 <= t):=b3
 have hob:ρ.b 5 = false \/ (ρ.b 6 = true /\ ρ.b 7 = true):=by
  rw [b5,b3',b4,b6,b7]
  cases decide (0 <= t)
  ·exact .inl rfl
  ·cases decide (t < 2)
   ·exact .inl rfl
   ·exact .inr ⟨rfl,rfl⟩
 have b26:ρ.b 26 = secB P k t:=by
  unfold secB inB
  rw [b26,b25,b21,b24,b22,b23,b20,b10,b5,b3',b4,b9,b8,b18,b13,b16,b2,b11,b14]
  cases k == 0 <;> cases k == 1 <;> cases k == 2 <;> simp
 rw [b26]
 rcases hob with hob | ⟨ho1,ho2⟩
 ·simp [hob,b12,b15]
 ·simp [ho1,ho2,b12,b15]
theorem tmodN (a n:Nat):Int.tmod (a:Int) (n:Int) = ((a % n:Nat):Int):=by rw [Int.tmod_eq_emod_of_nonneg (by omega)]; rfl
set_option maxHeartbeats 8000000 in
set_option maxRecDepth 8000 in
theorem v4 (a b c:Nat) (ha:a < 65536) (hb:b < 65536) (hc:c < 65536) (sv:Bool):F4 [(a:Int),(b:Int),(c:Int)] [sv] = ([],[true,true]):=by
 have g7:tabF T35 7 = F7:=by kernel_rfl
 have g11:tabF T35 11 = F11:=by kernel_rfl
 have g10:tabF T35 10 = F10:=by kernel_rfl
 have k45:(1237940039285380274899124224:Int) = eS [45]:=by kernel_rfl
 have kr:(673297395398191808945096467479145250065008181184167419315352869621791955472343115302168078794351350169167927619673915307814153730969278090716634912611640904164747440035570957683320308354830997095852696053844279296:Int) = eS (ramW ++ [32]):=by kernel_rfl
 have ks:(9076030935533343889394336988630724078093093587135212337716790028131575744441157651624044294081355167201375844120737036631266793366386133293787891686241204800536128141339719729593284677222534595967732621833034659995557837512776775954339150798446591213760134942539945918190338441216:Int) = eS (saveW ++ [32]):=by kernel_rfl
 have hF:F4 [(a:Int),(b:Int),(c:Int)] [sv] = S4.run (tabF T35) true [(a:Int),(b:Int),(c:Int)] [sv]:=rfl
 rw [hF]
 clear hF
 generalize tabF T35 = Φ at g7 g11 g10
 obtain ⟨W,hWe,hW⟩:∃ W:List UInt8,W = (if sv then saveW else ramW) ++ [32] /\ W.length <= 5:=⟨_,rfl,by cases sv <;> decide⟩
 obtain ⟨sz,hsz,hs1,hs2⟩:∃ sz:Nat,sz = (if sv then 8192 else 2048) /\ 2048 <= sz /\ sz <= 8192:=⟨_,rfl,by cases sv <;> decide,by cases sv <;> decide⟩
 obtain ⟨f,hf⟩:∃ f:Nat,f = a % sz:=⟨_,rfl⟩
 obtain ⟨g,hg⟩:∃ g:Nat,g = min (f + b % 200) (sz - 1):=⟨_,rfl⟩
 have hfs:f < sz:=by rw [hf]; exact Nat.mod_lt _ (by omega)
 have hfg:f <= g:=by omega
 have hgs:g < sz:=by omega
 obtain ⟨ρ,e1,e2,e3,e4⟩:=Smry.run_specT (Φ:=Φ) (S:=S4) (is:=[(a:Int),(b:Int),(c:Int)]) (bs:=[sv]) rfl
 rw [e1,obAll_eq]
 clear e1
 simp only [S4,obs,Gd.d_cons,Gd.d_nil,eqns,Em.eqn,headsI,headsB,↓RI_ite,↓RB_ite,RI.d,RB.d,A.d,B.d,cm_eql,cm_neq,cm_lss,cm_leq,cm_gtr,cm_geq,List.map_cons,List.map_nil,and_true,Nat.zero_add,Nat.reduceAdd,ltn,upto,true_and,Nat.add_zero,List.getD_cons_zero,List.getD_cons_succ] at e2 e3 e4 ⊢
 simp only [e2,e3,Int.toNat_natCast] at e4 ⊢
 clear e2 e3
 rw [g7,g11,g10,w10] at e4
 simp only [List.getD_cons_zero,List.getD_cons_succ] at e4
 obtain ⟨i3,i4,i5,i6,i7,i8,i9,i10,i11,i12,i13,i14,i15,i16,i17,i18,b1,b2,b3,i19,i20,b4,i21,b5,i22,i23,i24,i25,i26,i27,b6,b7,b8,i28,i29,b9,i30,b10,i31,i32,i33,i34,i35,i36,b11,b12,b13,i37,i38,b14,i39,b15,i40,i41,i42,i43,b16,b17,b18,i44,i45,b19,i46,b20,i47,i48,b21,i49,i50,i51,i52,b22,b23,b24,i53,i54,b25,i55,b26,i56,i57,i58,i59,i60,i61,b27,b28,b29,i62,i63,b30,i64,b31,i65,i66,i67,i68,i69,i70,b32,b33,b34,i71,i72,b35,i73,b36,i74,i75,i76,i77,b37,b38,b39,i78,i79,b40,i80,b41,i81,⟨⟨i82,i83,i84,i85,i86,i87⟩,b42,b43,b44⟩,i88,b45,i89,b46,b47,b48,⟨b49,b50⟩,b51,b52,b53,b54,b55,i90,⟨b56,b57⟩,b58,b59,i91,i92,⟨b60,b61⟩,b62,b63,⟨b64,b65⟩,b66,b67,⟨b68,b69⟩,b70⟩:=e4
 have wr:∀ n:Nat,n < 65536 -> IntKind.wrap .i64 (n:Int) = (n:Int):=fun n hn=>wrap_i64_in (by omega) (by omega)
 have i3:ρ.i 3 = (a:Int):=i3.trans (wr a ha)
 have i5:ρ.i 5 = (a:Int):=i5.trans (wr a ha)
 have i11:ρ.i 11 = (b:Int):=i11.trans (wr b hb)
 have i88:ρ.i 88 = (c:Int):=i88.trans (wr c hc)
 have i4:ρ.i 4 = ((a % 2048:Nat):Int):=by rw [i4,i3]; exact tmodN a 2048
 have i6:ρ.i 6 = ((a % 8192:Nat):Int):=by rw [i6,i5]; exact tmodN a 8192
 have i7:ρ.i 7 = (f:Int):=by rw [i7,i4,i6,hf,hsz]; cases sv <;> rfl
 have i8:ρ.i 8 = (sz:Int):=by rw [i8,hsz]; cases sv <;> rfl
 have i9:ρ.i 9 = eS W:=by rw [i9,kr,ks,hWe]; cases sv <;> rfl
 have i10:ρ.i 10 = if sv then 2 else 1:=by rw [i10]; cases sv <;> rfl
 have i12:ρ.i 12 = ((b % 200:Nat):Int):=by rw [i12,i11]; exact tmodN b 200
 have i13:ρ.i 13 = ((f + b % 200:Nat):Int):=by rw [i13,i7,i12,arAdd (by omega) (by omega)]; omega
 have i14:ρ.i 14 = ((sz - 1:Nat):Int):=by
  rw [i14,i8]
  refine (wrap_i64_in (by omega) (by omega)).trans ?_
  omega
 have i15:ρ.i 15 = (g:Int):=by
  by_cases h:ρ.i 14 < ρ.i 13
  ·rw [i15.trans (if_pos h),i14]; rw [i14,i13] at h; omega
  ·rw [i15.trans (if_neg h),i13]; rw [i14,i13] at h; omega
 clear i3 i5 i11 i4 i6 i12 i13 i14
 have main:ρ.i 81 = eS ((if sv then saveW else ramW) ++ 32 :: (dg f ++ 45 :: dg g)) /\ ρ.b 1 = true /\ ρ.b 2 = true /\ ρ.b 3 = true /\ ρ.b 4 = true /\ ρ.b 5 = true /\ ρ.b 6 = true /\ ρ.b 7 = true /\ ρ.b 8 = true /\ ρ.b 9 = true /\ ρ.b 10 = true /\ ρ.b 11 = true /\ ρ.b 12 = true /\ ρ.b 13 = true /\ ρ.b 14 = true /\ ρ.b 15 = true /\ ρ.b 16 = true /\ ρ.b 17 = true /\ ρ.b 18 = true /\ ρ.b 19 = true /\ ρ.b 20 = true /\ ρ.b 21 = true /\ ρ.b 22 = true /\ ρ.b 23 = true /\ ρ.b 24 = true /\ ρ.b 25 = true /\ ρ.b 26 = true /\ ρ.b 27 = true /\ ρ.b 28 = true /\ ρ.b 29 = true /\ ρ.b 30 = true /\ ρ.b 31 = true /\ ρ.b 32 = true /\ ρ.b 33 = true /\ ρ.b 34 = true /\ ρ.b 35 = true /\ ρ.b 36 = true /\ ρ.b 37 = true /\ ρ.b 38 = true /\ ρ.b 39 = true /\ ρ.b 40 = true /\ ρ.b 41 = true:=by
   have i16:ρ.i 16 = ((f / 4096:Nat):Int):=by rw [i16,i7]; exact sh4096 f
   have i17:ρ.i 17 = ((f / 4096:Nat):Int):=by rw [i17,i7]; exact sh4096 f
   have i18:ρ.i 18 = (((f / 4096) + 1:Nat):Int):=by rw [i18,i17,arAdd (by omega) (by omega)]; omega
   have b1:ρ.b 1 = true:=by rw [b1,i16]; exact decide_eq_true (by omega)
   have b2:ρ.b 2 = true:=by rw [b2,i16,i18]; exact decide_eq_true (by omega)
   have b3:ρ.b 3 = true:=by rw [b3,i18]; exact decide_eq_true (by omega)
   have i19:ρ.i 19 = eS [hx (f / 4096)]:=by rw [i19,i16,i18]; exact sub1 (by omega)
   have b4:ρ.b 4 = true:=by rw [b4,i20,i9]; exact le20 (by omega)
   have b5:ρ.b 5 = true:=by rw [b5,i21,i19]; exact le20 (by simp)
   have i22:ρ.i 22 = eS (W ++ [hx (f / 4096)]):=by rw [i22,i9,i19,eS_cat]
   have i23:ρ.i 23 = ((f / 256:Nat):Int):=by rw [i23,i7]; exact sh256 f
   have i24:ρ.i 24 = (((f / 256) % 16:Nat):Int):=by rw [i24,i23]; exact and64_15 _ (by omega)
   have i25:ρ.i 25 = ((f / 256:Nat):Int):=by rw [i25,i7]; exact sh256 f
   have i26:ρ.i 26 = (((f / 256) % 16:Nat):Int):=by rw [i26,i25]; exact and64_15 _ (by omega)
   have i27:ρ.i 27 = (((f / 256 % 16) + 1:Nat):Int):=by rw [i27,i26,arAdd (by omega) (by omega)]; omega
   have b6:ρ.b 6 = true:=by rw [b6,i24]; exact decide_eq_true (by omega)
   have b7:ρ.b 7 = true:=by rw [b7,i24,i27]; exact decide_eq_true (by omega)
   have b8:ρ.b 8 = true:=by rw [b8,i27]; exact decide_eq_true (by omega)
   have i28:ρ.i 28 = eS [hx (f / 256 % 16)]:=by rw [i28,i24,i27]; exact sub1 (by omega)
   have b9:ρ.b 9 = true:=by rw [b9,i29,i22]; exact le20 (by simp only [List.length_append,List.length_cons,List.length_nil]; omega)
   have b10:ρ.b 10 = true:=by rw [b10,i30,i28]; exact le20 (by simp)
   have i31:ρ.i 31 = eS (W ++ [hx (f / 4096)] ++ [hx (f / 256 % 16)]):=by rw [i31,i22,i28,eS_cat]
   have i32:ρ.i 32 = ((f / 16:Nat):Int):=by rw [i32,i7]; exact sh16 f
   have i33:ρ.i 33 = (((f / 16) % 16:Nat):Int):=by rw [i33,i32]; exact and64_15 _ (by omega)
   have i34:ρ.i 34 = ((f / 16:Nat):Int):=by rw [i34,i7]; exact sh16 f
   have i35:ρ.i 35 = (((f / 16) % 16:Nat):Int):=by rw [i35,i34]; exact and64_15 _ (by omega)
   have i36:ρ.i 36 = (((f / 16 % 16) + 1:Nat):Int):=by rw [i36,i35,arAdd (by omega) (by omega)]; omega
   have b11:ρ.b 11 = true:=by rw [b11,i33]; exact decide_eq_true (by omega)
   have b12:ρ.b 12 = true:=by rw [b12,i33,i36]; exact decide_eq_true (by omega)
   have b13:ρ.b 13 = true:=by rw [b13,i36]; exact decide_eq_true (by omega)
   have i37:ρ.i 37 = eS [hx (f / 16 % 16)]:=by rw [i37,i33,i36]; exact sub1 (by omega)
   have b14:ρ.b 14 = true:=by rw [b14,i38,i31]; exact le20 (by simp only [List.length_append,List.length_cons,List.length_nil]; omega)
   have b15:ρ.b 15 = true:=by rw [b15,i39,i37]; exact le20 (by simp)
   have i40:ρ.i 40 = eS (W ++ [hx (f / 4096)] ++ [hx (f / 256 % 16)] ++ [hx (f / 16 % 16)]):=by rw [i40,i31,i37,eS_cat]
   have i41:ρ.i 41 = (((f) % 16:Nat):Int):=by rw [i41,i7]; exact and64_15 _ (by omega)
   have i42:ρ.i 42 = (((f) % 16:Nat):Int):=by rw [i42,i7]; exact and64_15 _ (by omega)
   have i43:ρ.i 43 = (((f % 16) + 1:Nat):Int):=by rw [i43,i42,arAdd (by omega) (by omega)]; omega
   have b16:ρ.b 16 = true:=by rw [b16,i41]; exact decide_eq_true (by omega)
   have b17:ρ.b 17 = true:=by rw [b17,i41,i43]; exact decide_eq_true (by omega)
   have b18:ρ.b 18 = true:=by rw [b18,i43]; exact decide_eq_true (by omega)
   have i44:ρ.i 44 = eS [hx (f % 16)]:=by rw [i44,i41,i43]; exact sub1 (by omega)
   have b19:ρ.b 19 = true:=by rw [b19,i45,i40]; exact le20 (by simp only [List.length_append,List.length_cons,List.length_nil]; omega)
   have b20:ρ.b 20 = true:=by rw [b20,i46,i44]; exact le20 (by simp)
   have i47:ρ.i 47 = eS (W ++ [hx (f / 4096)] ++ [hx (f / 256 % 16)] ++ [hx (f / 16 % 16)] ++ [hx (f % 16)]):=by rw [i47,i40,i44,eS_cat]
   have b21:ρ.b 21 = true:=by rw [b21,i48,i47]; exact le20 (by simp only [List.length_append,List.length_cons,List.length_nil]; omega)
   have i49:ρ.i 49 = eS (W ++ [hx (f / 4096)] ++ [hx (f / 256 % 16)] ++ [hx (f / 16 % 16)] ++ [hx (f % 16)] ++ [45]):=by rw [i49,i47,k45,eS_cat]
   have i50:ρ.i 50 = ((g / 4096:Nat):Int):=by rw [i50,i15]; exact sh4096 g
   have i51:ρ.i 51 = ((g / 4096:Nat):Int):=by rw [i51,i15]; exact sh4096 g
   have i52:ρ.i 52 = (((g / 4096) + 1:Nat):Int):=by rw [i52,i51,arAdd (by omega) (by omega)]; omega
   have b22:ρ.b 22 = true:=by rw [b22,i50]; exact decide_eq_true (by omega)
   have b23:ρ.b 23 = true:=by rw [b23,i50,i52]; exact decide_eq_true (by omega)
   have b24:ρ.b 24 = true:=by rw [b24,i52]; exact decide_eq_true (by omega)
   have i53:ρ.i 53 = eS [hx (g / 4096)]:=by rw [i53,i50,i52]; exact sub1 (by omega)
   have b25:ρ.b 25 = true:=by rw [b25,i54,i49]; exact le20 (by simp only [List.length_append,List.length_cons,List.length_nil]; omega)
   have b26:ρ.b 26 = true:=by rw [b26,i55,i53]; exact le20 (by simp)
   have i56:ρ.i 56 = eS (W ++ [hx (f / 4096)] ++ [hx (f / 256 % 16)] ++ [hx (f / 16 % 16)] ++ [hx (f % 16)] ++ [45] ++ [hx (g / 4096)]):=by rw [i56,i49,i53,eS_cat]
   have i57:ρ.i 57 = ((g / 256:Nat):Int):=by rw [i57,i15]; exact sh256 g
   have i58:ρ.i 58 = (((g / 256) % 16:Nat):Int):=by rw [i58,i57]; exact and64_15 _ (by omega)
   have i59:ρ.i 59 = ((g / 256:Nat):Int):=by rw [i59,i15]; exact sh256 g
   have i60:ρ.i 60 = (((g / 256) % 16:Nat):Int):=by rw [i60,i59]; exact and64_15 _ (by omega)
   have i61:ρ.i 61 = (((g / 256 % 16) + 1:Nat):Int):=by rw [i61,i60,arAdd (by omega) (by omega)]; omega
   have b27:ρ.b 27 = true:=by rw [b27,i58]; exact decide_eq_true (by omega)
   have b28:ρ.b 28 = true:=by rw [b28,i58,i61]; exact decide_eq_true (by omega)
   have b29:ρ.b 29 = true:=by rw [b29,i61]; exact decide_eq_true (by omega)
   have i62:ρ.i 62 = eS [hx (g / 256 % 16)]:=by rw [i62,i58,i61]; exact sub1 (by omega)
   have b30:ρ.b 30 = true:=by rw [b30,i63,i56]; exact le20 (by simp only [List.length_append,List.length_cons,List.length_nil]; omega)
   have b31:ρ.b 31 = true:=by rw [b31,i64,i62]; exact le20 (by simp)
   have i65:ρ.i 65 = eS (W ++ [hx (f / 4096)] ++ [hx (f / 256 % 16)] ++ [hx (f / 16 % 16)] ++ [hx (f % 16)] ++ [45] ++ [hx (g / 4096)] ++ [hx (g / 256 % 16)]):=by rw [i65,i56,i62,eS_cat]
   have i66:ρ.i 66 = ((g / 16:Nat):Int):=by rw [i66,i15]; exact sh16 g
   have i67:ρ.i 67 = (((g / 16) % 16:Nat):Int):=by rw [i67,i66]; exact and64_15 _ (by omega)
   have i68:ρ.i 68 = ((g / 16:Nat):Int):=by rw [i68,i15]; exact sh16 g
   have i69:ρ.i 69 = (((g / 16) % 16:Nat):Int):=by rw [i69,i68]; exact and64_15 _ (by omega)
   have i70:ρ.i 70 = (((g / 16 % 16) + 1:Nat):Int):=by rw [i70,i69,arAdd (by omega) (by omega)]; omega
   have b32:ρ.b 32 = true:=by rw [b32,i67]; exact decide_eq_true (by omega)
   have b33:ρ.b 33 = true:=by rw [b33,i67,i70]; exact decide_eq_true (by omega)
   have b34:ρ.b 34 = true:=by rw [b34,i70]; exact decide_eq_true (by omega)
   have i71:ρ.i 71 = eS [hx (g / 16 % 16)]:=by rw [i71,i67,i70]; exact sub1 (by omega)
   have b35:ρ.b 35 = true:=by rw [b35,i72,i65]; exact le20 (by simp only [List.length_append,List.length_cons,List.length_nil]; omega)
   have b36:ρ.b 36 = true:=by rw [b36,i73,i71]; exact le20 (by simp)
   have i74:ρ.i 74 = eS (W ++ [hx (f / 4096)] ++ [hx (f / 256 % 16)] ++ [hx (f / 16 % 16)] ++ [hx (f % 16)] ++ [45] ++ [hx (g / 4096)] ++ [hx (g / 256 % 16)] ++ [hx (g / 16 % 16)]):=by rw [i74,i65,i71,eS_cat]
   have i75:ρ.i 75 = (((g) % 16:Nat):Int):=by rw [i75,i15]; exact and64_15 _ (by omega)
   have i76:ρ.i 76 = (((g) % 16:Nat):Int):=by rw [i76,i15]; exact and64_15 _ (by omega)
   have i77:ρ.i 77 = (((g % 16) + 1:Nat):Int):=by rw [i77,i76,arAdd (by omega) (by omega)]; omega
   have b37:ρ.b 37 = true:=by rw [b37,i75]; exact decide_eq_true (by omega)
   have b38:ρ.b 38 = true:=by rw [b38,i75,i77]; exact decide_eq_true (by omega)
   have b39:ρ.b 39 = true:=by rw [b39,i77]; exact decide_eq_true (by omega)
   have i78:ρ.i 78 = eS [hx (g % 16)]:=by rw [i78,i75,i77]; exact sub1 (by omega)
   have b40:ρ.b 40 = true:=by rw [b40,i79,i74]; exact le20 (by simp only [List.length_append,List.length_cons,List.length_nil]; omega)
   have b41:ρ.b 41 = true:=by rw [b41,i80,i78]; exact le20 (by simp)
   have i81:ρ.i 81 = eS (W ++ [hx (f / 4096)] ++ [hx (f / 256 % 16)] ++ [hx (f / 16 % 16)] ++ [hx (f % 16)] ++ [45] ++ [hx (g / 4096)] ++ [hx (g / 256 % 16)] ++ [hx (g / 16 % 16)] ++ [hx (g % 16)]):=by rw [i81,i74,i78,eS_cat]
   refine ⟨?_,b1,b2,b3,b4,b5,b6,b7,b8,b9,b10,b11,b12,b13,b14,b15,b16,b17,b18,b19,b20,b21,b22,b23,b24,b25,b26,b27,b28,b29,b30,b31,b32,b33,b34,b35,b36,b37,b38,b39,b40,b41⟩
   rw [i81,hWe]
   simp [dg]
 obtain ⟨i81,b1,b2,b3,b4,b5,b6,b7,b8,b9,b10,b11,b12,b13,b14,b15,b16,b17,b18,b19,b20,b21,b22,b23,b24,b25,b26,b27,b28,b29,b30,b31,b32,b33,b34,b35,b36,b37,b38,b39,b40,b41⟩:=main
 have hp:=parse_dg sv (f:=f) (g:=g) (by omega) (by omega) hfg (by
  have:((if sv then 8192 else 2048:Nat):Int) = if sv then (8192:Int) else 2048:=by cases sv <;> rfl
  rw [<- this,<- hsz]; omega)
 rw [i81,hp] at i82 i83 i84 i85 i86 i87 b42 b43 b44
 simp only [Pol.I,List.cons_append,List.nil_append,List.getD_cons_zero,List.getD_cons_succ] at i82 i83 i84 i85 i86 i87 b42 b43 b44
 have b45:ρ.b 45 = true:=by rw [b45,i8]; exact bne_iff_ne.2 (by omega)
 have hk:c % sz < sz:=Nat.mod_lt _ (by omega)
 have i89:ρ.i 89 = ((c % sz:Nat):Int):=by rw [i89,i88,i8]; exact tmodN c sz
 have hq:∀ (x t:Int),F11 [eP (onePol sv f g).r,(onePol sv f g).r.length,eP (onePol sv f g).s,(onePol sv f g).s.length,x,t] [false,false] = ([],[true,secB (onePol sv f g) x t]):=fun x t=>by
  have:=w11 (P:=onePol sv f g) (by cases sv <;> exact ⟨by simp [onePol],by simp [onePol]⟩) x t
  have e:[(onePol sv f g).p0,(onePol sv f g).p1] = [false,false]:=by cases sv <;> rfl
  rw [e] at this
  exact this
 simp only [i82,i83,i84,i85,b43,b44,hq,List.getD_cons_zero,List.getD_cons_succ] at b49 b50 b56 b57 b60 b61 b64 b65
 have inone:∀ t:Int,inB [((f:Int),(g:Int))] t = (decide ((f:Int) <= t) && decide (t <= (g:Int))):=fun t=>by simp [inB,inR']
 have s1:∀ t:Int,secB (onePol sv f g) (if sv then 2 else 1) t = (decide ((f:Int) <= t) && decide (t <= (g:Int))):=fun t=>by
  rw [<- inone]; cases sv <;> simp [secB,onePol]
 have s2:∀ t:Int,secB (onePol sv f g) (3 - (if sv then 2 else 1)) t = false:=fun t=>by cases sv <;> simp [secB,onePol,inB]
 have s3:∀ t:Int,secB (onePol sv f g) 0 t = false:=fun t=>by cases sv <;> simp [secB,onePol]
 have i90:ρ.i 90 = 3 - (if sv then 2 else 1):=by
  rw [i90,i10]
  cases sv
  ·exact wrap_i64_in (x:=2) (by decide) (by decide)
  ·exact wrap_i64_in (x:=1) (by decide) (by decide)
 rw [i10,s1] at b50 b65
 rw [i90,s2] at b57
 rw [s3] at b61
 have b48:ρ.b 48 = true:=by rw [b48,b46,b47,i86,i87]; rfl
 have b54:ρ.b 54 = true:=by
  rw [b54,b50,b53,b51,b52,i7,i15]
  exact beq_self_eq_true _
 have b55:ρ.b 55 = true:=by rw [b55,b48,b54]; rfl
 have b59:ρ.b 59 = true:=by rw [b59,b55,b58,b57]; rfl
 have b63:ρ.b 63 = true:=by rw [b63,b59,b62,b61]; rfl
 have b65:ρ.b 65 = false:=by
  rw [b65,i8,decide_eq_false (p:=(sz:Int) <= (g:Int)) (by omega),Bool.and_false]
 have b67:ρ.b 67 = true:=by rw [b67,b63,b66,b65]; rfl
 have b70:ρ.b 70 = true:=by rw [b70,b67,b69]; rfl
 simp [b1,b2,b3,b4,b5,b6,b7,b8,b9,b10,b11,b12,b13,b14,b15,b16,b17,b18,b19,b20,b21,b22,b23,b24,b25,b26,b27,b28,b29,b30,b31,b32,b33,b34,b35,b36,b37,b38,b39,b40,b41,b42,b45,b48,b49,b55,b56,b59,b60,b63,b64,b67,b68,b70]
end Go.Proofs.YtfgbfdlacnihkaaDoor.Po
