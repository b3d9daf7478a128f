/-
  Merged texts (PoW3, PoJ, PoA, PoX, PoY1, SxAr, PoX4, PoZ1, PoZ2, PoZ3, PoS3, PoZ4, PoZ5, PoT). No condition.
-/
import Derived.Laws.RangeString
import Derived.Laws.RangeAny
import Derived.Test.YtfgbfdlacnihkaaGreatDoorRows
import Derived.HandedShaped
import Derived.Shelf.Vars
import Derived.Test.YtfgbfdlacnihkaaGreatDoorPz7
import Derived.Test.YtfgbfdlacnihkaaGreatDoorPz9
set_option linter.unusedVariables false
set_option linter.unusedSimpArgs false
namespace Go.Proofs.YtfgbfdlacnihkaaGreatDoor.Po
open Go Go.Proofs Go.Proofs.YtfgbfdlacnihkaaGreatDoor.Sx
def rOk (z:Int) (l:List Pr):Prop:=∀ p,p ∈ l -> 0 <= p.1 /\ p.1 <= p.2 /\ p.2 < z
theorem rOk.snoc {z:Int} {l:List Pr} {p:Pr} (h:rOk z l) (hp:0 <= p.1 /\ p.1 <= p.2 /\ p.2 < z):rOk z (l ++ [p]):=fun q hq=>by
 rcases List.mem_append.1 hq with h1 | h1
 ·exact h q h1
 ·rw [List.mem_singleton] at h1; subst h1; exact hp
theorem rOk.whl {z:Int} {l:List Pr} (h:rOk z l) (hz:z <= 65536):Whl l:=fun i hi=>by
 have hm:l.getD i (0,0) ∈ l:=by
  rw [List.getD_eq_getElem?_getD,List.getElem?_eq_getElem hi]
  exact List.getElem_mem hi
 obtain ⟨g1,g2,g3⟩:=h _ hm
 refine ⟨(l.getD i (0,0)).1.toNat,(l.getD i (0,0)).2.toNat,?_,by omega,by omega⟩
 apply Prod.ext <;> simp only <;> omega
structure Gdp (n:Nat) (P:Pol):Prop where
 r:rOk 2048 P.r
 s:rOk 8192 P.s
 lr:P.r.length <= n
 ls:P.s.length <= n
theorem lineO_gd {P P':Pol} {n:Nat} {l:List UInt8} (h:lineO P l = some P') (hg:Gdp n P):Gdp (n + 1) P':=by
 obtain ⟨h1,h2,h3,h4⟩:=hg
 unfold lineO at h
 split at h
 ·cases h; exact ⟨h1,h2,by omega,by omega⟩
 ·split at h
  ·cases h; exact ⟨h1,h2,by simp only; omega,by simp only; omega⟩
  ·split at h
   ·cases h; exact ⟨h1,h2,by simp only; omega,by simp only; omega⟩
   ·split at h
    ·rw [Option.map_eq_some_iff] at h
     obtain ⟨p,hp,rfl⟩:=h
     exact ⟨h1.snoc (spanO_ok hp),h2,by simp only [List.length_append,List.length_cons,List.length_nil]; omega,by simp only; omega⟩
    ·split at h
     ·rw [Option.map_eq_some_iff] at h
      obtain ⟨p,hp,rfl⟩:=h
      exact ⟨h1,h2.snoc (spanO_ok hp),by simp only; omega,by simp only [List.length_append,List.length_cons,List.length_nil]; omega⟩
     ·cases h
def Inv7 (R:Pol ⊕ Nat) (is:List Int) (bs:List Bool):Prop :=
 ∃ n L P,is = E7 n L P /\ bs = P.B /\ n + L.length <= 4096 /\ Gdp n P /\ foldO P n (lns L) = R
def Post7 (R:Pol ⊕ Nat) (o:Fl):Prop :=
 (∃ n L P Y d1 d2 d3,n + L.length <= 4096 /\ Gdp n P /\ foldO P n [L] = R /\ Y.length = 7 /\ o = (Y ++ E7 n L P,[false,true,d1,d2,d3,P.p0,P.p1])) \/
 (∃ (k:Nat) (Y:List Int) (Z:List Bool),R = .inr k /\ Y.length = 13 /\ Z.length = 4 /\ o = ([(k:Int),7] ++ Y,[true,false,false] ++ Z))
theorem loop7 {Φ:Funs} (g47:Φ 47 = F47) (g17:Φ 23 = F23) (g18:Φ 24 = F24) (L:List UInt8) (hL:L.length <= 4096) :
  ∃ o,loopF (L101101.S.run Φ true) 8 2 (E7 0 L ⟨false,false,[],[]⟩) [false,false] = (o.1,true :: o.2) /\ Post7 (foldO ⟨false,false,[],[]⟩ 0 (lns L)) o:=by
 refine loop_rule (F:=L101101.S.run Φ true) (nI:=8) (nB:=2) (Inv7 (foldO ⟨false,false,[],[]⟩ 0 (lns L))) (fun is _=>(dec (is.getD 3 0)).length) _ ?_ _ _
  ⟨0,L,⟨false,false,[],[]⟩,rfl,rfl,by omega,⟨fun p hp=>(by cases hp),fun p hp=>(by cases hp),by simp,by simp⟩,rfl⟩
 rintro is bs ⟨n,M,P,rfl,rfl,hb,hg,hR⟩
 rcases around 10 M with ⟨hno,_⟩ | ⟨a,b,hM,hno,_⟩
 ·obtain ⟨X,Y,c1,c2,d1,d2,d3,hX,hY,he⟩:=t7e (Φ:=Φ) g47 (n:=n) (L:=M) (P:=P) (by omega) hno
  rw [he]
  refine ⟨false,_,rfl,fun _=>.inl ⟨n,M,P,Y,d1,d2,d3,hb,hg,?_,hY,?_⟩,fun h=>by cases h⟩
  ·rw [<- lns_no hno]; exact hR
  ·simp only [List.drop_succ_cons,List.drop_zero]
   rw [List.drop_left' hX]
 ·have hMl:M.length = a.length + (b.length + 1):=by rw [hM,List.length_append,List.length_cons]
  obtain ⟨q1,q2⟩:=t7m (Φ:=Φ) g47 g17 g18 (n:=n) (L:=M) (P:=P) (by omega) (by omega) (by have:=hg.lr; omega) (by have:=hg.ls; omega) hM hno
  rw [hM,lns_at a b hno,foldO] at hR
  cases hl:lineO P a with
  | some P' =>
   rw [hl] at hR
   obtain ⟨Y,Z,he⟩:=q1 P' hl
   rw [he]
   refine ⟨true,_,rfl,fun h=>(by cases h),fun _=>⟨⟨n + 1,b,P',?_,?_,by omega,lineO_gd hl hg,hR⟩,?_⟩⟩
   ·exact List.take_left' rfl
   ·exact List.take_left' rfl
   ·simp only [E7,List.cons_append,List.nil_append,List.take_succ_cons,List.take_zero,List.getD_cons_zero,List.getD_cons_succ,eS_dec,ubyt_len]
    omega
  | none =>
   rw [hl] at hR
   obtain ⟨X,Y,c1,c2,Z,hX,hY,hZ,he⟩:=q2 hl
   rw [he]
   refine ⟨false,_,rfl,fun _=>.inr ⟨n + 1,Y,Z,hR.symm,hY,hZ,?_⟩,fun h=>by cases h⟩
   simp only [List.drop_succ_cons,List.drop_zero]
   rw [List.drop_left' hX]

def nilP:Pol:=⟨false,false,[],[]⟩
theorem len0 {α:Type} {n:Nat} {l:List α} (h:l.length = n + 1):∃ x m,l = x :: m /\ m.length = n:=by
 cases l with
 | nil=>cases h
 | cons x m=>exact ⟨x,m,rfl,by simpa using h⟩
set_option maxHeartbeats 4000000 in
theorem w7 (s:List UInt8) (hs0:s.length < 4294967281):(4096 < s.length -> F11 [eS s] [] = ([0,0,0,0,0,9],[true,false,false])) /\
  (s.length <= 4096 -> (∀ P,foldO nilP 0 (lns s) = .inl P -> ∃ Q,Tdd P Q /\ Q.r.length <= 5000 /\ Q.s.length <= 5000 /\ F11 [eS s] [] = (Q.I ++ [0,0],true :: Q.B)) /\ (∀ k,foldO nilP 0 (lns s) = .inr k -> F11 [eS s] [] = ([0,0,0,0,(k:Int),7],[true,false,false]))):=by
 have hlp:(lpF (l11.map (·.2)) (tabF T18)) 101101 = loopF (L101101.S.run (tabF T18) true) 8 2:=by kernel_rfl
 have g17:(lpF (l11.map (·.2)) (tabF T18)) 23 = F23:=by kernel_rfl
 have g18:(lpF (l11.map (·.2)) (tabF T18)) 24 = F24:=by kernel_rfl
 have g19:(lpF (l11.map (·.2)) (tabF T18)) 25 = F25:=by kernel_rfl
 have q47:(tabF T18) 47 = F47:=by kernel_rfl
 have q17:(tabF T18) 23 = F23:=by kernel_rfl
 have q18:(tabF T18) 24 = F24:=by kernel_rfl
 have hlo:=fun h=>loop7 (Φ:=tabF T18) q47 q17 q18 s h
 have hF:F11 [eS s] [] = S11.run (lpF (l11.map (·.2)) (tabF T18)) true [eS s] []:=rfl
 rw [hF]
 clear hF q47 q17 q18
 generalize lpF (l11.map (·.2)) (tabF T18) = Φ at hlp g17 g18 g19
 generalize tabF T18 = Ψ at hlp hlo
 obtain ⟨ρ,e1,e2,e3,e4⟩:=Smry.run_specT (Φ:=Φ) (S:=S11) (is:=[eS s]) (bs:=[]) rfl
 rw [e1,obAll_eq]
 clear e1
 simp only [S11,obs,Gd.d_cons,Gd.d_nil,eqns,Em.eqn,headsI,headsB,↓RI_ite,↓RB_ite,RI.d,RB.d,A.d,B.d,cm_eql,cm_neq,cm_lss,cm_leq,cm_gtr,cm_geq,List.map_cons,List.map_nil,and_true,Nat.zero_add,Nat.reduceAdd,ltn,upto,true_and,Nat.add_zero,List.getD_cons_zero,List.getD_cons_succ] at e2 e3 e4 ⊢
 simp only [e2,e3,Int.toNat_natCast] at e4 ⊢
 clear e2 e3
 rw [hlp,g17,g18,g19] at e4
 obtain ⟨i1,b0,⟨⟨i2,i3,i4,i5,i6,i7,i8,i9,i10,i11,i12,i13,i14,i15,i16⟩,b1,b2,b3,b4,b5,b6,b7,b8⟩,i17,⟨⟨i18,i19⟩,b9,b10⟩,b11,i20,b12,i21,b13,b14,b15,b16,b17,⟨⟨i22,i23⟩,b18,b19⟩,i24,b20,i25,i26,b21,⟨⟨i27,i28⟩,b22,b23⟩,i29,b24,i30,i31,b25,b26,b27,b28,b29,b30,i32,i33,i34,i35,b31,i36,i37,i38,i39,b32,b33,i40,i41,i42,i43,b34,b35,b36,i44,i45,i46,i47,b37,b38,b39,b40,b41,b42,b43,b44,i48,i49,i50,i51,b45,b46,i52,i53,i54,i55,i56,i57,i58,b47,b48,i59,i60,b49,⟨⟨i61,i62,i63,i64,i65,i66⟩,b50,b51,b52⟩,b53,b54,i67,i68,i69,i70,i71,i72,b55,b56,b57,i73,i74,i75,i76,i77,i78⟩:=e4
 have i1:ρ.i 1 = (s.length:Int):=i1.trans (eS_len s)
 constructor
 ·intro hbig
  have b0:ρ.b 0 = true:=by rw [b0,i1]; exact decide_eq_true (by omega)
  have b55:ρ.b 55 = false:=by rw [b55,b0]; rfl
  simp [b0,b55,b56,b57,i73,i74,i75,i76,i77,i78]
 ·intro hsm
  have b0:ρ.b 0 = false:=by rw [b0,i1]; exact decide_eq_false (by omega)
  have b55:ρ.b 55 = true:=by rw [b55,b0]; rfl
  obtain ⟨o,ho,hp⟩:=hlo hsm
  have ho:loopF (L101101.S.run Ψ true) 8 2 [0,0,0,eS s,0,0,0,0] [false,false] = (o.1,true :: o.2):=ho
  rw [ho] at i2 i3 i4 i5 i6 i7 i8 i9 i10 i11 i12 i13 i14 i15 i16 b1 b2 b3 b4 b5 b6 b7 b8
  rcases hp with ⟨n,L,P,Y,d1,d2,d3,hb,hg,hR,hY,rfl⟩ | ⟨k,Y,Z,hR,hY,hZ,rfl⟩
  ·obtain ⟨y0,Y0,rfl,hY0⟩:=len0 hY
   obtain ⟨y1,Y1,rfl,hY1⟩:=len0 hY0
   obtain ⟨y2,Y2,rfl,hY2⟩:=len0 hY1
   obtain ⟨y3,Y3,rfl,hY3⟩:=len0 hY2
   obtain ⟨y4,Y4,rfl,hY4⟩:=len0 hY3
   obtain ⟨y5,Y5,rfl,hY5⟩:=len0 hY4
   obtain ⟨y6,Y6,rfl,hY6⟩:=len0 hY5
   obtain rfl:=List.eq_nil_of_length_eq_zero hY6
   simp only [E7,List.cons_append,List.nil_append,List.getD_cons_zero,List.getD_cons_succ] at i2 i3 i4 i5 i6 i7 i8 i9 i10 i11 i12 i13 i14 i15 i16 b1 b2 b3 b4 b5 b6 b7 b8
   clear i2 i3 i4 i5 i6 i7 i8 i9 i10 b4 b5 b6
   have hlr:=hg.lr
   have hls:=hg.ls
   simp only [i11,i12,i13,i14,i15,i16,b7,b8] at *
   have hl0:=(show L.length <= 4096 by omega)
   have b11:ρ.b 11 = decide (L = []):=by rw [b11,show (0:Int) = eS [] from rfl,eS_eq]
   have i20:ρ.i 20 = (L.length:Int):=i20.trans (by rw [eS_len])
   have b12:ρ.b 12 = !decide (L = []):=by
    rw [b12,i20,Bool.eq_iff_iff,decide_eq_true_eq,Bool.not_eq_true',decide_eq_false_iff_not,<- List.length_eq_zero_iff]
    omega
   have b14:ρ.b 14 = skip L:=by
    rw [b14,b11,b13,i21]
    unfold skip
    rw [show (dec (eS L)).getD (Int.toNat 0 * 1) 0 = ((L.getD 0 0).toNat:Int) from eS_get L 0]
   have b15:ρ.b 15 = decide (L = port1):=by rw [b15,k_port1,eS_eq]
   have b16:ρ.b 16 = decide (L = port2):=by rw [b16,k_port2,eS_eq]
   simp only [k_sp,f17,List.getD_cons_zero,List.getD_cons_succ] at i18 i19 b9 b10
   have b9:ρ.b 9 = true:=by rw [b9]; exact decide_eq_true (by omega)
   have b17:ρ.b 17 = decide ((Lib.cut L [32]).1 = ramW):=by rw [b17,i18,k_ramW,eS_eq]
   have b21:ρ.b 21 = decide ((Lib.cut L [32]).1 = saveW):=by rw [b21,i18,k_saveW,eS_eq]
   have hcl:(Lib.cut L [32]).2.1.length <= L.length:=(cut_len L [32]).2
   obtain ⟨x1,y1,s1,t1⟩:=w18 (Lib.cut L [32]).2.1 2048 (by omega)
   obtain ⟨x2,y2,s2,t2⟩:=w18 (Lib.cut L [32]).2.1 8192 (by omega)
   simp only [i19,s1,s2,List.getD_cons_zero,List.getD_cons_succ] at i22 i23 b18 b19 i27 i28 b22 b23
   have i25:ρ.i 25 = eP (P.r ++ [(x1,y1)]):=by
    rw [i25,i24,i22,i23]
    exact eP_cat P.r [(x1,y1)]
   have i30:ρ.i 30 = eP (P.s ++ [(x2,y2)]):=by
    rw [i30,i29,i27,i28]
    exact eP_cat P.s [(x2,y2)]
   have i26:ρ.i 26 = ((P.r ++ [(x1,y1)]).length:Int):=by rw [i26,arAdd (by omega) (by omega),List.length_append]; rfl
   have i31:ρ.i 31 = ((P.s ++ [(x2,y2)]).length:Int):=by rw [i31,arAdd (by omega) (by omega),List.length_append]; rfl
   have b20:ρ.b 20 = true:=by rw [b20]; exact decide_eq_true (by omega)
   have b24:ρ.b 24 = true:=by rw [b24]; exact decide_eq_true (by omega)
   have key:∃ P':Pol,lineO P L = (bif ρ.b 36 then some P' else none) /\ (ρ.b 36 = true -> ρ.i 50 = eP P'.r /\ ρ.i 51 = (P'.r.length:Int) /\ ρ.i 48 = eP P'.s /\ ρ.i 49 = (P'.s.length:Int) /\ ρ.b 45 = P'.p0 /\ ρ.b 46 = P'.p1):=by
    unfold lineO
    cases h1:skip L with
    | true=>exact ⟨P,by simp [b25,b26,b27,b28,b29,b30,b31,b32,b33,b34,b35,b36,b37,b38,b45,b46,i32,i33,i34,i35,i36,i37,i38,i39,i40,i41,i42,i43,i44,i45,i46,i47,i48,i49,i50,i51,b14,h1],fun _=>by simp [b25,b26,b27,b28,b29,b30,b31,b32,b33,b34,b35,b36,b37,b38,b45,b46,i32,i33,i34,i35,i36,i37,i38,i39,i40,i41,i42,i43,i44,i45,i46,i47,i48,i49,i50,i51,b14,h1]⟩
    | false =>
     cases h2:decide (L = port1) with
     | true=>exact ⟨{ P with p0:=true },by simp [b25,b26,b27,b28,b29,b30,b31,b32,b33,b34,b35,b36,b37,b38,b45,b46,i32,i33,i34,i35,i36,i37,i38,i39,i40,i41,i42,i43,i44,i45,i46,i47,i48,i49,i50,i51,b14,b15,h1,h2],fun _=>by simp [b25,b26,b27,b28,b29,b30,b31,b32,b33,b34,b35,b36,b37,b38,b45,b46,i32,i33,i34,i35,i36,i37,i38,i39,i40,i41,i42,i43,i44,i45,i46,i47,i48,i49,i50,i51,b14,b15,h1,h2]⟩
     | false =>
      cases h3:decide (L = port2) with
      | true=>exact ⟨{ P with p1:=true },by simp [b25,b26,b27,b28,b29,b30,b31,b32,b33,b34,b35,b36,b37,b38,b45,b46,i32,i33,i34,i35,i36,i37,i38,i39,i40,i41,i42,i43,i44,i45,i46,i47,i48,i49,i50,i51,b14,b15,b16,h1,h2,h3],fun _=>by simp [b25,b26,b27,b28,b29,b30,b31,b32,b33,b34,b35,b36,b37,b38,b45,b46,i32,i33,i34,i35,i36,i37,i38,i39,i40,i41,i42,i43,i44,i45,i46,i47,i48,i49,i50,i51,b14,b15,b16,h1,h2,h3]⟩
      | false =>
       cases h4:decide ((Lib.cut L [32]).1 = ramW) with
       | true =>
        cases h5:spanO (Lib.cut L [32]).2.1 2048 with
        | none=>exact ⟨P,by simp [b25,b26,b27,b28,b29,b30,b31,b32,b33,b34,b35,b36,b37,b38,b45,b46,i32,i33,i34,i35,i36,i37,i38,i39,i40,i41,i42,i43,i44,i45,i46,i47,i48,i49,i50,i51,b14,b15,b16,b17,b19,h1,h2,h3,h4,h5],fun h=>by simp [b25,b26,b27,b28,b29,b30,b31,b32,b33,b34,b35,b36,b37,b38,b45,b46,i32,i33,i34,i35,i36,i37,i38,i39,i40,i41,i42,i43,i44,i45,i46,i47,i48,i49,i50,i51,b14,b15,b16,b17,b19,h1,h2,h3,h4,h5] at h⟩
        | some p =>
         obtain rfl:=t1 p h5
         exact ⟨{ P with r:=P.r ++ [(x1,y1)] },by simp [b25,b26,b27,b28,b29,b30,b31,b32,b33,b34,b35,b36,b37,b38,b45,b46,i32,i33,i34,i35,i36,i37,i38,i39,i40,i41,i42,i43,i44,i45,i46,i47,i48,i49,i50,i51,b14,b15,b16,b17,b19,h1,h2,h3,h4,h5],fun h=>by simp [b25,b26,b27,b28,b29,b30,b31,b32,b33,b34,b35,b36,b37,b38,b45,b46,i32,i33,i34,i35,i36,i37,i38,i39,i40,i41,i42,i43,i44,i45,i46,i47,i48,i49,i50,i51,b14,b15,b16,b17,b19,i25,i26,h1,h2,h3,h4,h5]⟩
       | false =>
        cases h6:decide ((Lib.cut L [32]).1 = saveW) with
        | true =>
         cases h5:spanO (Lib.cut L [32]).2.1 8192 with
         | none=>exact ⟨P,by simp [b25,b26,b27,b28,b29,b30,b31,b32,b33,b34,b35,b36,b37,b38,b45,b46,i32,i33,i34,i35,i36,i37,i38,i39,i40,i41,i42,i43,i44,i45,i46,i47,i48,i49,i50,i51,b14,b15,b16,b17,b21,b23,h1,h2,h3,h4,h6,h5],fun h=>by simp [b25,b26,b27,b28,b29,b30,b31,b32,b33,b34,b35,b36,b37,b38,b45,b46,i32,i33,i34,i35,i36,i37,i38,i39,i40,i41,i42,i43,i44,i45,i46,i47,i48,i49,i50,i51,b14,b15,b16,b17,b21,b23,h1,h2,h3,h4,h6,h5] at h⟩
         | some p =>
          obtain rfl:=t2 p h5
          exact ⟨{ P with s:=P.s ++ [(x2,y2)] },by simp [b25,b26,b27,b28,b29,b30,b31,b32,b33,b34,b35,b36,b37,b38,b45,b46,i32,i33,i34,i35,i36,i37,i38,i39,i40,i41,i42,i43,i44,i45,i46,i47,i48,i49,i50,i51,b14,b15,b16,b17,b21,b23,h1,h2,h3,h4,h6,h5],fun h=>by simp [b25,b26,b27,b28,b29,b30,b31,b32,b33,b34,b35,b36,b37,b38,b45,b46,i32,i33,i34,i35,i36,i37,i38,i39,i40,i41,i42,i43,i44,i45,i46,i47,i48,i49,i50,i51,b14,b15,b16,b17,b21,b23,i30,i31,h1,h2,h3,h4,h6,h5]⟩
        | false=>exact ⟨P,by simp [b25,b26,b27,b28,b29,b30,b31,b32,b33,b34,b35,b36,b37,b38,b45,b46,i32,i33,i34,i35,i36,i37,i38,i39,i40,i41,i42,i43,i44,i45,i46,i47,i48,i49,i50,i51,b14,b15,b16,b17,b21,h1,h2,h3,h4,h6],fun h=>by simp [b25,b26,b27,b28,b29,b30,b31,b32,b33,b34,b35,b36,b37,b38,b45,b46,i32,i33,i34,i35,i36,i37,i38,i39,i40,i41,i42,i43,i44,i45,i46,i47,i48,i49,i50,i51,b14,b15,b16,b17,b21,h1,h2,h3,h4,h6] at h⟩

   obtain ⟨P',k1,k2⟩:=key
   rw [foldO,k1] at hR
   have b49:ρ.b 49 = ρ.b 36:=by rw [b49,b3]; rfl
   cases hok:ρ.b 36 with
   | true =>
    obtain ⟨k3,k4,k5,k6,k7,k8⟩:=k2 hok
    rw [hok] at hR
    have hR:(Sum.inl P':Pol ⊕ Nat) = foldO nilP 0 (lns s):=hR
    have hg':Gdp (n + 1) P':=lineO_gd (by rw [k1,hok]; rfl) hg
    rw [<- hR]
    refine ⟨fun P'' hP=>?_,fun k hk=>(by cases hk)⟩
    obtain rfl:P' = P'':=Sum.inl.inj hP
    have glr:=hg'.lr
    have gls:=hg'.ls
    obtain ⟨Q,hQ,lr,ls,fQ⟩:=w19 (P:=P') (by omega) (by omega) (hg'.r.whl (by decide)) (hg'.s.whl (by decide))
    have fQ:F25 [eP P'.r,P'.r.length,eP P'.s,P'.s.length] [P'.p0,P'.p1] = ([eP Q.r,Q.r.length,eP Q.s,Q.s.length,0,0],[true,Q.p0,Q.p1]):=fQ
    refine ⟨Q,hQ,by omega,by omega,?_⟩
    have i54:ρ.i 54 = eP P'.s:=by rw [i54,b3,k5]; rfl
    have i55:ρ.i 55 = (P'.s.length:Int):=by rw [i55,b3,k6]; rfl
    have i56:ρ.i 56 = eP P'.r:=by rw [i56,b3,k3]; rfl
    have i57:ρ.i 57 = (P'.r.length:Int):=by rw [i57,b3,k4]; rfl
    have b47:ρ.b 47 = P'.p0:=by rw [b47,b3,k7]; rfl
    have b48:ρ.b 48 = P'.p1:=by rw [b48,b3,k8]; rfl
    simp only [i54,i55,i56,i57,b47,b48,fQ,List.getD_cons_zero,List.getD_cons_succ] at i61 i62 i63 i64 i65 i66 b50 b51 b52
    have b49:ρ.b 49 = true:=by rw [b49,hok]
    simp [Pol.I,Pol.B,b0,b1,b3,b9,b11,b12,b18,b20,b22,b24,b49,b50,b51,b52,b53,b54,b55,b56,b57,i61,i62,i63,i64,i65,i66,i67,i68,i69,i70,i71,i72,i73,i74,i75,i76,i77,i78]
   | false =>
    rw [hok] at hR
    have hR:(Sum.inr (n + 1):Pol ⊕ Nat) = foldO nilP 0 (lns s):=hR
    rw [<- hR]
    refine ⟨fun P'' hP=>(by cases hP),fun k hk=>?_⟩
    obtain rfl:n + 1 = k:=Sum.inr.inj hk
    have b49:ρ.b 49 = false:=by rw [b49,hok]
    have i17:ρ.i 17 = ((n + 1:Nat):Int):=by rw [i17,arAdd (by omega) (by omega)]; omega
    have i52:ρ.i 52 = 7:=by rw [i52,hok]; rfl
    have i53:ρ.i 53 = ((n + 1:Nat):Int):=by rw [i53,hok,i17]; rfl
    have i59:ρ.i 59 = 7:=by rw [i59,b3,i52]; rfl
    have i60:ρ.i 60 = ((n + 1:Nat):Int):=by rw [i60,b3,i53]; rfl
    simp [b0,b1,b3,b9,b11,b12,b18,b20,b22,b24,b49,b53,b54,b55,b56,b57,i59,i60,i67,i68,i69,i70,i71,i72,i73,i74,i75,i76,i77,i78]
  ·simp only [List.cons_append,List.nil_append,List.getD_cons_zero,List.getD_cons_succ] at i2 i3 b1 b2 b3 b4
   have hR:foldO nilP 0 (lns s) = .inr k:=hR
   rw [hR]
   refine ⟨fun P'' hP=>(by cases hP),fun k' hk=>?_⟩
   obtain rfl:k = k':=Sum.inr.inj hk
   have b49:ρ.b 49 = false:=by rw [b49,b3,b4]; rfl
   have i59:ρ.i 59 = 7:=by rw [i59,b3,i3]; rfl
   have i60:ρ.i 60 = (k:Int):=by rw [i60,b3,i2]; rfl
   simp [b0,b1,b3,b49,b53,b54,b55,b56,b57,i59,i60,i67,i68,i69,i70,i71,i72,i73,i74,i75,i76,i77,i78]
end Go.Proofs.YtfgbfdlacnihkaaGreatDoor.Po
namespace Go.Proofs.YtfgbfdlacnihkaaGreatDoor.Po
open Go Go.Proofs Go.Proofs.YtfgbfdlacnihkaaGreatDoor.Sx
theorem Tdd.ok {P Q J:Pol} (h:Tdd (P.cat Q) J) (hP:P.ok) (hQ:Q.ok):J.ok:=by
 have key:∀ {a b j:List Pr} {z:Int},OkL z a -> OkL z b -> Tid (a ++ b) j -> OkL z j:=fun {a b j z} h1 h2 h3=>by
  refine ⟨h3.tdy,fun p hp=>?_⟩
  have hpp:=(h3.tdy.ok p hp).2
  have:Plc j p.2:=⟨p,hp,hpp,Int.le_refl _⟩
  rcases Plc.append.1 ((h3.plc _).1 this) with ⟨q,hq,_,h⟩ | ⟨q,hq,_,h⟩
  ·have:=h1.2 q hq; omega
  ·have:=h2.2 q hq; omega
 exact ⟨key hP.1 hQ.1 h.r,key hP.2 hQ.2 h.s⟩
def Pol.nil:Pol:=⟨false,false,[],[]⟩
theorem Cov.self (P:Pol):Cov P P:=⟨fun _ h=>h,fun _ h=>h,fun h=>h,fun h=>h⟩
theorem Cov.nil (P:Pol):Cov P Pol.nil:=⟨fun _ h=>(Plc.nil h).elim,fun _ h=>(Plc.nil h).elim,fun h=>(by cases h),fun h=>(by cases h)⟩
theorem j9 {P:Pol} (h:P.sw):F9 [eP P.r,P.r.length,eP P.s,P.s.length,eP P.r,P.r.length,eP P.s,P.s.length] [P.p0,P.p1,P.p0,P.p1] = ([],[true,true]):=by
 have:=w9 h h
 rw [eqP_eq.2 rfl] at this
 exact this
end Go.Proofs.YtfgbfdlacnihkaaGreatDoor.Po
namespace Go.Proofs.YtfgbfdlacnihkaaGreatDoor.Po
open Go Go.Proofs Go.Proofs.YtfgbfdlacnihkaaGreatDoor.Sx
def exP:Pol:=⟨true,false,[(16,31)],[]⟩
theorem exP_ok:bOk exP = true:=bOk_ok.2 ⟨⟨⟨by decide,by decide,trivial⟩,fun p hp=>by rw [exP] at hp; simp only [List.mem_singleton] at hp; subst hp; decide⟩,⟨trivial,fun p hp=>by cases hp⟩⟩
theorem ex23:F5 [39614081257132168801066942464,1,0,0] [true,false] = ([3062302278987264410674014099952538134529440485145592893164731941640471658369612547942791401665897482000281883369006372177948813453010409754392113509966874757962158373042057921336923509629471718650217571809758850420188443798020291606937751249175506258514049222660702975380452550360450749962719400227897802577836651689983656279722490961790232392342992722922308584259987858154371894537100421090022036586572421164711157108445679599167506914277801199496960308930278878974007535565026780821022788612396998099038507917649437827800571885055596998247015506332278241138379271204271450850129472976504623918407923489421753098021837526662573127819680320461965019792405210084250249082561310580722329275664615394707913807161742006208658694966720596656377376498375637966365046739511356116619718031361716374438416026480948356469717743431422174520379305273327616,0],[true]):=by
 have h14:F6 [39614081257132168801066942464,1,0,0] [true,false] = ([0],[true]):=by
  have h:=w14 (P:=exP) ⟨by decide,by decide⟩
  rw [exP_ok,if_pos rfl] at h
  have e:exP.I = [39614081257132168801066942464,1,0,0]:=by kernel_rfl
  rw [e] at h
  exact h
 have hp:preP [39614081257132168801066942464,1,0,0] = true:=by kernel_rfl
 have ht:enc (ubyt (txtP [39614081257132168801066942464,1,0,0] [true,false])) = 3062302278987264410674014099952538134529440485145592893164731941640471658369612547942791401665897482000281883369006372177948813453010409754392113509966874757962158373042057921336923509629471718650217571809758850420188443798020291606937751249175506258514049222660702975380452550360450749962719400227897802577836651689983656279722490961790232392342992722922308584259987858154371894537100421090022036586572421164711157108445679599167506914277801199496960308930278878974007535565026780821022788612396998099038507917649437827800571885055596998247015506332278241138379271204271450850129472976504623918407923489421753098021837526662573127819680320461965019792405210084250249082561310580722329275664615394707913807161742006208658694966720596656377376498375637966365046739511356116619718031361716374438416026480948356469717743431422174520379305273327616:=by kernel_rfl
 unfold F5
 rw [h14]
 simp only [List.getD_cons_zero,if_true,List.headD_cons,hp,ht,Bool.and_self]
theorem ex7a:F11 [175555970201398037864189960039098610574940786992552928328208298184894501349876136186330626776309512881220524397968692806768347467691210972263265569513850883070532148348809777940602264079369085776176717536779981246149727596355667861827579075585031615090076645550475389720871432155184728781675170212062691328] [] = ([0,0,0,0,1,7],[true,false,false]):=by
 have e:(175555970201398037864189960039098610574940786992552928328208298184894501349876136186330626776309512881220524397968692806768347467691210972263265569513850883070532148348809777940602264079369085776176717536779981246149727596355667861827579075585031615090076645550475389720871432155184728781675170212062691328:Int) = eS [114,97,109,32,56,48,48]:=by kernel_rfl
 rw [e]
 exact ((w7 [114,97,109,32,56,48,48] (by decide)).2 (by decide)).2 1 (by kernel_rfl)
theorem ex7b:F11 [0] [] = ([0,0,0,0,0,0],[true,false,false]):=by
 obtain ⟨Q,hQ,_,_,h⟩:=((w7 [] (by decide)).2 (by decide)).1 nilP (by kernel_rfl)
 have hT:Tdd nilP nilP:=⟨⟨trivial,fun t=>Iff.rfl⟩,⟨trivial,fun t=>Iff.rfl⟩,rfl,rfl⟩
 obtain rfl:Q = nilP:=hQ.uniq hT
 exact h
theorem w10:F10 [] [] = ([],[true,true]):=by
 have f23:tabF T19 5 = F5:=by kernel_rfl
 have f7:tabF T19 11 = F11:=by kernel_rfl
 show S10.run (tabF T19) true [] [] = _
 generalize tabF T19 = Φ at f23 f7
 obtain ⟨ρ,e1,e2,e3,e4⟩:=Smry.run_specT (Φ:=Φ) (S:=S10) (is:=[]) (bs:=[]) rfl
 rw [e1,obAll_eq]
 clear e1 e2 e3
 simp only [S10,obs,Gd.d_cons,Gd.d_nil,eqns,Em.eqn,RI.d,RB.d,A.d,B.d,cm_eql,cm_neq,cm_lss,cm_leq,cm_gtr,cm_geq,List.map_cons,List.map_nil,and_true,Nat.zero_add,Nat.reduceAdd,ltn,upto,true_and,Nat.add_zero,List.getD_cons_zero,List.getD_cons_succ] at e4 ⊢
 rw [f23,f7,ex23,ex7a,ex7b] at e4
 simp only [List.getD_cons_zero,List.getD_cons_succ] at e4
 obtain ⟨⟨⟨i0,i1⟩,b0⟩,⟨⟨i2,i3,i4,i5,i6,i7⟩,b1,b2,b3⟩,⟨⟨i8,i9,i10,i11,i12,i13⟩,b4,b5,b6⟩,b7,b8,b9,b10,b11,b12,b13,b14,b15,b16,i14,b17,b18,b19,b20,b21,b22,b23⟩:=e4
 have i14:ρ.i 14 = 0:=by rw [i14,i9,i11]; rfl
 have b7:ρ.b 7 = true:=by rw [b7,i0]; exact beq_self_eq_true _
 simp [b0,b1,b2,b3,b4,b5,b6,b7,b8,b9,b10,b11,b12,b13,b14,b15,b16,b17,b18,b19,b20,b21,b22,b23,i0,i1,i6,i7,i12,i13,i14]
end Go.Proofs.YtfgbfdlacnihkaaGreatDoor.Po
namespace Go.Proofs.YtfgbfdlacnihkaaGreatDoor.Po
open Go Go.Proofs Go.Proofs.YtfgbfdlacnihkaaGreatDoor.Sx
def lineD (l:List UInt8):Option Pol:=lineO nilP l
theorem Pol.cat_nil (P:Pol):P.cat nilP = P:=by
 obtain ⟨p0,p1,r,s⟩:=P
 simp [Pol.cat,nilP]
theorem Pol.cat_assoc (P Q R:Pol):(P.cat Q).cat R = P.cat (Q.cat R):=by
 simp [Pol.cat,Bool.or_assoc,List.append_assoc]
theorem lineO_D (P:Pol) (l:List UInt8):lineO P l = (lineD l).map fun D=>P.cat D:=by
 obtain ⟨p0,p1,r,s⟩:=P
 unfold lineD lineO
 split
 ·simp [nilP,Pol.cat]
 ·split
  ·simp [nilP,Pol.cat]
  ·split
   ·simp [nilP,Pol.cat]
   ·split
    ·cases spanO (Lib.cut l [32]).2.1 2048 <;> simp [nilP,Pol.cat]
    ·split
     ·cases spanO (Lib.cut l [32]).2.1 8192 <;> simp [nilP,Pol.cat]
     ·rfl
theorem foldO_pos:∀ (ls:List (List UInt8)) (P:Pol) (n k:Nat),foldO P n ls = .inr k -> n < k
 | [],P,n,k,h=>by simp [foldO] at h
 | l :: ls,P,n,k,h=>by
  simp only [foldO] at h
  cases hl:lineO P l with
  | none=>rw [hl] at h; simp only [Sum.inr.injEq] at h; omega
  | some Q=>rw [hl] at h; have:=foldO_pos ls Q (n + 1) k h; omega
theorem foldO_gd:∀ (ls:List (List UInt8)) (P Q:Pol) (n:Nat),Gdp n P -> foldO P n ls = .inl Q -> Gdp (n + ls.length) Q
 | [],P,Q,n,hg,h=>by simp only [foldO,Sum.inl.injEq] at h; subst h; exact hg
 | l :: ls,P,Q,n,hg,h=>by
  simp only [foldO] at h
  cases hl:lineO P l with
  | none=>rw [hl] at h; cases h
  | some R =>
   rw [hl] at h
   have:=foldO_gd ls R Q (n + 1) (lineO_gd hl hg) h
   rw [List.length_cons,show n + (ls.length + 1) = n + 1 + ls.length by omega]
   exact this
theorem nil_gd:Gdp 0 nilP:=⟨fun p hp=>(by cases hp),fun p hp=>(by cases hp),Nat.le_refl _,Nat.le_refl _⟩
theorem rOk.okL {z:Int} {l m:List Pr} (h:rOk z l) (ht:Tid l m):OkL z m:=by
 refine ⟨ht.tdy,fun p hp=>?_⟩
 have hpp:=(ht.tdy.ok p hp).2
 obtain ⟨q,hq,_,hle⟩:=(ht.plc p.2).1 ⟨p,hp,hpp,Int.le_refl _⟩
 have:=(h q hq).2.2
 omega
theorem Gdp.ok {n:Nat} {P Q:Pol} (h:Gdp n P) (ht:Tdd P Q):Q.ok:=⟨h.r.okL ht.r,h.s.okL ht.s⟩
theorem p7 (s:List UInt8) (hs:s.length <= 4096) :
  (∃ k:Nat,0 < k /\ foldO nilP 0 (lns s) = .inr k /\ F11 [eS s] [] = ([0,0,0,0,(k:Int),7],[true,false,false])) \/
  (∃ P Q,foldO nilP 0 (lns s) = .inl P /\ Tdd P Q /\ Q.ok /\ Q.r.length <= 5000 /\ Q.s.length <= 5000 /\ F11 [eS s] [] = ([eP Q.r,Q.r.length,eP Q.s,Q.s.length,0,0],[true,Q.p0,Q.p1])):=by
 obtain ⟨h1,h2⟩:=(w7 s (by omega)).2 hs
 cases h:foldO nilP 0 (lns s) with
 | inl P =>
  obtain ⟨Q,hQ,l1,l2,e⟩:=h1 P h
  exact .inr ⟨P,Q,rfl,hQ,(foldO_gd _ _ _ _ nil_gd h).ok hQ,l1,l2,e⟩
 | inr k=>exact .inl ⟨k,foldO_pos _ _ _ _ h,rfl,h2 k h⟩
theorem eS_cat (a b:List UInt8):enc (dec (eS a) ++ dec (eS b)) = eS (a ++ b):=by
 rw [eS_dec,eS_dec]
 unfold eS ubyt
 rw [List.map_append]
theorem skip_nil (P:Pol):lineO P [] = some P:=by
 unfold lineO
 rw [if_pos]
 rfl
end Go.Proofs.YtfgbfdlacnihkaaGreatDoor.Po
namespace Go.Proofs.YtfgbfdlacnihkaaGreatDoor.Po
open Go Go.Proofs Go.Proofs.YtfgbfdlacnihkaaGreatDoor.Sx
def hexN (n:Nat):Int:=if decide (48 <= n) && decide (n <= 57) then (n:Int) - 48 else if decide (97 <= n) && decide (n <= 102) then (n:Int) - 87 else -1
def hexv (c:UInt8):Int:=hexN c.toNat
def isH (c:UInt8):Bool:=decide (0 <= hexv c)
set_option maxRecDepth 100000 in
theorem hexR_N:∀ n:Nat,n < 128 -> Tryz.hexR n = hexN n:=by decide
theorem hexN_high {n:Nat} (h:128 <= n):hexN n = -1:=by
 unfold hexN
 rw [decide_eq_false (p:=n <= 57) (by omega),decide_eq_false (p:=n <= 102) (by omega)]
 simp
def numF:Nat -> List UInt8 -> Int -> Option Int
 | 0,_,n=>some n
 | _ + 1,[],n=>some n
 | k + 1,c :: l,n=>if hexv c < 0 then none else numF k l (n * 16 + hexv c)
theorem numFrom_F (s:ByteArray):∀ (k pos:Nat) (n:Int),Tryz.numFrom s k pos n = numF k (s.data.toList.drop pos) n
 | 0,pos,n=>by rw [Tryz.numFrom,numF]
 | k + 1,pos,n=>by
  rw [Tryz.numFrom]
  by_cases hp:pos < s.size
  ·have hp':pos < s.data.toList.length:=by simpa using hp
   have hd:s.data.toList.drop pos = s[pos] :: s.data.toList.drop (pos + 1):=by
    rw [List.drop_eq_getElem_cons hp']
    rfl
   rw [if_pos hp,hd,numF]
   by_cases ha:(s[pos]'hp).toNat < 128
   ·rw [decode_ascii s pos hp ha]
    simp only
    rw [hexR_N _ ha,numFrom_F s k (pos + 1)]
    rfl
   ·obtain ⟨h1,_⟩:=decode_high s pos hp (by omega)
    have h2:Tryz.hexR (Utf8.decode s pos).1 = -1:=by unfold Tryz.hexR; rw [if_neg (by omega)]
    rw [h2,if_pos (by decide)]
    have:hexv s[pos] = -1:=hexN_high (by omega)
    rw [this,if_pos (by decide)]
  ·rw [if_neg hp,List.drop_eq_nil_of_le (by simp; omega),numF]
def numV (l:List UInt8):Int:=l.foldl (fun n c=>n * 16 + hexv c) 0
theorem numF_all:∀ (l:List UInt8) (n:Int),numF l.length l n = if l.all isH then some (l.foldl (fun n c=>n * 16 + hexv c) n) else none
 | [],n=>rfl
 | c :: l,n=>by
  rw [List.length_cons,numF,numF_all l]
  simp only [List.all_cons,List.foldl_cons]
  by_cases h:hexv c < 0
  ·have:isH c = false:=decide_eq_false (by omega)
   simp [h,this]
  ·have:isH c = true:=decide_eq_true (by omega)
   simp [h,this]
theorem numB_eq (l:List UInt8):numB l = if decide (1 <= l.length) && decide (l.length <= 4) && l.all isH then some (numV l) else none:=by
 unfold numB Tryz.num
 have hs:(⟨l.toArray⟩:ByteArray).size = l.length:=by show l.toArray.size = _; simp
 rw [hs]
 by_cases h:l.length < 1 \/ 4 < l.length
 ·rw [if_pos h,if_neg]
  rw [Bool.and_eq_true,Bool.and_eq_true,decide_eq_true_eq,decide_eq_true_eq]
  omega
 ·rw [if_neg h,numFrom_F]
  show numF l.length l 0 = _
  rw [numF_all]
  rw [decide_eq_true (p:=1 <= l.length) (by omega),decide_eq_true (p:=l.length <= 4) (by omega)]
  rfl
def chk (a b z:Int):Option Pr:=if decide (a <= b) && decide (b < z) then some (a,b) else none
theorem spanO_chk (l:List UInt8) (z:Int):spanO l z = match numB (Lib.cut l [45]).1,numB (lastP l) with
 | some a,some b=>chk a b z
 | _,_=>none:=rfl
theorem numB_some {l:List UInt8} (h1:1 <= l.length) (h2:l.length <= 4) (h3:l.all isH = true):numB l = some (numV l):=by
 rw [numB_eq,if_pos]
 rw [Bool.and_eq_true,Bool.and_eq_true,decide_eq_true_eq,decide_eq_true_eq]
 exact ⟨⟨h1,h2⟩,h3⟩
end Go.Proofs.YtfgbfdlacnihkaaGreatDoor.Po
namespace Go.Proofs.YtfgbfdlacnihkaaGreatDoor.Sx
open Go

end Go.Proofs.YtfgbfdlacnihkaaGreatDoor.Sx
namespace Go.Proofs.YtfgbfdlacnihkaaGreatDoor.Po
open Go Go.Proofs Go.Proofs.YtfgbfdlacnihkaaGreatDoor.Sx
def hexS:List UInt8:=[48,49,50,51,52,53,54,55,56,57,97,98,99,100,101,102]
def hx (k:Nat):UInt8:=hexS.getD k 0
theorem hx_v:∀ k:Nat,k < 16 -> hexv (hx k) = (k:Int):=by decide
theorem hx_H:∀ k:Nat,k < 16 -> isH (hx k) = true:=by decide
theorem hx_n:∀ k:Nat,k < 16 -> hx k ≠ 45 /\ hx k ≠ 10 /\ hx k ≠ 32:=by decide
def dg (f:Nat):List UInt8:=[hx (f / 4096),hx (f / 256 % 16),hx (f / 16 % 16),hx (f % 16)]
theorem dg_num {f:Nat} (h:f < 65536):numB (dg f) = some (f:Int):=by
 rw [numB_some (by simp [dg]) (by simp [dg]) (by
  simp only [dg,List.all_cons,List.all_nil,hx_H _ (show f / 4096 < 16 by omega),hx_H _ (show f / 256 % 16 < 16 by omega),hx_H _ (show f / 16 % 16 < 16 by omega),hx_H _ (show f % 16 < 16 by omega),Bool.and_self])]
 unfold numV dg
 simp only [List.foldl_cons,List.foldl_nil,hx_v _ (show f / 4096 < 16 by omega),hx_v _ (show f / 256 % 16 < 16 by omega),hx_v _ (show f / 16 % 16 < 16 by omega),hx_v _ (show f % 16 < 16 by omega)]
 congr 1
 omega
theorem dg_no {f:Nat} (h:f < 65536):(45:UInt8) ∉ dg f /\ (10:UInt8) ∉ dg f /\ (32:UInt8) ∉ dg f:=by
 obtain ⟨a1,a2,a3⟩:=hx_n _ (show f / 4096 < 16 by omega)
 obtain ⟨b1,b2,b3⟩:=hx_n _ (show f / 256 % 16 < 16 by omega)
 obtain ⟨c1,c2,c1003⟩:=hx_n _ (show f / 16 % 16 < 16 by omega)
 obtain ⟨d1,d2,d3⟩:=hx_n _ (show f % 16 < 16 by omega)
 unfold dg
 simp only [List.mem_cons,List.not_mem_nil,or_false,not_or]
 exact ⟨⟨a1.symm,b1.symm,c1.symm,d1.symm⟩,⟨a2.symm,b2.symm,c2.symm,d2.symm⟩,⟨a3.symm,b3.symm,c1003.symm,d3.symm⟩⟩
theorem span_dg {f g:Nat} {z:Int} (hf:f < 65536) (hg:g < 65536) (hfg:f <= g) (hz:(g:Int) < z):spanO (dg f ++ 45 :: dg g) z = some ((f:Int),(g:Int)):=by
 obtain ⟨n1,_,_⟩:=dg_no hf
 rw [spanO_chk,cut_at _ _ n1]
 have hl:lastP (dg f ++ 45 :: dg g) = dg g:=by unfold lastP; rw [cut_at _ _ n1]; rfl
 rw [hl,dg_num hf,dg_num hg]
 simp only
 unfold chk
 rw [decide_eq_true (p:=(f:Int) <= (g:Int)) (by omega),decide_eq_true hz]
 rfl
theorem line_dg {f g:Nat} (sv:Bool) (hf:f < 65536) (hg:g < 65536) (hfg:f <= g) (hz:(g:Int) < if sv then 8192 else 2048) :
  lineO nilP ((if sv then saveW else ramW) ++ 32 :: (dg f ++ 45 :: dg g)) = some (if sv then ⟨false,false,[],[((f:Int),(g:Int))]⟩ else ⟨false,false,[((f:Int),(g:Int))],[]⟩):=by
 cases sv with
 | true =>
  have hz:(g:Int) < 8192:=hz
  have hc:Lib.cut (saveW ++ 32 :: (dg f ++ 45 :: dg g)) [32] = (saveW,dg f ++ 45 :: dg g,true):=cut_at _ _ (by decide)
  unfold lineO
  simp only [if_true,hc,span_dg hf hg hfg hz]
  have h1:skip (saveW ++ 32 :: (dg f ++ 45 :: dg g)) = false:=by unfold skip saveW; simp
  have h2:decide (saveW ++ 32 :: (dg f ++ 45 :: dg g) = port1) = false:=by unfold saveW port1; simp
  have h3:decide (saveW ++ 32 :: (dg f ++ 45 :: dg g) = port2) = false:=by unfold saveW port2; simp
  have h4:decide (saveW = ramW) = false:=by decide
  rw [h1,h2,h3,h4]
  simp [nilP]
 | false =>
  have hz:(g:Int) < 2048:=hz
  have hc:Lib.cut (ramW ++ 32 :: (dg f ++ 45 :: dg g)) [32] = (ramW,dg f ++ 45 :: dg g,true):=cut_at _ _ (by decide)
  unfold lineO
  simp only [Bool.false_eq_true,if_false,hc,span_dg hf hg hfg hz]
  have h1:skip (ramW ++ 32 :: (dg f ++ 45 :: dg g)) = false:=by unfold skip ramW; simp
  have h2:decide (ramW ++ 32 :: (dg f ++ 45 :: dg g) = port1) = false:=by unfold ramW port1; simp
  have h3:decide (ramW ++ 32 :: (dg f ++ 45 :: dg g) = port2) = false:=by unfold ramW port2; simp
  rw [h1,h2,h3]
  simp [nilP]
def onePol (sv:Bool) (f g:Nat):Pol:=if sv then ⟨false,false,[],[((f:Int),(g:Int))]⟩ else ⟨false,false,[((f:Int),(g:Int))],[]⟩
theorem tmodN (a n:Nat):Int.tmod (a:Int) (n:Int) = ((a % n:Nat):Int):=by rw [Int.tmod_eq_emod_of_nonneg (by omega)]; rfl
end Go.Proofs.YtfgbfdlacnihkaaGreatDoor.Po
namespace Go.Proofs.YtfgbfdlacnihkaaGreatDoor.Po
open Go Go.Proofs Go.Proofs.YtfgbfdlacnihkaaGreatDoor.Sx
theorem hx_Try:∀ k:Nat,k < 16 -> Tryz.hx k = hx k:=by decide
theorem hx_0:hx 0 = 48:=by decide
theorem hex4_dg {n:Nat} (h:n < 65536):Tryz.hex4 n = dg n:=by
 unfold Tryz.hex4 Tryz.fmtL dg
 by_cases h1:n < 16
 ·rw [if_pos h1]
  have e1:n / 4096 = 0:=by omega
  have e2:n / 256 % 16 = 0:=by omega
  have e3:n / 16 % 16 = 0:=by omega
  have e4:n % 16 = n:=by omega
  rw [e1,e2,e3,e4,hx_0,hx_Try n h1]; rfl
 ·rw [if_neg h1]
  by_cases h2:n < 256
  ·rw [if_pos h2]
   have e1:n / 4096 = 0:=by omega
   have e2:n / 256 % 16 = 0:=by omega
   have e3:n / 16 % 16 = n / 16:=by omega
   rw [e1,e2,e3,hx_0,hx_Try (n / 16) (by omega),hx_Try (n % 16) (by omega)]; rfl
  ·rw [if_neg h2]
   by_cases h3:n < 4096
   ·rw [if_pos h3]
    have e1:n / 4096 = 0:=by omega
    have e2:n / 256 % 16 = n / 16 / 16:=by omega
    rw [e1,e2,hx_0,hx_Try (n / 16 / 16) (by omega),hx_Try (n / 16 % 16) (by omega),hx_Try (n % 16) (by omega)]; rfl
   ·rw [if_neg h3]
    have e1:n / 4096 = n / 16 / 16 / 16:=by omega
    have e2:n / 256 % 16 = n / 16 / 16 % 16:=by omega
    rw [e1,e2,hx_Try (n / 16 / 16 / 16) (by omega),hx_Try (n / 16 / 16 % 16) (by omega),hx_Try (n / 16 % 16) (by omega),hx_Try (n % 16) (by omega)]; rfl
def W (sv:Bool):List UInt8:=if sv then saveW else ramW
def toP (L:List (Nat × Nat)):List Pr:=L.map fun p=>((p.1:Int),(p.2:Int))
def mulPol (sv:Bool) (l:List Pr):Pol:=if sv then ⟨false,false,[],l⟩ else ⟨false,false,l,[]⟩
theorem onePol_mul (sv:Bool) (f g:Nat):onePol sv f g = mulPol sv [((f:Int),(g:Int))]:=rfl
theorem mul_cat (sv:Bool) (a b:List Pr):(mulPol sv a).cat (mulPol sv b) = mulPol sv (a ++ b):=by
 cases sv <;> rfl
theorem mul_nil (sv:Bool):mulPol sv [] = nilP:=by cases sv <;> rfl
def lim (sv:Bool):Nat:=if sv then 8192 else 2048
theorem lim_lt {sv:Bool} {g:Nat} (h:g < lim sv):(g:Int) < if sv then 8192 else 2048:=by
 cases sv
 ·have h:g < 2048:=h
  show (g:Int) < 2048
  omega
 ·have h:g < 8192:=h
  show (g:Int) < 8192
  omega
theorem row_no {sv:Bool} {f g:Nat} (hf:f < 65536) (hg:g < 65536):(10:UInt8) ∉ W sv ++ 32 :: (dg f ++ 45 :: dg g):=by
 obtain ⟨_,n1,_⟩:=dg_no hf
 obtain ⟨_,n2,_⟩:=dg_no hg
 simp only [List.mem_append,List.mem_cons,not_or]
 exact ⟨by cases sv <;> decide,by decide,n1,by decide,n2⟩
theorem rowsFold (sv:Bool) (rest:List UInt8):∀ (L:List (Nat × Nat)) (P:Pol) (n:Nat),(∀ p,p ∈ L -> p.1 <= p.2 /\ p.2 < lim sv) ->
  foldO P n (lns (Tryz.rowsL (W sv ++ [32]) L ++ rest)) = foldO (P.cat (mulPol sv (toP L))) (n + L.length) (lns rest)
 | [],P,n,_=>by
  show foldO P n (lns rest) = foldO (P.cat (mulPol sv [])) n (lns rest)
  rw [mul_nil,Pol.cat_nil]
 | p :: L,P,n,h=>by
  obtain ⟨h1,h2⟩:=h p (List.mem_cons_self ..)
  have hl:lim sv <= 8192:=by cases sv <;> decide
  have hf:p.1 < 65536:=by omega
  have hg:p.2 < 65536:=by omega
  have e:Tryz.rowsL (W sv ++ [32]) (p :: L) ++ rest = (W sv ++ 32 :: (dg p.1 ++ 45 :: dg p.2)) ++ 10 :: (Tryz.rowsL (W sv ++ [32]) L ++ rest):=by
   unfold Tryz.rowsL Tryz.rowL
   rw [List.map_cons,List.flatten_cons,hex4_dg hf,hex4_dg hg]
   simp
  rw [e,lns_at _ _ (row_no hf hg)]
  have hd:lineD (W sv ++ 32 :: (dg p.1 ++ 45 :: dg p.2)) = some (onePol sv p.1 p.2):=by
   have:=line_dg (f:=p.1) (g:=p.2) sv hf hg h1 (lim_lt h2)
   unfold lineD W
   rw [this]
   cases sv <;> rfl
  have hP:lineO P (W sv ++ 32 :: (dg p.1 ++ 45 :: dg p.2)) = some (P.cat (onePol sv p.1 p.2)):=by rw [lineO_D,hd]; rfl
  show (match lineO P (W sv ++ 32 :: (dg p.1 ++ 45 :: dg p.2)) with | some P'=>foldO P' (n + 1) (lns (Tryz.rowsL (W sv ++ [32]) L ++ rest)) | none=>.inr (n + 1)) = _
  rw [hP]
  show foldO (P.cat (onePol sv p.1 p.2)) (n + 1) (lns (Tryz.rowsL (W sv ++ [32]) L ++ rest)) = _
  rw [rowsFold sv rest L _ _ (fun q hq=>h q (List.mem_cons_of_mem _ hq)),Pol.cat_assoc,onePol_mul,mul_cat]
  congr 1
  simp only [List.length_cons]; omega
theorem line_port1 (P:Pol):lineO P port1 = some { P with p0:=true }:=by
 unfold lineO
 have h1:skip port1 = false:=by decide
 rw [h1]
 simp
theorem line_port2 (P:Pol):lineO P port2 = some { P with p1:=true }:=by
 unfold lineO
 have h1:skip port2 = false:=by decide
 have h2:decide (port2 = port1) = false:=by decide
 rw [h1,h2]
 simp
theorem portsFold (p0 p1:Bool) (rest:List UInt8):∃ n,foldO nilP 0 (lns (Tryz.portsL p0 p1 2 ++ rest)) = foldO ⟨p0,p1,[],[]⟩ n (lns rest):=by
 have e1:∀ r:List UInt8,lns (Tryz.pw1 ++ r) = port1 :: lns r:=fun r=>lns_at port1 r (by decide)
 have e2:∀ r:List UInt8,lns (Tryz.pw2 ++ r) = port2 :: lns r:=fun r=>lns_at port2 r (by decide)
 unfold Tryz.portsL
 cases p0 <;> cases p1
 ·exact ⟨0,rfl⟩
 ·refine ⟨1,?_⟩
  simp only [Bool.false_eq_true,if_false,if_true,List.nil_append,e2,foldO,line_port2]
  rfl
 ·refine ⟨1,?_⟩
  simp only [Bool.false_eq_true,if_false,if_true,List.append_nil,e1,foldO,line_port1]
  rfl
 ·refine ⟨2,?_⟩
  simp only [if_true,List.append_assoc,e1,e2,foldO,line_port1,line_port2]
  rfl
theorem printFold (p0 p1:Bool) (L1 L2:List (Nat × Nat)) (h1:∀ p,p ∈ L1 -> p.1 <= p.2 /\ p.2 < 2048) (h2:∀ p,p ∈ L2 -> p.1 <= p.2 /\ p.2 < 8192) :
  foldO nilP 0 (lns (Tryz.printL p0 p1 L1 L2)) = .inl ⟨p0,p1,toP L1,toP L2⟩:=by
 unfold Tryz.printL
 obtain ⟨n,hn⟩:=portsFold p0 p1 (Tryz.rowsL [114,97,109,32] L1 ++ Tryz.rowsL [115,97,118,101,32] L2)
 rw [hn]
 have a1:=rowsFold false (Tryz.rowsL [115,97,118,101,32] L2) L1 ⟨p0,p1,[],[]⟩ n h1
 rw [show (W false ++ [32]:List UInt8) = [114,97,109,32] from rfl] at a1
 rw [a1]
 have a2:=rowsFold true [] L2 (Pol.cat ⟨p0,p1,[],[]⟩ (mulPol false (toP L1))) (n + L1.length) h2
 rw [show (W true ++ [32]:List UInt8) = [115,97,118,101,32] from rfl,List.append_nil] at a2
 rw [a2]
 have e:lns [] = [[]]:=rfl
 rw [e]
 simp only [foldO,skip_nil]
 unfold mulPol Pol.cat
 simp
theorem print_parse {P:Pol} (h:P.ok) (L1 L2:List (Nat × Nat)) (e1:P.r = toP L1) (e2:P.s = toP L2) (hs:(Tryz.printL P.p0 P.p1 L1 L2).length <= 4096) :
  F11 [eS (Tryz.printL P.p0 P.p1 L1 L2)] [] = ([eP P.r,P.r.length,eP P.s,P.s.length,0,0],[true,P.p0,P.p1]):=by
 have g:∀ {z:Int} {l:List Pr} {L:List (Nat × Nat)},OkL z l -> l = toP L -> ∀ p,p ∈ L -> p.1 <= p.2 /\ (p.2:Int) < z:=fun {z l L} ho hl p hp=>by
  have hm:((p.1:Int),(p.2:Int)) ∈ l:=by rw [hl]; exact List.mem_map.2 ⟨p,hp,rfl⟩
  obtain ⟨_,a2⟩:=Tdy.ok ho.1 _ hm
  have a3:=ho.2 _ hm
  simp only at a2 a3
  exact ⟨by omega,a3⟩
 have hf:=printFold P.p0 P.p1 L1 L2 (fun p hp=>by have:=g h.1 e1 p hp; omega) (fun p hp=>by have:=g h.2 e2 p hp; omega)
 have hP:(⟨P.p0,P.p1,toP L1,toP L2⟩:Pol) = P:=by rw [<- e1,<- e2]
 rw [hP] at hf
 rcases p7 _ hs with ⟨k,_,h',_⟩ | ⟨P',Q,h',hT,_,_,_,e⟩
 ·rw [hf] at h'; cases h'
 ·rw [hf] at h'
  obtain rfl:P = P':=Sum.inl.inj h'
  have hself:Tdd P P:=⟨Tid.self h.1.1,Tid.self h.2.1,rfl,rfl⟩
  obtain rfl:P = Q:=hself.uniq hT
  exact e
end Go.Proofs.YtfgbfdlacnihkaaGreatDoor.Po
namespace Go.Proofs.YtfgbfdlacnihkaaGreatDoor.Po
open Go Go.Proofs Go.Proofs.YtfgbfdlacnihkaaGreatDoor.Sx
def badM (l:List Pr) (i:Nat):Bool:=!may (l.getD i (0,0)) || (decide (0 < i) && decide (arI .sub .i64 (l.getD i (0,0)).1 (l.getD (i - 1) (0,0)).2 < 2))
theorem any_CM (l:List Pr):(List.range' 0 l.length).any (badC l) = (List.range' 0 l.length).any (badM l):=by
 have hmay:∀ i,may (l.getD i (0,0)) = true -> 0 <= (l.getD i (0,0)).1 /\ (l.getD i (0,0)).1 <= (l.getD i (0,0)).2 /\ (l.getD i (0,0)).2 < 65536:=fun i h=>by
  unfold may at h
  simp only [Bool.and_eq_true,decide_eq_true_eq] at h
  omega
 have hone:∀ i,may (l.getD i (0,0)) = true -> may (l.getD (i - 1) (0,0)) = true -> badC l i = badM l i:=fun i h1 h2=>by
  unfold badC badM
  have a1:=hmay i h1
  have a2:=hmay _ h2
  have e1:arI .add .i64 (l.getD (i - 1) (0,0)).2 2 = (l.getD (i - 1) (0,0)).2 + 2:=arAdd (by omega) (by omega)
  have e2:arI .sub .i64 (l.getD i (0,0)).1 (l.getD (i - 1) (0,0)).2 = (l.getD i (0,0)).1 - (l.getD (i - 1) (0,0)).2:=by show IntKind.wrap .i64 _ = _; exact wrap_i64_in (by omega) (by omega)
  rw [e1,e2]
  congr 2
  exact decide_eq_decide.2 (by omega)
 by_cases h:(List.range' 0 l.length).any (badW l) = true
 ·obtain ⟨i,hi,hb⟩:=List.any_eq_true.1 h
  have e1:badC l i = true:=by unfold badC; unfold badW at hb; rw [hb,Bool.true_or]
  have e2:badM l i = true:=by unfold badM; unfold badW at hb; rw [hb,Bool.true_or]
  rw [List.any_eq_true.2 ⟨i,hi,e1⟩,List.any_eq_true.2 ⟨i,hi,e2⟩]
 ·rw [Bool.not_eq_true,List.any_eq_false] at h
  have hm:∀ i,i < l.length -> may (l.getD i (0,0)) = true:=fun i hi=>by
   have:=h i (by rw [List.mem_range'_1]; omega)
   unfold badW at this
   simpa using this
  have:∀ i,i ∈ List.range' 0 l.length -> badC l i = badM l i:=fun i hi=>by
   rw [List.mem_range'_1] at hi
   exact hone i (hm i (by omega)) (hm _ (by omega))
  rw [Bool.eq_iff_iff,List.any_eq_true,List.any_eq_true]
  exact ⟨fun ⟨i,hi,hb⟩=>⟨i,hi,by rw [<- this i hi]; exact hb⟩,fun ⟨i,hi,hb⟩=>⟨i,hi,by rw [this i hi]; exact hb⟩⟩
theorem t31 {Φ:Funs} {l:List Pr} (hs:small l.length) (i:Nat) (hi:i <= l.length):L103100.S.run Φ true ([eP l,l.length] ++ [(i:Int)]) [] =
  ([eP l,l.length] ++ [((i + 1:Nat):Int)] ++ [],[true,decide (i < l.length) && !badM l i,decide (i < l.length) && badM l i,!decide (i < l.length)]):=by
 unfold small at hs
 simp only [List.cons_append,List.nil_append]
 obtain ⟨ρ,e1,e2,e3,e4⟩:=Smry.run_specT (Φ:=Φ) (S:=L103100.S) (is:=[eP l,l.length,i]) (bs:=[]) rfl
 rw [e1,obAll_eq]
 clear e1
 simp only [L103100,obs,Gd.d_cons,Gd.d_nil,eqns,Em.eqn,headsI,headsB,RI.d,RB.d,A.d,B.d,cm_eql,cm_neq,cm_lss,cm_leq,cm_gtr,cm_geq,List.map_cons,List.map_nil,and_true,Nat.zero_add,Nat.reduceAdd,ltn,upto,true_and,Nat.add_zero,List.getD_cons_zero,List.getD_cons_succ] at e2 e3 e4 ⊢
 simp only [e2,e3,Int.toNat_natCast] at e4 ⊢
 clear e2 e3
 have d0:decide ((0:Int) <= (i:Int)) = true:=decide_eq_true (by omega)
 have d3:arI .add .i64 (i:Int) 1 = ((i + 1:Nat):Int):=arAdd (by omega) (by omega)
 have d1:decide ((i:Int) < (l.length:Int)) = decide (i < l.length):=by simp
 have d5:arI .sub .i64 (i:Int) 1 = (i:Int) - 1:=by show IntKind.wrap .i64 _ = _; exact wrap_i64_in (by omega) (by omega)
 have d6:((i:Int) - 1).toNat = i - 1:=by omega
 have d7:decide ((i:Int) > 0) = decide (0 < i):=by simp
 have d8:decide ((0:Int) <= (i:Int) - 1) = decide (0 < i):=by by_cases h:0 < i <;> simp [h] <;> omega
 have d9:decide ((i:Int) - 1 < (l.length:Int)) = true:=decide_eq_true (by omega)
 have d10:∀ z:Int,decide (z <= 65535) = decide (z < 65536):=fun z=>by by_cases h:z < 65536 <;> simp [h] <;> omega
 simp only [d0,d1,d3,eP_get0,eP_get1,d5,d6,d7,d10] at e4
 simp only [e4]
 simp only [d6,d8,d9]
 unfold badM may
 generalize l.getD i (0,0) = x
 generalize l.getD (i - 1) (0,0) = y
 generalize decide (i < l.length) = u
 generalize decide (0 < i) = g
 generalize (decide (0 <= x.1) && decide (x.1 <= x.2) && decide (x.2 < 65536)) = m
 generalize decide (arI .sub .i64 x.1 y.2 < 2) = c
 cases u <;> cases g <;> cases m <;> cases c <;> rfl
theorem w31 {l:List Pr} (hs:small l.length):F31 [eP l,l.length] [] = ([],[true,!(List.range' 0 l.length).any (badM l)]):=by
 have hl:(lpF (l31.map (·.2)) (tabF T21)) 103100 = loopF (L103100.S.run (tabF T21) true) 3 0:=by kernel_rfl
 show S31.run (lpF (l31.map (·.2)) (tabF T21)) true [eP l,l.length] [] = _
 generalize lpF (l31.map (·.2)) (tabF T21) = Φ at hl
 obtain ⟨ρ,e1,e2,e3,e4⟩:=Smry.run_specT (Φ:=Φ) (S:=S31) (is:=[eP l,l.length]) (bs:=[]) rfl
 rw [e1,obAll_eq]
 clear e1
 simp only [S31,obs,Gd.d_cons,Gd.d_nil,eqns,Em.eqn,headsI,headsB,RI.d,RB.d,A.d,B.d,cm_eql,cm_neq,cm_lss,cm_leq,cm_gtr,cm_geq,List.map_cons,List.map_nil,and_true,Nat.zero_add,Nat.reduceAdd,ltn,upto,true_and,Nat.add_zero,List.getD_cons_zero,List.getD_cons_succ] at e2 e3 e4 ⊢
 simp only [e2,e3,Int.toNat_natCast] at e4 ⊢
 clear e2 e3
 rw [hl] at e4
 obtain ⟨q1,q2⟩:=srch [eP l,l.length] l.length (fun i=>badM l i) (fun _=>[]) (fun i hi=>t31 (Φ:=tabF T21) hs i hi)
 simp only [List.length_cons,List.length_nil,Nat.zero_add,Nat.reduceAdd,List.cons_append,List.nil_append] at q1 q2
 cases hb:(List.range' 0 l.length).any (fun i=>badM l i)
 ·rw [q2 hb] at e4
  simp only [List.getD_cons_zero,List.getD_cons_succ] at e4
  simp [e4]
 ·obtain ⟨j,j1,j2,j3⟩:=q1 hb
  rw [j3] at e4
  simp only [List.getD_cons_zero,List.getD_cons_succ] at e4
  simp [e4]
def badZ (l:List Pr) (z:Int) (i:Nat):Bool:=decide (z <= (l.getD i (0,0)).2)
theorem tz18 {Φ:Funs} {l:List Pr} {z:Int} (hs:small l.length) (i:Nat) (hi:i <= l.length):L101800.S.run Φ true ([eP l,l.length,z] ++ [(i:Int)]) [] =
  ([eP l,l.length,z] ++ [((i + 1:Nat):Int)] ++ [],[true,decide (i < l.length) && !badZ l z i,decide (i < l.length) && badZ l z i,!decide (i < l.length)]):=by
 unfold small at hs
 simp only [List.cons_append,List.nil_append]
 obtain ⟨ρ,e1,e2,e3,e4⟩:=Smry.run_specT (Φ:=Φ) (S:=L101800.S) (is:=[eP l,l.length,z,i]) (bs:=[]) rfl
 rw [e1,obAll_eq]
 clear e1
 simp only [L101800,obs,Gd.d_cons,Gd.d_nil,eqns,Em.eqn,headsI,headsB,RI.d,RB.d,A.d,B.d,cm_eql,cm_neq,cm_lss,cm_leq,cm_gtr,cm_geq,List.map_cons,List.map_nil,and_true,Nat.zero_add,Nat.reduceAdd,ltn,upto,true_and,Nat.add_zero,List.getD_cons_zero,List.getD_cons_succ] at e2 e3 e4 ⊢
 simp only [e2,e3,Int.toNat_natCast] at e4 ⊢
 clear e2 e3
 have d0:decide ((0:Int) <= (i:Int)) = true:=decide_eq_true (by omega)
 have d3:arI .add .i64 (i:Int) 1 = ((i + 1:Nat):Int):=arAdd (by omega) (by omega)
 have d1:decide ((i:Int) < (l.length:Int)) = decide (i < l.length):=by simp
 simp only [d0,d1,d3,eP_get0,eP_get1] at e4
 simp only [e4]
 unfold badZ
 generalize l.getD i (0,0) = x
 generalize decide (i < l.length) = u
 generalize decide (z <= x.2) = m
 cases u <;> cases m <;> rfl
theorem wz18 {l:List Pr} {z:Int} (hs:small l.length):F18 [eP l,l.length,z] [] = ([],[true,!(List.range' 0 l.length).any (badZ l z) && !(List.range' 0 l.length).any (badM l)]):=by
 have hl:(lpF (l18.map (·.2)) (tabF T22)) 101800 = loopF (L101800.S.run (tabF T22) true) 4 0:=by kernel_rfl
 have h31:(lpF (l18.map (·.2)) (tabF T22)) 31 = F31:=by kernel_rfl
 show S18.run (lpF (l18.map (·.2)) (tabF T22)) true [eP l,l.length,z] [] = _
 generalize lpF (l18.map (·.2)) (tabF T22) = Φ at hl h31
 obtain ⟨ρ,e1,e2,e3,e4⟩:=Smry.run_specT (Φ:=Φ) (S:=S18) (is:=[eP l,l.length,z]) (bs:=[]) rfl
 rw [e1,obAll_eq]
 clear e1
 simp only [S18,obs,Gd.d_cons,Gd.d_nil,eqns,Em.eqn,headsI,headsB,RI.d,RB.d,A.d,B.d,cm_eql,cm_neq,cm_lss,cm_leq,cm_gtr,cm_geq,List.map_cons,List.map_nil,and_true,Nat.zero_add,Nat.reduceAdd,ltn,upto,true_and,Nat.add_zero,List.getD_cons_zero,List.getD_cons_succ] at e2 e3 e4 ⊢
 simp only [e2,e3,Int.toNat_natCast] at e4 ⊢
 clear e2 e3
 rw [hl,h31,w31 hs] at e4
 obtain ⟨q1,q2⟩:=srch [eP l,l.length,z] l.length (fun i=>badZ l z i) (fun _=>[]) (fun i hi=>tz18 (Φ:=tabF T22) hs i hi)
 simp only [List.length_cons,List.length_nil,Nat.zero_add,Nat.reduceAdd,List.cons_append,List.nil_append] at q1 q2
 cases hb:(List.range' 0 l.length).any (fun i=>badZ l z i)
 ·rw [q2 hb] at e4
  simp only [List.getD_cons_zero,List.getD_cons_succ] at e4
  simp [e4]
 ·obtain ⟨j,j1,j2,j3⟩:=q1 hb
  rw [j3] at e4
  simp only [List.getD_cons_zero,List.getD_cons_succ] at e4
  simp [e4]
theorem badZ_no {l:List Pr} {z:Int}:(List.range' 0 l.length).any (badZ l z) = false ↔ ∀ p,p ∈ l -> p.2 < z:=by
 rw [List.any_eq_false]
 constructor
 ·intro h p hp
  obtain ⟨i,hi,rfl⟩:=List.getElem_of_mem hp
  have:=h i (by rw [List.mem_range'_1]; omega)
  unfold badZ at this
  rw [List.getD_eq_getElem?_getD,List.getElem?_eq_getElem hi] at this
  simpa using this
 ·intro h i hi
  rw [List.mem_range'_1] at hi
  have hi':i < l.length:=by omega
  unfold badZ
  rw [List.getD_eq_getElem?_getD,List.getElem?_eq_getElem hi']
  have:=h l[i] (List.getElem_mem hi')
  simpa using this
theorem may_bB {l:List Pr} {z:Int} (hz:z <= 65536):(!(List.range' 0 l.length).any (badZ l z) && !(List.range' 0 l.length).any (badM l)) = bB l z:=by
 rw [<- any_CM,Bool.eq_iff_iff,bB_ok hz,Bool.and_eq_true,Bool.not_eq_true',Bool.not_eq_true',badZ_no]
 constructor
 ·rintro ⟨h1,h2⟩
  exact ⟨Tdy.ofC h2,h1⟩
 ·rintro ⟨h1,h2⟩
  exact ⟨h2,Tdy.badC (fun p hp=>by have:=h2 p hp; omega) h1⟩
theorem may7 {P:Pol} (h:P.sw):F7 [eP P.r,P.r.length,eP P.s,P.s.length] [P.p0,P.p1] = ([],[true,bOk P]):=by
 have g18:tabF T23 18 = F18:=by kernel_rfl
 have hF:F7 [eP P.r,P.r.length,eP P.s,P.s.length] [P.p0,P.p1] = S7.run (tabF T23) true [eP P.r,P.r.length,eP P.s,P.s.length] [P.p0,P.p1]:=rfl
 rw [hF]
 clear hF
 generalize tabF T23 = Φ at g18
 obtain ⟨h1,h2⟩:=h
 obtain ⟨ρ,e1,e2,e3,e4⟩:=Smry.run_specT (Φ:=Φ) (S:=S7) (is:=[eP P.r,P.r.length,eP P.s,P.s.length]) (bs:=[P.p0,P.p1]) rfl
 rw [e1,obAll_eq]
 clear e1
 simp only [S7,obs,Gd.d_cons,Gd.d_nil,eqns,Em.eqn,headsI,headsB,↓RI_ite,↓RB_ite,RI.d,RB.d,A.d,B.d,cm_eql,cm_neq,cm_lss,cm_leq,cm_gtr,cm_geq,List.map_cons,List.map_nil,and_true,Nat.zero_add,Nat.reduceAdd,ltn,upto,true_and,Nat.add_zero,List.getD_cons_zero,List.getD_cons_succ] at e2 e3 e4 ⊢
 simp only [e2,e3,Int.toNat_natCast] at e4 ⊢
 clear e2 e3
 rw [g18,wz18 (l:=P.r) (z:=2048) (by unfold small; omega),wz18 (l:=P.s) (z:=8192) (by unfold small; omega),may_bB (by decide),may_bB (by decide)] at e4
 simp only [List.getD_cons_zero,List.getD_cons_succ] at e4
 unfold bOk
 simp [e4]
theorem dig1:∀ k:Nat,k < 16 -> (bif !decide ((k:Int) < 10) then enc [IntKind.wrap .u8 (arI .add .i64 87 (k:Int))] else enc [IntKind.wrap .u8 (arI .add .i64 48 (k:Int))]) = eS [hx k]:=by
 decide +kernel
theorem quoN (a n:Nat) (h:a < 65536):arI .quo .i64 (a:Int) (n:Int) = ((a / n:Nat):Int):=by
 show IntKind.wrap .i64 (Int.tdiv (a:Int) (n:Int)) = _
 rw [Int.tdiv_eq_ediv_of_nonneg (by omega)]
 have:(a:Int) / (n:Int) = ((a / n:Nat):Int):=rfl
 rw [this]
 have h2:=Nat.div_le_self a n
 generalize a / n = q at h2 ⊢
 exact wrap_i64_in (by omega) (by omega)
theorem remN (a n:Nat):arI .rem .i64 (a:Int) (n:Int) = ((a % n:Nat):Int):=tmodN a n
theorem w36 {f:Nat} (h:f < 65536):F36 [(f:Int)] [] = ([eS (dg f)],[true]):=by
 have hF:F36 [(f:Int)] [] = S36.run (tabF T25) true [(f:Int)] []:=rfl
 rw [hF]
 clear hF
 generalize tabF T25 = Φ
 obtain ⟨ρ,e1,e2,e3,e4⟩:=Smry.run_specT (Φ:=Φ) (S:=S36) (is:=[(f:Int)]) (bs:=[]) rfl
 rw [e1,obAll_eq]
 clear e1
 simp only [S36,obs,Gd.d_cons,Gd.d_nil,eqns,Em.eqn,headsI,headsB,↓RI_ite,↓RB_ite,RI.d,RB.d,A.d,B.d,cm_eql,cm_neq,cm_lss,cm_leq,cm_gtr,cm_geq,List.map_cons,List.map_nil,and_true,Nat.zero_add,Nat.reduceAdd,ltn,upto,true_and,Nat.add_zero,List.getD_cons_zero,List.getD_cons_succ] at e2 e3 e4 ⊢
 simp only [e2,e3,Int.toNat_natCast] at e4 ⊢
 clear e2 e3
 have q1:arI .quo .i64 (f:Int) 4096 = ((f / 4096:Nat):Int):=quoN f 4096 h
 have q2:arI .quo .i64 (f:Int) 256 = ((f / 256:Nat):Int):=quoN f 256 h
 have q3:arI .quo .i64 (f:Int) 16 = ((f / 16:Nat):Int):=quoN f 16 h
 have r2:arI .rem .i64 ((f / 256:Nat):Int) 16 = ((f / 256 % 16:Nat):Int):=remN (f / 256) 16
 have r3:arI .rem .i64 ((f / 16:Nat):Int) 16 = ((f / 16 % 16:Nat):Int):=remN (f / 16) 16
 have r4:arI .rem .i64 (f:Int) 16 = ((f % 16:Nat):Int):=remN f 16
 have le:∀ {l:List UInt8},l.length <= 10000 -> decide ((((dec (eS l)).length / 1:Nat):Int) <= 4611686018427387903) = true:=fun {l} hl=>by
  rw [eS_len]; exact decide_eq_true (by omega)
 obtain ⟨i1,b0,i2,i3,i4,i5,i6,i7,b1,i8,i9,i10,b2,i11,i12,i13,i14,i15,i16,b3,i17,i18,b4,i19,b5,i20,i21,i22,b6,i23,i24,i25,i26,i27,i28,b7,i29,i30,b8,i31,b9,i32,i33,b10,i34,i35,i36,i37,i38,i39,b11,i40,i41,b12,i42,b13,i43⟩:=e4
 have i8:ρ.i 8 = eS [hx (f / 4096)]:=by rw [i8,b1,b0,i7,i6,i5,i4,i3,i2,i1,q1]; exact dig1 _ (by omega)
 have i10:ρ.i 10 = ((f / 256 % 16:Nat):Int):=by rw [i10,i9,q2,r2]
 have i17:ρ.i 17 = eS [hx (f / 256 % 16)]:=by rw [i17,b3,b2,i16,i15,i14,i13,i12,i11,i10]; exact dig1 _ (by omega)
 have b4:ρ.b 4 = true:=by rw [b4,i18,i8]; exact le (by simp)
 have b5:ρ.b 5 = true:=by rw [b5,i19,i17]; exact le (by simp)
 have i20:ρ.i 20 = eS ([hx (f / 4096)] ++ [hx (f / 256 % 16)]):=by rw [i20,i8,i17,eS_cat]
 have i22:ρ.i 22 = ((f / 16 % 16:Nat):Int):=by rw [i22,i21,q3,r3]
 have i29:ρ.i 29 = eS [hx (f / 16 % 16)]:=by rw [i29,b7,b6,i28,i27,i26,i25,i24,i23,i22]; exact dig1 _ (by omega)
 have b8:ρ.b 8 = true:=by rw [b8,i30,i20]; exact le (by simp)
 have b9:ρ.b 9 = true:=by rw [b9,i31,i29]; exact le (by simp)
 have i32:ρ.i 32 = eS ([hx (f / 4096)] ++ [hx (f / 256 % 16)] ++ [hx (f / 16 % 16)]):=by rw [i32,i20,i29,eS_cat]
 have i33:ρ.i 33 = ((f % 16:Nat):Int):=by rw [i33,r4]
 have i40:ρ.i 40 = eS [hx (f % 16)]:=by rw [i40,b11,b10,i39,i38,i37,i36,i35,i34,i33]; exact dig1 _ (by omega)
 have b12:ρ.b 12 = true:=by rw [b12,i41,i32]; exact le (by simp)
 have b13:ρ.b 13 = true:=by rw [b13,i42,i40]; exact le (by simp)
 have i43:ρ.i 43 = eS (dg f):=by rw [i43,i32,i40,eS_cat]; rfl
 simp [b4,b5,b8,b9,b12,b13,i43]
end Go.Proofs.YtfgbfdlacnihkaaGreatDoor.Po
namespace Go.Proofs.YtfgbfdlacnihkaaGreatDoor.Po
open Go Go.Proofs Go.Proofs.YtfgbfdlacnihkaaGreatDoor.Sx
theorem pairs_eP (l:List Pr):pairs (dec (eP l)) = l:=by
 unfold eP
 rw [dec_enc,pairs_fl2]
theorem toNN_eP (l:List Pr):toNN (eP l) = l.map fun p=>(p.1.toNat,p.2.toNat):=by
 unfold toNN
 rw [pairs_eP]
theorem toP_toNN {l:List Pr} (h:∀ p,p ∈ l -> 0 <= p.1 /\ 0 <= p.2):toP (toNN (eP l)) = l:=by
 rw [toNN_eP]
 unfold toP
 rw [List.map_map]
 conv=>rhs; rw [<- List.map_id l]
 refine List.map_congr_left fun p hp=>?_
 obtain ⟨h1,h2⟩:=h p hp
 obtain ⟨a,b⟩:=p
 simp only [Function.comp,id]
 rw [Int.toNat_of_nonneg h1,Int.toNat_of_nonneg h2]
theorem okNN_eP {l:List Pr} (h:∀ p,p ∈ l -> 0 <= p.1 /\ p.1 < 65536 /\ 0 <= p.2 /\ p.2 < 65536):okNN (eP l) = true:=by
 unfold okNN
 rw [pairs_eP,List.all_eq_true]
 intro p hp
 obtain ⟨h1,h2,h3,h4⟩:=h p hp
 simp [h1,h2,h3,h4]
def prS (P:Pol):List UInt8:=Tryz.printL P.p0 P.p1 (toNN (eP P.r)) (toNN (eP P.s))
theorem OkL.nn {z:Int} {l:List Pr} (h:OkL z l) (hz:z <= 65536):∀ p,p ∈ l -> 0 <= p.1 /\ p.1 < 65536 /\ 0 <= p.2 /\ p.2 < 65536:=fun p hp=>by
 obtain ⟨a1,a2⟩:=Tdy.ok h.1 p hp
 have a3:=h.2 p hp
 omega
theorem prS_len {P:Pol} (hs:P.r.length <= 100 /\ P.s.length <= 100):(prS P).length <= 4096:=by
 unfold prS
 have:=printL_len P.p0 P.p1 (toNN (eP P.r)) (toNN (eP P.s))
 have e1:(toNN (eP P.r)).length = P.r.length:=by rw [toNN_eP,List.length_map]
 have e2:(toNN (eP P.s)).length = P.s.length:=by rw [toNN_eP,List.length_map]
 rw [e1,e2] at this
 omega
theorem pr5_ok {P:Pol} (hs:P.r.length <= 100 /\ P.s.length <= 100) (h:bOk P = true):F5 [eP P.r,P.r.length,eP P.s,P.s.length] [P.p0,P.p1] = ([eS (prS P),0],[true]):=by
 have ho:=bOk_ok.1 h
 have h6:F6 [eP P.r,P.r.length,eP P.s,P.s.length] [P.p0,P.p1] = ([0],[true]):=by
  have:=w14 (P:=P) ⟨by omega,by omega⟩
  rw [h,if_pos rfl] at this
  exact this
 have hp:preP [eP P.r,P.r.length,eP P.s,P.s.length] = true:=by
  unfold preP
  simp only [List.getD_cons_zero,List.getD_cons_succ]
  rw [okNN_eP (ho.1.nn (by decide)),okNN_eP (ho.2.nn (by decide)),decide_eq_true (p:=(P.r.length:Int) <= 100) (by omega),decide_eq_true (p:=(P.s.length:Int) <= 100) (by omega)]
  rfl
 unfold F5
 rw [h6]
 simp only [List.getD_cons_zero,if_true,List.headD_cons,hp,Bool.and_self]
 rfl
theorem pr5_no {P:Pol} (hs:P.r.length <= 100 /\ P.s.length <= 100) (h:bOk P = false):F5 [eP P.r,P.r.length,eP P.s,P.s.length] [P.p0,P.p1] = ([eS [],1],[true]):=by
 have h6:F6 [eP P.r,P.r.length,eP P.s,P.s.length] [P.p0,P.p1] = ([1],[true]):=by
  have:=w14 (P:=P) ⟨by omega,by omega⟩
  rw [h] at this
  exact this
 unfold F5
 rw [h6]
 rfl
theorem pp11 {P:Pol} (hs:P.r.length <= 100 /\ P.s.length <= 100) (h:bOk P = true):F11 [eS (prS P)] [] = ([eP P.r,P.r.length,eP P.s,P.s.length,0,0],[true,P.p0,P.p1]):=by
 have ho:=bOk_ok.1 h
 exact print_parse ho _ _ (toP_toNN fun p hp=>⟨(ho.1.nn (by decide) p hp).1,(ho.1.nn (by decide) p hp).2.2.1⟩).symm (toP_toNN fun p hp=>⟨(ho.2.nn (by decide) p hp).1,(ho.2.nn (by decide) p hp).2.2.1⟩).symm (prS_len hs)
end Go.Proofs.YtfgbfdlacnihkaaGreatDoor.Po
namespace Go.Proofs.YtfgbfdlacnihkaaGreatDoor.Po
open Go Go.Proofs Go.Proofs.YtfgbfdlacnihkaaGreatDoor.Sx
variable {m:Int}
def s26:Sum:={ args:=[(.val false [.str]),(.val false [(.sl [(.int .i64),(.int .i64)])])],tup:=false,res:=[(false,[.str])],pre:=true }
def S26:Smry:=(.mk [(.call 102600 [(.v 0),(.v 1),(.v 2),(.c 0),(.c 0)] [] 3 2 0 2),(.ob [] (.v 0))] [(.v 3)] [])
def L102600:LAnn:={ id:=102600,ga:=[0,1,2],gb:=[],hv:=[5,6],dr:=[2,3,7,8,9,11,12,13,14,15,16,17,18,19,20,21,22,23,24,25,26,27,28,29,30,31,32,33],hb:=[],db:=[],xs:=[4,5,6],xb:=[],nI:=5,nB:=0,S:=(.mk [(.db 0 (.cm .lss (.v 4) (.v 2))),(.di 5 (.lenq (.v 0) 1)),(.db 1 (.cm .leq (.v 5) (.c 4611686018427387903))),(.ob [((.v 0),true)] (.v 1)),(.di 6 (.cat (.v 0) (.c 18446744073709551616))),(.db 2 (.cm .geq (.v 4) (.c 0))),(.ob [((.v 0),true)] (.v 2)),(.db 3 (.cm .lss (.v 4) (.v 2))),(.ob [((.v 0),true)] (.v 3)),(.di 7 (.get (.v 1) (.v 4) 2 0)),(.call 36 [(.v 7)] [] 8 1 4 1),(.ob [((.v 0),true)] (.v 4)),(.di 9 (.lenq (.v 6) 1)),(.db 5 (.cm .leq (.v 9) (.c 4611686018427387903))),(.ob [((.v 0),true)] (.v 5)),(.di 10 (.lenq (.v 8) 1)),(.db 6 (.cm .leq (.v 10) (.c 4611686018427387903))),(.ob [((.v 0),true)] (.v 6)),(.di 11 (.cat (.v 6) (.v 8))),(.di 12 (.lenq (.v 11) 1)),(.db 7 (.cm .leq (.v 12) (.c 4611686018427387903))),(.ob [((.v 0),true)] (.v 7)),(.di 13 (.cat (.v 11) (.c 1237940039285380274899124224))),(.db 8 (.cm .geq (.v 4) (.c 0))),(.ob [((.v 0),true)] (.v 8)),(.db 9 (.cm .lss (.v 4) (.v 2))),(.ob [((.v 0),true)] (.v 9)),(.di 14 (.get (.v 1) (.v 4) 2 1)),(.call 36 [(.v 14)] [] 15 1 10 1),(.ob [((.v 0),true)] (.v 10)),(.di 16 (.lenq (.v 13) 1)),(.db 11 (.cm .leq (.v 16) (.c 4611686018427387903))),(.ob [((.v 0),true)] (.v 11)),(.di 17 (.lenq (.v 15) 1)),(.db 12 (.cm .leq (.v 17) (.c 4611686018427387903))),(.ob [((.v 0),true)] (.v 12)),(.di 18 (.cat (.v 13) (.v 15))),(.di 19 (.lenq (.v 18) 1)),(.db 13 (.cm .leq (.v 19) (.c 4611686018427387903))),(.ob [((.v 0),true)] (.v 13)),(.di 20 (.cat (.v 18) (.c 1048576))),(.di 21 (.lenq (.v 3) 1)),(.db 14 (.cm .leq (.v 21) (.c 4611686018427387903))),(.ob [((.v 0),true)] (.v 14)),(.di 22 (.lenq (.v 20) 1)),(.db 15 (.cm .leq (.v 22) (.c 4611686018427387903))),(.ob [((.v 0),true)] (.v 15)),(.di 23 (.cat (.v 3) (.v 20))),(.di 24 (.ar .add .i64 (.v 4) (.c 1))),(.db 16 (.not (.v 0)))] [(.v 0),(.v 1),(.v 2),(.v 23),(.v 24),(.v 3),(.v 4)] [(.v 0),(.v 16)]),sd:=[(1000005,0,false,[])] }
def l26:List (Nat × LAnn):=[(4,L102600)]
def i26:List (Nat × List Nat × List Nat × List Nat × Bool):=[(50,[],[],[],false),(72,[],[],[],false),(51,[],[],[],false),(52,[],[],[],false),(53,[],[],[],false),(75,[],[],[],false),(73,[],[],[],false),(85,[],[],[],true),(22,[],[],[],false),(32,[],[],[],false),(45,[],[],[],false)]
theorem x26:AllOk Tryz.prog (lpF (l26.map (·.2)) (tabF T26)) (gl m) (tabS T26):=(AllOk.loops (l:=l26.map (·.2)) A26 (by kernel_rfl))
theorem y26l:LsOk (lpF (l26.map (·.2)) (tabF T26)) l26:=LoopsOk.of (fn:=Tryz.f26) (gl:=(gl 0)) (s:=s26) (l:=l26) (by kernel_rfl)
theorem h26:HOk Tryz.prog (lpF (l26.map (·.2)) (tabF T26)) (gl m) (hC m (mkIs l26 i26) (tabS T26)):=hC_ok x26 (by kernel_rfl) (by kernel_rfl) (mkIs_ok y26l)
theorem k26:fnX Tryz.prog (hC m (mkIs l26 i26) (tabS T26)) (gl m) (ctlL Tryz.f26 (gl m) s26 (sel l26 [0])) Tryz.f26 s26 = some S26:=by kernel_rfl
noncomputable def F26:Fun:=S26.run (lpF (l26.map (·.2)) (tabF T26)) true
theorem y26:LoopsOk (lpF (l26.map (·.2)) (tabF T26)) (ctlL Tryz.f26 (gl m) s26 (sel l26 [0])):=fun p hp=>y26l p (sel_mem hp)
theorem z26:(wsEm S26.em (argI s26.args) (argB s26.args) && shOk s26 && s26.pre) = true:=by kernel_rfl
theorem d26:Contract Tryz.prog (gl m) 26 s26 F26:=contract_pre h26 Tryz.func26 y26 k26 z26
theorem c26:Contract Tryz.prog (gl m) 26 s26 F26:=d26
theorem call26:∀ args w,(callFunc 26 args).run Tryz.prog w = .ok (.enter 26 args) w:=callable_of Tryz.func26 (by kernel_rfl) (by kernel_rfl)
noncomputable def e26:Nat × Sum × Fun:=(26,s26,F26)
noncomputable def T27:List (Nat × Sum × Fun):=e26 :: T26
theorem A27:AllOk Tryz.prog (tabF T27) (gl m) (tabS T27):=AllOk.cons (s:=e26.2.1) c26 call26 (fun S h=>by cases h) A26
def s12:Sum:={ args:=[(.val true [.bool,.bool,(.sl [(.int .i64),(.int .i64)]),(.sl [(.int .i64),(.int .i64)])])],tup:=false,res:=[(false,[.str])],pre:=true }
def S12:Smry:=(.mk [(.di 4 (.ite (.v 0) (.c 212234246365093192604895336928808793775116663124187552906102982687660264441534541213130404641116161663092391810982176916346585944201492491727781748792472786604622387716020966013247388494854760456463734022124854272451956943217582934957605873948262396823752106739387098576915731020997657767616229298807613097178209923848677676285952) (.c 0))),(.di 5 (.lenq (.v 4) 1)),(.db 2 (.cm .leq (.v 5) (.c 4611686018427387903))),(.ob [((.v 1),true)] (.v 2)),(.di 6 (.cat (.v 4) (.c 848936985460372770419581347715235174621464978208417456813899113224609692815594759793903496482046116582774990667560569491956893288753735912815913377881352169050782434026831927665111191952935782850983737781443083380606986463047399785435182833862815263411950355406981194541392747211859398882939459239416860056850033742384846476410880))),(.di 7 (.ite (.v 1) (.v 6) (.v 4))),(.call 26 [(.c 18249762470488780874564686422801165299572914028994239722316770071618762150820028412114107606083103440547666402945751196236274621968200155370478810131130049114787347345637689285127159831664263168),(.v 0),(.v 1)] [] 8 1 3 1),(.ob [] (.v 3)),(.di 9 (.lenq (.v 7) 1)),(.db 4 (.cm .leq (.v 9) (.c 4611686018427387903))),(.ob [] (.v 4)),(.di 10 (.lenq (.v 8) 1)),(.db 5 (.cm .leq (.v 10) (.c 4611686018427387903))),(.ob [] (.v 5)),(.di 11 (.cat (.v 7) (.v 8))),(.call 26 [(.c 246006311446272417135694895366447328831463738361430131889861426372772843299150878933561367862235003852613318967308339667134873002754909477153737757749266397423567820323744698078089092888018563767116988471774089869395919961357613656313570578195805825271848763392),(.v 2),(.v 3)] [] 12 1 6 1),(.ob [] (.v 6)),(.di 13 (.lenq (.v 11) 1)),(.db 7 (.cm .leq (.v 13) (.c 4611686018427387903))),(.ob [] (.v 7)),(.di 14 (.lenq (.v 12) 1)),(.db 8 (.cm .leq (.v 14) (.c 4611686018427387903))),(.ob [] (.v 8)),(.di 15 (.cat (.v 11) (.v 12)))] [(.v 15)] [])
def i12:List (Nat × List Nat × List Nat × List Nat × Bool):=sp0
theorem x12:AllOk Tryz.prog (tabF T27) (gl m) (tabS T27):=A27
theorem y12l:LsOk (tabF T27) []:=fun p hp=>by cases hp
theorem h12:HOk Tryz.prog (tabF T27) (gl m) (hC m (mkIs [] i12) (tabS T27)):=hC_ok x12 (by kernel_rfl) (by kernel_rfl) (mkIs_ok y12l)
theorem k12:fnX Tryz.prog (hC m (mkIs [] i12) (tabS T27)) (gl m) (ctlL Tryz.f12 (gl m) s12 []) Tryz.f12 s12 = some S12:=by kernel_rfl
noncomputable def F12:Fun:=S12.run (tabF T27) true
theorem y12:LoopsOk (tabF T27) (ctlL Tryz.f12 (gl m) s12 []):=fun p hp=>by cases hp
theorem z12:(wsEm S12.em (argI s12.args) (argB s12.args) && shOk s12 && s12.pre) = true:=by kernel_rfl
theorem d12:Contract Tryz.prog (gl m) 12 s12 F12:=contract_pre h12 Tryz.func12 y12 k12 z12
theorem c12:Contract Tryz.prog (gl m) 12 s12 F12:=d12
theorem call12:∀ args w,(callFunc 12 args).run Tryz.prog w = .ok (.enter 12 args) w:=callable_of Tryz.func12 (by kernel_rfl) (by kernel_rfl)
noncomputable def e12:Nat × Sum × Fun:=(12,s12,F12)
noncomputable def T28:List (Nat × Sum × Fun):=e12 :: T27
theorem A28:AllOk Tryz.prog (tabF T28) (gl m) (tabS T28):=AllOk.cons (s:=e12.2.1) c12 call12 (fun S h=>by cases h) A27
def s3:Sum:={ args:=[(.val true [.bool,.bool,(.sl [(.int .i64),(.int .i64)]),(.sl [(.int .i64),(.int .i64)])]),(.val true [.bool,.bool,(.sl [(.int .i64),(.int .i64)]),(.sl [(.int .i64),(.int .i64)])])],tup:=false,res:=[(false,[.bool])],pre:=true }
def S3:Smry:=(.mk [(.call 4 [(.v 0),(.v 1),(.v 2),(.v 3)] [(.v 0),(.v 1)] 8 4 4 3),(.ob [] (.v 4)),(.call 4 [(.v 4),(.v 5),(.v 6),(.v 7)] [(.v 2),(.v 3)] 12 4 7 3),(.ob [] (.v 7)),(.call 5 [(.v 8),(.v 9),(.v 10),(.v 11)] [(.v 5),(.v 6)] 16 2 10 1),(.ob [] (.v 10)),(.call 6 [(.v 8),(.v 9),(.v 10),(.v 11)] [(.v 5),(.v 6)] 18 1 11 1),(.ob [] (.v 11)),(.db 12 (.cm .eql (.v 18) (.c 0))),(.call 7 [(.v 8),(.v 9),(.v 10),(.v 11)] [(.v 5),(.v 6)] 19 0 13 2),(.ob [] (.v 13)),(.db 15 (.eqb (.v 12) (.v 14))),(.db 16 (.not (.v 15))),(.call 8 [(.v 8),(.v 9),(.v 10),(.v 11),(.v 12),(.v 13),(.v 14),(.v 15)] [(.v 5),(.v 6),(.v 8),(.v 9)] 19 0 17 2),(.ob [((.v 16),false)] (.v 17)),(.call 9 [(.v 8),(.v 9),(.v 10),(.v 11),(.v 12),(.v 13),(.v 14),(.v 15)] [(.v 5),(.v 6),(.v 8),(.v 9)] 19 0 19 2),(.ob [((.v 16),false)] (.v 19)),(.db 21 (.eqb (.v 18) (.v 20))),(.db 22 (.not (.v 21))),(.db 23 (.or (.v 16) (.v 22))),(.call 7 [(.v 8),(.v 9),(.v 10),(.v 11)] [(.v 5),(.v 6)] 19 0 24 2),(.ob [((.v 23),false)] (.v 24)),(.db 26 (.not (.v 25))),(.db 27 (.cm .eql (.v 16) (.c 0))),(.db 28 (.cm .eql (.v 17) (.c 1))),(.db 29 (.and (.v 27) (.v 28))),(.call 10 [] [] 19 0 30 2),(.ob [((.v 23),false),((.v 26),true),((.v 29),true)] (.v 30)),(.db 32 (.and (.v 29) (.v 31))),(.call 11 [(.v 16)] [] 19 6 33 3),(.ob [((.v 23),false),((.v 26),false)] (.v 33)),(.call 12 [(.v 8),(.v 9),(.v 10),(.v 11)] [(.v 5),(.v 6)] 25 1 36 1),(.ob [((.v 23),false),((.v 26),false)] (.v 36)),(.db 37 (.cm .eql (.v 16) (.v 25))),(.db 38 (.cm .eql (.v 17) (.c 0))),(.db 39 (.and (.v 37) (.v 38))),(.call 9 [(.v 19),(.v 20),(.v 21),(.v 22),(.v 8),(.v 9),(.v 10),(.v 11)] [(.v 34),(.v 35),(.v 5),(.v 6)] 26 0 40 2),(.ob [((.v 23),false),((.v 26),false),((.v 39),true)] (.v 40)),(.db 42 (.and (.v 39) (.v 41))),(.db 43 (.cm .eql (.v 23) (.c 0))),(.db 44 (.and (.v 42) (.v 43))),(.db 45 (.cm .eql (.v 24) (.c 0))),(.db 46 (.and (.v 44) (.v 45))),(.call 10 [] [] 26 0 47 2),(.ob [((.v 23),false),((.v 26),false),((.v 46),true)] (.v 47)),(.db 49 (.and (.v 46) (.v 48))),(.db 50 (.not (.v 26))),(.db 51 (.ite (.v 50) (.v 49) (.v 32))),(.db 52 (.not (.v 23))),(.db 53 (.and (.v 52) (.v 51)))] [] [(.v 53)])
def i3:List (Nat × List Nat × List Nat × List Nat × Bool):=sp0
theorem x3:AllOk Tryz.prog (tabF T28) (gl m) (tabS T28):=A28
theorem y3l:LsOk (tabF T28) []:=fun p hp=>by cases hp
theorem h3:HOk Tryz.prog (tabF T28) (gl m) (hC m (mkIs [] i3) (tabS T28)):=hC_ok x3 (by kernel_rfl) (by kernel_rfl) (mkIs_ok y3l)
theorem k3:fnX Tryz.prog (hC m (mkIs [] i3) (tabS T28)) (gl m) (ctlL Tryz.f3 (gl m) s3 []) Tryz.f3 s3 = some S3:=by kernel_rfl
noncomputable def F3:Fun:=S3.run (tabF T28) true
theorem y3:LoopsOk (tabF T28) (ctlL Tryz.f3 (gl m) s3 []):=fun p hp=>by cases hp
theorem z3:(wsEm S3.em (argI s3.args) (argB s3.args) && shOk s3 && s3.pre) = true:=by kernel_rfl
theorem d3:Contract Tryz.prog (gl m) 3 s3 F3:=contract_pre h3 Tryz.func3 y3 k3 z3
theorem c3:Contract Tryz.prog (gl m) 3 s3 F3:=d3
noncomputable def e3:Nat × Sum × Fun:=(3,s3,F3)
end Go.Proofs.YtfgbfdlacnihkaaGreatDoor.Po
namespace Go.Proofs.YtfgbfdlacnihkaaGreatDoor.Po
open Go Go.Proofs Go.Proofs.YtfgbfdlacnihkaaGreatDoor.Sx
theorem leB {l:List UInt8} (h:l.length <= 10000):decide ((((dec (eS l)).length / 1:Nat):Int) <= 4611686018427387903) = true:=by
 rw [eS_len]; exact decide_eq_true (by omega)
def rowD (w:List UInt8) (f g:Nat):List UInt8:=w ++ [32] ++ dg f ++ [45] ++ dg g ++ [10]
theorem k_45:(1237940039285380274899124224:Int) = eS [45]:=by kernel_rfl
theorem k_10:(1048576:Int) = eS [10]:=by kernel_rfl
theorem t26 {Φ:Funs} (g36:Φ 36 = F36) {w acc:List UInt8} {l:List Pr} (hw:w.length <= 5) (ha:acc.length <= 5000) {i f g:Nat} (hi:i < l.length) (hl:l.length <= 100) (hp:l.getD i (0,0) = ((f:Int),(g:Int))) (hf:f < 65536) (hg:g < 65536) :
  L102600.S.run Φ true [eS w,eP l,l.length,eS acc,i] [] = ([eS w,eP l,l.length,eS (acc ++ rowD w f g),((i + 1:Nat):Int),eS acc,i],[true,true,false]):=by
 obtain ⟨ρ,e1,e2,e3,e4⟩:=Smry.run_specT (Φ:=Φ) (S:=L102600.S) (is:=[eS w,eP l,l.length,eS acc,i]) (bs:=[]) rfl
 rw [e1,obAll_eq]
 clear e1
 simp only [L102600,obs,Gd.d_cons,Gd.d_nil,eqns,Em.eqn,headsI,headsB,↓RI_ite,↓RB_ite,RI.d,RB.d,A.d,B.d,cm_eql,cm_neq,cm_lss,cm_leq,cm_gtr,cm_geq,List.map_cons,List.map_nil,and_true,Nat.zero_add,Nat.reduceAdd,ltn,upto,true_and,Nat.add_zero,List.getD_cons_zero,List.getD_cons_succ] at e2 e3 e4 ⊢
 simp only [e2,e3,Int.toNat_natCast] at e4 ⊢
 clear e2 e3
 rw [g36] at e4
 obtain ⟨b0,i5,b1,i6,b2,b3,i7,⟨i8,b4⟩,i9,b5,i10,b6,i11,i12,b7,i13,b8,b9,i14,⟨i15,b10⟩,i16,b11,i17,b12,i18,i19,b13,i20,i21,b14,i22,b15,i23,i24,b16⟩:=e4
 have b0:ρ.b 0 = true:=by rw [b0]; exact decide_eq_true (by omega)
 have b1:ρ.b 1 = true:=by rw [b1,i5]; exact leB (by omega)
 have b2:ρ.b 2 = true:=by rw [b2]; exact decide_eq_true (by omega)
 have b3:ρ.b 3 = true:=by rw [b3]; exact decide_eq_true (by omega)
 have b8:ρ.b 8 = true:=by rw [b8]; exact decide_eq_true (by omega)
 have b9:ρ.b 9 = true:=by rw [b9]; exact decide_eq_true (by omega)
 have i6:ρ.i 6 = eS (w ++ [32]):=by rw [i6,k_sp,eS_cat]
 have i7:ρ.i 7 = (f:Int):=by rw [i7,eP_get0,hp]
 have i14:ρ.i 14 = (g:Int):=by rw [i14,eP_get1,hp]
 have i8:ρ.i 8 = eS (dg f):=by rw [i8,i7,w36 hf]; rfl
 have b4:ρ.b 4 = true:=by rw [b4,i7,w36 hf]; rfl
 have i15:ρ.i 15 = eS (dg g):=by rw [i15,i14,w36 hg]; rfl
 have b10:ρ.b 10 = true:=by rw [b10,i14,w36 hg]; rfl
 have hd:∀ n,(dg n).length = 4:=fun n=>rfl
 have b5:ρ.b 5 = true:=by rw [b5,i9,i6]; exact leB (by simp only [List.length_append,List.length_cons,List.length_nil]; omega)
 have b6:ρ.b 6 = true:=by rw [b6,i10,i8]; exact leB (by rw [hd]; decide)
 have i11:ρ.i 11 = eS (w ++ [32] ++ dg f):=by rw [i11,i6,i8,eS_cat]
 have b7:ρ.b 7 = true:=by rw [b7,i12,i11]; exact leB (by simp only [List.length_append,List.length_cons,List.length_nil,hd]; omega)
 have i13:ρ.i 13 = eS (w ++ [32] ++ dg f ++ [45]):=by rw [i13,i11,k_45,eS_cat]
 have b11:ρ.b 11 = true:=by rw [b11,i16,i13]; exact leB (by simp only [List.length_append,List.length_cons,List.length_nil,hd]; omega)
 have b12:ρ.b 12 = true:=by rw [b12,i17,i15]; exact leB (by rw [hd]; decide)
 have i18:ρ.i 18 = eS (w ++ [32] ++ dg f ++ [45] ++ dg g):=by rw [i18,i13,i15,eS_cat]
 have b13:ρ.b 13 = true:=by rw [b13,i19,i18]; exact leB (by simp only [List.length_append,List.length_cons,List.length_nil,hd]; omega)
 have i20:ρ.i 20 = eS (rowD w f g):=by rw [i20,i18,k_10,eS_cat]; rfl
 have b14:ρ.b 14 = true:=by rw [b14,i21]; exact leB (by omega)
 have b15:ρ.b 15 = true:=by rw [b15,i22,i20]; exact leB (by unfold rowD; simp only [List.length_append,List.length_cons,List.length_nil,hd]; omega)
 have i23:ρ.i 23 = eS (acc ++ rowD w f g):=by rw [i23,i20,eS_cat]
 have i24:ρ.i 24 = ((i + 1:Nat):Int):=by rw [i24]; exact arAdd (by omega) (by omega)
 have b16:ρ.b 16 = false:=by rw [b16,b0]; rfl
 simp [b0,b1,b2,b3,b4,b5,b6,b7,b8,b9,b10,b11,b12,b13,b14,b15,b16,i23,i24]
theorem t26n {Φ:Funs} {w acc:List UInt8} {l:List Pr}:∃ a b c d e,L102600.S.run Φ true [eS w,eP l,l.length,eS acc,(l.length:Int)] [] = ([a,b,c,d,e,eS acc,(l.length:Int)],[true,false,true]):=by
 obtain ⟨ρ,e1,e2,e3,e4⟩:=Smry.run_specT (Φ:=Φ) (S:=L102600.S) (is:=[eS w,eP l,l.length,eS acc,(l.length:Int)]) (bs:=[]) rfl
 rw [e1,obAll_eq]
 clear e1
 simp only [L102600,obs,Gd.d_cons,Gd.d_nil,eqns,Em.eqn,headsI,headsB,↓RI_ite,↓RB_ite,RI.d,RB.d,A.d,B.d,cm_eql,cm_neq,cm_lss,cm_leq,cm_gtr,cm_geq,List.map_cons,List.map_nil,and_true,Nat.zero_add,Nat.reduceAdd,ltn,upto,true_and,Nat.add_zero,List.getD_cons_zero,List.getD_cons_succ] at e2 e3 e4 ⊢
 simp only [e2,e3,Int.toNat_natCast] at e4 ⊢
 clear e2 e3
 obtain ⟨b0,i5,b1,i6,b2,b3,i7,⟨i8,b4⟩,i9,b5,i10,b6,i11,i12,b7,i13,b8,b9,i14,⟨i15,b10⟩,i16,b11,i17,b12,i18,i19,b13,i20,i21,b14,i22,b15,i23,i24,b16⟩:=e4
 have b0:ρ.b 0 = false:=by rw [b0]; exact decide_eq_false (by omega)
 have b16:ρ.b 16 = true:=by rw [b16,b0]; rfl
 simp [b0,b16]
def rowsD (w:List UInt8) (L:List (Nat × Nat)):List UInt8:=(L.map fun p=>rowD w p.1 p.2).flatten
def stD (w:List UInt8) (L:List (Nat × Nat)) (i:Nat) (acc:List UInt8):List UInt8:=acc ++ rowD w (L.getD i (0,0)).1 (L.getD i (0,0)).2
theorem itD (w:List UInt8) (L:List (Nat × Nat)):∀ (k i:Nat) (acc:List UInt8),i + k = L.length -> itI (stD w L) k i acc = acc ++ rowsD w (L.drop i)
 | 0,i,acc,h=>by
  have:L.drop i = []:=List.drop_of_length_le (by omega)
  rw [this]
  show acc = acc ++ []
  rw [List.append_nil]
 | k + 1,i,acc,h=>by
  show itI (stD w L) k (i + 1) (stD w L i acc) = _
  have hi:i < L.length:=by omega
  have e:L.drop i = L[i] :: L.drop (i + 1):=List.drop_eq_getElem_cons hi
  have e2:L.getD i (0,0) = L[i]:=by rw [List.getD_eq_getElem?_getD,List.getElem?_eq_getElem hi]; rfl
  rw [itD w L k (i + 1) _ (by omega),e]
  unfold stD rowsD
  rw [e2,List.map_cons,List.flatten_cons,List.append_assoc]
theorem toP_len (L:List (Nat × Nat)):(toP L).length = L.length:=by unfold toP; rw [List.length_map]
theorem toP_get (L:List (Nat × Nat)) (i:Nat):(toP L).getD i (0,0) = (((L.getD i (0,0)).1:Int),((L.getD i (0,0)).2:Int)):=by
 unfold toP
 rw [List.getD_eq_getElem?_getD,List.getD_eq_getElem?_getD,List.getElem?_map]
 cases L[i]? <;> rfl
theorem w26 {w:List UInt8} {L:List (Nat × Nat)} (hw:w.length <= 5) (hl:L.length <= 100) (hL:∀ p,p ∈ L -> p.1 < 65536 /\ p.2 < 65536):F26 [eS w,eP (toP L),(toP L).length] [] = ([eS (rowsD w L)],[true]):=by
 have hlp:(lpF (l26.map (·.2)) (tabF T26)) 102600 = loopF (L102600.S.run (tabF T26) true) 5 0:=by kernel_rfl
 have g36:tabF T26 36 = F36:=by kernel_rfl
 show S26.run (lpF (l26.map (·.2)) (tabF T26)) true [eS w,eP (toP L),(toP L).length] [] = _
 generalize lpF (l26.map (·.2)) (tabF T26) = Φ at hlp
 obtain ⟨ρ,e1,e2,e3,e4⟩:=Smry.run_specT (Φ:=Φ) (S:=S26) (is:=[eS w,eP (toP L),(toP L).length]) (bs:=[]) rfl
 rw [e1,obAll_eq]
 clear e1
 simp only [S26,obs,Gd.d_cons,Gd.d_nil,eqns,Em.eqn,headsI,headsB,RI.d,RB.d,A.d,B.d,cm_eql,cm_neq,cm_lss,cm_leq,cm_gtr,cm_geq,List.map_cons,List.map_nil,and_true,Nat.zero_add,Nat.reduceAdd,ltn,upto,true_and,Nat.add_zero,List.getD_cons_zero,List.getD_cons_succ] at e2 e3 e4 ⊢
 simp only [e2,e3,Int.toNat_natCast] at e4 ⊢
 clear e2 e3
 rw [hlp] at e4
 have hlen:=toP_len L
 have h:=idx_rule (α:=List UInt8) (F:=L102600.S.run (tabF T26) true) (nI:=5) (nB:=0) (toP L).length (fun i acc=>[eS w,eP (toP L),(toP L).length,eS acc,i]) (stD w L)
  (fun _ _=>none) (fun acc=>([eS acc,(((toP L).length:Nat):Int)],[true])) (fun i acc=>acc.length <= 20 * i) (fun i a hi ha _=>?_) (fun i a o hi ha hs=>by cases hs) (fun a ha=>?_) [] (by simp)
 ·rw [runI_none] at h
  have he:itI (stD w L) (toP L).length 0 [] = rowsD w L:=by
   rw [itD w L _ 0 [] (by omega)]
   rfl
  rw [he] at h
  have h:loopF (L102600.S.run (tabF T26) true) 5 0 [eS w,eP (toP L),(toP L).length,0,0] [] = ([eS (rowsD w L),(((toP L).length:Nat):Int)],[true,true]):=h
  simp only [h,List.getD_cons_zero,List.getD_cons_succ] at e4
  simp [e4]
 ·have hi':i < L.length:=by omega
  have hm:L.getD i (0,0) ∈ L:=by
   rw [List.getD_eq_getElem?_getD,List.getElem?_eq_getElem hi']
   exact List.getElem_mem hi'
  obtain ⟨p1,p2⟩:=hL _ hm
  rw [t26 g36 hw (by omega) hi (by omega) (toP_get L i) p1 p2]
  refine ⟨_,rfl,rfl,rfl,?_⟩
  unfold stD rowD dg
  simp only [List.length_append,List.length_cons,List.length_nil]
  omega
 ·obtain ⟨x,y,z,u,v,e⟩:=t26n (Φ:=tabF T26) (w:=w) (acc:=a) (l:=toP L)
  rw [e]
  exact ⟨_,rfl,rfl⟩
theorem rowsD_eq {w:List UInt8} {L:List (Nat × Nat)} (hL:∀ p,p ∈ L -> p.1 < 65536 /\ p.2 < 65536):rowsD w L = Tryz.rowsL (w ++ [32]) L:=by
 unfold rowsD Tryz.rowsL
 congr 1
 refine List.map_congr_left fun p hp=>?_
 obtain ⟨h1,h2⟩:=hL p hp
 unfold rowD Tryz.rowL
 rw [hex4_dg h1,hex4_dg h2]
theorem w26p {w:List UInt8} {l:List Pr} (hw:w.length <= 5) (hl:l.length <= 100) (h:∀ p,p ∈ l -> 0 <= p.1 /\ p.1 < 65536 /\ 0 <= p.2 /\ p.2 < 65536):F26 [eS w,eP l,l.length] [] = ([eS (Tryz.rowsL (w ++ [32]) (toNN (eP l)))],[true]):=by
 have e:=toP_toNN (l:=l) fun p hp=>⟨(h p hp).1,(h p hp).2.2.1⟩
 have hL:∀ p,p ∈ toNN (eP l) -> p.1 < 65536 /\ p.2 < 65536:=fun p hp=>by
  rw [toNN_eP] at hp
  obtain ⟨q,hq,rfl⟩:=List.mem_map.1 hp
  have:=h q hq
  exact ⟨by omega,by omega⟩
 have hlen:(toNN (eP l)).length = l.length:=by rw [toNN_eP,List.length_map]
 have:=w26 (w:=w) (L:=toNN (eP l)) hw (by omega) hL
 rw [e,rowsD_eq hL] at this
 exact this
theorem k_pw1:(212234246365093192604895336928808793775116663124187552906102982687660264441534541213130404641116161663092391810982176916346585944201492491727781748792472786604622387716020966013247388494854760456463734022124854272451956943217582934957605873948262396823752106739387098576915731020997657767616229298807613097178209923848677676285952:Int) = eS Tryz.pw1:=by kernel_rfl
theorem k_pw2:(848936985460372770419581347715235174621464978208417456813899113224609692815594759793903496482046116582774990667560569491956893288753735912815913377881352169050782434026831927665111191952935782850983737781443083380606986463047399785435182833862815263411950355406981194541392747211859398882939459239416860056850033742384846476410880:Int) = eS Tryz.pw2:=by kernel_rfl
theorem k_nil:(0:Int) = eS []:=by kernel_rfl
end Go.Proofs.YtfgbfdlacnihkaaGreatDoor.Po
namespace Go.Proofs.YtfgbfdlacnihkaaGreatDoor.Po
open Go Go.Proofs Go.Proofs.YtfgbfdlacnihkaaGreatDoor.Sx
theorem rows_len (w:List UInt8) (l:List Pr):(Tryz.rowsL w (toNN (eP l))).length = (w.length + 10) * l.length:=by
 rw [Tryz.rowsL_len,toNN_eP,List.length_map]
theorem pr12 {P:Pol} (hs:P.r.length <= 100 /\ P.s.length <= 100) (h:bOk P = true):F12 [eP P.r,P.r.length,eP P.s,P.s.length] [P.p0,P.p1] = ([eS (prS P)],[true]):=by
 have ho:=bOk_ok.1 h
 have g26:tabF T27 26 = F26:=by kernel_rfl
 have hF:F12 [eP P.r,P.r.length,eP P.s,P.s.length] [P.p0,P.p1] = S12.run (tabF T27) true [eP P.r,P.r.length,eP P.s,P.s.length] [P.p0,P.p1]:=rfl
 rw [hF]
 clear hF
 generalize tabF T27 = Φ at g26
 obtain ⟨ρ,e1,e2,e3,e4⟩:=Smry.run_specT (Φ:=Φ) (S:=S12) (is:=[eP P.r,P.r.length,eP P.s,P.s.length]) (bs:=[P.p0,P.p1]) rfl
 rw [e1,obAll_eq]
 clear e1
 simp only [S12,obs,Gd.d_cons,Gd.d_nil,eqns,Em.eqn,headsI,headsB,↓RI_ite,↓RB_ite,RI.d,RB.d,A.d,B.d,cm_eql,cm_neq,cm_lss,cm_leq,cm_gtr,cm_geq,List.map_cons,List.map_nil,and_true,Nat.zero_add,Nat.reduceAdd,ltn,upto,true_and,Nat.add_zero,List.getD_cons_zero,List.getD_cons_succ] at e2 e3 e4 ⊢
 simp only [e2,e3,Int.toNat_natCast] at e4 ⊢
 clear e2 e3
 have q1:=w26p (w:=ramW) (l:=P.r) (by decide) hs.1 (ho.1.nn (by decide))
 have q2:=w26p (w:=saveW) (l:=P.s) (by decide) hs.2 (ho.2.nn (by decide))
 have n1:=rows_len (ramW ++ [32]) P.r
 have n2:=rows_len (saveW ++ [32]) P.s
 obtain ⟨R1,hR1⟩:∃ R,R = Tryz.rowsL (ramW ++ [32]) (toNN (eP P.r)):=⟨_,rfl⟩
 obtain ⟨R2,hR2⟩:∃ R,R = Tryz.rowsL (saveW ++ [32]) (toNN (eP P.s)):=⟨_,rfl⟩
 have hpr:prS P = (if P.p0 then Tryz.pw1 else []) ++ (if P.p1 then Tryz.pw2 else []) ++ (R1 ++ R2):=by rw [hR1,hR2]; rfl
 rw [<- hR1] at q1 n1
 rw [<- hR2] at q2 n2
 have n1:R1.length <= 1400:=by
  have e:(ramW ++ [32]:List UInt8).length = 4:=rfl
  rw [n1,e]
  omega
 have n2:R2.length <= 1500:=by
  have e:(saveW ++ [32]:List UInt8).length = 5:=rfl
  rw [n2,e]
  omega
 rw [<- k_ramW] at q1
 rw [<- k_saveW] at q2
 rw [g26,q1,q2] at e4
 simp only [List.getD_cons_zero,List.getD_cons_succ] at e4
 obtain ⟨X1,hX1,x1⟩:∃ X:List UInt8,X = (if P.p0 then Tryz.pw1 else []) /\ X.length <= 7:=⟨_,rfl,by cases P.p0 <;> decide⟩
 obtain ⟨X2,hX2,x2⟩:∃ X:List UInt8,X = (if P.p1 then Tryz.pw2 else []) /\ X.length <= 7:=⟨_,rfl,by cases P.p1 <;> decide⟩
 rw [<- hX1,<- hX2] at hpr
 obtain ⟨i4,i5,b2,i6,i7,⟨i8,b3⟩,i9,b4,i10,b5,i11,⟨i12,b6⟩,i13,b7,i14,b8,i15⟩:=e4
 have i4:ρ.i 4 = eS X1:=by
  rw [i4,hX1]
  cases P.p0
  ·exact k_nil
  ·exact k_pw1
 have b2:ρ.b 2 = true:=by rw [b2,i5,i4]; exact leB (by omega)
 have i6:ρ.i 6 = eS (X1 ++ Tryz.pw2):=by rw [i6,i4,k_pw2,eS_cat]
 have i7:ρ.i 7 = eS (X1 ++ X2):=by
  rw [i7,i6,i4,hX2]
  cases P.p1
  ·show eS X1 = eS (X1 ++ [])
   rw [List.append_nil]
  ·rfl
 have b4:ρ.b 4 = true:=by rw [b4,i9,i7]; exact leB (by simp only [List.length_append]; omega)
 have b5:ρ.b 5 = true:=by rw [b5,i10,i8]; exact leB (by omega)
 have i11:ρ.i 11 = eS (X1 ++ X2 ++ R1):=by rw [i11,i7,i8,eS_cat]
 have b7:ρ.b 7 = true:=by rw [b7,i13,i11]; exact leB (by simp only [List.length_append]; omega)
 have b8:ρ.b 8 = true:=by rw [b8,i14,i12]; exact leB (by omega)
 have i15:ρ.i 15 = eS (prS P):=by rw [i15,i11,i12,eS_cat,hpr,List.append_assoc (X1 ++ X2)]
 simp [b2,b3,b4,b5,b6,b7,b8,i15]
set_option maxHeartbeats 4000000 in
theorem v3 (A0 B0:Pol):F3 (A0.I ++ B0.I) (A0.B ++ B0.B) = ([],[true,true]):=by
 have g4:tabF T28 4 = F4:=by kernel_rfl
 have g5:tabF T28 5 = F5:=by kernel_rfl
 have g6:tabF T28 6 = F6:=by kernel_rfl
 have g7:tabF T28 7 = F7:=by kernel_rfl
 have g8:tabF T28 8 = F8:=by kernel_rfl
 have g9:tabF T28 9 = F9:=by kernel_rfl
 have g10:tabF T28 10 = F10:=by kernel_rfl
 have g11:tabF T28 11 = F11:=by kernel_rfl
 have g12:tabF T28 12 = F12:=by kernel_rfl
 have hF:F3 (A0.I ++ B0.I) (A0.B ++ B0.B) = S3.run (tabF T28) true [eP A0.r,A0.r.length,eP A0.s,A0.s.length,eP B0.r,B0.r.length,eP B0.s,B0.s.length] [A0.p0,A0.p1,B0.p0,B0.p1]:=rfl
 rw [hF]
 clear hF
 generalize tabF T28 = Φ at g4 g5 g6 g7 g8 g9 g10 g11 g12
 obtain ⟨ρ,e1,e2,e3,e4⟩:=Smry.run_specT (Φ:=Φ) (S:=S3) (is:=[eP A0.r,A0.r.length,eP A0.s,A0.s.length,eP B0.r,B0.r.length,eP B0.s,B0.s.length]) (bs:=[A0.p0,A0.p1,B0.p0,B0.p1]) rfl
 rw [e1,obAll_eq]
 clear e1
 simp only [S3,obs,Gd.d_cons,Gd.d_nil,eqns,Em.eqn,headsI,headsB,↓RI_ite,↓RB_ite,RI.d,RB.d,A.d,B.d,cm_eql,cm_neq,cm_lss,cm_leq,cm_gtr,cm_geq,List.map_cons,List.map_nil,and_true,Nat.zero_add,Nat.reduceAdd,ltn,upto,true_and,Nat.add_zero,List.getD_cons_zero,List.getD_cons_succ] at e2 e3 e4 ⊢
 simp only [e2,e3,Int.toNat_natCast] at e4 ⊢
 clear e2 e3
 have fw:∀ P:Pol,F4 [eP P.r,P.r.length,eP P.s,P.s.length] [P.p0,P.p1] = ([eP P.few.r,P.few.r.length,eP P.few.s,P.few.s.length],[true,P.few.p0,P.few.p1]):=fun P=>w13 P
 rw [g4,g5,g6,g7,g8,g9,g10,g11,g12,fw A0,fw B0,w10] at e4
 simp only [List.getD_cons_zero,List.getD_cons_succ] at e4
 obtain ⟨a1,a2⟩:=Pol.few_sm A0
 obtain ⟨c1,c2⟩:=Pol.few_sm B0
 generalize A0.few = P at a1 a2 e4 ⊢
 generalize B0.few = Q at c1 c2 e4 ⊢
 have hP:P.r.length <= 100 /\ P.s.length <= 100:=⟨by omega,by omega⟩
 have hPw:P.sw:=⟨by omega,by omega⟩
 have hQw:Q.sw:=⟨by omega,by omega⟩
 obtain ⟨⟨⟨i8,i9,i10,i11⟩,b4,b5,b6⟩,⟨⟨i12,i13,i14,i15⟩,b7,b8,b9⟩,⟨⟨i16,i17⟩,b10⟩,⟨i18,b11⟩,b12,⟨b13,b14⟩,b15,b16,⟨b17,b18⟩,⟨b19,b20⟩,b21,b22,b23,⟨b24,b25⟩,b26,b27,b28,b29,⟨b30,b31⟩,b32,⟨⟨i19,i20,i21,i22,i23,i24⟩,b33,b34,b35⟩,⟨i25,b36⟩,b37,b38,b39,⟨b40,b41⟩,b42,b43,b44,b45,b46,⟨b47,b48⟩,b49,b50,b51,b52,b53⟩:=e4
 simp only [i8,i9,i10,i11,b5,b6,i12,i13,i14,i15,b8,b9] at i16 i17 b10 i18 b11 b13 b14 b17 b18 b19 b20 b24 b25 i25 b36 b40 b41
 have s8:F8 [eP P.r,P.r.length,eP P.s,P.s.length,eP Q.r,Q.r.length,eP Q.s,Q.s.length] [P.p0,P.p1,Q.p0,Q.p1] = ([],[true,eqP P Q]):=w29 hPw hQw
 have s9:F9 [eP P.r,P.r.length,eP P.s,P.s.length,eP Q.r,Q.r.length,eP Q.s,Q.s.length] [P.p0,P.p1,Q.p0,Q.p1] = ([],[true,eqP P Q]):=w9 hPw hQw
 rw [s8] at b17 b18
 rw [s9] at b19 b20
 rw [may7 hPw] at b13 b14 b24 b25
 have h6:F6 [eP P.r,P.r.length,eP P.s,P.s.length] [P.p0,P.p1] = ([if bOk P then 0 else 1],[true]):=w14 (P:=P) ⟨by omega,by omega⟩
 rw [h6] at i18 b11
 simp only [List.getD_cons_zero,List.getD_cons_succ] at i18 b11 b13 b14 b17 b18 b19 b20 b24 b25
 have b12:ρ.b 12 = bOk P:=by rw [b12,i18]; cases bOk P <;> rfl
 have b15:ρ.b 15 = true:=by rw [b15,b12,b14]; cases bOk P <;> rfl
 have b16:ρ.b 16 = false:=by rw [b16,b15]; rfl
 have b21:ρ.b 21 = true:=by rw [b21,b18,b20]; cases eqP P Q <;> rfl
 have b22:ρ.b 22 = false:=by rw [b22,b21]; rfl
 have b23:ρ.b 23 = false:=by rw [b23,b16,b22]; rfl
 have b26:ρ.b 26 = !bOk P:=by rw [b26,b25]
 have b50:ρ.b 50 = bOk P:=by rw [b50,b26,Bool.not_not]
 have b52:ρ.b 52 = true:=by rw [b52,b23]; rfl
 cases hb:bOk P with
 | false =>
  rw [hb] at b26 b50
  rw [pr5_no hP hb] at i16 i17 b10
  simp only [List.getD_cons_zero,List.getD_cons_succ] at i16 i17 b10
  have b27:ρ.b 27 = true:=by rw [b27,i16,<- k_nil]; exact beq_self_eq_true _
  have b28:ρ.b 28 = true:=by rw [b28,i17]; exact beq_self_eq_true _
  have b29:ρ.b 29 = true:=by rw [b29,b27,b28]; rfl
  have b32:ρ.b 32 = true:=by rw [b32,b29,b31]; rfl
  have b51:ρ.b 51 = true:=by rw [b51,b50,b32]; rfl
  have b53:ρ.b 53 = true:=by rw [b53,b52,b51]; rfl
  have b26:ρ.b 26 = true:=b26
  simp [b4,b7,b10,b11,b13,b17,b19,b24,b30,b16,b23,b26,b29,b53]
 | true =>
  rw [hb] at b26 b50
  rw [pr5_ok hP hb] at i16 i17 b10
  rw [pr12 hP hb] at i25 b36
  simp only [List.getD_cons_zero,List.getD_cons_succ] at i16 i17 b10 i25 b36
  rw [i16,pp11 hP hb] at i19 i20 i21 i22 i23 i24 b33 b34 b35
  simp only [List.getD_cons_zero,List.getD_cons_succ] at i19 i20 i21 i22 i23 i24 b33 b34 b35
  simp only [i19,i20,i21,i22,b34,b35] at b40 b41
  have s9':F9 [eP P.r,P.r.length,eP P.s,P.s.length,eP P.r,P.r.length,eP P.s,P.s.length] [P.p0,P.p1,P.p0,P.p1] = ([],[true,true]):=j9 hPw
  rw [s9'] at b40 b41
  simp only [List.getD_cons_zero,List.getD_cons_succ] at b40 b41
  have b37:ρ.b 37 = true:=by rw [b37,i16,i25]; exact beq_self_eq_true _
  have b38:ρ.b 38 = true:=by rw [b38,i17]; exact beq_self_eq_true _
  have b39:ρ.b 39 = true:=by rw [b39,b37,b38]; rfl
  have b42:ρ.b 42 = true:=by rw [b42,b39,b41]; rfl
  have b43:ρ.b 43 = true:=by rw [b43,i23]; exact beq_self_eq_true _
  have b44:ρ.b 44 = true:=by rw [b44,b42,b43]; rfl
  have b45:ρ.b 45 = true:=by rw [b45,i24]; exact beq_self_eq_true _
  have b46:ρ.b 46 = true:=by rw [b46,b44,b45]; rfl
  have b49:ρ.b 49 = true:=by rw [b49,b46,b48]; rfl
  have b51:ρ.b 51 = true:=by rw [b51,b50,b49]; rfl
  have b53:ρ.b 53 = true:=by rw [b53,b52,b51]; rfl
  have b26:ρ.b 26 = false:=b26
  simp [b4,b7,b10,b11,b13,b17,b19,b24,b33,b36,b40,b47,b16,b23,b26,b39,b46,b53]
end Go.Proofs.YtfgbfdlacnihkaaGreatDoor.Po
namespace Go.Proofs.YtfgbfdlacnihkaaGreatDoor.Po
open Go Go.ChangeShapes Go.WideShapes Go.ChangeAt Go.RowKit Go.Proofs Go.Proofs.YtfgbfdlacnihkaaGreatDoor.Sx

theorem own:ownKnob Tryz.prog.godebug = none:=by kernel_rfl
theorem laidOut:laidOutB Tryz.prog = true:=by kernel_rfl
def db64:List Int:=[0,1,56,2,57,49,28,3,61,58,42,50,38,29,17,4,62,47,59,36,45,43,51,22,53,39,33,30,24,18,12,5,63,55,48,27,60,41,37,16,46,35,44,21,52,32,23,11,54,26,40,15,34,20,31,10,25,14,19,9,13,8,7,6]
theorem dB64_eq:dB64 = db64.map (Value.int .u8):=by kernel_rfl
theorem db64N:Tryz.prog.globalNamed "math/bits.deBruijn64tab" = some 5:=by kernel_rfl
noncomputable def db64T:TypeId:=((Tryz.prog.globals[5]?).map (·.type)).getD 0
theorem db64Ty:(Tryz.prog.globals[5]?).map (·.type) = some db64T:=by kernel_rfl
noncomputable def db64E:TypeId:=match Tryz.prog.underlying db64T with | some (.array _ e)=>e | _=>0
theorem db64U:Tryz.prog.underlying db64T = some (.array 64 db64E):=by kernel_rfl
theorem db64EU:Tryz.prog.underlying db64E = some (.int .u8):=by kernel_rfl
theorem db64C:Tryz.prog.cellsOf db64E = 1:=by kernel_rfl
theorem db64CT:Tryz.prog.cellsOf db64T = 64:=by kernel_rfl
theorem db64D:(Rows.laid_math_bits_deBruijn64tab:DataW Unit) = .agg (db64.map fun m=>.lit (.int .u8 m)):=rfl
theorem laid_of {W:World} (h:laidMet Tryz.prog [("math/bits.deBruijn32tab",Rows.laid_math_bits_deBruijn32tab),("math/bits.deBruijn64tab",Rows.laid_math_bits_deBruijn64tab),("internal/strconv.uint64pow10",Rows.laid_internal_strconv_uint64pow10),("unicode/utf8.acceptRanges",Rows.laid_unicode_utf8_acceptRanges),("unicode/utf8.first",Rows.laid_unicode_utf8_first)] W) (hs:W.ShapedOpen Tryz.prog):∃ m,Laid (gl m) W:=by
 obtain ⟨m,hm⟩:=Go.Proofs.cell_of_shapedOpen_int (g:=0) (zero:=#[.int .i64 0]) (t:=3) hs (of_decide_eq_true (by kernel_rfl)) (by kernel_rfl) rfl (by kernel_rfl) (by kernel_rfl) Tryz.underlying3
 refine ⟨m,?_⟩
 obtain ⟨ps,h0,_⟩:=h
 obtain ⟨_,_,_,_,_,_,_,_,_,_,h1,_⟩:=h0
 obtain ⟨g1,t1,cs1,fuel1,p1,q1,hg1,ht1,hvar1,hd1,h2,_⟩:=h1
 clear h2
 obtain rfl:=Option.some.inj (db64N.symm.trans hg1)
 obtain rfl:=Option.some.inj (db64Ty.symm.trans ht1)
 rw [db64D] at hd1
 have hcell5:∀ (j:Nat) (v:Value),(db64.map (Value.int .u8))[j]? = some v -> W.cell? ⟨5,j,none⟩ = some v:=fun j v hj=>by
  rw [World.var?_cell hg1 hvar1 j]
  rw [<- trod_ints db64U db64EU db64C db64CT hd1] at hj
  simpa using hj
 have hlt:5 < W.heap.size:=World.block_lt_of_cell? W _ (hcell5 0 _ rfl)
 intro g' vs hg'
 match g',hg' with
 | 0,hg' =>
  simp only [gl,List.getElem?_cons_zero,Option.some.injEq] at hg'
  subst hg'
  refine ⟨by omega,fun j v hj=>?_⟩
  match j,hj with
  | 0,hj =>
   simp only [List.getElem?_cons_zero,Option.some.injEq] at hj
   subst hj
   exact ⟨hm,rfl⟩
  | j + 1,hj=>simp at hj
 | 1,hg' | 2,hg' | 3,hg' | 4,hg' =>
  simp only [gl,List.getElem?_cons_zero,List.getElem?_cons_succ,Option.some.injEq] at hg'
  subst hg'
  exact ⟨by omega,fun j v hj=>by simp at hj⟩
 | 5,hg' =>
  simp only [gl,List.getElem?_cons_zero,List.getElem?_cons_succ,Option.some.injEq] at hg'
  subst hg'
  refine ⟨by omega,fun j v hj=>?_⟩
  rw [dB64_eq] at hj
  exact ⟨hcell5 j v hj,oneCell_ints hj⟩
 | n + 6,hg'=>simp [gl] at hg'
def cellsD (d:DataW Unit):List Value:=match d with
 | .agg l=>(l.map fun | .lit (.int k x)=>[.int k x] | .agg m=>m.map (fun | .lit (.int k x)=>.int k x | _=>.nilFunc) | _=>[]).flatten
 | _=>[]
noncomputable def laidWorld (os:Os):World :=
 let w0:=World.holding Tryz.prog os ⟨#[],#[],[]⟩
 { w0 with heap:=(Array.modify (Array.modify (Array.modify (Array.modify (Array.modify w0.heap 4 fun
   | .cells _ t frozen=>.cells (cellsD Rows.laid_math_bits_deBruijn32tab).toArray t frozen
   | o=>o) 5 fun
   | .cells _ t frozen=>.cells (cellsD Rows.laid_math_bits_deBruijn64tab).toArray t frozen
   | o=>o) 1 fun
   | .cells _ t frozen=>.cells (cellsD Rows.laid_internal_strconv_uint64pow10).toArray t frozen
   | o=>o) 3 fun
   | .cells _ t frozen=>.cells (cellsD Rows.laid_unicode_utf8_acceptRanges).toArray t frozen
   | o=>o) 2 fun
   | .cells _ t frozen=>.cells (cellsD Rows.laid_unicode_utf8_first).toArray t frozen
   | o=>o) }
theorem laid_met (os:Os) (args:Array Value):laidMet Tryz.prog [("math/bits.deBruijn32tab",Rows.laid_math_bits_deBruijn32tab),("math/bits.deBruijn64tab",Rows.laid_math_bits_deBruijn64tab),("internal/strconv.uint64pow10",Rows.laid_internal_strconv_uint64pow10),("unicode/utf8.acceptRanges",Rows.laid_unicode_utf8_acceptRanges),("unicode/utf8.first",Rows.laid_unicode_utf8_first)] ((laidWorld os).forCall (fun _ _=>0) ⟨#[],args,[]⟩).memory :=
 laidMet_of_run (ps:=((List.range 32).map fun j=>MemPlace.cell 4 j) ++ ((List.range 64).map fun j=>MemPlace.cell 5 j) ++ ((List.range 20).map fun j=>MemPlace.cell 1 j) ++ ((List.range 32).map fun j=>MemPlace.cell 3 j) ++ ((List.range 256).map fun j=>MemPlace.cell 2 j)) 8 (by kernel_rfl) (by kernel_rfl) (by kernel_rfl)
theorem returns_and_shaped {H:Type} {enc:TypeId × Value -> H} {a:Assume} {C:Checked} {os:Os} {f:FuncId} {fn:Func} {s:ChangeSpec} {conds:List PathCond} {apart fresh handsOn again:Bool} {X:World -> Array Value -> Prop}
  (hX:∀ (w w':World) (args:Array Value),w.heap = w'.heap -> X w args -> X w' args)
  (own:ownKnob C.prog.godebug = none) (started:os.Started) (noInit:C.prog.inits.idxOf? f = none) (hfn:C.prog.funcs[f]? = some fn)
  (witness:∃ (w:World) (tape:Tape) (i:Input),w.os = os /\ (w.forCall tape i).Shaped C.prog /\ i.vars = [] /\ Input.okWide C.prog (w.forCall tape i) .any w.heap.size f i /\
   ((s.pre enc C.prog fn conds apart (w.forCall tape i).memory i.args /\ X (w.forCall tape i).memory i.args) /\ sizedMet enc C.prog fn (OpenSpec.ofChange s) apart (w.forCall tape i).memory i.args) /\ a.holds C.prog (lone (Frame.enter C.prog f i.args .normal) [] (w.forCall tape i)))
  (contract:∀ (W:World) (base:Nat) (args:Array Value) (ds gs:List (DataW H)) (before:List MemPlace),
   (∀ (j:Nat) t v,fn.params[j]? = some t -> args[j]? = some v -> Value.okWide C.prog W .any base t v) ->
   DataW.Whole enc C.prog fn.params.toList s.vars apart W args.toList ds gs before ->
   conds.all (PathCond.test C.prog ⟨fn.params.toList,ds,s.plain.varTypes C.prog,gs⟩) = true ->
   (DataW.weightsEach C.prog (fn.params.toList ++ s.plain.varTypes C.prog) (ds ++ gs)).all (· <= reachBytes) = true -> X W args -> W.ShapedOpen C.prog ->
   a.holds C.prog (lone (Frame.enter C.prog f args .normal) [] W) ->
   Calls C.prog f args W fun e W'=>∃ v,e = .returned v /\ s.post enc C.prog fn apart fresh handsOn again W args v W') :
  ReturnsInHanded a C os f .any (fun w args=>(s.pre enc C.prog fn conds apart w args /\ X w args) /\ sizedMet enc C.prog fn (OpenSpec.ofChange s) apart w args) (s.post enc C.prog fn apart fresh handsOn again):=by
 refine returnsInHanded_of_calls own started noInit witness ?_
 intro w tape i _ hsh _ hok hpre hholds
 obtain ⟨_,_,_,fn',hfn',_,_,_,_,hval⟩:=hok
 have e:fn' = fn:=Option.some.inj (hfn'.symm.trans hfn)
 subst e
 obtain ⟨⟨⟨ds,gs,before,hw,hc⟩,hx⟩,hz⟩:=hpre
 have hw':=DataW.Whole.of_heap (w':=w.forCall tape i) (by rfl) hw
 refine (contract (w.forCall tape i) w.heap.size i.args ds gs before hval hw' hc (hz.weights hw) (hX _ _ _ (by rfl) hx) hsh hholds).mono fun e W' ⟨v,he,hp⟩=>?_
 subst he
 exact ChangeSpec.post_blind hp
theorem slP {ks:List CK} (hk:ks.length = 2) {q n:Int} (h:slRng ks q n):∃ l:List Pr,q = eP l /\ n = l.length:=by
 obtain ⟨h0,_,l,rfl,hl,_⟩:=h
 rw [hk] at hl
 refine ⟨pairs l,?_,by rw [pairs_len hl]; omega⟩
 unfold eP
 rw [<- flat2_fl2,pairs_flat hl]
end Go.Proofs.YtfgbfdlacnihkaaGreatDoor.Po
