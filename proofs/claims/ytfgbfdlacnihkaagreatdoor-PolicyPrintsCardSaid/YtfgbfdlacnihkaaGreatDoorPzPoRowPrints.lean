/-
  THE ROW AND THE TIED CARD OF 'seepagelaw03.PolicyPrints'.  WRITTEN BY PROGRAM (wip/gen/rowgen.py). No condition.
-/
import Derived.Test.YtfgbfdlacnihkaaGreatDoorTie
import Derived.Test.YtfgbfdlacnihkaaGreatDoorCards
import Derived.SevenTiedAt
import Derived.Test.YtfgbfdlacnihkaaGreatDoorPz10
set_option linter.unusedVariables false
set_option linter.unusedSimpArgs false
namespace Go.Proofs.YtfgbfdlacnihkaaGreatDoor.Po
open Go Go.ChangeShapes Go.WideShapes Go.ChangeAt Go.RowKit Go.Proofs.YtfgbfdlacnihkaaGreatDoor.Sx

theorem params3:Tryz.f3.params = #[25,25]:=by kernel_rfl
theorem res3:Tryz.f3.resultTypes = #[4]:=by kernel_rfl
theorem bool3:Tryz.prog.underlying 4 = some .bool:=by kernel_rfl
theorem shs3:shsOf Tryz.prog [25,25] = some s3.args:=by kernel_rfl
theorem plain3:∀ t,t ∈ Tryz.f3.params.toList -> Tryz.prog.readableRec t = true /\ t < Tryz.prog.types.size:=by
 intro t ht
 rw [params3] at ht
 simp only [List.mem_cons,List.not_mem_nil,or_false] at ht
 rcases ht with rfl | rfl
 ·exact ⟨by kernel_rfl,of_decide_eq_true (by kernel_rfl)⟩
 ·exact ⟨by kernel_rfl,of_decide_eq_true (by kernel_rfl)⟩
theorem law3 {vs:List Value} {w:World} {is:List Int} {bs:List Bool} {ps:List Rg} (hfl:flatArgs s3.args vs w = some (is,bs,ps)):F3 is bs = ([],[true,true]):=by
 obtain ⟨h1,h2,_,_⟩:=flatArgs_len hfl
 have hr:=flatArgs_rng hfl
 obtain ⟨i0,t0,rfl,g0⟩:=len_cons (n:=7) h1
 obtain ⟨i1,t1,rfl,g1⟩:=len_cons (n:=6) g0
 obtain ⟨i2,t2,rfl,g2⟩:=len_cons (n:=5) g1
 obtain ⟨i3,t3,rfl,g3⟩:=len_cons (n:=4) g2
 obtain ⟨i4,t4,rfl,g4⟩:=len_cons (n:=3) g3
 obtain ⟨i5,t5,rfl,g5⟩:=len_cons (n:=2) g4
 obtain ⟨i6,t6,rfl,g6⟩:=len_cons (n:=1) g5
 obtain ⟨i7,t7,rfl,g7⟩:=len_cons (n:=0) g6
 obtain rfl:=len_nil g7
 obtain ⟨b0,u0,rfl,k0⟩:=len_cons (n:=3) h2
 obtain ⟨b1,u1,rfl,k1⟩:=len_cons (n:=2) k0
 obtain ⟨b2,u2,rfl,k2⟩:=len_cons (n:=1) k1
 obtain ⟨b3,u3,rfl,k3⟩:=len_cons (n:=0) k2
 obtain rfl:=len_nil k3
 have q0:slRng [.int .i64,.int .i64] i0 i1:=hr.1
 obtain ⟨l0,rfl,rfl⟩:=slP rfl q0
 have q1:slRng [.int .i64,.int .i64] i2 i3:=hr.2.1
 obtain ⟨l1,rfl,rfl⟩:=slP rfl q1
 have q2:slRng [.int .i64,.int .i64] i4 i5:=hr.2.2.1
 obtain ⟨l2,rfl,rfl⟩:=slP rfl q2
 have q3:slRng [.int .i64,.int .i64] i6 i7:=hr.2.2.2.1
 obtain ⟨l3,rfl,rfl⟩:=slP rfl q3
 exact v3 ⟨b0,b1,l0,l1⟩ ⟨b2,b3,l2,l3⟩

set_option maxRecDepth 100000 in
theorem lifted3 (os:Os) (started:os.Started) (H:Type) (enc:TypeId × Value -> H) :
  ReturnsInHanded {} Tryz.checked os 3 .any (fun w args=>(Rows.policyPrintsSpec.pre enc Tryz.prog Tryz.f3 Rows.policyPrintsRow.domain false w args /\ laidMet Tryz.prog Rows.policyPrintsRow.laid w) /\ sizedMet enc Tryz.prog Tryz.f3 (OpenSpec.ofChange Rows.policyPrintsSpec) false w args)
   (Rows.policyPrintsSpec.post enc Tryz.prog Tryz.f3 false true false false):=by
 refine returns_and_shaped (C:=Tryz.checked) (X:=fun w _=>laidMet Tryz.prog Rows.policyPrintsRow.laid w) (fun _ _ _ hh h=>h.of_heap hh) own started (by kernel_rfl) Tryz.func3
  (ChangeSpec.witness_at (enc:=enc) (C:=Tryz.checked) (os:=os) (X:=fun w _=>laidMet Tryz.prog Rows.policyPrintsRow.laid w) false (laidWorld os)
   #[.agg #[.bool false,.bool false,.slice none 0 0,.slice none 0 0],.agg #[.bool false,.bool false,.slice none 0 0,.slice none 0 0]]
   8 rfl (by kernel_rfl) (by kernel_rfl) (by kernel_rfl) (by kernel_rfl) (by kernel_rfl) (laid_met os _)) ?_
 intro W base args ds gs before hval0 hW _ _ hLm hsh _
 obtain ⟨m,hL⟩:=laid_of hLm hsh
 have hval:∀ (j:Nat) t v,Tryz.f3.params[j]? = some t -> args[j]? = some v -> Value.okWide Tryz.prog W .any base t v:=hval0
 have hW':=hW
 obtain ⟨p,q,hA0,hV,rfl,hfz,hnd⟩:=hW
 have hA:DataW.TrodAll enc Tryz.prog W 0 (fun _=>true) true Tryz.f3.params.toList args.toList ds p:=hA0
 have hA3:=hA
 rw [params3] at hA3 hval
 obtain ⟨rfl,rfl⟩:=trodVars_none hV
 obtain ⟨is,bs,hfl,_⟩:=flat_of_trod shs3 (fun j t v hj hv=>hval j t v (by simpa using hj) (by simpa using hv)) hA3
 have hds:∃ d1 d2,ds = [d1,d2]:=by
  have:=(trodAll_len hA3).2
  obtain ⟨d1,t1,rfl,g1⟩:=len_cons (n:=1) this
  obtain ⟨d2,t2,rfl,g2⟩:=len_cons (n:=0) g1
  obtain rfl:=len_nil g2
  exact ⟨d1,d2,rfl⟩
 have hlaw:=law3 hfl
 have hc:=c3 (m:=m) args.toList W _ _ [] hL hfl trivial (fun r hr=>by cases hr) (fun r hr=>by cases hr) (fun q hq=>by cases hq) (fun _=>by rw [hlaw]; rfl)
 rw [show args.toList.toArray = args by simp] at hc
 refine Calls.mono hc fun e W' he=>?_
 obtain ⟨v,rfl,hk,ho,_⟩:=he
 rw [hlaw] at ho
 obtain rfl:=out_trueP rfl rfl rfl rfl ho
 obtain ⟨d1,d2,rfl⟩:=hds
 exact ⟨_,rfl,law_post laidOut plain3 res3 bool3 rfl hW' hA (by simp) rfl rfl hk⟩

theorem row3:Rows.PolicyPrintsSaid :=
 OpenClaim.holds_of_wide 3 Tryz.f3 rfl rfl rfl rfl rfl rfl rfl ⟨rfl,rfl,rfl,rfl,rfl⟩ rfl rfl rfl rfl rfl (by kernel_rfl) Tryz.func3 (by kernel_rfl)
  (of_decide_eq_true (by kernel_rfl)) (by unfold Func.isWrapper; first | (rw [if_pos (by decide +kernel)]; kernel_rfl) | (rw [if_neg (by decide +kernel)]; exact ⟨rfl,rfl⟩))
  (fun os started H enc _=>lifted3 os started H enc)

theorem policyPrints_holds:Rows.PolicyPrintsCardSaid :=
 Claim7.holds_tied_plain_at .later [] [.data,.data,.data,.data,.pinned] true (true,"cfff5dd7c3a6c1d0536ec7212d2ab3bf6a72e95a34f931327723bd8ea426e7e3") false
  row3 (fun _ h=>by cases h) (by kernel_rfl) (fun _ h=>by cases h) policyPrints_row_tie rfl ⟨rfl,rfl⟩ (by kernel_rfl) rfl
  (fun f fn hf hfn=>by
   obtain rfl:f = 3:=Option.some.inj ((show Tryz.prog.funcNamed Rows.policyPrintsRow.func = some 3 by kernel_rfl).symm.trans hf) |>.symm
   obtain rfl:fn = Tryz.f3:=(Option.some.inj (Tryz.func3.symm.trans hfn)).symm
   exact ⟨by kernel_rfl,fun j t ht=>by
    rw [params3] at ht
    have h3:t = 25 \/ t = 25:=by
     rcases j with _ | _ | j
     ·exact .inl (by simpa using ht.symm)
     ·exact .inr (by simpa using ht.symm)
     ·simp at ht
    rcases h3 with rfl | rfl
    ·exact (show Tryz.prog.wantsStandIn 25 = false by kernel_rfl)
    ·exact (show Tryz.prog.wantsStandIn 25 = false by kernel_rfl)⟩)
  (by kernel_rfl)
end Go.Proofs.YtfgbfdlacnihkaaGreatDoor.Po
