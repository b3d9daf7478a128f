/-
  THE ROW AND THE TIED CARD OF 'seepagelaw03.PolicyLines'.  WRITTEN BY PROGRAM (wip/gen/rowgen.py). No condition.
-/
import Derived.Test.YtfgbfdlacnihkaaDoorTie
import Derived.Test.YtfgbfdlacnihkaaDoorCards
import Derived.SevenTiedAt
import Derived.Test.YtfgbfdlacnihkaaDoorPq10
import Derived.Test.YtfgbfdlacnihkaaDoorPq11
set_option linter.unusedVariables false
set_option linter.unusedSimpArgs false
namespace Go.Proofs.YtfgbfdlacnihkaaDoor.Po
open Go Go.ChangeShapes Go.WideShapes Go.ChangeAt Go.RowKit Go.Proofs.YtfgbfdlacnihkaaDoor.Sx

theorem params5:Tryd.f5.params = #[9,9,9]:=by kernel_rfl
theorem res5:Tryd.f5.resultTypes = #[4]:=by kernel_rfl
theorem bool5:Tryd.prog.underlying 4 = some .bool:=by kernel_rfl
theorem shs5:shsOf Tryd.prog [9,9,9] = some s5.args:=by kernel_rfl
theorem plain5:∀ t,t ∈ Tryd.f5.params.toList -> Tryd.prog.readableRec t = true /\ t < Tryd.prog.types.size:=by
 intro t ht
 rw [params5] at ht
 simp only [List.mem_cons,List.not_mem_nil,or_false] at ht
 rcases ht with rfl | rfl | rfl
 ·exact ⟨by kernel_rfl,of_decide_eq_true (by kernel_rfl)⟩
 ·exact ⟨by kernel_rfl,of_decide_eq_true (by kernel_rfl)⟩
 ·exact ⟨by kernel_rfl,of_decide_eq_true (by kernel_rfl)⟩
theorem law5 {vs:List Value} {w:World} {is:List Int} {bs:List Bool} {ps:List Rg} (hfl:flatArgs s5.args vs w = some (is,bs,ps)):F5 is bs = ([],[true,true]):=by
 obtain ⟨h1,h2,_,_⟩:=flatArgs_len hfl
 have hr:=flatArgs_rng hfl
 obtain ⟨i0,t0,rfl,g0⟩:=len_cons (n:=2) h1
 obtain ⟨i1,t1,rfl,g1⟩:=len_cons (n:=1) g0
 obtain ⟨i2,t2,rfl,g2⟩:=len_cons (n:=0) g1
 obtain rfl:=len_nil g2
 obtain rfl:=len_nil h2
 have q0:∃ s:ByteArray,i0 = encS s /\ InR .i64 s.size:=hr.1
 obtain ⟨l0,rfl⟩:=strP q0
 have q1:∃ s:ByteArray,i1 = encS s /\ InR .i64 s.size:=hr.2.1
 obtain ⟨l1,rfl⟩:=strP q1
 have q2:∃ s:ByteArray,i2 = encS s /\ InR .i64 s.size:=hr.2.2.1
 obtain ⟨l2,rfl⟩:=strP q2
 exact v5 l0 l1 l2

set_option maxRecDepth 100000 in
theorem lifted5 (os:Os) (started:os.Started) (H:Type) (enc:TypeId × Value -> H) :
  ReturnsInHanded {} Tryd.checked os 5 .any (fun w args=>(Rows.policyLinesSpec.pre enc Tryd.prog Tryd.f5 Rows.policyLinesRow.domain false w args /\ laidMet Tryd.prog Rows.policyLinesRow.laid w) /\ sizedMet enc Tryd.prog Tryd.f5 (OpenSpec.ofChange Rows.policyLinesSpec) false w args)
   (Rows.policyLinesSpec.post enc Tryd.prog Tryd.f5 false true false false):=by
 refine returns_and_shaped (C:=Tryd.checked) (X:=fun w _=>laidMet Tryd.prog Rows.policyLinesRow.laid w) (fun _ _ _ hh h=>h.of_heap hh) own started (by kernel_rfl) Tryd.func5
  (ChangeSpec.witness_at (enc:=enc) (C:=Tryd.checked) (os:=os) (X:=fun w _=>laidMet Tryd.prog Rows.policyLinesRow.laid w) false (laidWorld os)
   #[.string ⟨#[]⟩,.string ⟨#[]⟩,.string ⟨#[]⟩]
   8 rfl (by kernel_rfl) (by kernel_rfl) (by kernel_rfl) (by kernel_rfl) (by kernel_rfl) (laid_met os _)) ?_
 intro W base args ds gs before hval0 hW _ _ hLm hsh _
 obtain ⟨m,hL⟩:=laid_of hLm hsh
 have hval:∀ (j:Nat) t v,Tryd.f5.params[j]? = some t -> args[j]? = some v -> Value.okWide Tryd.prog W .any base t v:=hval0
 have hW':=hW
 obtain ⟨p,q,hA0,hV,rfl,hfz,hnd⟩:=hW
 have hA:DataW.TrodAll enc Tryd.prog W 0 (fun _=>true) true Tryd.f5.params.toList args.toList ds p:=hA0
 have hA3:=hA
 rw [params5] at hA3 hval
 obtain ⟨rfl,rfl⟩:=trodVars_none hV
 obtain ⟨is,bs,hfl,_⟩:=flat_of_trod shs5 (fun j t v hj hv=>hval j t v (by simpa using hj) (by simpa using hv)) hA3
 have hds:∃ d1 d2 d3,ds = [d1,d2,d3]:=by
  have:=(trodAll_len hA3).2
  obtain ⟨d1,t1,rfl,g1⟩:=len_cons (n:=2) this
  obtain ⟨d2,t2,rfl,g2⟩:=len_cons (n:=1) g1
  obtain ⟨d3,t3,rfl,g3⟩:=len_cons (n:=0) g2
  obtain rfl:=len_nil g3
  exact ⟨d1,d2,d3,rfl⟩
 have hlaw:=law5 hfl
 have hc:=c5 (m:=m) args.toList W _ _ [] hL hfl trivial (fun r hr=>by cases hr) (fun r hr=>by cases hr) (fun q hq=>by cases hq) (fun _=>by rw [hlaw]; rfl)
 rw [show args.toList.toArray = args by simp] at hc
 refine Calls.mono hc fun e W' he=>?_
 obtain ⟨v,rfl,hk,ho,_⟩:=he
 rw [hlaw] at ho
 obtain rfl:=out_trueP rfl rfl rfl rfl ho
 obtain ⟨d1,d2,d3,rfl⟩:=hds
 exact ⟨_,rfl,law_post laidOut plain5 res5 bool5 rfl hW' hA (by simp) rfl rfl hk⟩

theorem row5:Rows.PolicyLinesSaid :=
 OpenClaim.holds_of_wide 5 Tryd.f5 rfl rfl rfl rfl rfl rfl rfl ⟨rfl,rfl,rfl,rfl,rfl⟩ rfl rfl rfl rfl rfl (by kernel_rfl) Tryd.func5 (by kernel_rfl)
  (of_decide_eq_true (by kernel_rfl)) (by unfold Func.isWrapper; first | (rw [if_pos (by decide +kernel)]; kernel_rfl) | (rw [if_neg (by decide +kernel)]; exact ⟨rfl,rfl⟩))
  (fun os started H enc _=>lifted5 os started H enc)

theorem policyLines_holds:Rows.PolicyLinesCardSaid :=
 Claim7.holds_tied_plain_at .later [] [.data,.data,.data,.data,.pinned] true (true,"f44089ce474c402202a3bafec72fa66a7f2aef18a8853520bd5d5a8a2b0b9148") false
  row5 (fun _ h=>by cases h) (by kernel_rfl) (fun _ h=>by cases h) policyLines_row_tie rfl ⟨rfl,rfl⟩ (by kernel_rfl) rfl
  (fun f fn hf hfn=>by
   obtain rfl:f = 5:=Option.some.inj ((show Tryd.prog.funcNamed Rows.policyLinesRow.func = some 5 by kernel_rfl).symm.trans hf) |>.symm
   obtain rfl:fn = Tryd.f5:=(Option.some.inj (Tryd.func5.symm.trans hfn)).symm
   exact ⟨by kernel_rfl,fun j t ht=>by
    rw [params5] at ht
    have h3:t = 9 \/ t = 9 \/ t = 9:=by
     rcases j with _ | _ | _ | j
     ·exact .inl (by simpa using ht.symm)
     ·exact .inr (.inl (by simpa using ht.symm))
     ·exact .inr (.inr (by simpa using ht.symm))
     ·simp at ht
    rcases h3 with rfl | rfl | rfl
    ·exact (show Tryd.prog.wantsStandIn 9 = false by kernel_rfl)
    ·exact (show Tryd.prog.wantsStandIn 9 = false by kernel_rfl)
    ·exact (show Tryd.prog.wantsStandIn 9 = false by kernel_rfl)⟩)
  (by kernel_rfl)
end Go.Proofs.YtfgbfdlacnihkaaDoor.Po
