/-
  THE ROW AND THE TIED CARD OF 'seepagelaw03.PolicyParses'.  WRITTEN BY PROGRAM (wip/gen/rowgen.py). No condition.
-/
import Derived.Test.YtfgbfdlacnihkaaDoorTie
import Derived.Test.YtfgbfdlacnihkaaDoorCards
import Derived.SevenTiedAt
import Derived.Test.YtfgbfdlacnihkaaDoorPq10
import Derived.Test.YtfgbfdlacnihkaaDoorPq11
set_option linter.unusedVariables false
set_option linter.unusedSimpArgs false
namespace Go.Proofs.YtfgbfdlacnihkaaDoor.Po
open Go Go.ChangeShapes Go.WideShapes Go.ChangeAt Go.RowKit Go.Proofs.YtfgbfdlacnihkaaDoor.Sx

theorem params3:Tryd.f3.params = #[9]:=by kernel_rfl
theorem res3:Tryd.f3.resultTypes = #[4]:=by kernel_rfl
theorem bool3:Tryd.prog.underlying 4 = some .bool:=by kernel_rfl
theorem shs3:shsOf Tryd.prog [9] = some s3.args:=by kernel_rfl
theorem plain3:∀ t,t ∈ Tryd.f3.params.toList -> Tryd.prog.readableRec t = true /\ t < Tryd.prog.types.size:=by
 intro t ht
 rw [params3] at ht
 simp only [List.mem_cons,List.not_mem_nil,or_false] at ht
 rcases ht with rfl
 ·exact ⟨by kernel_rfl,of_decide_eq_true (by kernel_rfl)⟩
theorem law3 {vs:List Value} {w:World} {is:List Int} {bs:List Bool} {ps:List Rg} (hfl:flatArgs s3.args vs w = some (is,bs,ps)):F3 is bs = ([],[true,true]):=by
 obtain ⟨h1,h2,_,_⟩:=flatArgs_len hfl
 have hr:=flatArgs_rng hfl
 obtain ⟨i0,t0,rfl,g0⟩:=len_cons (n:=0) h1
 obtain rfl:=len_nil g0
 obtain rfl:=len_nil h2
 have q0:∃ s:ByteArray,i0 = encS s /\ InR .i64 s.size:=hr.1
 obtain ⟨l0,rfl⟩:=strP q0
 exact v3 l0

set_option maxRecDepth 100000 in
theorem lifted3 (os:Os) (started:os.Started) (H:Type) (enc:TypeId × Value -> H) :
  ReturnsInHanded {} Tryd.checked os 3 .any (fun w args=>(Rows.policyParsesSpec.pre enc Tryd.prog Tryd.f3 Rows.policyParsesRow.domain false w args /\ laidMet Tryd.prog Rows.policyParsesRow.laid w) /\ sizedMet enc Tryd.prog Tryd.f3 (OpenSpec.ofChange Rows.policyParsesSpec) false w args)
   (Rows.policyParsesSpec.post enc Tryd.prog Tryd.f3 false true false false):=by
 refine returns_and_shaped (C:=Tryd.checked) (X:=fun w _=>laidMet Tryd.prog Rows.policyParsesRow.laid w) (fun _ _ _ hh h=>h.of_heap hh) own started (by kernel_rfl) Tryd.func3
  (ChangeSpec.witness_at (enc:=enc) (C:=Tryd.checked) (os:=os) (X:=fun w _=>laidMet Tryd.prog Rows.policyParsesRow.laid w) false (laidWorld os)
   #[.string ⟨#[]⟩]
   8 rfl (by kernel_rfl) (by kernel_rfl) (by kernel_rfl) (by kernel_rfl) (by kernel_rfl) (laid_met os _)) ?_
 intro W base args ds gs before hval0 hW _ _ hLm hsh _
 obtain ⟨m,hL⟩:=laid_of hLm hsh
 have hval:∀ (j:Nat) t v,Tryd.f3.params[j]? = some t -> args[j]? = some v -> Value.okWide Tryd.prog W .any base t v:=hval0
 have hW':=hW
 obtain ⟨p,q,hA0,hV,rfl,hfz,hnd⟩:=hW
 have hA:DataW.TrodAll enc Tryd.prog W 0 (fun _=>true) true Tryd.f3.params.toList args.toList ds p:=hA0
 have hA3:=hA
 rw [params3] at hA3 hval
 obtain ⟨rfl,rfl⟩:=trodVars_none hV
 obtain ⟨is,bs,hfl,_⟩:=flat_of_trod shs3 (fun j t v hj hv=>hval j t v (by simpa using hj) (by simpa using hv)) hA3
 have hds:∃ d1,ds = [d1]:=by
  have:=(trodAll_len hA3).2
  obtain ⟨d1,t1,rfl,g1⟩:=len_cons (n:=0) this
  obtain rfl:=len_nil g1
  exact ⟨d1,rfl⟩
 have hlaw:=law3 hfl
 have hc:=c3 (m:=m) args.toList W _ _ [] hL hfl trivial (fun r hr=>by cases hr) (fun r hr=>by cases hr) (fun q hq=>by cases hq) (fun _=>by rw [hlaw]; rfl)
 rw [show args.toList.toArray = args by simp] at hc
 refine Calls.mono hc fun e W' he=>?_
 obtain ⟨v,rfl,hk,ho,_⟩:=he
 rw [hlaw] at ho
 obtain rfl:=out_trueP rfl rfl rfl rfl ho
 obtain ⟨d1,rfl⟩:=hds
 exact ⟨_,rfl,law_post laidOut plain3 res3 bool3 rfl hW' hA (by simp) rfl rfl hk⟩

theorem row3:Rows.PolicyParsesSaid :=
 OpenClaim.holds_of_wide 3 Tryd.f3 rfl rfl rfl rfl rfl rfl rfl ⟨rfl,rfl,rfl,rfl,rfl⟩ rfl rfl rfl rfl rfl (by kernel_rfl) Tryd.func3 (by kernel_rfl)
  (of_decide_eq_true (by kernel_rfl)) (by unfold Func.isWrapper; first | (rw [if_pos (by decide +kernel)]; kernel_rfl) | (rw [if_neg (by decide +kernel)]; exact ⟨rfl,rfl⟩))
  (fun os started H enc _=>lifted3 os started H enc)

theorem policyParses_holds:Rows.PolicyParsesCardSaid :=
 Claim7.holds_tied_plain_at .later [] [.data,.data,.data,.data,.pinned] true (true,"f44089ce474c402202a3bafec72fa66a7f2aef18a8853520bd5d5a8a2b0b9148") false
  row3 (fun _ h=>by cases h) (by kernel_rfl) (fun _ h=>by cases h) policyParses_row_tie rfl ⟨rfl,rfl⟩ (by kernel_rfl) rfl
  (fun f fn hf hfn=>by
   obtain rfl:f = 3:=Option.some.inj ((show Tryd.prog.funcNamed Rows.policyParsesRow.func = some 3 by kernel_rfl).symm.trans hf) |>.symm
   obtain rfl:fn = Tryd.f3:=(Option.some.inj (Tryd.func3.symm.trans hfn)).symm
   exact ⟨by kernel_rfl,fun j t ht=>by
    rw [params3] at ht
    have h3:t = 9:=by
     rcases j with _ | j
     ·exact (by simpa using ht.symm)
     ·simp at ht
    rcases h3 with rfl
    ·exact (show Tryd.prog.wantsStandIn 9 = false by kernel_rfl)⟩)
  (by kernel_rfl)
end Go.Proofs.YtfgbfdlacnihkaaDoor.Po
