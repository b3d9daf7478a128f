/-
  THE ROW AND THE TIED CARD OF 'seepagelaw03.PolicyPlaces'.  WRITTEN BY PROGRAM (wip/gen/rowgen.py). No condition.
-/
import Derived.Test.YtfgbfdlacnihkaaDoorTie
import Derived.Test.YtfgbfdlacnihkaaDoorCards
import Derived.SevenTiedAt
import Derived.Test.YtfgbfdlacnihkaaDoorPq10
import Derived.Test.YtfgbfdlacnihkaaDoorPq11
set_option linter.unusedVariables false
set_option linter.unusedSimpArgs false
namespace Go.Proofs.YtfgbfdlacnihkaaDoor.Po
open Go Go.ChangeShapes Go.WideShapes Go.ChangeAt Go.RowKit Go.Proofs.YtfgbfdlacnihkaaDoor.Sx

theorem params4:Tryd.f4.params = #[36]:=by kernel_rfl
theorem res4:Tryd.f4.resultTypes = #[4]:=by kernel_rfl
theorem bool4:Tryd.prog.underlying 4 = some .bool:=by kernel_rfl
theorem shs4:shsOf Tryd.prog [36] = some s4.args:=by kernel_rfl
theorem plain4:∀ t,t ∈ Tryd.f4.params.toList -> Tryd.prog.readableRec t = true /\ t < Tryd.prog.types.size:=by
 intro t ht
 rw [params4] at ht
 simp only [List.mem_cons,List.not_mem_nil,or_false] at ht
 rcases ht with rfl
 ·exact ⟨by kernel_rfl,of_decide_eq_true (by kernel_rfl)⟩
theorem u16R {n:Int} (h:InR .u16 n):0 <= n /\ n < 65536:=by
 obtain ⟨h1,h2⟩:=h
 have e1:IntKind.min .u16 = 0:=rfl
 have e2:IntKind.max .u16 = 65535:=rfl
 omega
theorem law4 {vs:List Value} {w:World} {is:List Int} {bs:List Bool} {ps:List Rg} (hfl:flatArgs s4.args vs w = some (is,bs,ps)):F4 is bs = ([],[true,true]):=by
 obtain ⟨h1,h2,_,_⟩:=flatArgs_len hfl
 have hr:=flatArgs_rng hfl
 obtain ⟨i0,t0,rfl,g0⟩:=len_cons (n:=2) h1
 obtain ⟨i1,t1,rfl,g1⟩:=len_cons (n:=1) g0
 obtain ⟨i2,t2,rfl,g2⟩:=len_cons (n:=0) g1
 obtain rfl:=len_nil g2
 obtain ⟨b0,u0,rfl,k0⟩:=len_cons (n:=0) h2
 obtain rfl:=len_nil k0
 have q0:InR .u16 i0:=hr.1
 obtain ⟨p0,r0⟩:0 <= i0 /\ i0 < 65536:=u16R q0
 obtain ⟨n0,rfl⟩:=Int.eq_ofNat_of_zero_le p0
 have q1:InR .u16 i1:=hr.2.1
 obtain ⟨p1,r1⟩:0 <= i1 /\ i1 < 65536:=u16R q1
 obtain ⟨n1,rfl⟩:=Int.eq_ofNat_of_zero_le p1
 have q2:InR .u16 i2:=hr.2.2.1
 obtain ⟨p2,r2⟩:0 <= i2 /\ i2 < 65536:=u16R q2
 obtain ⟨n2,rfl⟩:=Int.eq_ofNat_of_zero_le p2
 exact v4 n0 n1 n2 (by omega) (by omega) (by omega) b0

set_option maxRecDepth 100000 in
theorem lifted4 (os:Os) (started:os.Started) (H:Type) (enc:TypeId × Value -> H) :
  ReturnsInHanded {} Tryd.checked os 4 .any (fun w args=>(Rows.policyPlacesSpec.pre enc Tryd.prog Tryd.f4 Rows.policyPlacesRow.domain false w args /\ laidMet Tryd.prog Rows.policyPlacesRow.laid w) /\ sizedMet enc Tryd.prog Tryd.f4 (OpenSpec.ofChange Rows.policyPlacesSpec) false w args)
   (Rows.policyPlacesSpec.post enc Tryd.prog Tryd.f4 false true false false):=by
 refine returns_and_shaped (C:=Tryd.checked) (X:=fun w _=>laidMet Tryd.prog Rows.policyPlacesRow.laid w) (fun _ _ _ hh h=>h.of_heap hh) own started (by kernel_rfl) Tryd.func4
  (ChangeSpec.witness_at (enc:=enc) (C:=Tryd.checked) (os:=os) (X:=fun w _=>laidMet Tryd.prog Rows.policyPlacesRow.laid w) false (laidWorld os)
   #[.agg #[.int .u16 0,.int .u16 0,.int .u16 0,.bool false]]
   8 rfl (by kernel_rfl) (by kernel_rfl) (by kernel_rfl) (by kernel_rfl) (by kernel_rfl) (laid_met os _)) ?_
 intro W base args ds gs before hval0 hW _ _ hLm hsh _
 obtain ⟨m,hL⟩:=laid_of hLm hsh
 have hval:∀ (j:Nat) t v,Tryd.f4.params[j]? = some t -> args[j]? = some v -> Value.okWide Tryd.prog W .any base t v:=hval0
 have hW':=hW
 obtain ⟨p,q,hA0,hV,rfl,hfz,hnd⟩:=hW
 have hA:DataW.TrodAll enc Tryd.prog W 0 (fun _=>true) true Tryd.f4.params.toList args.toList ds p:=hA0
 have hA3:=hA
 rw [params4] at hA3 hval
 obtain ⟨rfl,rfl⟩:=trodVars_none hV
 obtain ⟨is,bs,hfl,_⟩:=flat_of_trod shs4 (fun j t v hj hv=>hval j t v (by simpa using hj) (by simpa using hv)) hA3
 have hds:∃ d1,ds = [d1]:=by
  have:=(trodAll_len hA3).2
  obtain ⟨d1,t1,rfl,g1⟩:=len_cons (n:=0) this
  obtain rfl:=len_nil g1
  exact ⟨d1,rfl⟩
 have hlaw:=law4 hfl
 have hc:=c4 (m:=m) args.toList W _ _ [] hL hfl trivial (fun r hr=>by cases hr) (fun r hr=>by cases hr) (fun q hq=>by cases hq) (fun _=>by rw [hlaw]; rfl)
 rw [show args.toList.toArray = args by simp] at hc
 refine Calls.mono hc fun e W' he=>?_
 obtain ⟨v,rfl,hk,ho,_⟩:=he
 rw [hlaw] at ho
 obtain rfl:=out_trueP rfl rfl rfl rfl ho
 obtain ⟨d1,rfl⟩:=hds
 exact ⟨_,rfl,law_post laidOut plain4 res4 bool4 rfl hW' hA (by simp) rfl rfl hk⟩

theorem row4:Rows.PolicyPlacesSaid :=
 OpenClaim.holds_of_wide 4 Tryd.f4 rfl rfl rfl rfl rfl rfl rfl ⟨rfl,rfl,rfl,rfl,rfl⟩ rfl rfl rfl rfl rfl (by kernel_rfl) Tryd.func4 (by kernel_rfl)
  (of_decide_eq_true (by kernel_rfl)) (by unfold Func.isWrapper; first | (rw [if_pos (by decide +kernel)]; kernel_rfl) | (rw [if_neg (by decide +kernel)]; exact ⟨rfl,rfl⟩))
  (fun os started H enc _=>lifted4 os started H enc)

theorem policyPlaces_holds:Rows.PolicyPlacesCardSaid :=
 Claim7.holds_tied_plain_at .later [] [.data,.data,.data,.data,.pinned] true (true,"f44089ce474c402202a3bafec72fa66a7f2aef18a8853520bd5d5a8a2b0b9148") false
  row4 (fun _ h=>by cases h) (by kernel_rfl) (fun _ h=>by cases h) policyPlaces_row_tie rfl ⟨rfl,rfl⟩ (by kernel_rfl) rfl
  (fun f fn hf hfn=>by
   obtain rfl:f = 4:=Option.some.inj ((show Tryd.prog.funcNamed Rows.policyPlacesRow.func = some 4 by kernel_rfl).symm.trans hf) |>.symm
   obtain rfl:fn = Tryd.f4:=(Option.some.inj (Tryd.func4.symm.trans hfn)).symm
   exact ⟨by kernel_rfl,fun j t ht=>by
    rw [params4] at ht
    have h3:t = 36:=by
     rcases j with _ | j
     ·exact (by simpa using ht.symm)
     ·simp at ht
    rcases h3 with rfl
    ·exact (show Tryd.prog.wantsStandIn 36 = false by kernel_rfl)⟩)
  (by kernel_rfl)
end Go.Proofs.YtfgbfdlacnihkaaDoor.Po
