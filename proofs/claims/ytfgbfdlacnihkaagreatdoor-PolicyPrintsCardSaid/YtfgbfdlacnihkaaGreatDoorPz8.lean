/-
  Merged texts (SxRk, SxIn, SxIo, SxIp, SxHl, SxAs, PoB, PoS1, PoP, PoD). No condition.
-/
import Derived.Test.YtfgbfdlacnihkaaGreatDoorChecked
import Derived.Shelf.SlicesG.Cmp
import Derived.Deep.Quiet
import Derived.Test.YtfgbfdlacnihkaaGreatDoorPz7
set_option linter.unusedVariables false
set_option linter.unusedSimpArgs false
namespace Go.Proofs.YtfgbfdlacnihkaaGreatDoor.Sx
open Go

def rfG (s:S):Option (Nat × List (Nat × Nat)):=match fnOf s with
 | some ([],some p)=>if p.1 == yieldN then none else some p
 | _=>none
def rfFn (P:Program) (f:Nat):Option (Func × Code):=match P.funcs[f]? with
 | some fn=>match fn.body with
  | some b=>if fn.results.toList.isEmpty && !(fn.name == "runtime.NumGoroutine") then some (fn,b) else none
  | none=>none
 | none=>none
def rfCtl (P:Program) (H:Hnd) (gl:Gl) (kb:Ctl) (keep:Kp) (D:RfD) (fn:Func) (ll:List (Nat × LAnn)) (turns:Nat):Ctl :=
 { keep:={ l:=keepOf fn,fz:=keep.fz },turns:=turns,ret:=[],base:=1000000000,loops:=ll,E:=yE P H gl kb keep D }
def rfIn (gl:Gl) (s:St) (fn:Func) (lid:Nat) (caps:List (Nat × Nat)):St :=
 { tm:=(S.one false [.fn [] (some (yieldN,[(lid,0)]))] :: capS caps).map (fun s=>({ g:=[],s:=s }:SV)) ++ List.replicate (fn.ntmps - (caps.length + 1)) anySV,hp:=s.hp }
def rfEnd (gl:Gl) (s σ:St):St:={ tm:=s.tm.map (SV.jk (knN gl.length s.hp)),hp:=σ.hp,rb:=uniN σ.rb s.rb,js:=s.js }
def rfM (P:Program) (H:Hnd) (gl:Gl) (kb:Ctl) (keep:Kp) (ll:List (Nat × LAnn)) (turns:Nat) (g:Operand) (ps:Array Tmp) (asg bd:Code) (s:St):M Outs:=do
 let fv <- lift (rfG (rs [] (ev gl.length s g)))
 let fb <- lift (rfFn P fv.1)
 let _ <- lift (if jlOk (jumpsOf bd) then some () else none)
 let lid <- newId
 let O <- M.mono (exec P H (ghOf gl 0) gl.length (rfCtl P H gl kb keep { lid:=lid,T:=s.tm.map (SV.tj (knN gl.length s.hp)),ps:=ps.toList,asg:=asg,bd:=bd,jl:=jumpsOf bd } fb.1 ll turns) fb.2 (rfIn gl s fb.1 lid fv.2))
 let σ <- M.mono (endSt { l:=keepOf fb.1,fz:=keep.fz } O)
 M.mono (rfOuts (jumpsOf bd) σ.js (rfEnd gl s σ))
def rfE (P:Program) (H:Hnd) (gl:Gl) (kb:Ctl) (keep:Kp) (ll:List (Nat × LAnn)) (turns:Nat):XE:={ rf:=rfM P H gl kb keep ll turns }

theorem mtAll_len2 {β:Beta} {ρ:Env}:∀ {xs:List S} {vs:List Value},mtAll β ρ xs vs -> xs.length = vs.length
 | [],[],_=>rfl
 | _ :: _,_ :: _,h=>by simp [mtAll_len2 h.2]
def tgts:List Deferred -> List Nat
 | []=>[]
 | d :: l=>match d.target with
  | .collected D=>D :: tgts l
  | _=>tgts l
theorem Marks.tgts {N:Nat} {w:World}:∀ {l:List Deferred},Marks N w l -> ∀ D,D ∈ Sx.tgts l -> N <= D /\ w.heap[D]? = some (.deferred (some []))
 | [],_,D,h=>by cases h
 | d :: l,⟨E,e1,e2,e3,e4,e5⟩,D,h=>by
  subst e1
  simp only [Sx.tgts] at h
  rcases List.mem_cons.1 h with rfl | h
  ·exact ⟨e2,e3⟩
  ·exact Marks.tgts e5 D h
theorem Marks.of {N:Nat} {w w':World}:∀ {l:List Deferred},Marks N w l -> (∀ D,D ∈ Sx.tgts l -> w'.heap[D]? = some (.deferred (some []))) -> Marks N w' l
 | [],_,_=>trivial
 | d :: l,⟨E,e1,e2,e3,e4,e5⟩,h=>by
  subst e1
  refine ⟨E,rfl,e2,h E (by simp [Sx.tgts]),e4,Marks.of e5 fun D hD=>h D ?_⟩
  simp only [Sx.tgts]
  exact List.mem_cons.2 (.inr hD)
theorem Marks.notin {N:Nat} {w:World} {D:Nat}:∀ {l:List Deferred},Marks N w l -> (∀ E,E ∈ Sx.tgts l -> E ≠ D) -> ∀ e,e ∈ l -> e.target ≠ .collected D
 | [],_,_,e,he=>by cases he
 | d :: l,⟨E,e1,e2,e3,e4,e5⟩,h,e,he=>by
  subst e1
  rcases List.mem_cons.1 he with rfl | he
  ·intro hh
   simp only [Target.collected.injEq] at hh
   exact h E (by simp [Sx.tgts]) hh
  ·exact Marks.notin e5 (fun E' hE'=>h E' (by simp only [Sx.tgts]; exact List.mem_cons.2 (.inr hE'))) e he

theorem pickJ_some {n:Nat}:∀ {l:List Code},jlOk l = true -> (kdJ (pickJ l n)).isSome = true:=by
 have key:∀ {l:List Code},jlOk l = true -> ∀ d,d ∈ l -> (kdJ d).isSome = true:=by
  intro l
  induction l with
  | nil=>intro _ d h; cases h
  | cons a l ih =>
   intro h d hm
   simp only [jlOk,Bool.and_eq_true] at h
   rcases List.mem_cons.1 hm with rfl | hm
   ·exact h.1.1
   ·exact ih h.2 d hm
 intro l h
 cases l with
 | nil=>rfl
 | cons c l=>exact key h _ (pickJ_mem (by simp))
section
variable {P:Program} {Φ:Funs} {H:Hnd} {x:Cx}
theorem rfG_spec {s:S} {p:Nat × List (Nat × Nat)} (h:rfG s = some p):p.1 ≠ yieldN /\ ∃ c,s = .one false [c] /\ asFn c = some ([],some p):=by
 unfold rfG at h
 split at h
 ·rename_i q hq
  split at h
  ·cases h
  ·rename_i hy
   simp only [Option.some.injEq] at h
   subst h
   obtain ⟨c,h1,h2⟩:=fnOf_spec hq
   exact ⟨by simpa using hy,c,h1,h2⟩
 ·cases h
theorem rfFn_spec {f:Nat} {fn:Func} {b:Code} (h:rfFn P f = some (fn,b)):P.funcs[f]? = some fn /\ fn.body = some b /\ fn.results.toList = [] /\ (fn.name == "runtime.NumGoroutine") = false:=by
 unfold rfFn at h
 split at h
 ·rename_i fn' hfn
  split at h
  ·rename_i b' hb
   split at h
   ·rename_i hc
    simp only [Bool.and_eq_true,List.isEmpty_iff,Bool.not_eq_true'] at hc
    simp only [Option.some.injEq,Prod.mk.injEq] at h
    obtain ⟨rfl,rfl⟩:=h
    exact ⟨hfn,hb,hc.1,hc.2⟩
   ·cases h
  ·cases h
 ·cases h
theorem rf_ok (hH:HOk P Φ x.gl H) (hG:∀ w,Keep x.R x.w0 w -> Laid x.gl w) {kb:Ctl} (hxb:GrOk x kb.keep) (hLb:LoopsOk Φ kb) (hEb:kb.E = {}) {keep:Kp} (hx:GrOk x keep) {ll:List (Nat × LAnn)} {turns:Nat} (hLL:∀ p,p ∈ ll -> Φ p.2.id = loopF (p.2.S.run Φ true) p.2.nI p.2.nB)
  (hrl:x.rl = none) (hlr:x.lr = none) (hds:x.ds = []) (ρ:Env) (g:Operand) (ps:Array Tmp) (asg bd:Code) :
  OkW Φ x ρ (fun Q a w=>(Code.rangeFunc g ps asg bd).wpIn (FR x.rl) 0 P Q a w) (rfM P H x.gl kb keep ll turns g ps asg bd):=by
 intro s c c' O' out h hg β a w hR hF Q hQ
 unfold rfM at h
 obtain ⟨fv,c1,o1,c2,o2,y,g1,g2,he⟩:=M.bind_inv h
 simp only [Prod.mk.injEq] at he
 obtain ⟨rfl,rfl,rfl⟩:=he
 obtain ⟨fv',hfv,he⟩:=lift_inv g1
 simp only [Prod.mk.injEq] at he
 obtain ⟨rfl,rfl,rfl⟩:=he
 obtain ⟨fb,c3,o3,c4,o4,y,g3,g4,he⟩:=M.bind_inv g2
 simp only [Prod.mk.injEq] at he
 obtain ⟨rfl,rfl,rfl⟩:=he
 obtain ⟨fb',hfb,he⟩:=lift_inv g3
 simp only [Prod.mk.injEq] at he
 obtain ⟨rfl,rfl,rfl⟩:=he
 obtain ⟨u,c5,o5,c6,o6,y,g5,g6,he⟩:=M.bind_inv g4
 simp only [Prod.mk.injEq] at he
 obtain ⟨rfl,rfl,rfl⟩:=he
 obtain ⟨u',hjl,he⟩:=lift_inv g5
 simp only [Prod.mk.injEq] at he
 obtain ⟨_,rfl,rfl⟩:=he
 obtain ⟨lid,c7,o7,c8,o8,y,g7,g8,he⟩:=M.bind_inv g6
 simp only [Prod.mk.injEq] at he
 obtain ⟨rfl,rfl,rfl⟩:=he
 simp only [newId,Option.some.injEq,Prod.mk.injEq] at g7
 obtain ⟨hlid,hc7,rfl⟩:=g7
 obtain ⟨O,c9,o9,c10,o10,y,g9,g10,he⟩:=M.bind_inv g8
 simp only [Prod.mk.injEq] at he
 obtain ⟨rfl,rfl,rfl⟩:=he
 obtain ⟨σ,c11,o11,c12,o12,y,g11,g12,he⟩:=M.bind_inv g10
 simp only [Prod.mk.injEq] at he
 obtain ⟨rfl,rfl,rfl⟩:=he
 obtain ⟨g9,le9⟩:=mono_inv g9
 obtain ⟨g11,le11⟩:=mono_inv g11
 obtain ⟨g12,le12⟩:=mono_inv g12
 simp only at le9 le11 le12
 simp only [Good.append] at hg
 obtain ⟨_,_,_,_,hg9,hg11,hg12⟩:=hg
 split at hjl
 rotate_left
 ·cases hjl
 rename_i hjok
 obtain ⟨fn,body⟩:=fb
 obtain ⟨hfn,hbody,hres,hname⟩:=rfFn_spec hfb
 obtain ⟨hyn,cc,hcc,hcf⟩:=rfG_spec hfv
 obtain ⟨gf,caps⟩:=fv
 have hvm:=asFn_mt hcf (mt_cell hcc (rs_mt (Γ:=[]) rfl (ev_mt hR g)))
 have hvm:fvMt β (some (gf,caps)) (a.eval g):=hvm
 obtain ⟨ws,hval,hcap⟩:=hvm
 rw [fvVal_ne hyn] at hval
 have hcall:=callable_of hfn hname (by rw [hbody]; rfl)
 rw [hrl]
 refine wpIn_rangeFunc (F:=Fence.wide) (n:=0) fun fnid _=>?_
 obtain ⟨rc,hrc⟩:∃ rc:Loop,rc = { state:=.ready,pending:=none,fn:=fnid,tmps:=a.tmps,params:=ps,assign:=asg,body:=bd,defers:=w.heap.size }:=⟨_,rfl⟩
 obtain ⟨W1,hW1⟩:∃ W1,W1 = (w.alloc (.deferred (some []))).alloc (.loop rc):=⟨_,rfl⟩
 have hsz1:W1.heap.size = w.heap.size + 2:=by rw [hW1]; simp
 have hL1:W1.heap[w.heap.size + 1]? = some (.loop rc):=by
  rw [hW1]; have:=World.alloc_heap_new (w.alloc (.deferred (some []))) (.loop rc); rwa [World.size_alloc] at this
 have hK1:W1.heap[w.heap.size]? = some (.deferred (some [])):=by
  rw [hW1]; exact (Go.RowKit.Below.heap_alloc _ _ _ (by simp)).trans (World.alloc_heap_new w _)
 have hkeep:Keep [] w W1:=by
  rw [hW1]
  exact (Keep.alloc [] w _).trans (Keep.alloc [] _ _) (fun r hr=>by cases hr)
 have hN:x.w0.heap.size <= w.heap.size:=hR.kp.size
 refine ⟨w.heap.size + 1,[{ target:=.collected w.heap.size,args:=#[] }],W1,{ target:=.fn (.func gf) ws.toArray,args:=#[.func (.yield (w.heap.size + 1)) #[] #[]] },W1,gf,
  #[.func (.yield (w.heap.size + 1)) #[] #[]] ++ ws.toArray,W1,?_,?_,fun _ _=>trivial,?_,fun hh=>(by cases hh),?_⟩
 ·rw [hW1,hrc]; exact run_enterLoop_outer _ _ _ _ _
 ·simp only [resolve,hval]
  simp [go_sem]
 ·simp [invoke,hcall]
 obtain ⟨q1,hq1⟩:∃ q1:Rg,q1 = { blk:=w.heap.size + 1,off:=0,len:=0,ro:=true }:=⟨_,rfl⟩
 obtain ⟨β1,hβ1⟩:∃ β1,β1 = β.set lid q1:=⟨_,rfl⟩
 have hfree:β lid = none:=by rw [<- hlid]; exact hF _ (Nat.le_refl _)
 have hext:∀ p,ExtP p β β1:=fun p=>by rw [hβ1]; exact Beta.set_ext p hfree
 have hbo1:BetaOk x.w0.heap.size x.R x.Q β1 W1:=by
  rw [hβ1]
  refine hR.bo.bind (W:=[]) (by simp) hkeep (fun j q _ _=>.inr ?_) (.inl (by rw [hq1])) (.inl (by rw [hq1])) (fun ks l he=>by rw [hq1] at he; cases he) (fun _=>.inl (by rw [hq1]; simp only; omega)) (fun he=>by rw [hq1] at he; cases he)
  unfold Rg.apart
  rw [hq1]
  simp
 obtain ⟨r,hr⟩:∃ r:LpRec,r = { l:=w.heap.size + 1,rc:=rc,jl:=jumpsOf bd }:=⟨_,rfl⟩
 obtain ⟨xc,hxc⟩:∃ xc:Cx,xc = { x with b0:=β1,lr:=some r,ds:=w.heap.size :: tgts a.defers }:=⟨_,rfl⟩
 obtain ⟨D,hD⟩:∃ D:RfD,D = { lid:=lid,T:=s.tm.map (SV.tj (knN x.gl.length s.hp)),ps:=ps.toList,asg:=asg,bd:=bd,jl:=jumpsOf bd }:=⟨_,rfl⟩
 rw [<- hD] at g9
 have hrco:RcOk xc D r:=by
  refine ⟨by rw [hxc],by rw [hr],by rw [hr,hD],by rw [hr,hrc,hD],by rw [hr,hrc,hD],by rw [hr,hrc,hD],by rw [hr,hrc,hD,List.length_map]; exact hR.size,fun β' ρ' hE t v hv=>?_,⟨q1,by rw [hxc,hD,hβ1]; exact Beta.set_same _ _ _,by rw [hq1],by rw [hq1,hr]⟩,by rw [hxc]; exact hrl⟩
  rw [hxc] at hE
  rw [hD] at hv
  simp only [List.getElem?_map,Option.map_eq_some_iff] at hv
  obtain ⟨u,hu,rfl⟩:=hv
  rw [hr,hrc]
  exact SV.tj_mt (knN_keep hR ((hext (fun _=>true)).ext.trans hE)) (hR.slot t u hu)
 have hwold:∀ k o,w.heap[k]? = some o -> W1.heap[k]? = some o:=fun k o hk=>by
  rw [hkeep.blk k (Array.getElem?_eq_some_iff.1 hk).1 (fun r hr=>by cases hr)]; exact hk
 have hRc:Rel xc ρ β1 (rfIn x.gl s fn lid caps) { tmps:=(#[Value.func (.yield (w.heap.size + 1)) #[] #[]] ++ ws.toArray) ++ Array.replicate (fn.ntmps - (#[Value.func (.yield (w.heap.size + 1)) #[] #[]] ++ ws.toArray).size) undef,defers:=[] } W1:=by
  have hcap1:capMt β1 caps ws:=tj_cap (p:=fun _=>true) (fun i r _ hi=>(hext (fun _=>true)) i r hi (.inr rfl)) (List.all_eq_true.2 fun _ _=>rfl) hcap
  have hms:mtAll β1 ρ (S.one false [.fn [] (some (yieldN,[(lid,0)]))] :: capS caps) (.func (.yield (w.heap.size + 1)) #[] #[] :: ws):=by
   refine ⟨⟨_,rfl,[.pointer (some ⟨w.heap.size + 1,0,none⟩)],?_,⟨q1,by rw [hβ1]; exact Beta.set_same _ _ _,by rw [hq1]; rfl⟩,trivial⟩,capS_mt hcap1⟩
   unfold fvVal
   rw [if_pos rfl]
  have hlen:=mtAll_len2 hms
  have hcl:caps.length + 1 = ws.length + 1:=by simpa [capS] using hlen
  have e:(#[Value.func (.yield (w.heap.size + 1)) #[] #[]] ++ ws.toArray) ++ Array.replicate (fn.ntmps - (#[Value.func (.yield (w.heap.size + 1)) #[] #[]] ++ ws.toArray).size) undef = ((Value.func (.yield (w.heap.size + 1)) #[] #[] :: ws) ++ List.replicate (fn.ntmps - (caps.length + 1)) undef).toArray:=by
   apply Array.toList_inj.1
   rw [hcl]
   simp [Nat.add_comm]
  refine ⟨?_,fun t v hv=>?_,⟨fun r' hr'=>?_,fun E hE=>?_,trivial,fun _=>rfl⟩,fun id b hb hbg=>?_,fun id b hb hbg=>?_,?_,?_,?_,?_,?_,?_⟩
  ·rw [e]
   simp [rfIn,capS,hcl]
   omega
  ·rw [e]
   have:=args_slots hms (show ((S.one false [.fn [] (some (yieldN,[(lid,0)]))] :: capS caps).map (fun s=>({ g:=[],s:=s }:SV)) ++ List.replicate (fn.ntmps - (caps.length + 1)) anySV)[t]? = some v from hv)
   simpa using this
  ·rw [hxc] at hr'
   simp only [Option.some.injEq] at hr'
   subst hr'
   rw [hxc,hr]
   refine ⟨by simp only; omega,?_⟩
   rw [hL1]
   unfold LpRec.at
   simp only [rfIn,B.d_c,if_true]
   rw [hrc]
  ·rw [hxc] at hE ⊢
   rcases List.mem_cons.1 hE with rfl | hE
   ·exact ⟨hN,hK1⟩
   ·obtain ⟨e1,e2⟩:=hR.df.ma.tgts E hE
    exact ⟨e1,hwold _ _ e2⟩
  ·exact blkMt_keep' (hext (fun _=>true)) hR.bo hkeep (fun r q hr=>by cases hr) (hR.hm id b hb hbg)
  ·have e:xc.gh = x.gh:=by rw [hxc]; rfl
   rw [e] at hb
   exact blkMt_keep' (hext (fun _=>true)) hR.bo hkeep (fun r q hr=>by cases hr) (hR.gm id b hb hbg)
  ·have e:xc.gh = x.gh:=by rw [hxc]; rfl
   rw [e]; exact hR.gro
  ·rw [hxc]; exact hbo1
  ·rw [hxc]; exact hR.kp.trans hkeep (fun r hr=>by cases hr)
  ·rw [hxc]; exact fun g vs hgv=>(hext (fun _=>false)).at (hR.gl g vs hgv) rfl
  ·rw [hxc]; exact fun j q hj=>⟨(hR.ra j q hj).1,(hext (fun _=>false)).at (hR.ra j q hj).2 (hR.ra j q hj).1⟩
  ·rw [hxc]; exact ExtP.refl _ _
 have hFc:Fresh β1 c7:=fun i hi=>by
  rw [<- hc7] at hi
  simp only at hi
  rw [hβ1,Beta.set_other _ _ (by omega)]
  exact hF i (by omega)
 have hxcG:xc.gl = x.gl:=by rw [hxc]
 have hGc:∀ w,Keep xc.R xc.w0 w -> Laid xc.gl w:=by rw [hxc]; exact hG
 have hHc:HOk P Φ xc.gl H:=by rw [hxcG]; exact hH
 have hgr:∀ kp:Kp,GrOk x kp -> GrOk xc kp:=fun kp hk=>by rw [hxc]; exact hk
 have hkeepc:GrOk xc { l:=keepOf fn,fz:=keep.fz }:=by
  refine hgr _ fun hf=>hx hf
 have hEc:EOk P Φ xc (yE P H x.gl kb keep D):=by
  have:=yE_ok (P:=P) (Φ:=Φ) (x:=xc) hHc hGc (hgr _ hxb) hLb hEb (hgr _ hx) hrco
  rwa [hxcG] at this
 have hLc:LoopsOk Φ (rfCtl P H x.gl kb keep D fn ll turns):=hLL
 have hex:CodeOk P Φ xc ρ body (exec P H xc.gh xc.ng (rfCtl P H x.gl kb keep D fn ll turns)  body):=exec_ok (x:=xc) hHc hGc (rfCtl P H x.gl kb keep D fn ll turns) hkeepc hLc hEc body ρ
 have hrun:=hex _ _ _ O _ (by rw [hxc]; exact g9) hg9 β1 _ W1 hRc hFc
  (bodyPostM Fence.wide 0 P fn (rangePost Fence.wide 0 P (w.heap.size + 1) Q { a with defers:=[{ target:=.collected w.heap.size,args:=#[] }] ++ a.defers })) fun e a' w' K hk hO=>?_
 ·refine callsIn_of_wp_marks hfn hbody trivial ?_ rfl
  rw [hxc] at hrun
  simp only [hrl] at hrun
  exact hrun
 ·obtain ⟨hKK,β',hE,hR',hF'⟩:=endSt_ok hkeepc g11 hg11 hO
  have hfin:LeavesInM Fence.wide 0 P fn a'.tmps (rangePost Fence.wide 0 P (w.heap.size + 1) Q { a with defers:=[{ target:=.collected w.heap.size,args:=#[] }] ++ a.defers }) a'.defers .returning w':=by
   have hd':a'.defers = []:=hR'.df.nm (by rw [hxc]; rfl)
   rw [hd']
   refine ⟨_,results_run (vs:=[]) (by rw [hres]; rfl),?_⟩
   obtain ⟨hNl,hrec⟩:=hR'.df.rc r (by rw [hxc])
   rw [hr] at hrec
   obtain ⟨lp,hlp⟩:∃ lp,lp = r.at (σ.js.b.d ρ) (σ.js.a.d ρ):=⟨_,rfl⟩
   have hrec:w'.heap[w.heap.size + 1]? = some (.loop lp):=by rw [hlp,hr]; exact hrec
   have hnb:lp.state ≠ .busy:=by
    rw [hlp,hr]
    unfold LpRec.at
    simp only
    split <;> simp
   have hlt:=(Array.getElem?_eq_some_iff.1 hrec).1
   refine ⟨_,_,run_endLoop (P:=P) hrec hnb,?_⟩
   have hc:=putObj_cell (o':=.loop { lp with state:=.exhausted }) hrec rfl rfl
   have hEE:Ext β β':=(hext (fun _=>true)).ext.trans hE
   have hRel:Rel x ρ β' (rfEnd x.gl s σ) { a with defers:=[{ target:=.collected w.heap.size,args:=#[] }] ++ a.defers } (w'.putObj (w.heap.size + 1) (.loop { lp with state:=.exhausted })):=by
    have hds':=hR'.df.ds
    have hopen:∀ E,E = w.heap.size \/ E ∈ tgts a.defers -> (w'.putObj (w.heap.size + 1) (.loop { lp with state:=.exhausted })).heap[E]? = some (.deferred (some [])):=fun E hE=>by
     obtain ⟨_,e2⟩:=hds' E (by rw [hxc]; simp only [List.mem_cons]; exact hE)
     exact (World.putObj_heap_other (fun e=>by subst e; rw [hrec] at e2; cases e2)).trans e2
    have e:x.gh = xc.gh:=by rw [hxc]; rfl
    refine ⟨by simp only [rfEnd,List.length_map]; exact hR.size,getD_map_jk (knN_mv hR hEE) hR.slot,⟨fun r' hr'=>(by rw [hlr] at hr'; cases hr'),fun E hE=>(by rw [hds] at hE; cases hE),?_,fun hh=>(by rw [hlr] at hh; cases hh)⟩,fun id b hb hbg=>blkMt_cells hc (hR'.hm id b hb hbg),by rw [e]; exact fun id b hb hbg=>blkMt_cells hc (hR'.gm id b hb hbg),by rw [e]; exact hR'.gro,?_,?_,?_,?_,?_⟩
    ·refine ⟨w.heap.size,rfl,hN,hopen _ (.inl rfl),hR.df.ma.notin fun E hE e=>?_,hR.df.ma.of fun E hE=>hopen E (.inr hE)⟩
     have:=(Array.getElem?_eq_some_iff.1 (hR.df.ma.tgts E hE).2).1
     omega
    ·have:=hR'.bo
     rw [hxc] at this
     exact betaOk_cells (fun a=>(hc a).1) (by rw [World.putObj_size]; exact Nat.le_refl _) this
    ·have:=hR'.kp
     rw [hxc] at this
     exact putObj_keep this (by omega) hrec rfl rfl
    ·have:=hR'.gl; rw [hxc] at this; exact this
    ·have:=hR'.ra; rw [hxc] at this; exact this
    ·have:=hR'.eb
     rw [hxc] at this
     have h1:ExtP (pOf s.rb) x.b0 β1:=fun i q hi hp=>(hext (fun _=>true)) i q (hR.eb i q hi hp) (.inr rfl)
     exact ExtP.uni h1 this
   obtain ⟨K',hK'⟩:∃ K',K' = if σ.js.b.d ρ then Kd.n else kdD (pickJ (jumpsOf bd) (σ.js.a.d ρ).toNat):=⟨_,rfl⟩
   obtain ⟨j1,q,j2⟩:=rfOuts_ok g12 hg12 hjok hK'
   have hout:OutMt x ρ β c' O' K' { a with defers:=[{ target:=.collected w.heap.size,args:=#[] }] ++ a.defers } (w'.putObj (w.heap.size + 1) (.loop { lp with state:=.exhausted })) :=
    ⟨j1,q,_,β',j2,hEE,hRel,hF'.le (by omega)⟩
   have hpend:lp.pending = if σ.js.b.d ρ then none else some (pickJ (jumpsOf bd) (σ.js.a.d ρ).toNat):=by
    rw [hlp,hr]
    unfold LpRec.at
    simp only
    split <;> rfl
   generalize (w'.putObj (w.heap.size + 1) (.loop { lp with state:=.exhausted })) = w4 at hout ⊢
   rw [hpend]
   cases hb:σ.js.b.d ρ with
   | true =>
    rw [hb,if_pos rfl] at hK'
    subst hK'
    exact hQ .normal _ _ .n rfl hout
   | false =>
    rw [hb] at hK'
    simp only [Bool.false_eq_true,if_false] at hK' ⊢
    obtain ⟨pc,hpc⟩:∃ pc,pc = pickJ (jumpsOf bd) (σ.js.a.d ρ).toNat:=⟨_,rfl⟩
    have hps:(kdJ pc).isSome = true:=by rw [hpc]; exact pickJ_some hjok
    rw [<- hpc] at hK' ⊢
    cases pc with
    | ret =>
     subst hK'
     exact wpIn_ret (hQ .ret _ _ _ rfl hout)
    | exit id =>
     subst hK'
     exact wpIn_exit (hQ (.exit id) _ _ _ rfl hout)
    | _=>simp [kdJ] at hps
  rcases hKK with rfl | rfl
  ·rw [kdOf_n hk]
   exact hfin
  ·cases e <;> simp only [kdOf,Option.some.injEq] at hk <;> (try (cases hk; done))
   exact hfin
theorem rfE_ok (hH:HOk P Φ x.gl H) (hG:∀ w,Keep x.R x.w0 w -> Laid x.gl w) {kb:Ctl} (hxb:GrOk x kb.keep) (hLb:LoopsOk Φ kb) (hEb:kb.E = {}) {keep:Kp} (hx:GrOk x keep) {ll:List (Nat × LAnn)} {turns:Nat} (hLL:∀ p,p ∈ ll -> Φ p.2.id = loopF (p.2.S.run Φ true) p.2.nI p.2.nB)
  (hrl:x.rl = none) (hlr:x.lr = none) (hds:x.ds = []):EOk P Φ x (rfE P H x.gl kb keep ll turns) :=
 ⟨fun ρ g ps asg bd=>rf_ok hH hG hxb hLb hEb hx hLL hrl hlr hds ρ g ps asg bd,fun ρ ops draw s m hm=>by cases hm⟩
end
def ctlB (fn:Func) (lb:List (Nat × LAnn)):Ctl:={ keep:={ l:=keepOf fn,fz:=true },turns:=400,ret:=[],base:=1000000000,loops:=lb }
def ctlR (P:Program) (H:Hnd) (gl:Gl) (fn:Func) (s:Sum) (lo lb ll:List (Nat × LAnn)):Ctl :=
 { ctlOf fn gl s with loops:=lo,E:=rfE P H gl (ctlB fn lb) { l:=List.replicate 1000 true,fz:=true } ll 400 }
theorem EAll.rf {P:Program} {Φ:Funs} {gl:Gl} {H:Hnd} (hH:HOk P Φ gl H) {fn:Func} {s:Sum} {lo lb ll:List (Nat × LAnn)} (hlb:∀ p,p ∈ lb -> Φ p.2.id = loopF (p.2.S.run Φ true) p.2.nI p.2.nB) (hll:∀ p,p ∈ ll -> Φ p.2.id = loopF (p.2.S.run Φ true) p.2.nI p.2.nB) :
  EAll P Φ gl (ctlR P H gl fn s lo lb ll):=fun x h1 h2 h3 h4 h5 h6=>by
 subst h1
 have hg:∀ kp:Kp,GrOk x kp:=fun kp _=>h5 rfl
 exact rfE_ok (kb:=ctlB fn lb) hH h6 (hg _) hlb rfl (hg _) hll h2 h3 h4
end Go.Proofs.YtfgbfdlacnihkaaGreatDoor.Sx
namespace Go.Proofs.YtfgbfdlacnihkaaGreatDoor.Sx
open Go

def Beta.cutF (β:Beta) (f:Nat -> Bool) (m:Nat) (p:List Rg):Beta:=fun i=>if f i then β i else if m <= i then p[i - m]? else none
theorem cutF_kn {β:Beta} {f:Nat -> Bool} {m:Nat} {p:List Rg} {i:Nat} {r:Rg} (hf:f i = true) (h:β i = some r):β.cutF f m p i = some r:=by
 unfold Beta.cutF; rw [if_pos hf]; exact h
def CutOk (f:Nat -> Bool) (m:Nat):Prop:=∀ i,m <= i -> f i = false
theorem cutF_pool {β:Beta} {f:Nat -> Bool} {m:Nat} (hm:CutOk f m) {r:Rg} {p:List Rg} (h:r ∈ p):∃ i,β.cutF f m p i = some r:=by
 obtain ⟨j,hj⟩:=List.mem_iff_getElem?.1 h
 exact ⟨m + j,by unfold Beta.cutF; rw [if_neg (by rw [hm _ (by omega)]; simp),if_pos (by omega),Nat.add_sub_cancel_left]; exact hj⟩
theorem cutF_inv {β:Beta} {f:Nat -> Bool} {m:Nat} {p:List Rg} {i:Nat} {r:Rg} (h:β.cutF f m p i = some r):(f i = true /\ β i = some r) \/ (m <= i /\ p[i - m]? = some r):=by
 unfold Beta.cutF at h
 split at h
 ·rename_i hf; exact .inl ⟨hf,h⟩
 ·split at h
  ·rename_i hm; exact .inr ⟨hm,h⟩
  ·cases h
theorem cutF_from {β:Beta} {f:Nat -> Bool} {m:Nat} {p:List Rg} (hsq:∀ i r,β i = some r -> r.sq.isSome = true -> r.ro = true /\ r.row = false) (hp:∀ r,r ∈ p -> ∃ i,β i = some r /\ r.sq.isSome = true) {i:Nat} {r:Rg} (h:β.cutF f m p i = some r) :
  ∃ i0,β i0 = some r /\ (i0 = i /\ f i = true \/ r.ro = true /\ r.row = false):=by
 rcases cutF_inv h with ⟨h1,h2⟩ | ⟨_,h2⟩
 ·exact ⟨i,h2,.inl ⟨rfl,h1⟩⟩
 ·obtain ⟨i0,e1,e2⟩:=hp r (List.mem_of_getElem? h2)
  exact ⟨i0,e1,.inr (hsq i0 r e1 e2)⟩
def okL (f:Nat -> Bool) (l:List C):Bool:=l.all fun c=>c.ids.all f
def okS (f:Nat -> Bool):S -> Bool
 | .one _ l=>okL f l
 | .tup l=>l.all fun p=>okL f p.2
 | .any=>true
def cnC:C -> Nat
 | .slx _ _ _=>1
 | .pxq _ _ _ _=>1
 | _=>0
def cnL:List C -> Nat
 | []=>0
 | c :: l=>cnC c + cnL l
def cnT:List (Bool × List C) -> Nat
 | []=>0
 | p :: l=>cnL p.2 + cnT l
def cnS:S -> Nat
 | .one _ l=>cnL l
 | .tup l=>cnT l
 | .any=>0
def cnXs:List S -> Nat
 | []=>0
 | s :: l=>cnS s + cnXs l
def cnHl:List (Nat × Blk) -> Nat
 | []=>0
 | p :: l=>cnL p.2.cells + cnHl l
section
variable {f:Nat -> Bool} {m:Nat} {β:Beta} {ρ:Env} (hm:CutOk f m)
theorem cutF_cap {p:List Rg}:∀ {l:List (Nat × Nat)} {vs:List Value},(l.map (·.1)).all f = true -> capMt β l vs -> capMt (β.cutF f m p) l vs
 | [],[],_,_=>trivial
 | q :: l,v :: vs,h,⟨⟨r,hr,hv⟩,h2⟩=>by
  simp only [List.map_cons,List.all_cons,Bool.and_eq_true] at h
  exact ⟨⟨r,cutF_kn h.1 hr,hv⟩,cutF_cap h.2 h2⟩
 | [],_ :: _,_,h=>h.elim
 | _ :: _,[],_,h=>h.elim
include hm
theorem cutF_C {c:C} {v:Value} (hc:c.ids.all f = true) (h:c.mt β ρ v):Pool β (cnC c) fun p=>c.mt (β.cutF f m p) ρ v:=by
 cases c with
 | ptr l id off =>
  obtain ⟨r,hr,hv⟩:=h
  refine Pool.triv fun p=>⟨r,cutF_kn ?_ hr,hv⟩
  simp only [C.ids,List.all_cons,Bool.and_eq_true] at hc
  rcases pick_mem (ρ:=ρ) id off l with e | e
  ·rw [e]; exact hc.1
  ·exact List.all_eq_true.1 hc.2 _ e
 | pix id off s len a k=>obtain ⟨h1,h2,r,hr,hv⟩:=h; exact Pool.triv fun p=>⟨h1,h2,r,cutF_kn (by simpa [C.ids] using hc) hr,hv⟩
 | sli id off len cap=>obtain ⟨r,hr,hv⟩:=h; exact Pool.triv fun p=>⟨r,cutF_kn (by simpa [C.ids] using hc) hr,hv⟩
 | slx ks q len =>
  obtain ⟨h1,h2,p,cap,hv,hcap,h3⟩:=h
  rcases h3 with h3 | ⟨i,r,o,l,hr,hs,h4⟩
  ·exact Pool.triv fun p'=>⟨h1,h2,p,cap,hv,hcap,.inl h3⟩
  ·refine ⟨[r],by simp [cnC],fun r' hr'=>?_,fun p' hp=>?_⟩
   ·rw [List.mem_singleton.1 hr']
    exact ⟨i,hr,by obtain ⟨L,j,e,_⟩:=hs; rw [e]; rfl⟩
   ·obtain ⟨i',hi'⟩:=cutF_pool (β:=β) hm (hp r (by simp))
    exact ⟨h1,h2,p,cap,hv,hcap,.inr ⟨i',r,o,l,hi',hs,h4⟩⟩
 | pxq ks q a k =>
  obtain ⟨h1,i,r,o,l,hr,hs,h2⟩:=h
  refine ⟨[r],by simp [cnC],fun r' hr'=>?_,fun p' hp=>?_⟩
  ·rw [List.mem_singleton.1 hr']
   exact ⟨i,hr,by obtain ⟨L,j,e,_⟩:=hs; rw [e]; rfl⟩
  ·obtain ⟨i',hi'⟩:=cutF_pool (β:=β) hm (hp r (by simp))
   exact ⟨h1,i',r,o,l,hi',hs,h2⟩
 | slm id ks=>obtain ⟨r,cap,q,hr,h2⟩:=h; exact Pool.triv fun p=>⟨r,cap,q,cutF_kn (by simpa [C.ids] using hc) hr,h2⟩
 | pxm id ks a k=>obtain ⟨h1,r,hr,h2⟩:=h; exact Pool.triv fun p=>⟨h1,r,cutF_kn (by simpa [C.ids] using hc) hr,h2⟩
 | fn l d =>
  have hpf:=pickF_ids (ρ:=ρ) hc
  have h:fvMt β (pickF ρ l d) v:=h
  refine Pool.triv fun p=>?_
  show fvMt (β.cutF f m p) (pickF ρ l d) v
  unfold fvMt at *
  cases hd:pickF ρ l d with
  | none=>rw [hd] at h; exact h
  | some q =>
   rw [hd] at h hpf
   obtain ⟨vs,h1,h2⟩:=h
   exact ⟨vs,h1,cutF_cap hpf h2⟩
 | mp id=>obtain ⟨r,hr,hv⟩:=h; exact Pool.triv fun p=>⟨r,cutF_kn (by simpa [C.ids] using hc) hr,hv⟩
 | vec=>exact h.elim
 | int=>exact Pool.triv fun p=>h
 | bool=>exact Pool.triv fun p=>h
 | emp=>exact Pool.triv fun p=>h
 | val=>exact Pool.triv fun p=>h
 | junk=>exact Pool.triv fun p=>h
 | str=>exact Pool.triv fun p=>h
theorem cutF_L:∀ {l:List C} {vs:List Value},okL f l = true -> mtL β ρ l vs -> Pool β (cnL l) fun p=>mtL (β.cutF f m p) ρ l vs
 | [],[],_,_=>Pool.triv fun _=>trivial
 | c :: l,v :: vs,hc,⟨h1,h2⟩=>by
  simp only [okL,List.all_cons,Bool.and_eq_true] at hc
  exact (cutF_C hm hc.1 h1).and (cutF_L hc.2 h2)
 | [],_ :: _,_,h=>h.elim
 | _ :: _,[],_,h=>h.elim
theorem cutF_cells {w:World} {b:Nat}:∀ {l:List C} {o:Nat},okL f l = true -> cellsAt β ρ w b o l -> Pool β (cnL l) fun p=>cellsAt (β.cutF f m p) ρ w b o l
 | [],_,_,_=>Pool.triv fun _=>trivial
 | c :: l,o,hc,⟨⟨v,hv,h1⟩,h2⟩=>by
  simp only [okL,List.all_cons,Bool.and_eq_true] at hc
  exact ((cutF_C hm hc.1 h1).imp (Nat.le_refl _) fun p h=>⟨v,hv,h⟩).and (cutF_cells hc.2 h2)
theorem cutF_1 {agg:Bool} {l:List C} {v:Value} (hc:okL f l = true) (h:mt1 β ρ agg l v):Pool β (cnL l) fun p=>mt1 (β.cutF f m p) ρ agg l v:=by
 unfold mt1 at *
 cases agg
 ·obtain ⟨c,rfl,h⟩:=h
  simp only [okL,List.all_cons,List.all_nil,Bool.and_true] at hc
  exact (cutF_C hm hc h).imp (Nat.le_refl _) fun p h=>⟨c,rfl,h⟩
 ·obtain ⟨vs,rfl,h⟩:=h
  exact (cutF_L hm hc h).imp (Nat.le_refl _) fun p h=>⟨vs,rfl,h⟩
theorem cutF_T:∀ {l:List (Bool × List C)} {vs:List Value},(l.all fun p=>okL f p.2) = true -> mtT β ρ l vs -> Pool β (cnT l) fun p=>mtT (β.cutF f m p) ρ l vs
 | [],[],_,_=>Pool.triv fun _=>trivial
 | p :: l,v :: vs,hc,⟨h1,h2⟩=>by
  simp only [List.all_cons,Bool.and_eq_true] at hc
  exact (cutF_1 hm hc.1 h1).and (cutF_T hc.2 h2)
 | [],_ :: _,_,h=>h.elim
 | _ :: _,[],_,h=>h.elim
theorem cutF_S {s:S} {v:Value} (hc:okS f s = true) (h:s.mt β ρ v):Pool β (cnS s) fun p=>s.mt (β.cutF f m p) ρ v:=by
 cases s with
 | one agg l=>exact cutF_1 hm hc h
 | tup l=>obtain ⟨vs,h1,h2⟩:=h; exact (cutF_T hm hc h2).imp (Nat.le_refl _) fun p h=>⟨vs,h1,h⟩
 | any=>exact Pool.triv fun _=>trivial
theorem cutF_All:∀ {xs:List S} {vs:List Value},xs.all (okS f) = true -> mtAll β ρ xs vs -> Pool β (cnXs xs) fun p=>mtAll (β.cutF f m p) ρ xs vs
 | [],[],_,_=>Pool.triv fun _=>trivial
 | x :: xs,v :: vs,hc,⟨h1,h2⟩=>by
  simp only [List.all_cons,Bool.and_eq_true] at hc
  exact (cutF_S hm hc.1 h1).and (cutF_All hc.2 h2)
 | [],_ :: _,_,h=>h.elim
 | _ :: _,[],_,h=>h.elim
theorem cutF_blk {w:World} {id:Nat} {b:Blk} (hi:f id = true) (hc:okL f b.cells = true) (h:blkMt β ρ w id b):Pool β (cnL b.cells) fun p=>blkMt (β.cutF f m p) ρ w id b:=by
 cases hv:vecOf b.cells with
 | none =>
  obtain ⟨r,hr,h0,hl,hro,hcs,hf⟩:=(blkMt_cs hv).1 h
  exact (cutF_cells hm hc hcs).imp (Nat.le_refl _) fun p hp=>(blkMt_cs hv).2 ⟨r,cutF_kn hi hr,h0,hl,hro,hp,hf⟩
 | some y =>
  obtain ⟨h0,r,cap,l,hr,hh⟩:=(blkMt_row hv).1 h
  exact Pool.triv fun p=>(blkMt_row hv).2 ⟨h0,r,cap,l,cutF_kn hi hr,hh⟩
theorem cutF_hl {w:World}:∀ {l:List (Nat × Blk)},(∀ q,q ∈ l -> f q.1 = true /\ okL f q.2.cells = true /\ blkMt β ρ w q.1 q.2) -> Pool β (cnHl l) fun p=>∀ q,q ∈ l -> blkMt (β.cutF f m p) ρ w q.1 q.2
 | [],_=>Pool.triv fun p q h=>by cases h
 | u :: l,hc=>by
  obtain ⟨h1,h2,h3⟩:=hc u (by simp)
  refine ((cutF_blk hm h1 h2 h3).and (cutF_hl (w:=w) fun q hq=>hc q (by simp [hq]))).imp (Nat.le_refl _) fun p h q hq=>?_
  rcases List.mem_cons.1 hq with rfl | hq
  ·exact h.1
  ·exact h.2 q hq
end

def argIds:List S -> List Nat
 | []=>[]
 | x :: xs=>sIds x ++ argIds xs
def calleeHp (ng lo:Nat) (Γ:Gd) (hp:Hp):List Nat -> Hl
 | []=>[]
 | i :: l=>if Nat.blt i ng || !(Nat.blt i lo) then calleeHp ng lo Γ hp l else match hp i with
  | some b=>if Gd.sub b.g Γ && !b.cells.isEmpty then (i,{ g:=[],ro:=b.ro,cells:=b.cells }) :: calleeHp ng lo Γ hp l else calleeHp ng lo Γ hp l
  | none=>calleeHp ng lo Γ hp l
theorem calleeHp_spec {ng lo:Nat} {Γ:Gd} {hp:Hp}:∀ {l:List Nat} {i:Nat} {b:Blk},hpOf (calleeHp ng lo Γ hp l) i = some b -> ng <= i /\ i < lo /\ b.g = [] /\ b.cells ≠ [] /\ ∃ b',hp i = some b' /\ Gd.sub b'.g Γ = true /\ b.ro = b'.ro /\ b.cells = b'.cells
 | [],i,b,h=>by simp [calleeHp,hpOf] at h
 | j :: l,i,b,h=>by
  unfold calleeHp at h
  split at h
  ·exact calleeHp_spec h
  ·rename_i hj
   simp only [Bool.or_eq_true,Nat.blt_eq,Bool.not_eq_true',not_or,Bool.not_eq_false,Nat.not_lt] at hj
   split at h
   ·rename_i b' hb'
    split at h
    ·rename_i hc
     simp only [Bool.and_eq_true,Bool.not_eq_true',List.isEmpty_eq_false_iff] at hc
     unfold hpOf at h
     split at h
     ·rename_i he
      simp only [beq_iff_eq] at he
      simp only [Option.some.injEq] at h
      subst he; subst h
      exact ⟨hj.1,hj.2,rfl,hc.2,b',hb',hc.1,rfl,rfl⟩
     ·exact calleeHp_spec h
    ·exact calleeHp_spec h
   ·exact calleeHp_spec h
def hasB (h:Hl) (i:Nat):Bool:=match hpOf h i with | some _=>true | none=>false
def outOld (h:Hl):Hl -> Option (List (Nat × Blk))
 | []=>some []
 | (i,b) :: l=>match outOld h l with
  | none=>none
  | some r=>if b.ro then some r else match hpOf h i with
   | some b'=>if b'.g.isEmpty && !b'.ro then some ((i,b') :: r) else none
   | none=>none
def isNewB (lo:Nat) (b:Blk) (i:Nat):Bool:=Nat.ble lo i && b.g.isEmpty && !b.ro
def outNew (lo:Nat) (h:Hl):List Nat -> List (Nat × Blk)
 | []=>[]
 | i :: l=>match hpOf h i with
  | some b=>if isNewB lo b i then (i,b) :: outNew lo h l else outNew lo h l
  | none=>outNew lo h l
def knNew (lo:Nat) (h:Hl) (i:Nat):Bool:=match hpOf h i with | some b=>isNewB lo b i | none=>false
def tupOf:List S -> Option (List (Bool × List C))
 | []=>some []
 | .one agg l :: r=>(tupOf r).map ((agg,l) :: ·)
 | _=>none
def tupS:List S -> Option S
 | [s]=>some s
 | l=>(tupOf l).map S.tup
theorem tupOf_mt {β:Beta} {ρ:Env}:∀ {l:List S} {r:List (Bool × List C)} {vs:List Value},tupOf l = some r -> mtAll β ρ l vs -> mtT β ρ r vs
 | [],r,vs,h,hm=>by
  simp only [tupOf,Option.some.injEq] at h
  subst h
  cases vs with
  | nil=>trivial
  | cons _ _=>exact hm.elim
 | .one agg l :: r,q,vs,h,hm=>by
  unfold tupOf at h
  cases hr:tupOf r with
  | none=>rw [hr] at h; simp at h
  | some t =>
   rw [hr] at h
   simp only [Option.map_some,Option.some.injEq] at h
   subst h
   cases vs with
   | nil=>exact hm.elim
   | cons v vs=>exact ⟨hm.1,tupOf_mt hr hm.2⟩
 | .tup _ :: _,_,_,h,_=>by simp [tupOf] at h
 | .any :: _,_,_,h,_=>by simp [tupOf] at h
theorem tupS_mt {β:Beta} {ρ:Env} {l:List S} {s:S} {vs:List Value} (h:tupS l = some s) (hm:mtAll β ρ l vs):s.mt β ρ (tupV vs):=by
 unfold tupS at h
 split at h
 ·rename_i s'
  simp only [Option.some.injEq] at h
  subst h
  match vs,hm with
  | [v],⟨h1,_⟩=>exact h1
 ·rename_i hne
  cases ht:tupOf l with
  | none=>rw [ht] at h; simp at h
  | some t =>
   rw [ht] at h
   simp only [Option.map_some,Option.some.injEq] at h
   subst h
   have:=tupOf_mt ht hm
   match vs,hm with
   | [],_=>exact ⟨_,rfl,this⟩
   | [v],hm =>
    match l,hm,hne with
    | [s],_,hne=>exact (hne s rfl).elim
   | v :: u :: vs,_=>exact ⟨_,rfl,this⟩

def knOf (ng:Nat) (hl:Hl) (i:Nat):Bool:=Nat.blt i ng || hasB hl i
def knEnd (ng lo mid:Nat) (hl h:Hl) (i:Nat):Bool:=Nat.blt i mid && (knOf ng hl i || knNew lo h i)
def inlOk (ng lo:Nat) (hl:Hl) (xs:List S):Bool :=
 Nat.ble ng lo && xs.all (okS (knOf ng hl)) && hl.all fun p=>okL (knOf ng hl) p.2.cells
def inlW (lo:Nat) (h:Hl) (old:List (Nat × Blk)):List (Nat × Blk):=old ++ outNew lo h (dedupN (h.map (·.1)))
def inlE (ng lo mid:Nat) (hl h:Hl) (s:S) (w:List (Nat × Blk)):Bool :=
 okS (knEnd ng lo mid hl h) s && w.all fun p=>knEnd ng lo mid hl h p.1 && okL (knEnd ng lo mid hl h) p.2.cells
def isVecH (hl:Hl) (i:Nat):Bool:=match hpOf hl i with | some b=>(vecOf b.cells).isSome | none=>false
def rowsIn (hl:Hl):Bool:=hl.any fun p=>isVecH hl p.1
def rbIn (hl:Hl) (rb:List Nat):List Nat:=(hl.map (·.1)).filter fun i=>isVecH hl i && rb.contains i
def ctlH (k:Ctl) (lo:Nat) (hl:Hl):Ctl:={ k with base:=lo,keep:={ k.keep with fz:=k.keep.fz && !rowsIn hl } }
def inlSt (fn:Func) (xs:List S) (hl:Hl):St:={ tm:=xs.map (fun s=>{ g:=[],s:=s }) ++ List.replicate (fn.ntmps - xs.length) anySV,hp:=hl }
def inlB (P:Program) (H:Hnd) (gl:Gl) (k:Ctl) (fn:Func) (xs:List S) (lo:Nat) (body:Code) (hl:Hl):M Res :=
 if inlOk gl.length lo hl xs then do
  let _ <- newIds (cnXs xs + cnHl hl)
  let O <- M.mono (exec P H (ghOf gl 0) gl.length (ctlH k lo hl) body (inlSt fn xs hl))
  let σ <- M.mono (endSt (ctlH k lo hl).keep O)
  let rs <- M.mono (rAll P (ghOf gl 0) gl.length σ fn.results.toList)
  let s <- lift (tupS rs)
  let old <- lift (outOld σ.hp hl)
  let mid <- getId
  let _ <- newIds (cnS s + cnHl (inlW lo σ.hp old))
  if inlE gl.length lo mid hl σ.hp s (inlW lo σ.hp old) then pure { s:=s,w:=inlW lo σ.hp old,rb:=rbIn hl σ.rb } else M.fail
 else M.fail
def inlM (P:Program) (H:Hnd) (gl:Gl) (k:Ctl) (fn:Func) (Γ:Gd) (hp:Hp) (xs:List S):M Res:=do
 let lo <- getId
 let body <- lift fn.body
 inlB P H gl k fn xs lo body (calleeHp gl.length lo Γ hp (dedupN (reachH hp 3 (argIds xs))))
end Go.Proofs.YtfgbfdlacnihkaaGreatDoor.Sx
namespace Go.Proofs.YtfgbfdlacnihkaaGreatDoor.Sx
open Go

theorem hasB_some {h:Hl} {i:Nat}:hasB h i = true ↔ ∃ b,hpOf h i = some b:=by
 unfold hasB
 cases hpOf h i <;> simp
theorem outOld_spec {h:Hl}:∀ {l:Hl} {r:List (Nat × Blk)},outOld h l = some r -> (∀ p,p ∈ r -> hpOf h p.1 = some p.2 /\ p.2.g = [] /\ p.2.ro = false /\ p.1 ∈ l.map (·.1)) /\ ∀ i b,(i,b) ∈ l -> b.ro = false -> i ∈ r.map (·.1)
 | [],r,e=>by
  simp only [outOld,Option.some.injEq] at e
  subst e
  exact ⟨fun p hp=>(by cases hp),fun i b hb=>(by cases hb)⟩
 | (j,b0) :: l,r,e=>by
  unfold outOld at e
  split at e
  ·cases e
  ·rename_i r' hr'
   obtain ⟨h1,h2⟩:=outOld_spec hr'
   split at e
   ·rename_i hro
    simp only [Option.some.injEq] at e
    subst e
    refine ⟨fun p hp=>?_,fun i b hb hbr=>?_⟩
    ·obtain ⟨a1,a2,a3,a4⟩:=h1 p hp
     exact ⟨a1,a2,a3,by simp only [List.map_cons,List.mem_cons]; exact .inr a4⟩
    ·rcases List.mem_cons.1 hb with e | hb
     ·cases e; rw [hro] at hbr; cases hbr
     ·exact h2 i b hb hbr
   ·split at e
    ·rename_i b' hb'
     split at e
     ·rename_i hc
      simp only [Bool.and_eq_true,List.isEmpty_iff,Bool.not_eq_true'] at hc
      simp only [Option.some.injEq] at e
      subst e
      refine ⟨fun p hp=>?_,fun i b hb hbr=>?_⟩
      ·rcases List.mem_cons.1 hp with rfl | hp
       ·exact ⟨hb',hc.1,hc.2,by simp⟩
       ·obtain ⟨a1,a2,a3,a4⟩:=h1 p hp
        exact ⟨a1,a2,a3,by simp only [List.map_cons,List.mem_cons]; exact .inr a4⟩
      ·rcases List.mem_cons.1 hb with e | hb
       ·cases e; simp
       ·simp only [List.map_cons,List.mem_cons]; exact .inr (h2 i b hb hbr)
     ·cases e
    ·cases e
theorem isNewB_spec {lo:Nat} {b:Blk} {i:Nat} (h:isNewB lo b i = true):lo <= i /\ b.g = [] /\ b.ro = false:=by
 unfold isNewB at h
 simp only [Bool.and_eq_true,Nat.ble_eq,List.isEmpty_iff,Bool.not_eq_true'] at h
 exact ⟨h.1.1,h.1.2,h.2⟩
theorem outNew_spec {lo:Nat} {h:Hl}:∀ {l:List Nat} {p:Nat × Blk},p ∈ outNew lo h l -> hpOf h p.1 = some p.2 /\ lo <= p.1 /\ p.2.g = [] /\ p.2.ro = false
 | [],p,hp=>by cases hp
 | i :: l,p,hp=>by
  unfold outNew at hp
  split at hp
  ·rename_i b hb
   split at hp
   ·rename_i hc
    rcases List.mem_cons.1 hp with rfl | hp
    ·obtain ⟨h1,h2,h3⟩:=isNewB_spec hc
     exact ⟨hb,h1,h2,h3⟩
    ·exact outNew_spec hp
   ·exact outNew_spec hp
  ·exact outNew_spec hp
theorem mtAll_len {β:Beta} {ρ:Env}:∀ {xs:List S} {vs:List Value},mtAll β ρ xs vs -> xs.length = vs.length
 | [],[],_=>rfl
 | _ :: _,_ :: _,h=>by simp [mtAll_len h.2]
def rg0:Rg:={ blk:=0,off:=0,len:=0,ro:=true }
def wrIds (hl:Hl):List Nat:=(hl.map (·.1)).filter fun i=>match hpOf hl i with | some b=>!b.ro | none=>false
theorem wrIds_mem {hl:Hl} {i:Nat}:i ∈ wrIds hl ↔ ∃ b,hpOf hl i = some b /\ b.ro = false:=by
 unfold wrIds
 rw [List.mem_filter]
 constructor
 ·rintro ⟨_,h⟩
  split at h
  ·rename_i b hb; exact ⟨b,hb,by simpa using h⟩
  ·cases h
 ·rintro ⟨b,hb,hro⟩
  exact ⟨List.mem_map.2 ⟨_,hpOf_mem' hb,rfl⟩,by rw [hb]; simp [hro]⟩
def wrRg (β:Beta) (hl:Hl):List Rg:=(wrIds hl).map fun i=>(β i).getD rg0
def wrIdsN (hl:Hl):List Nat:=(wrIds hl).filter fun i=>!isVecH hl i
def wrRgN (β:Beta) (hl:Hl):List Rg:=(wrIdsN hl).map fun i=>(β i).getD rg0
theorem wrIdsN_all {hl:Hl} (h:rowsIn hl = false):wrIdsN hl = wrIds hl:=by
 unfold wrIdsN
 rw [List.filter_eq_self]
 intro i hi
 cases hv:isVecH hl i with
 | false=>rfl
 | true =>
  obtain ⟨b,hb,_⟩:=wrIds_mem.1 hi
  unfold rowsIn at h
  rw [List.any_eq_false] at h
  exact absurd hv (h _ (hpOf_mem' hb))
theorem rbIn_mem {hl:Hl} {rb:List Nat} {i:Nat}:i ∈ rbIn hl rb ↔ isVecH hl i = true /\ i ∈ rb:=by
 unfold rbIn
 rw [List.mem_filter]
 simp only [Bool.and_eq_true,List.contains_iff_mem]
 refine ⟨fun h=>h.2,fun h=>⟨?_,h⟩⟩
 have h1:=h.1
 unfold isVecH at h1
 split at h1
 ·rename_i b hb; exact List.mem_map.2 ⟨_,hpOf_mem' hb,rfl⟩
 ·cases h1
def inCx (β:Beta) (gl:Gl) (w:World) (hl:Hl) (b0:Beta):Cx :=
 { w0:=w,R:=wrRg β hl,gl:=gl,gr:=wrRgN β hl,Q:=fun q=>∃ i0 r0,β i0 = some r0 /\ r0.ro = true /\ q.within r0,b0:=b0,gi:=fun j=>(wrIdsN hl).getD j 0 }
theorem cutF_bo {N:Nat} {R R2:List Rg} {Q:Rg -> Prop} {β:Beta} {w:World} {f:Nat -> Bool} {m:Nat} {p:List Rg} (hb:BetaOk N R Q β w) (hp:∀ r,r ∈ p -> ∃ i,β i = some r /\ r.sq.isSome = true) (hcov:∀ i r,f i = true -> β i = some r -> r.ro = false -> r ∈ R2) :
  BetaOk w.heap.size R2 (fun q=>∃ i0 r0,β i0 = some r0 /\ r0.ro = true /\ q.within r0) (β.cutF f m p) w:=by
 have hsq:∀ i r,β i = some r -> r.sq.isSome = true -> r.ro = true /\ r.row = false:=fun i r hi hs=>by
  obtain ⟨x,hx⟩:=Option.isSome_iff_exists.1 hs
  have:=hb.sq i r x.1 x.2 hi hx
  exact ⟨this.1,this.2.1⟩
 have key:∀ {i:Nat} {r:Rg},β.cutF f m p i = some r -> ∃ i0,β i0 = some r /\ (i0 = i /\ f i = true \/ r.ro = true /\ r.row = false):=fun h=>cutF_from hsq hp h
 refine ⟨fun i j r q hij hi hj=>?_,fun i r hi=>?_,fun i r hi=>?_,fun i r ks l hi hs=>?_,fun i r hi hro=>?_,fun r q hq hw=>?_,fun i r hi hrow=>?_⟩
 ·obtain ⟨i0,e1,e2⟩:=key hi
  obtain ⟨j0,e3,e4⟩:=key hj
  by_cases he:i0 = j0
  ·subst he
   rw [e1] at e3
   cases e3
   rcases e2 with e2 | e2
   ·rcases e4 with e4 | e4
    ·exact absurd (e2.1.symm.trans e4.1) hij
    ·exact .inl ⟨e4.1,e4.1⟩
   ·exact .inl ⟨e2.1,e2.1⟩
  ·exact hb.apart i0 j0 r q he e1 e3
 ·obtain ⟨i0,e1,_⟩:=key hi; exact hb.place i0 r e1
 ·obtain ⟨i0,e1,e2⟩:=key hi
  rcases e2 with e2 | e2
  ·cases hro:r.ro with
   | true=>exact .inl rfl
   | false=>exact .inr (.inr ⟨r,hcov i r e2.2 (by rw [<- e2.1]; exact e1) hro,rfl,Nat.le_refl _,Nat.le_refl _⟩)
  ·exact .inl e2.1
 ·obtain ⟨i0,e1,_⟩:=key hi; exact hb.sq i0 r ks l e1 hs
 ·obtain ⟨i0,e1,_⟩:=key hi; exact .inr ⟨i0,r,e1,hro,Rg.within_refl r⟩
 ·obtain ⟨i0,r0,e1,e2,e3⟩:=hq; exact ⟨i0,r0,e1,e2,Rg.within_trans hw e3⟩
 ·obtain ⟨i0,e1,_⟩:=key hi; exact hb.rw i0 r e1 hrow

section
variable {P:Program} {Φ:Funs} {gl:Gl}
theorem knOf_lt {lo:Nat} {Γ:Gd} {hp:Hp} {ids:List Nat} {hl:Hl} (hhl:hl = calleeHp gl.length lo Γ hp ids) (hlo:gl.length <= lo):CutOk (knOf gl.length hl) lo:=fun i hi=>by
 cases h:knOf gl.length hl i with
 | false=>rfl
 | true =>
  unfold knOf at h
  simp only [Bool.or_eq_true,Nat.blt_eq] at h
  rcases h with h | h
  ·omega
  ·obtain ⟨b,hb'⟩:=hasB_some.1 h
   rw [hhl] at hb'
   obtain ⟨_,h2,_⟩:=calleeHp_spec hb'
   omega
theorem inl_rel {Γ:Gd} {hp:Hp} {xs:List S} {ρ:Env} {N:Nat} {R:List Rg} {Q:Rg -> Prop} {β:Beta} {w:World} {vs:List Value} {lo:Nat} {ids:List Nat} {hl:Hl} (hhl:hl = calleeHp gl.length lo Γ hp ids) (hok:inlOk gl.length lo hl xs = true)
  (hΓ:Gd.d ρ Γ = true) (hm:mtAll β ρ xs vs) (hh:heapMt β ρ hp w) (hb:BetaOk N R Q β w) (hG:GB gl β w) (fn:Func) :
  ∃ p:List Rg,p.length <= cnXs xs + cnHl hl /\ Rel (inCx β gl w hl (β.cutF (knOf gl.length hl) lo p)) ρ (β.cutF (knOf gl.length hl) lo p) (inlSt fn xs hl) { tmps:=vs.toArray ++ Array.replicate (fn.ntmps - vs.toArray.size) undef,defers:=[] } w /\
   (∀ i b,hpOf hl i = some b -> ∃ r,β i = some r /\ β.cutF (knOf gl.length hl) lo p i = some r /\ r.ro = b.ro /\ r.row = isVecH hl i /\ i < lo /\ gl.length <= i /\ (r.len ≠ 0 -> ∃ j v,w.cell? ⟨r.blk,j,none⟩ = some v)):=by
 unfold inlOk at hok
 simp only [Bool.and_eq_true,Nat.ble_eq] at hok
 obtain ⟨⟨hlo,hxs⟩,hcs⟩:=hok
 have hcut:CutOk (knOf gl.length hl) lo:=knOf_lt hhl hlo
 have hblk:∀ i b,hpOf hl i = some b -> knOf gl.length hl i = true /\ okL (knOf gl.length hl) b.cells = true /\ blkMt β ρ w i b /\ ∃ r,β i = some r /\ r.ro = b.ro /\ r.row = isVecH hl i /\ i < lo /\ gl.length <= i /\ (r.len ≠ 0 -> ∃ j v,w.cell? ⟨r.blk,j,none⟩ = some v):=fun i b hi=>by
  have hi':=hi
  rw [hhl] at hi'
  obtain ⟨h1,h2,h3,h4,b',hb',hsub,hro,hc⟩:=calleeHp_spec hi'
  have hmb:=hh i b' hb' (Gd.sub_d hsub hΓ)
  have hcb:okL (knOf gl.length hl) b.cells = true:=by
   rw [List.all_eq_true] at hcs
   exact hcs _ (hpOf_mem' hi)
  cases hv:vecOf b'.cells with
  | none =>
   have h5:vecOf b.cells = none:=by rw [hc]; exact hv
   have h6:isVecH hl i = false:=by unfold isVecH; rw [hi]; simp only [h5]; rfl
   obtain ⟨r,hr,hrow,hl',hro',hca,hf⟩:=(blkMt_cs hv).1 hmb
   refine ⟨by unfold knOf; simp [hasB_some.2 ⟨b,hi⟩],hcb,(blkMt_cs h5).2 ⟨r,hr,hrow,by rw [hl',hc],by rw [hro',hro],by rw [hc]; exact hca,fun h0 j hj=>hf (by rw [<- hro]; exact h0) j (by rw [<- hc]; exact hj)⟩,r,hr,by rw [hro',hro],by rw [hrow,h6],h2,h1,fun _=>?_⟩
   rw [cellsAt_iff] at hca
   rw [hc] at h4
   obtain ⟨v,hv,_⟩:=hca 0 _ (List.getElem?_eq_getElem (List.length_pos_iff.2 h4))
   exact ⟨_,v,hv⟩
  | some y =>
   have h5:vecOf b.cells = some y:=by rw [hc]; exact hv
   have h6:isVecH hl i = true:=by unfold isVecH; rw [hi]; simp only [h5]; rfl
   obtain ⟨h0,hrm⟩:=(blkMt_row hv).1 hmb
   have hrm0:=hrm
   obtain ⟨r,cap,l,hr,hrow,hro',_,_,_,_,_,_,_,_,hcell⟩:=hrm
   refine ⟨by unfold knOf; simp [hasB_some.2 ⟨b,hi⟩],hcb,(blkMt_row h5).2 ⟨by rw [hro,h0],hrm0⟩,r,hr,by rw [hro',hro,h0],by rw [hrow,h6],h2,h1,fun hz=>?_⟩
   obtain ⟨⟨v,hv,_⟩,_⟩:=hcell 0 (by omega)
   exact ⟨_,v,hv⟩
 obtain ⟨hl1,hhl1⟩:∃ hl1,hl1 = ((hl.map (·.1)).filterMap fun i=>(hpOf hl i).map fun b=>(i,b)):=⟨_,rfl⟩
 have hmem:∀ q:Nat × Blk,hpOf hl q.1 = some q.2 -> q ∈ hl:=fun q hq=>hpOf_mem' hq
 have hpool:=(cutF_All hcut hxs hm).and (k:=cnXs xs) (l:=cnHl hl) (X:=fun p=>mtAll (β.cutF (knOf gl.length hl) lo p) ρ xs vs) (Y:=fun p=>∀ q,q ∈ hl -> hpOf hl q.1 = some q.2 -> blkMt (β.cutF (knOf gl.length hl) lo p) ρ w q.1 q.2) (by
  have key:∀ l:Hl,Pool β (cnHl l) fun p=>∀ q,q ∈ l -> hpOf hl q.1 = some q.2 -> blkMt (β.cutF (knOf gl.length hl) lo p) ρ w q.1 q.2:=by
   intro l
   induction l with
   | nil=>exact Pool.triv fun p q h=>by cases h
   | cons u l ih =>
    have h0:Pool β (cnL u.2.cells) fun p=>hpOf hl u.1 = some u.2 -> blkMt (β.cutF (knOf gl.length hl) lo p) ρ w u.1 u.2:=Pool.if fun h=>by
     obtain ⟨e1,e2,e3,_⟩:=hblk u.1 u.2 h
     exact cutF_blk hcut e1 e2 e3
    refine (h0.and ih).imp (Nat.le_refl _) fun p h q hq=>?_
    rcases List.mem_cons.1 hq with rfl | hq
    ·exact h.1
    ·exact h.2 q hq
  exact key hl)
 obtain ⟨p,hp1,hp2,hp3⟩:=hpool
 obtain ⟨hm',hh'⟩:=hp3 p fun _ h=>h
 have hkn:∀ i r,knOf gl.length hl i = true -> β i = some r -> β.cutF (knOf gl.length hl) lo p i = some r:=fun i r hk hi=>cutF_kn hk hi
 have hcov:∀ i r,knOf gl.length hl i = true -> β i = some r -> r.ro = false -> r ∈ wrRg β hl:=fun i r hk hi hro=>by
  unfold knOf at hk
  simp only [Bool.or_eq_true,Nat.blt_eq] at hk
  rcases hk with hk | hk
  ·have:=hG.2 i _ (List.getElem?_eq_getElem hk)
   rw [hi] at this
   simp only [Option.some.injEq] at this
   rw [this] at hro
   cases hro
  ·obtain ⟨b,hb'⟩:=hasB_some.1 hk
   obtain ⟨_,_,_,r',e1,e2,_⟩:=hblk i b hb'
   rw [hi] at e1
   cases e1
   unfold wrRg
   exact List.mem_map.2 ⟨i,wrIds_mem.2 ⟨b,hb',by rw [<- e2]; exact hro⟩,by rw [hi]; rfl⟩
 refine ⟨p,hp1,⟨?_,fun t v ht=>?_,Lk.nil rfl rfl _,fun i b hi _=>hh' (i,b) (hpOf_mem' hi) hi,?_,fun id b hb'=>?_,cutF_bo hb hp2 hcov,Keep.refl _ _,fun g us hg=>?_,fun j r hr=>?_,ExtP.refl _ _⟩,fun i b hi=>?_⟩
 ·simp [inlSt,mtAll_len hm]
 ·have key:∀ {xs:List S} {vs:List Value} {n:Nat} {t:Nat} {v:SV} {β:Beta},mtAll β ρ xs vs -> (xs.map (fun s=>({ g:=[],s:=s }:SV)) ++ List.replicate n anySV)[t]? = some v -> v.mt β ρ ((vs ++ List.replicate n undef).getD t undef):=by
   intro xs
   induction xs with
   | nil =>
    intro vs n t v β hm ht
    simp only [List.map_nil,List.nil_append,List.getElem?_replicate] at ht
    split at ht
    ·simp only [Option.some.injEq] at ht
     subst ht
     exact anySV_mt _
    ·cases ht
   | cons x xs ih =>
    intro vs n t v β hm ht
    cases vs with
    | nil=>exact hm.elim
    | cons u vs =>
     cases t with
     | zero =>
      simp at ht
      subst ht
      exact ⟨fun _=>by simpa using hm.1,fun h=>by cases h⟩
     | succ t =>
      have:=ih (vs:=vs) (n:=n) (t:=t) (v:=v) hm.2 (by simpa using ht)
      simpa using this
  have hlen:=mtAll_len hm
  have:=key hm' ht
  rw [hlen] at this
  rw [List.getD_eq_getElem?_getD] at this
  have e:(vs.toArray ++ Array.replicate (fn.ntmps - vs.toArray.size) undef).getD t undef = ((vs ++ List.replicate (fn.ntmps - vs.length) undef)[t]?).getD undef:=by
   have:(vs.toArray ++ Array.replicate (fn.ntmps - vs.toArray.size) undef) = (vs ++ List.replicate (fn.ntmps - vs.length) undef).toArray:=by
    apply Array.toList_inj.1; simp
   rw [this]
   simp
  rw [e]
  exact this
 ·intro id b hb' _
  obtain ⟨us,hus,_,rfl⟩:=ghOf_get hb'
  rw [Nat.sub_zero] at hus
  have hus:gl[id]? = some us:=hus
  have hlt:id < gl.length:=(List.getElem?_eq_some_iff.1 hus).1
  refine blkMt_mk ⟨_,hkn _ _ (by unfold knOf; simp [hlt]) (hG.2 id us hus),rfl,by simp [gRg],rfl,?_,fun h=>by cases h⟩
  rw [cellsAt_iff]
  intro j c hj
  rw [List.getElem?_map] at hj
  cases hu:us[j]? with
  | none=>rw [hu] at hj; simp at hj
  | some u =>
   rw [hu] at hj
   simp only [Option.map_some,Option.some.injEq] at hj
   subst hj
   have hl:=(hG.1 id us hus).2 j u hu
   exact ⟨u,by simpa [gRg] using hl.1,ofC_mt hl.2⟩
 ·obtain ⟨us,_,_,rfl⟩:=ghOf_get hb'
  rfl
 ·have hg:gl[g]? = some us:=hg
  have hlt:g < gl.length:=(List.getElem?_eq_some_iff.1 hg).1
  exact hkn _ _ (by unfold knOf; simp [hlt]) (hG.2 g us hg)
 ·have hr:(wrRgN β hl)[j]? = some r:=hr
  unfold wrRgN at hr
  rw [List.getElem?_map,Option.map_eq_some_iff] at hr
  obtain ⟨i,hi,rfl⟩:=hr
  have hmem':=List.mem_of_getElem? hi
  unfold wrIdsN at hmem'
  obtain ⟨hm1,hm2⟩:=List.mem_filter.1 hmem'
  obtain ⟨b,hb',hro⟩:=wrIds_mem.1 hm1
  obtain ⟨e0,_,_,r',e1,e2,e3,_⟩:=hblk i b hb'
  rw [e1]
  refine ⟨?_,?_⟩
  ·show r'.row = false
   rw [e3]; simpa using hm2
  show β.cutF (knOf gl.length hl) lo p ((wrIdsN hl).getD j 0) = some r'
  rw [List.getD_eq_getElem?_getD,hi]
  exact hkn _ _ e0 e1
 ·obtain ⟨e0,_,_,r',e1,e2,e3,e4,e5,e6⟩:=hblk i b hi
  exact ⟨r',e1,hkn _ _ e0 e1,e2,e3,e4,e5,e6⟩
def beOut (β δ:Beta) (lo hi:Nat) (rb:List Nat):Beta:=fun i=>if (lo <= i /\ i < hi) \/ i ∈ rb then δ i else β i
theorem beOut_old {β δ:Beta} {lo hi i:Nat} {rb:List Nat} (h:¬ ((lo <= i /\ i < hi) \/ i ∈ rb)):beOut β δ lo hi rb i = β i:=by unfold beOut; rw [if_neg h]
theorem beOut_new {β δ:Beta} {lo hi i:Nat} {rb:List Nat} (h:(lo <= i /\ i < hi) \/ i ∈ rb):beOut β δ lo hi rb i = δ i:=by unfold beOut; rw [if_pos h]
theorem inl_post {ρ:Env} {N:Nat} {R:List Rg} {Q:Rg -> Prop} {β γ β':Beta} {w w':World} {lo mid hi:Nat} {hl:Hl} {xs:List S} (hok:inlOk gl.length lo hl xs = true) {σ:St} {old:List (Nat × Blk)} (hold:outOld σ.hp hl = some old) {s:S} (hend:inlE gl.length lo mid hl σ.hp s (inlW lo σ.hp old) = true)
  {v:Value} (hs:s.mt β' ρ v) (hb:BetaOk N R Q β w) (hN:N <= w.heap.size) (hG:GB gl β w) (hfr:∀ i,lo <= i -> i < hi -> β i = none) (hlm:lo <= mid) (hmh:mid + (cnS s + cnHl (inlW lo σ.hp old)) <= hi)
  (hknown:∀ i b,hpOf hl i = some b -> ∃ r,β i = some r /\ γ i = some r /\ r.ro = b.ro /\ r.row = isVecH hl i /\ i < lo /\ gl.length <= i /\ (r.len ≠ 0 -> ∃ j v,w.cell? ⟨r.blk,j,none⟩ = some v))
  (hE:Ext γ β') {a:Act} (hrel:Rel (inCx β gl w hl γ) ρ β' σ a w') :
  RPost N R Q ρ β w lo hi { s:=s,w:=inlW lo σ.hp old,rb:=rbIn hl σ.rb } v w':=by
 unfold inlOk at hok
 simp only [Bool.and_eq_true,Nat.ble_eq] at hok
 obtain ⟨⟨hlo,_⟩,_⟩:=hok
 unfold inlE at hend
 simp only [Bool.and_eq_true] at hend
 obtain ⟨hend1,hend2⟩:=hend
 obtain ⟨ho1,ho2⟩:=outOld_spec hold
 have hcut:CutOk (knEnd gl.length lo mid hl σ.hp) mid:=fun i hi=>by
  have:Nat.blt i mid = false:=by
   cases h:Nat.blt i mid
   ·rfl
   ·rw [Nat.blt_eq] at h; omega
  unfold knEnd
  rw [this,Bool.false_and]
 have hW:∀ q,q ∈ inlW lo σ.hp old -> knEnd gl.length lo mid hl σ.hp q.1 = true /\ okL (knEnd gl.length lo mid hl σ.hp) q.2.cells = true /\ blkMt β' ρ w' q.1 q.2:=fun q hq=>by
  have h1:=(List.all_eq_true.1 hend2) q hq
  simp only [Bool.and_eq_true] at h1
  refine ⟨h1.1,h1.2,?_⟩
  simp only [inlW,List.mem_append] at hq
  rcases hq with hq | hq
  ·obtain ⟨a1,a2,_⟩:=ho1 q hq
   exact hrel.hm q.1 q.2 a1 (by rw [a2]; rfl)
  ·obtain ⟨a1,_,a3,_⟩:=outNew_spec hq
   exact hrel.hm q.1 q.2 a1 (by rw [a3]; rfl)
 obtain ⟨p,hp1,hp2,hp3⟩:=(cutF_S hcut hend1 hs).and (cutF_hl hcut (ρ:=ρ) hW)
 obtain ⟨hs',hW'⟩:=hp3 p fun _ h=>h
 obtain ⟨δ,hδ⟩:∃ δ,δ = β'.cutF (knEnd gl.length lo mid hl σ.hp) mid p:=⟨_,rfl⟩
 rw [<- hδ] at hs' hW'
 have hsqo:∀ i r,β' i = some r -> r.sq.isSome = true -> r.ro = true /\ r.row = false:=fun i r hi hs=>by
  obtain ⟨x,hx⟩:=Option.isSome_iff_exists.1 hs
  have:=hrel.bo.sq i r x.1 x.2 hi hx
  exact ⟨this.1,this.2.1⟩
 have hfrom:∀ {i:Nat} {r:Rg},δ i = some r -> ∃ i0,β' i0 = some r /\ (i0 = i /\ knEnd gl.length lo mid hl σ.hp i = true \/ r.ro = true /\ r.row = false):=fun h=>cutF_from hsqo hp2 (by rw [<- hδ]; exact h)
 obtain ⟨rb,hrb⟩:∃ rb,rb = rbIn hl σ.rb:=⟨_,rfl⟩
 rw [<- hrb]
 have hstay:∀ i b r,hpOf hl i = some b -> i ∉ rb -> β i = some r -> β' i = some r:=fun i b r hi' hn hr=>by
  obtain ⟨r',e1,e2,_,e3,_⟩:=hknown i b hi'
  rw [hr] at e1
  cases e1
  refine hrel.eb i r e2 ?_
  cases hv:isVecH hl i with
  | false=>exact .inl (by rw [e3,hv])
  | true =>
   right
   show (!σ.rb.contains i) = true
   cases hc:σ.rb.contains i with
   | false=>rfl
   | true=>exact absurd (rbIn_mem.2 ⟨hv,by simpa using hc⟩) (by rw [<- hrb]; exact hn)
 have hrbk:∀ i,i ∈ rb -> ∃ b r,hpOf hl i = some b /\ β i = some r /\ r.row = true /\ r.ro = false /\ b.ro = false /\ i < lo:=fun i hi'=>by
  rw [hrb] at hi'
  have hv:=(rbIn_mem.1 hi').1
  have hv':=hv
  unfold isVecH at hv'
  split at hv'
  ·rename_i b hb'
   obtain ⟨r',e1,_,e3,e4,e5,_⟩:=hknown i b hb'
   have e6:r'.row = true:=by rw [e4,hv]
   have e7:=hb.rw i r' e1 e6
   exact ⟨b,r',hb',e1,e6,e7,by rw [<- e3]; exact e7,e5⟩
  ·cases hv'
 have hsub:∀ i r,δ i = some r -> beOut β δ lo hi rb i = some r:=fun i r hi'=>by
  by_cases h:(lo <= i /\ i < hi) \/ i ∈ rb
  ·rw [beOut_new h]; exact hi'
  ·rw [beOut_old h]
   rw [hδ] at hi'
   rcases cutF_inv hi' with ⟨h1,h2⟩ | ⟨h1,h2⟩
   ·unfold knEnd at h1
    simp only [Bool.and_eq_true,Nat.blt_eq,Bool.or_eq_true] at h1
    have hlt:i < lo:=by
     rcases Nat.lt_or_ge i lo with h3 | h3
     ·exact h3
     ·exact absurd (.inl ⟨h3,by omega⟩) h
    rcases h1.2 with hk | hk
    ·unfold knOf at hk
     simp only [Bool.or_eq_true,Nat.blt_eq] at hk
     rcases hk with hk | hk
     ·have e1:=hrel.gl i _ (List.getElem?_eq_getElem hk)
      have e2:=hG.2 i _ (List.getElem?_eq_getElem hk)
      rw [h2] at e1
      rw [e2,e1]
     ·obtain ⟨b,hb'⟩:=hasB_some.1 hk
      obtain ⟨r',e1,_⟩:=hknown i b hb'
      have:=hstay i b r' hb' (fun h4=>h (.inr h4)) e1
      rw [h2] at this
      rw [e1]
      exact this.symm
    ·unfold knNew at hk
     split at hk
     ·obtain ⟨e1,_⟩:=isNewB_spec hk; omega
     ·cases hk
   ·have:=(List.getElem?_eq_some_iff.1 h2).1
    exact absurd (.inl ⟨by omega,by omega⟩) h
 have hmv:Mv (fun _=>true) δ (beOut β δ lo hi rb):=⟨fun i r hi' _=>hsub i r hi',fun i r hi' hs=>by
  obtain ⟨i0,e1,_⟩:=hfrom hi'
  exact hsqo i0 r e1 hs⟩
 have hsz:w.heap.size <= w'.heap.size:=hrel.kp.size
 have hR2:∀ r,r ∈ wrRg β hl -> ∃ i b,hpOf hl i = some b /\ β i = some r /\ r.ro = false /\ b.ro = false /\ i < lo /\ (r.len ≠ 0 -> ∃ j v,w.cell? ⟨r.blk,j,none⟩ = some v):=fun r hr=>by
  unfold wrRg at hr
  obtain ⟨i,hi',rfl⟩:=List.mem_map.1 hr
  obtain ⟨b,hb',hro⟩:=wrIds_mem.1 hi'
  obtain ⟨r',e1,e2,e3,e4,e5,e6,e7⟩:=hknown i b hb'
  rw [e1]
  exact ⟨i,b,hb',e1,by simpa [hro] using e3,hro,e5,e7⟩
 have hnew:∀ j q,β' j = some q -> w.heap.size <= q.blk \/ (q.ro = false /\ ∃ i0 q0,i0 < lo /\ β i0 = some q0 /\ (i0 ∉ rb -> β' i0 = some q0) /\ q0.ro = false /\ q0.blk = q.blk /\ q0.off <= q.off /\ q.off + q.len <= q0.off + q0.len) \/ (q.ro = true /\ ∃ i0 r0,β i0 = some r0 /\ r0.ro = true /\ q.within r0):=fun j q h3=>by
  cases hro:q.ro with
  | false =>
   rcases hrel.bo.may j q h3 with h | h
   ·rw [hro] at h; cases h
   ·rcases h with h | ⟨q0,hq0,e1,e2,e3⟩
    ·exact .inl h
    ·obtain ⟨i0,b0,g1,g2,g3,_,g4,_⟩:=hR2 q0 hq0
     exact .inr (.inl ⟨rfl,i0,q0,g4,g2,fun hn=>hstay i0 b0 q0 g1 hn g2,g3,e1,e2,e3⟩)
  | true =>
   rcases hrel.bo.rom j q h3 hro with h | h
   ·exact .inl h
   ·exact .inr (.inr ⟨rfl,h⟩)
 have hold_new:∀ i j r q,¬ ((lo <= i /\ i < hi) \/ i ∈ rb) -> ((lo <= j /\ j < hi) \/ j ∈ rb) -> β i = some r -> δ j = some q -> (r.ro = true /\ q.ro = true) \/ r.apart q:=fun i j r q h1 h2 h3 h4=>by
  obtain ⟨j0,k1,k2⟩:=hfrom h4
  rcases hnew j0 q k1 with h | ⟨h,i0,q0,e0,e1,e2,e3,e4,e5,e6⟩ | ⟨h,i0,r0,e1,e2,e3⟩
  ·right
   have:=hb.place i r h3
   unfold Rg.apart
   omega
  ·right
   have hj0:j0 = j:=by
    rcases k2 with k2 | k2
    ·exact k2.1
    ·rw [h] at k2; cases k2.1
   subst hj0
   by_cases hi0:i = i0
   ·subst hi0
    rw [h3] at e1
    cases e1
    exact hrel.bo.apartW (fun e=>h1 (by rw [e]; exact h2)) (e2 fun h4=>h1 (.inr h4)) k1 e3
   ·have:=Rg.apart_symm (hb.apartW (i:=i0) (j:=i) (fun e=>hi0 e.symm) e1 h3 e3)
    unfold Rg.apart at *
    omega
  ·cases hro:r.ro with
   | true=>exact .inl ⟨rfl,h⟩
   | false =>
    right
    have hne:i ≠ i0:=fun e=>by subst e; rw [h3] at e1; cases e1; rw [hro] at e2; cases e2
    exact Rg.apart_symm (Rg.within_apart e3 (Rg.apart_symm (hb.apartW hne h3 e1 hro)))
 have hb2:BetaOk N R Q β w':=hb.keep (W:=wrRg β hl) (fun r hr=>by obtain ⟨i,b,_,e2,e3,_⟩:=hR2 r hr; exact ⟨i,e2,e3⟩) hrel.kp
 refine ⟨beOut β δ lo hi rb,⟨fun i r hi' hp=>?_,⟨fun i j r q hij hi' hj=>?_,fun i r hi'=>?_,fun i r hi'=>?_,fun i r ks l hi' hsq=>?_,fun i r hi' hro=>?_,hb.qs,fun i r hi' hrow=>?_⟩,⟨_,fun r hr=>?_,hrel.kp.nz⟩,fun i hi' hn=>beOut_old (by rintro (h | h); omega; exact hn h),fun i hi'=>?_⟩,S.mt_mv hmv hs',fun q hq=>?_⟩
 ·by_cases h:(lo <= i /\ i < hi) \/ i ∈ rb
  ·rcases h with h | h
   ·rw [hfr i h.1 h.2] at hi'; cases hi'
   ·exfalso
    obtain ⟨b,r',_,e1,e2,_⟩:=hrbk i h
    rw [hi'] at e1
    cases e1
    rcases hp with hp | hp
    ·rw [e2] at hp; cases hp
    ·simp at hp; exact hp h
  ·rw [beOut_old h]; exact hi'
 ·by_cases h1:(lo <= i /\ i < hi) \/ i ∈ rb
  ·rw [beOut_new h1] at hi'
   by_cases h2:(lo <= j /\ j < hi) \/ j ∈ rb
   ·rw [beOut_new h2] at hj
    obtain ⟨i0,e1,e2⟩:=hfrom hi'
    obtain ⟨j0,e3,e4⟩:=hfrom hj
    by_cases he:i0 = j0
    ·subst he
     rw [e1] at e3
     cases e3
     rcases e2 with e2 | e2
     ·rcases e4 with e4 | e4
      ·exact absurd (e2.1.symm.trans e4.1) hij
      ·exact .inl ⟨e4.1,e4.1⟩
     ·exact .inl ⟨e2.1,e2.1⟩
    ·exact hrel.bo.apart i0 j0 r q he e1 e3
   ·rw [beOut_old h2] at hj
    exact (hold_new j i q r h2 h1 hj hi').imp (fun h=>⟨h.2,h.1⟩) Rg.apart_symm
  ·rw [beOut_old h1] at hi'
   by_cases h2:(lo <= j /\ j < hi) \/ j ∈ rb
   ·rw [beOut_new h2] at hj
    exact hold_new i j r q h1 h2 hi' hj
   ·rw [beOut_old h2] at hj
    exact hb.apart i j r q hij hi' hj
 ·by_cases h1:(lo <= i /\ i < hi) \/ i ∈ rb
  ·rw [beOut_new h1] at hi'
   obtain ⟨i0,e1,_⟩:=hfrom hi'
   exact hrel.bo.place i0 r e1
  ·rw [beOut_old h1] at hi'
   exact hb2.place i r hi'
 ·by_cases h1:(lo <= i /\ i < hi) \/ i ∈ rb
  ·rw [beOut_new h1] at hi'
   obtain ⟨j0,k1,_⟩:=hfrom hi'
   rcases hnew j0 r k1 with h | ⟨h,i0,q0,e0,e1,e2,e3,e4,e5,e6⟩ | ⟨h,_⟩
   ·exact .inr (.inl (by omega))
   ·rcases hb.may i0 q0 e1 with h | h
    ·rw [e3] at h; cases h
    ·right
     rcases h with h | ⟨q,hq,g1,g2,g3⟩
     ·exact .inl (by omega)
     ·exact .inr ⟨q,hq,by omega,by omega,by omega⟩
   ·exact .inl h
  ·rw [beOut_old h1] at hi'
   exact hb.may i r hi'
 ·by_cases h1:(lo <= i /\ i < hi) \/ i ∈ rb
  ·rw [beOut_new h1] at hi'
   obtain ⟨j0,k1,_⟩:=hfrom hi'
   exact hrel.bo.sq j0 r ks l k1 hsq
  ·rw [beOut_old h1] at hi'
   exact hb2.sq i r ks l hi' hsq
 ·by_cases h1:(lo <= i /\ i < hi) \/ i ∈ rb
  ·rw [beOut_new h1] at hi'
   obtain ⟨j0,k1,_⟩:=hfrom hi'
   rcases hnew j0 r k1 with h | ⟨h,_⟩ | ⟨_,i0,r0,e1,e2,e3⟩
   ·exact .inl (by omega)
   ·rw [hro] at h; cases h
   ·rcases hb.rom i0 r0 e1 e2 with h | h
    ·exact .inl (by rw [e3.1]; exact h)
    ·exact .inr (hb.qs r r0 h e3)
  ·rw [beOut_old h1] at hi'
   exact hb.rom i r hi' hro
 ·by_cases h1:(lo <= i /\ i < hi) \/ i ∈ rb
  ·rw [beOut_new h1] at hi'
   obtain ⟨j0,k1,_⟩:=hfrom hi'
   exact hrel.bo.rw j0 r k1 hrow
  ·rw [beOut_old h1] at hi'
   exact hb.rw i r hi' hrow
 ·obtain ⟨hr,hz⟩:=List.mem_filter.1 hr
  obtain ⟨i,b,e1,e2,e3,e4,_,e5⟩:=hR2 r hr
  refine ⟨i,?_,e2,e3,e5 (by simpa using hz)⟩
  have:=ho2 i b (hpOf_mem' e1) e4
  simp only [inlW,List.map_append,List.mem_append]
  exact .inl this
 ·obtain ⟨b,r,e1,e2,e3,_,e5,e6⟩:=hrbk i hi'
  refine ⟨?_,.inl e6,r,e2,e3⟩
  have:=ho2 i b (hpOf_mem' e1) e5
  simp only [inlW,List.map_append,List.mem_append]
  exact .inl this
 ·have:=blkMt_jk (w':=w') hmv (.inr rfl) (fun r _ j _=>⟨rfl,rfl⟩) (hW' q hq)
  rwa [Blk.jk_true] at this
theorem newIds_inv {k:Nat} {u:Unit} {c c':Ctr} {o:List Em} (h:newIds k c = some (u,c',o)):c'.id = c.id + k /\ o = []:=by
 simp only [newIds,Option.some.injEq,Prod.mk.injEq] at h
 obtain ⟨_,rfl,rfl⟩:=h
 exact ⟨rfl,rfl⟩
theorem inl_ok {H:Hnd} (hH:HOk P Φ gl H) {f:Nat} {fn:Func} (hf:P.funcs[f]? = some fn) (hn:(fn.name == "runtime.NumGoroutine") = false) {k:Ctl} (hK:LoopsOk Φ k) (hEA:∀ x:Cx,x.gl = gl -> x.rl = none -> x.lr = none -> x.ds = [] -> (∀ w,Keep x.R x.w0 w -> Laid gl w) -> EOk P Φ x k.E) {Γ:Gd} {hp:Hp} {xs:List S} {ρ:Env} {c c':Ctr} {res:Res} {out:List Em}
  (he:inlM P H gl k fn Γ hp xs c = some (res,c',out)) (hg:Good Φ ρ out) (hΓ:Gd.d ρ Γ = true) {N:Nat} {R:List Rg} {Q:Rg -> Prop} {β:Beta} {w:World} {vs:List Value} (hm:mtAll β ρ xs vs) (hh:heapMt β ρ hp w) (hb:BetaOk N R Q β w) (hN:N <= w.heap.size)
  (hG:GB gl β w) (hfr:∀ i,c.id <= i -> i < c'.id -> β i = none) :
  (∀ args w,(callFunc f args).run P w = .ok (.enter f args) w) /\ Calls P f vs.toArray w fun e w'=>∃ v,e = .returned v /\ RPost N R Q ρ β w c.id c'.id res v w':=by
 unfold inlM at he
 obtain ⟨lo,c1,o1,c2,o2,y,h1,h2,he⟩:=M.bind_inv he
 simp only [Prod.mk.injEq] at he
 obtain ⟨rfl,rfl,rfl⟩:=he
 simp only [getId,Option.some.injEq,Prod.mk.injEq] at h1
 obtain ⟨rfl,rfl,rfl⟩:=h1
 obtain ⟨body,c3,o3,c4,o4,y,h3,h4,he⟩:=M.bind_inv h2
 simp only [Prod.mk.injEq] at he
 obtain ⟨rfl,rfl,rfl⟩:=he
 obtain ⟨body',hbody,he⟩:=lift_inv h3
 simp only [Prod.mk.injEq] at he
 obtain ⟨rfl,rfl,rfl⟩:=he
 obtain ⟨hl,hhl⟩:∃ hl,hl = calleeHp gl.length c3.id Γ hp (dedupN (reachH hp 3 (argIds xs))):=⟨_,rfl⟩
 rw [<- hhl] at h4
 unfold inlB at h4
 split at h4
 ·rename_i hok
  obtain ⟨u0,c30,o30,c40,o40,y,hn0,h40,he⟩:=M.bind_inv h4
  simp only [Prod.mk.injEq] at he
  obtain ⟨rfl,rfl,rfl⟩:=he
  obtain ⟨O,c5,o5,c6,o6,y,h5,h6,he⟩:=M.bind_inv h40
  simp only [Prod.mk.injEq] at he
  obtain ⟨rfl,rfl,rfl⟩:=he
  obtain ⟨σ,c7,o7,c8,o8,y,h7,h8,he⟩:=M.bind_inv h6
  simp only [Prod.mk.injEq] at he
  obtain ⟨rfl,rfl,rfl⟩:=he
  obtain ⟨rs,c9,o9,c10,o10,y,h9,h10,he⟩:=M.bind_inv h8
  simp only [Prod.mk.injEq] at he
  obtain ⟨rfl,rfl,rfl⟩:=he
  obtain ⟨s,c11,o11,c12,o12,y,h11,h12,he⟩:=M.bind_inv h10
  simp only [Prod.mk.injEq] at he
  obtain ⟨rfl,rfl,rfl⟩:=he
  obtain ⟨s',hts,he⟩:=lift_inv h11
  simp only [Prod.mk.injEq] at he
  obtain ⟨rfl,rfl,rfl⟩:=he
  obtain ⟨old,c13,o13,c14,o14,y,h13,h14,he⟩:=M.bind_inv h12
  simp only [Prod.mk.injEq] at he
  obtain ⟨rfl,rfl,rfl⟩:=he
  obtain ⟨old',hold,he⟩:=lift_inv h13
  simp only [Prod.mk.injEq] at he
  obtain ⟨rfl,rfl,rfl⟩:=he
  obtain ⟨mid,c15,o15,c16,o16,y,h15,h16,he⟩:=M.bind_inv h14
  simp only [Prod.mk.injEq] at he
  obtain ⟨rfl,rfl,rfl⟩:=he
  simp only [getId,Option.some.injEq,Prod.mk.injEq] at h15
  obtain ⟨rfl,rfl,rfl⟩:=h15
  obtain ⟨u1,c17,o17,c18,o18,y,hn1,h17,he⟩:=M.bind_inv h16
  simp only [Prod.mk.injEq] at he
  obtain ⟨rfl,rfl,rfl⟩:=he
  split at h17
  ·rename_i hend
   have he:=M.pure_inv h17
   simp only [Prod.mk.injEq] at he
   obtain ⟨rfl,rfl,rfl⟩:=he
   obtain ⟨h5,le5⟩:=mono_inv h5
   obtain ⟨h7,le7⟩:=mono_inv h7
   obtain ⟨h9,le9⟩:=mono_inv h9
   simp only at le5 le7 le9
   obtain ⟨en0,rfl⟩:=newIds_inv hn0
   obtain ⟨en1,rfl⟩:=newIds_inv hn1
   simp only [Good.append] at hg
   obtain ⟨_,_,_,g5,g7,g9,_⟩:=hg
   obtain ⟨p,hpl,hrel,hknown⟩:=inl_rel (Γ:=Γ) (hp:=hp) hhl hok hΓ hm hh hb hG fn
   have hlo:gl.length <= c3.id:=by
    unfold inlOk at hok
    simp only [Bool.and_eq_true,Nat.ble_eq] at hok
    exact hok.1.1
   have hcut:CutOk (knOf gl.length hl) c3.id:=knOf_lt hhl hlo
   obtain ⟨γ,hγ⟩:∃ γ,γ = β.cutF (knOf gl.length hl) c3.id p:=⟨_,rfl⟩
   rw [<- hγ] at hrel hknown
   have hapG:∀ r,r ∈ wrRg β hl -> ∀ (g:Nat) (us:List Value),gl[g]? = some us -> r.apart (gRg g us):=fun r hr g us hgu=>by
    unfold wrRg at hr
    obtain ⟨i,hi',rfl⟩:=List.mem_map.1 hr
    obtain ⟨b,hb',hro⟩:=wrIds_mem.1 hi'
    obtain ⟨r',e1,_,e3,_⟩:=hknown i b hb'
    rw [e1]
    rw [hro] at e3
    refine hb.apartW (fun e=>?_) e1 (hG.2 g us hgu) e3
    subst e
    rw [hG.2 _ us hgu] at e1
    cases e1
    cases e3
   have hGl:∀ w',Keep (wrRg β hl) w w' -> Laid gl w':=by
    intro w' hk g us hgu
    obtain ⟨e1,e2⟩:=hG.1 g us hgu
    refine ⟨by have:=hk.size; omega,fun j v hj=>?_⟩
    obtain ⟨e3,e4⟩:=e2 j v hj
    refine ⟨(hk.cell _ e1 fun r hr hin=>?_).trans e3,e4⟩
    have:=hapG r hr g us hgu
    have hlt:=(List.getElem?_eq_some_iff.1 hj).1
    unfold inRg at hin
    unfold Rg.apart gRg at this
    simp only at hin this
    omega
   have hfresh:Fresh γ c30:=fun i hi=>by
    rw [hγ]
    unfold Beta.cutF
    rw [if_neg (by rw [hcut i (by omega)]; simp),if_pos (by omega)]
    exact List.getElem?_eq_none (by omega)
   have hK':LoopsOk Φ (ctlH k c3.id hl):=hK
   have hx:GrOk (inCx β gl w hl γ) (ctlH k c3.id hl).keep:=fun hz q hq=>by
    have hz:(k.keep.fz && !rowsIn hl) = true:=hz
    simp only [Bool.and_eq_true,Bool.not_eq_true'] at hz
    refine List.mem_iff_getElem?.1 ?_
    show q ∈ wrRgN β hl
    unfold wrRgN
    rw [wrIdsN_all hz.2]
    exact hq
   refine ⟨callable_of hf hn (by rw [hbody]; rfl),?_⟩
   have hrun:=exec_ok (x:=inCx β gl w hl γ) hH hGl (ctlH k c3.id hl) hx hK' (hEA _ rfl rfl rfl rfl hGl) body ρ _ _ _ O _ h5 g5 γ _ w hrel hfresh
    (bodyPostM Fence.wide 0 P fn fun e w'=>∃ v,e = .returned v /\ RPost N R Q ρ β w c3.id c'.id { s:=s,w:=inlW c3.id σ.hp old,rb:=rbIn hl σ.rb } v w') fun e a' w' K hk hO=>?_
   ·exact callsIn_wide.1 (callsIn_of_wp_marks hf hbody trivial hrun rfl)
   ·obtain ⟨hKK,β',hE,hR,hF⟩:=endSt_ok hx h7 g7 hO
    have hfin:LeavesInM Fence.wide 0 P fn a'.tmps (fun e w'=>∃ v,e = .returned v /\ RPost N R Q ρ β w c3.id c'.id { s:=s,w:=inlW c3.id σ.hp old,rb:=rbIn hl σ.rb } v w') a'.defers .returning w' :=
     leaves_ok (x:=inCx β gl w hl γ) rfl rfl a'.defers hR.noDf hR.df.ma fun w2 hR2=>by
      obtain ⟨us,hus,hum⟩:=rAll_snd (P:=P) (x:=inCx β gl w hl γ) σ fn.results.toList _ _ _ _ h9 g9 β' _ w2 hR2
      exact ⟨_,results_run hus,_,rfl,inl_post hok hold hend (tupS_mt hts hum) hb hN hG hfr (by omega) (by omega) hknown hE hR2⟩
    rcases hKK with rfl | rfl
    ·rw [kdOf_n hk]
     exact hfin
    ·cases e <;> simp only [kdOf,Option.some.injEq] at hk <;> (try (cases hk; done))
     exact hfin
  ·simp [M.fail] at h17
 ·simp [M.fail] at h4
end
end Go.Proofs.YtfgbfdlacnihkaaGreatDoor.Sx
namespace Go.Proofs.YtfgbfdlacnihkaaGreatDoor.Sx
open Go

def ctlI (fn:Func):Ctl:={ keep:={ l:=keepOf fn,fz:=true },turns:=400,ret:=retOf fn,base:=0 }
def hndI (P:Program) (gl:Gl) (I:List Nat) (H:Hnd):Nat -> Hnd
 | 0=>H
 | n + 1=>fun f Γ hp xs=>if I.contains f then (match P.funcs[f]? with
   | some fn=>inlM P (hndI P gl I H n) gl (ctlI fn) fn Γ hp xs
   | none=>M.fail) else H f Γ hp xs
def hnd (P:Program) (gl:Gl) (I:List Nat) (X:Sums):Hnd:=hndI P gl I (hnd0 X) 12
end Go.Proofs.YtfgbfdlacnihkaaGreatDoor.Sx
namespace Go.Proofs.YtfgbfdlacnihkaaGreatDoor.Sx
open Go

structure InlI where
 f:Nat
 lo:List (Nat × LAnn):=[]
 lb:List (Nat × LAnn):=[]
 ll:List (Nat × LAnn):=[]
 rf:Bool:=false
def findI (f:Nat):List InlI -> Option InlI
 | []=>none
 | i :: l=>if Nat.beq i.f f then some i else findI f l
theorem findI_mem {f:Nat}:∀ {l:List InlI} {i:InlI},findI f l = some i -> i ∈ l
 | [],_,h=>by cases h
 | j :: l,i,h=>by
  unfold findI at h
  split at h
  ·cases h; exact List.mem_cons_self
  ·exact List.mem_cons_of_mem _ (findI_mem h)
def kpL:Kp:={ l:=List.replicate 1000 true,fz:=false }
def ctlBL (fn:Func) (lb:List (Nat × LAnn)):Ctl:={ keep:={ l:=keepOf fn,fz:=false },turns:=400,ret:=[],base:=1000000000,loops:=lb }
def ctlIL (P:Program) (H:Hnd) (gl:Gl) (i:InlI) (fn:Func):Ctl:={ ctlI fn with loops:=i.lo,E:=if i.rf then rfE P H gl (ctlBL fn i.lb) kpL i.ll 400 else {} }
def hndL (P:Program) (gl:Gl) (I:List InlI) (H:Hnd):Nat -> Hnd
 | 0=>H
 | n + 1=>fun f Γ hp xs=>match findI f I with
  | some i=>(match P.funcs[f]? with
   | some fn=>inlM P (hndL P gl I H n) gl (ctlIL P (hndL P gl I H n) gl i fn) fn Γ hp xs
   | none=>M.fail)
  | none=>H f Γ hp xs
def nameOkL (P:Program) (I:List InlI):Bool:=I.all fun i=>match P.funcs[i.f]? with
 | some fn=>!(fn.name == "runtime.NumGoroutine")
 | none=>true
def LsOk (Φ:Funs) (l:List (Nat × LAnn)):Prop:=∀ p,p ∈ l -> Φ p.2.id = loopF (p.2.S.run Φ true) p.2.nI p.2.nB
def InlOk (Φ:Funs) (I:List InlI):Prop:=∀ i,i ∈ I -> LsOk Φ i.lo /\ LsOk Φ i.lb /\ LsOk Φ i.ll
theorem findI_f {f:Nat}:∀ {l:List InlI} {i:InlI},findI f l = some i -> i.f = f
 | [],_,h=>by cases h
 | j :: l,i,h=>by
  unfold findI at h
  split at h
  ·rename_i e; cases h; exact Nat.eq_of_beq_eq_true e
  ·exact findI_f h
theorem ctlIL_E {P:Program} {Φ:Funs} {gl:Gl} {H:Hnd} (hH:HOk P Φ gl H) {i:InlI} (hb:LsOk Φ i.lb) (hl:LsOk Φ i.ll) (fn:Func):∀ x:Cx,x.gl = gl -> x.rl = none -> x.lr = none -> x.ds = [] -> (∀ w,Keep x.R x.w0 w -> Laid gl w) -> EOk P Φ x (ctlIL P H gl i fn).E:=fun x h1 h2 h3 h4 h6=>by
 subst h1
 show EOk P Φ x (if i.rf then rfE P H x.gl (ctlBL fn i.lb) kpL i.ll 400 else {})
 split
 ·exact rfE_ok (kb:=ctlBL fn i.lb) hH h6 (fun h=>by cases h) hb rfl (fun h=>by cases h) hl h2 h3 h4
 ·exact EOk.nil rfl
theorem hndL_ok {P:Program} {Φ:Funs} {gl:Gl} {I:List InlI} {H:Hnd} (hH:HOk P Φ gl H) (hI:nameOkL P I = true) (hL:InlOk Φ I):∀ n,HOk P Φ gl (hndL P gl I H n)
 | 0=>hH
 | n + 1=>by
  intro f Γ hp xs ρ c res c' out he hg hΓ N R Q β w vs hm hh hb hN hG hf
  unfold hndL at he
  cases hc:findI f I with
  | some i =>
   rw [hc] at he
   simp only at he
   have hif:=findI_f hc
   cases hfn:P.funcs[f]? with
   | none=>rw [hfn] at he; simp [M.fail] at he
   | some fn =>
    rw [hfn] at he
    have hn:(fn.name == "runtime.NumGoroutine") = false:=by
     unfold nameOkL at hI
     rw [List.all_eq_true] at hI
     have:=hI i (findI_mem hc)
     rw [hif,hfn] at this
     simpa using this
    obtain ⟨l1,l2,l3⟩:=hL i (findI_mem hc)
    exact inl_ok (hndL_ok hH hI hL n) hfn hn (k:=ctlIL P (hndL P gl I H n) gl i fn) l1 (ctlIL_E (hndL_ok hH hI hL n) l2 l3 fn) he hg hΓ hm hh hb hN hG hf
  | none =>
   rw [hc] at he
   exact hH f Γ hp xs ρ c res c' out he hg hΓ N R Q β w vs hm hh hb hN hG hf
def sel (l:List (Nat × LAnn)) (a:List Nat):List (Nat × LAnn):=a.filterMap fun i=>l[i]?
theorem sel_mem {l:List (Nat × LAnn)} {a:List Nat} {p:Nat × LAnn} (h:p ∈ sel l a):p ∈ l:=by
 unfold sel at h
 obtain ⟨i,_,hi⟩:=List.mem_filterMap.1 h
 exact List.mem_of_getElem? hi
def mkIs (l:List (Nat × LAnn)):List (Nat × List Nat × List Nat × List Nat × Bool) -> List InlI
 | []=>[]
 | q :: r=>{ f:=q.1,lo:=sel l q.2.1,lb:=sel l q.2.2.1,ll:=sel l q.2.2.2.1,rf:=q.2.2.2.2 } :: mkIs l r
theorem mkIs_ok {Φ:Funs} {l:List (Nat × LAnn)} (h:LsOk Φ l):∀ {sp:List (Nat × List Nat × List Nat × List Nat × Bool)},InlOk Φ (mkIs l sp)
 | []=>fun i hi=>by cases hi
 | q :: r=>fun i hi=>by
  rcases List.mem_cons.1 hi with rfl | hi
  ·exact ⟨fun p hp=>h p (sel_mem hp),fun p hp=>h p (sel_mem hp),fun p hp=>h p (sel_mem hp)⟩
  ·exact mkIs_ok h i hi
theorem lsOk_sel {Φ:Funs} {l:List (Nat × LAnn)} (h:LsOk Φ l) (a:List Nat):LsOk Φ (sel l a):=fun p hp=>h p (sel_mem hp)
end Go.Proofs.YtfgbfdlacnihkaaGreatDoor.Sx
namespace Go.Proofs.YtfgbfdlacnihkaaGreatDoor.Sx
open Go

def asOf (f:Nat):List (Nat × Int) -> Option Int
 | []=>none
 | (g,n) :: l=>if g == f then some n else asOf f l
def asNum:S -> Option (IntKind × A)
 | .one false [.int k a]=>some (k,a)
 | _=>none
theorem asNum_spec {s:S} {p:IntKind × A} (h:asNum s = some p):s = .one false [.int p.1 p.2]:=by
 unfold asNum at h
 split at h
 ·cases h; rfl
 ·cases h
def asM (n:Int) (r:Res):M Res:=do
 let p <- lift (asNum r.s)
 sameId (do
   let b <- mkCm .eql p.2 (.c n)
   oblige b
   pure { r with s:=.one false [.int p.1 (.c n)] })
def asH (l:List (Nat × Int)) (H:Hnd):Hnd:=fun f Γ hp xs=>do
 let r <- H f Γ hp xs
 match asOf f l with
 | none=>pure r
 | some n=>asM n r
theorem asM_spec {Φ:Funs} {ρ:Env} {n:Int} {r r':Res} {c c':Ctr} {o:List Em} (h:asM n r c = some (r',c',o)) (hg:Good Φ ρ o):c'.id = c.id /\ r'.w = r.w /\ r'.rb = r.rb /\ ∀ β v,r.s.mt β ρ v -> r'.s.mt β ρ v:=by
 unfold asM at h
 obtain ⟨p,c0,o0,c9,o9,y0,g0,h,e0⟩:=M.bind_inv h
 obtain ⟨p',hp',e9⟩:=lift_inv g0
 simp only [Prod.mk.injEq] at e0 e9
 obtain ⟨rfl,rfl,rfl⟩:=e0
 obtain ⟨rfl,rfl,rfl⟩:=e9
 have hs:=asNum_spec hp'
 obtain ⟨k,a⟩:=p
 ·obtain ⟨h,hid⟩:=sameId_inv h
  obtain ⟨b,c1,o1,c2,o2,y,g1,g2,e1⟩:=M.bind_inv h
  simp only [Prod.mk.injEq] at e1
  obtain ⟨rfl,rfl,rfl⟩:=e1
  obtain ⟨u,c3,o3,c4,o4,y,g3,g4,e1⟩:=M.bind_inv g2
  simp only [Prod.mk.injEq] at e1
  obtain ⟨rfl,rfl,rfl⟩:=e1
  have g4:=M.pure_inv g4
  simp only [Prod.mk.injEq] at g4
  obtain ⟨rfl,rfl,rfl⟩:=g4
  simp only [List.nil_append,Good.append] at hg
  have e1:=mkCm_snd .eql a (.c n) _ _ _ _ g1 hg.1
  have e2:=oblige_snd b _ _ _ _ g3 hg.2.1
  refine ⟨hid,rfl,rfl,fun β v hv=>?_⟩
  rw [hs] at hv
  obtain ⟨c0,hc,hv⟩:=hv
  simp only [List.cons.injEq,and_true] at hc
  subst hc
  rw [e1] at e2
  have e3:a.d ρ = n:=by simpa [cmB] using e2
  refine ⟨_,rfl,?_⟩
  obtain ⟨h1,h2⟩:=hv
  rw [e3] at h1 h2
  exact ⟨h1,h2⟩
theorem asH_ok {P:Program} {Φ:Funs} {gl:Gl} {H:Hnd} (hH:HOk P Φ gl H) (l:List (Nat × Int)):HOk P Φ gl (asH l H):=by
 intro f Γ hp xs ρ c res c' out he hg hΓ N R Q β w vs hm hh hb hN hG hf
 unfold asH at he
 obtain ⟨r,c1,o1,c2,o2,y,g1,g2,e1⟩:=M.bind_inv he
 simp only [Prod.mk.injEq] at e1
 obtain ⟨rfl,rfl,rfl⟩:=e1
 rw [Good.append] at hg
 cases hl:asOf f l with
 | none =>
  rw [hl] at g2
  have g2:=M.pure_inv g2
  simp only [Prod.mk.injEq] at g2
  obtain ⟨rfl,rfl,rfl⟩:=g2
  exact hH f Γ hp xs ρ c _ _ _ g1 hg.1 hΓ N R Q β w vs hm hh hb hN hG hf
 | some n =>
  rw [hl] at g2
  obtain ⟨e1,e2,e3,e4⟩:=asM_spec (Φ:=Φ) g2 hg.2
  have:=hH f Γ hp xs ρ c _ _ _ g1 hg.1 hΓ N R Q β w vs hm hh hb hN hG (fun i h1 h2=>hf i h1 (by omega))
  refine ⟨this.1,Calls.mono this.2 fun e u ⟨v,hv,β',p1,p2,p3⟩=>⟨v,hv,β',?_,e4 β' v p2,?_⟩⟩
  ·rw [e2,e3,e1]; exact p1
  ·rw [e2]; exact p3

def Ctl.fz (k:Ctl) (l:List Nat):Ctl:={ k with fzf:=l }
theorem contract_preA {P:Program} {Φ:Funs} {X:Hnd} {gl:Gl} (hX:HOk P Φ gl X) {f:Nat} {fn:Func} (hf:P.funcs[f]? = some fn) {k:Ctl} (hK:LoopsOk Φ k) {s:Sum} {S:Smry} (h:fnX P X gl k fn s = some S)
  (hw:(wsEm S.em (argI s.args) (argB s.args) && shOk s && s.pre) = true) (hEA:EAll P Φ gl k):Contract P gl f s (S.run Φ s.pre):=by
 simp only [Bool.and_eq_true] at hw
 refine contract_gen hX hf hK hEA h hw.1.1 hw.1.2 fun vs w is bs ps _ hp=>?_
 have:=hp hw.2
 simpa [Smry.run,hw.2] using this
end Go.Proofs.YtfgbfdlacnihkaaGreatDoor.Sx
namespace Go.Proofs
open Go.Shelf Go.RowKit Go.Lib Go.Sort
def Tryz.sortIv_ren:Go.Shelf.Ren:=⟨fun | 6=>74 | 15=>87 | 14=>86 | 28=>98 | 29=>78 | 20=>90 | 21=>91 | 22=>92 | 23=>93 | 24=>94 | 25=>95 | 26=>96 | 27=>97 | 46=>99 | 47=>100 | 48=>101 | 49=>102 | 50=>103 | 57=>104 | n=>n,fun | 22=>23 | 24=>48 | 25=>93 | 3=>3 | 39=>75 | 0=>0 | 53=>99 | 55=>63 | 4=>4 | 46=>126 | 45=>125 | 50=>69 | 5=>5 | 9=>9 | 66=>133 | 70=>137 | 76=>139 | 77=>140 | n=>n,fun | n=>n⟩
theorem Tryz.sortIv:Go.Proofs.SlLaysF0.n6 Tryz.prog Tryz.sortIv_ren:={
 mixed:=by kernel_rfl
 f6:=⟨Tryz.f74.name,by decide,Tryz.func74.trans (congrArg some (by kernel_rfl))⟩
 f14:=⟨Tryz.f86.name,by decide,Tryz.func86.trans (congrArg some (by kernel_rfl))⟩
 f15:=Tryz.func87.trans (congrArg some (by kernel_rfl))
 f20:=⟨Tryz.f90.name,by decide,Tryz.func90.trans (congrArg some (by kernel_rfl))⟩
 f21:=⟨Tryz.f91.name,by decide,Tryz.func91.trans (congrArg some (by kernel_rfl))⟩
 f22:=⟨Tryz.f92.name,by decide,Tryz.func92.trans (congrArg some (by kernel_rfl))⟩
 f23:=⟨Tryz.f93.name,by decide,Tryz.func93.trans (congrArg some (by kernel_rfl))⟩
 f24:=⟨Tryz.f94.name,by decide,Tryz.func94.trans (congrArg some (by kernel_rfl))⟩
 f25:=⟨Tryz.f95.name,by decide,Tryz.func95.trans (congrArg some (by kernel_rfl))⟩
 f26:=⟨Tryz.f96.name,by decide,Tryz.func96.trans (congrArg some (by kernel_rfl))⟩
 f27:=⟨Tryz.f97.name,by decide,Tryz.func97.trans (congrArg some (by kernel_rfl))⟩
 f28:=Tryz.func98.trans (congrArg some (by kernel_rfl))
 f29:=Tryz.func78.trans (congrArg some (by kernel_rfl))
 f46:=⟨Tryz.f99.name,by decide,Tryz.func99.trans (congrArg some (by kernel_rfl))⟩
 f47:=Tryz.func100.trans (congrArg some (by kernel_rfl))
 f48:=Tryz.func101.trans (congrArg some (by kernel_rfl))
 f49:=⟨Tryz.f102.name,by decide,Tryz.func102.trans (congrArg some (by kernel_rfl))⟩
 f50:=⟨Tryz.f103.name,by decide,Tryz.func103.trans (congrArg some (by kernel_rfl))⟩
 f57:=⟨Tryz.f104.name,by decide,Tryz.func104.trans (congrArg some (by kernel_rfl))⟩
 t0:=Tryz.underlying0
 a0:=Tryz.isAgg0
 z0:=Tryz.sizeOf0
 v0:=Tryz.zeroValue0
 t3:=Tryz.underlying3
 a3:=Tryz.isAgg3
 z3:=Tryz.sizeOf3
 v3:=Tryz.zeroValue3
 t4:=Tryz.underlying4
 a4:=Tryz.isAgg4
 z4:=Tryz.sizeOf4
 v4:=Tryz.zeroValue4
 t5:=Tryz.underlying5
 a5:=Tryz.isAgg5
 z5:=Tryz.sizeOf5
 v5:=Tryz.zeroValue5
 t9:=Tryz.underlying9
 a9:=Tryz.isAgg9
 z9:=Tryz.sizeOf9
 v9:=Tryz.zeroValue9
 t22:=Tryz.underlying23
 a22:=Tryz.isAgg23
 z22:=Tryz.sizeOf23
 v22:=Tryz.zeroValue23
 t25:=Tryz.underlying93
 a25:=Tryz.isAgg93
 z25:=Tryz.sizeOf93
 v25:=Tryz.zeroValue93
 t39:=Tryz.underlying75
 a39:=Tryz.isAgg75
 z39:=Tryz.sizeOf75
 v39:=Tryz.zeroValue75
 t45:=Tryz.underlying125
 a45:=Tryz.isAgg125
 z45:=Tryz.sizeOf125
 v45:=Tryz.zeroValue125
 t46:=Tryz.underlying126
 a46:=Tryz.isAgg126
 z46:=Tryz.sizeOf126
 v46:=Tryz.zeroValue126
 t50:=Tryz.underlying69
 a50:=Tryz.isAgg69
 z50:=Tryz.sizeOf69
 v50:=Tryz.zeroValue69
 t53:=Tryz.underlying99
 a53:=Tryz.isAgg99
 z53:=Tryz.sizeOf99
 v53:=Tryz.zeroValue99
 t55:=Tryz.underlying63
 a55:=Tryz.isAgg63
 z55:=Tryz.sizeOf63
 v55:=Tryz.zeroValue63
 t66:=Tryz.underlying133
 a66:=Tryz.isAgg133
 z66:=Tryz.sizeOf133
 v66:=Tryz.zeroValue133
 t70:=Tryz.underlying137
 a70:=Tryz.isAgg137
 z70:=Tryz.sizeOf137
 v70:=Tryz.zeroValue137
 t76:=Tryz.underlying139
 a76:=Tryz.isAgg139
 z76:=Tryz.sizeOf139
 v76:=Tryz.zeroValue139
 t77:=Tryz.underlying140
 a77:=Tryz.isAgg140
 z77:=Tryz.sizeOf140
 v77:=Tryz.zeroValue140 }
def Tryz.cmpInt_ren:Go.Shelf.Ren:=⟨fun | 5=>55 | 7=>76 | n=>n,fun | 22=>3 | 3=>3 | 4=>4 | n=>n,fun | n=>n⟩
theorem Tryz.cmpInt:Go.Proofs.SlLaysC2.n5 Tryz.prog Tryz.cmpInt_ren:={
 mixed:=by kernel_rfl
 f5:=⟨Tryz.f55.name,by decide,Tryz.func55.trans (congrArg some (by kernel_rfl))⟩
 f7:=⟨Tryz.f76.name,by decide,Tryz.func76.trans (congrArg some (by kernel_rfl))⟩
 t3:=Tryz.underlying3
 a3:=Tryz.isAgg3
 z3:=Tryz.sizeOf3
 v3:=Tryz.zeroValue3
 t4:=Tryz.underlying4
 a4:=Tryz.isAgg4
 z4:=Tryz.sizeOf4
 v4:=Tryz.zeroValue4
 t22:=Tryz.underlying3
 a22:=Tryz.isAgg3
 z22:=Tryz.sizeOf3
 v22:=Tryz.zeroValue3 }

set_option maxHeartbeats 1000000 in
theorem Tryz.closure54 (x y:Int × Int) (W:World):Calls Tryz.prog 54 #[.agg #[.int .i64 x.1,.int .i64 x.2],.agg #[.int .i64 y.1,.int .i64 y.2]] W fun e w'=>e = .returned (.int .i64 (Lib.compareInt x.1 y.1)) /\ ∃ q os',w' = grow (W.drewN q) os':=by
 have hcon:=fun W'=>AnyG.cmp_Compare_int Tryz.cmpInt x.1 y.1 W'
 change ∀ W',Calls Tryz.prog 55 _ _ _ at hcon
 generalize Lib.compareInt x.1 y.1 = r at hcon ⊢
 go_enter Tryz.func54,Tryz.ntmps54
 go_wp2_with (go_at_call 55; refine (hcon _).mono ?_; rintro e w' ⟨rfl,rfl⟩)
 go_ret
 exact ⟨rfl,0,_,by rw [alloc_eq_grow,alloc_eq_grow,grow_grow]; rfl⟩
theorem Tryz.cmpEq (x y:Int × Int):Lib.compareInt x.1 y.1 = YtfgbfdlacnihkaaGreatDoor.Sx.cfR x y:=by
 unfold Lib.compareInt YtfgbfdlacnihkaaGreatDoor.Sx.cfR
 by_cases h1:x.1 < y.1
 ·simp [h1]
 ·by_cases h2:y.1 < x.1
  ·simp [h1,h2]; omega
  ·simp [h1,h2]; omega
theorem Tryz.cmpLays54 (blk off size:Nat) (w:World):CmpLays Tryz.prog 54 #[] YtfgbfdlacnihkaaGreatDoor.Sx.encR 2 YtfgbfdlacnihkaaGreatDoor.Sx.cfR blk off size w :=
 fun _ _ _ _ x y=>(Tryz.closure54 x y _).mono fun e w' ⟨he,hw⟩=>⟨by rw [he,Tryz.cmpEq],hw⟩
end Go.Proofs
namespace Go.Proofs.YtfgbfdlacnihkaaGreatDoor.Po
open Go Go.Proofs Go.Proofs.YtfgbfdlacnihkaaGreatDoor.Sx
variable {m:Int}
theorem call74:∀ args w,(callFunc 74 args).run Tryz.prog w = .ok (.enter 74 args) w:=callable_of Tryz.func74 (by kernel_rfl) (by kernel_rfl)
theorem call54':∀ args w,(callFunc 54 args).run Tryz.prog w = .ok (.enter 54 args) w:=callable_of Tryz.func54 (by kernel_rfl) (by kernel_rfl)
theorem call47:∀ args w,(callFunc 47 args).run Tryz.prog w = .ok (.enter 47 args) w:=callable_of Tryz.func47 (by kernel_rfl) (by kernel_rfl)
theorem call23:∀ args w,(callFunc 23 args).run Tryz.prog w = .ok (.enter 23 args) w:=callable_of Tryz.func23 (by kernel_rfl) (by kernel_rfl)
theorem call34:∀ args w,(callFunc 34 args).run Tryz.prog w = .ok (.enter 34 args) w:=callable_of Tryz.func34 (by kernel_rfl) (by kernel_rfl)
theorem call15:∀ args w,(callFunc 15 args).run Tryz.prog w = .ok (.enter 15 args) w:=callable_of Tryz.func15 (by kernel_rfl) (by kernel_rfl)
noncomputable def hC (m:Int) (I:List InlI) (X:Sums):Hnd:=hndL Tryz.prog (gl m) I (asH [] (sortH 74 54 (hnd0 X))) 12
theorem hC_ok {Φ:Funs} {X:Sums} {I:List InlI} (hX:AllOk Tryz.prog Φ (gl m) X) (hΦ:Φ 74 = sortF) (hI:nameOkL Tryz.prog I = true) (hL:InlOk Φ I):HOk Tryz.prog Φ (gl m) (hC m I X) :=
 hndL_ok (asH_ok (sortH_ok (hnd0_ok hX) Tryz.sortIv call74 Tryz.isAgg48 Tryz.sizeOf48 (g:=54) (by decide) call54' (fun blk off size w=>Tryz.cmpLays54 blk off size w) hΦ) []) hI hL 12
def s74:Sum:={ args:=[],tup:=false,res:=[],pre:=true }
noncomputable def T0:List (Nat × Sum × Fun):=[(74,s74,sortF),(47,s47,F47),(23,s23,F23),(34,s34,F34),(15,s15,F15)]
theorem c74:Contract Tryz.prog (gl m) 74 s74 sortF:=fun vs w is bs ps h1 h2 h3 h4 h5 h6 hp=>by
 have:=hp rfl
 simp [sortF] at this
theorem A0:AllOk Tryz.prog (tabF T0) (gl m) (tabS T0) :=
 AllOk.cons (s:=s74) c74 call74 (fun S h=>by cases h) (AllOk.cons (s:=s47) c47 call47 (fun S h=>by cases h) (AllOk.cons (s:=s23) c23 call23 (fun S h=>by cases h)
  (AllOk.cons (s:=s34) c34 call34 (fun S h=>by cases h) (AllOk.cons (s:=s15) c15 call15 (fun S h=>by cases h) AllOk.nil))))
def sp0:List (Nat × List Nat × List Nat × List Nat × Bool):=[(50,[],[],[],false),(72,[],[],[],false),(51,[],[],[],false),(52,[],[],[],false),(53,[],[],[],false),(75,[],[],[],false),(73,[],[],[],false),(85,[],[],[],true),(22,[],[],[],false),(32,[],[],[],false),(45,[],[],[],false)]
end Go.Proofs.YtfgbfdlacnihkaaGreatDoor.Po
namespace Go.Proofs.YtfgbfdlacnihkaaGreatDoor.Po
open Go Go.Proofs Go.Proofs.YtfgbfdlacnihkaaGreatDoor.Sx
variable {m:Int}
def s43:Sum:={ args:=[(.val true [(.int .i64),(.int .i64)])],tup:=false,res:=[(false,[.bool])],pre:=false }
def S43:Smry:=(.mk [(.db 0 (.cm .geq (.v 0) (.c 0))),(.db 1 (.cm .geq (.v 1) (.v 0))),(.db 2 (.and (.v 0) (.v 1))),(.db 3 (.cm .lss (.v 1) (.c 65536))),(.db 4 (.and (.v 2) (.v 3)))] [] [(.v 4)])
def i43:List (Nat × List Nat × List Nat × List Nat × Bool):=sp0
theorem x43:AllOk Tryz.prog (tabF T0) (gl m) (tabS T0):=A0
theorem y43l:LsOk (tabF T0) []:=fun p hp=>by cases hp
theorem h43:HOk Tryz.prog (tabF T0) (gl m) (hC m (mkIs [] i43) (tabS T0)):=hC_ok x43 (by kernel_rfl) (by kernel_rfl) (mkIs_ok y43l)
theorem k43:fnX Tryz.prog (hC m (mkIs [] i43) (tabS T0)) (gl m) (ctlL Tryz.f43 (gl m) s43 []) Tryz.f43 s43 = some S43:=by kernel_rfl
noncomputable def F43:Fun:=S43.run (tabF T0) false
theorem y43:LoopsOk (tabF T0) (ctlL Tryz.f43 (gl m) s43 []):=fun p hp=>by cases hp
theorem z43:(wsEm S43.em (argI s43.args) (argB s43.args) && shOk s43 && noOb S43.em) = true:=by kernel_rfl
theorem d43:Contract Tryz.prog (gl m) 43 s43 F43:=contract_of h43 Tryz.func43 y43 k43 z43
theorem c43:Contract Tryz.prog (gl m) 43 s43 F43:=d43
theorem call43:∀ args w,(callFunc 43 args).run Tryz.prog w = .ok (.enter 43 args) w:=callable_of Tryz.func43 (by kernel_rfl) (by kernel_rfl)
noncomputable def e43:Nat × Sum × Fun:=(43,withInl s43 S43,F43)
noncomputable def T1:List (Nat × Sum × Fun):=e43 :: T0
theorem A1:AllOk Tryz.prog (tabF T1) (gl m) (tabS T1):=AllOk.cons (s:=e43.2.1) c43 call43 (fun S h=>by cases h; exact ⟨rfl,fun _ _=>rfl⟩) A0
def s30:Sum:={ args:=[(.val false [(.sl [(.int .i64),(.int .i64)])])],tup:=false,res:=[(false,[(.int .i64)])],pre:=true }
def S30:Smry:=(.mk [(.call 103000 [(.v 0),(.v 1),(.c 0)] [] 2 0 0 3),(.ob [] (.v 0)),(.di 2 (.ite (.v 2) (.c 0) (.c 1)))] [(.v 2)] [])
def L103000:LAnn:={ id:=103000,ga:=[0,1],gb:=[],hv:=[7],dr:=[1,9,10,11,12,13,14,15,16,17,18,19,20,21,22,23,24,25,26,27,28,29,31],hb:=[],db:=[],xs:=[2],xb:=[],nI:=3,nB:=0,S:=(.mk [(.db 0 (.cm .lss (.v 2) (.v 1))),(.db 1 (.cm .geq (.v 2) (.c 0))),(.ob [((.v 0),true)] (.v 1)),(.db 2 (.cm .lss (.v 2) (.v 1))),(.ob [((.v 0),true)] (.v 2)),(.di 3 (.get (.v 0) (.v 2) 2 0)),(.di 4 (.get (.v 0) (.v 2) 2 1)),(.db 3 (.cm .geq (.v 3) (.c 0))),(.db 4 (.cm .geq (.v 4) (.v 3))),(.db 5 (.and (.v 3) (.v 4))),(.db 6 (.cm .lss (.v 4) (.c 65536))),(.db 7 (.and (.v 5) (.v 6))),(.db 8 (.not (.v 7))),(.db 9 (.cm .gtr (.v 2) (.c 0))),(.di 5 (.ar .sub .i64 (.v 2) (.c 1))),(.db 10 (.cm .geq (.v 5) (.c 0))),(.ob [((.v 0),true),((.v 8),false),((.v 9),true)] (.v 10)),(.db 11 (.cm .lss (.v 5) (.v 1))),(.ob [((.v 0),true),((.v 8),false),((.v 9),true)] (.v 11)),(.di 6 (.get (.v 0) (.v 5) 2 1)),(.di 7 (.ar .add .i64 (.v 6) (.c 2))),(.db 12 (.cm .lss (.v 3) (.v 7))),(.db 13 (.and (.v 9) (.v 12))),(.db 14 (.or (.v 8) (.v 13))),(.di 8 (.ar .add .i64 (.v 2) (.c 1))),(.db 15 (.not (.v 14))),(.db 16 (.not (.v 14))),(.db 17 (.and (.v 0) (.v 16))),(.db 18 (.and (.v 0) (.v 14))),(.db 19 (.not (.v 0)))] [(.v 0),(.v 1),(.v 8)] [(.v 17),(.v 18),(.v 19)]) }
def l30:List (Nat × LAnn):=[(3,L103000)]
def i30:List (Nat × List Nat × List Nat × List Nat × Bool):=[(50,[],[],[],false),(72,[],[],[],false),(51,[],[],[],false),(52,[],[],[],false),(53,[],[],[],false),(75,[],[],[],false),(73,[],[],[],false),(85,[],[],[],true),(22,[],[],[],false),(32,[],[],[],false),(45,[],[],[],false)]
theorem x30:AllOk Tryz.prog (lpF (l30.map (·.2)) (tabF T1)) (gl m) (tabS T1):=(AllOk.loops (l:=l30.map (·.2)) A1 (by kernel_rfl))
theorem y30l:LsOk (lpF (l30.map (·.2)) (tabF T1)) l30:=LoopsOk.of (fn:=Tryz.f30) (gl:=(gl 0)) (s:=s30) (l:=l30) (by kernel_rfl)
theorem h30:HOk Tryz.prog (lpF (l30.map (·.2)) (tabF T1)) (gl m) (hC m (mkIs l30 i30) (tabS T1)):=hC_ok x30 (by kernel_rfl) (by kernel_rfl) (mkIs_ok y30l)
theorem k30:fnX Tryz.prog (hC m (mkIs l30 i30) (tabS T1)) (gl m) (ctlL Tryz.f30 (gl m) s30 (sel l30 [0])) Tryz.f30 s30 = some S30:=by kernel_rfl
noncomputable def F30:Fun:=S30.run (lpF (l30.map (·.2)) (tabF T1)) true
theorem y30:LoopsOk (lpF (l30.map (·.2)) (tabF T1)) (ctlL Tryz.f30 (gl m) s30 (sel l30 [0])):=fun p hp=>y30l p (sel_mem hp)
theorem z30:(wsEm S30.em (argI s30.args) (argB s30.args) && shOk s30 && s30.pre) = true:=by kernel_rfl
theorem d30:Contract Tryz.prog (gl m) 30 s30 F30:=contract_pre h30 Tryz.func30 y30 k30 z30
theorem c30:Contract Tryz.prog (gl m) 30 s30 F30:=d30
theorem call30:∀ args w,(callFunc 30 args).run Tryz.prog w = .ok (.enter 30 args) w:=callable_of Tryz.func30 (by kernel_rfl) (by kernel_rfl)
noncomputable def e30:Nat × Sum × Fun:=(30,s30,F30)
noncomputable def T2:List (Nat × Sum × Fun):=e30 :: T1
theorem A2:AllOk Tryz.prog (tabF T2) (gl m) (tabS T2):=AllOk.cons (s:=e30.2.1) c30 call30 (fun S h=>by cases h) A1
def s17:Sum:={ args:=[(.val false [(.sl [(.int .i64),(.int .i64)])]),(.val false [(.int .i64)])],tup:=false,res:=[(false,[.bool])],pre:=true }
def S17:Smry:=(.mk [(.call 30 [(.v 0),(.v 1)] [] 3 1 0 1),(.ob [] (.v 0)),(.db 1 (.cm .eql (.v 3) (.c 0))),(.db 2 (.cm .eql (.v 1) (.c 0))),(.di 4 (.ar .sub .i64 (.v 1) (.c 1))),(.db 3 (.cm .geq (.v 4) (.c 0))),(.ob [((.v 1),true),((.v 2),false)] (.v 3)),(.db 4 (.cm .lss (.v 4) (.v 1))),(.ob [((.v 1),true),((.v 2),false)] (.v 4)),(.di 5 (.get (.v 0) (.v 4) 2 1)),(.db 5 (.cm .lss (.v 5) (.v 2))),(.db 6 (.or (.v 2) (.v 5))),(.db 7 (.and (.v 1) (.v 6)))] [] [(.v 7)])
def i17:List (Nat × List Nat × List Nat × List Nat × Bool):=sp0
theorem x17:AllOk Tryz.prog (tabF T2) (gl m) (tabS T2):=A2
theorem y17l:LsOk (tabF T2) []:=fun p hp=>by cases hp
theorem h17:HOk Tryz.prog (tabF T2) (gl m) (hC m (mkIs [] i17) (tabS T2)):=hC_ok x17 (by kernel_rfl) (by kernel_rfl) (mkIs_ok y17l)
theorem k17:fnX Tryz.prog (hC m (mkIs [] i17) (tabS T2)) (gl m) (ctlL Tryz.f17 (gl m) s17 []) Tryz.f17 s17 = some S17:=by kernel_rfl
noncomputable def F17:Fun:=S17.run (tabF T2) true
theorem y17:LoopsOk (tabF T2) (ctlL Tryz.f17 (gl m) s17 []):=fun p hp=>by cases hp
theorem z17:(wsEm S17.em (argI s17.args) (argB s17.args) && shOk s17 && s17.pre) = true:=by kernel_rfl
theorem d17:Contract Tryz.prog (gl m) 17 s17 F17:=contract_pre h17 Tryz.func17 y17 k17 z17
theorem c17:Contract Tryz.prog (gl m) 17 s17 F17:=d17
theorem call17:∀ args w,(callFunc 17 args).run Tryz.prog w = .ok (.enter 17 args) w:=callable_of Tryz.func17 (by kernel_rfl) (by kernel_rfl)
noncomputable def e17:Nat × Sum × Fun:=(17,s17,F17)
noncomputable def T3:List (Nat × Sum × Fun):=e17 :: T2
theorem A3:AllOk Tryz.prog (tabF T3) (gl m) (tabS T3):=AllOk.cons (s:=e17.2.1) c17 call17 (fun S h=>by cases h) A2
def s6:Sum:={ args:=[(.val true [.bool,.bool,(.sl [(.int .i64),(.int .i64)]),(.sl [(.int .i64),(.int .i64)])])],tup:=false,res:=[(false,[(.int .i64)])],pre:=true }
def S6:Smry:=(.mk [(.call 17 [(.v 0),(.v 1),(.c 2048)] [] 4 0 2 2),(.ob [] (.v 2)),(.db 4 (.not (.v 3))),(.call 17 [(.v 2),(.v 3),(.c 8192)] [] 4 0 5 2),(.ob [((.v 4),false)] (.v 5)),(.db 7 (.not (.v 6))),(.db 8 (.or (.v 4) (.v 7))),(.db 9 (.not (.v 8))),(.di 4 (.ite (.v 9) (.c 0) (.c 1)))] [(.v 4)] [])
def i6:List (Nat × List Nat × List Nat × List Nat × Bool):=sp0
theorem x6:AllOk Tryz.prog (tabF T3) (gl m) (tabS T3):=A3
theorem y6l:LsOk (tabF T3) []:=fun p hp=>by cases hp
theorem h6:HOk Tryz.prog (tabF T3) (gl m) (hC m (mkIs [] i6) (tabS T3)):=hC_ok x6 (by kernel_rfl) (by kernel_rfl) (mkIs_ok y6l)
theorem k6:fnX Tryz.prog (hC m (mkIs [] i6) (tabS T3)) (gl m) (ctlL Tryz.f6 (gl m) s6 []) Tryz.f6 s6 = some S6:=by kernel_rfl
noncomputable def F6:Fun:=S6.run (tabF T3) true
theorem y6:LoopsOk (tabF T3) (ctlL Tryz.f6 (gl m) s6 []):=fun p hp=>by cases hp
theorem z6:(wsEm S6.em (argI s6.args) (argB s6.args) && shOk s6 && s6.pre) = true:=by kernel_rfl
theorem d6:Contract Tryz.prog (gl m) 6 s6 F6:=contract_pre h6 Tryz.func6 y6 k6 z6
theorem c6:Contract Tryz.prog (gl m) 6 s6 F6:=d6
theorem call6:∀ args w,(callFunc 6 args).run Tryz.prog w = .ok (.enter 6 args) w:=callable_of Tryz.func6 (by kernel_rfl) (by kernel_rfl)
noncomputable def e6:Nat × Sum × Fun:=(6,s6,F6)
noncomputable def T4:List (Nat × Sum × Fun):=e6 :: T3
theorem A4:AllOk Tryz.prog (tabF T4) (gl m) (tabS T4):=AllOk.cons (s:=e6.2.1) c6 call6 (fun S h=>by cases h) A3
end Go.Proofs.YtfgbfdlacnihkaaGreatDoor.Po
namespace Go.Proofs
open Go.Shelf Go.RowKit Go.Lib
theorem Tryz.lays166b:Lays.n166 Tryz.prog Tryz.lays105_ren:={ Tryz.lays105 with }
theorem Tryz.lays169b:Lays.n169 Tryz.prog Tryz.lays105_ren:={ Tryz.lays105 with }
theorem Tryz.wrS (B b:Nat) (bs:List Value) (s:ByteArray) (w:World) (h:Lib.IsBuilderF 41 5 B b bs w) (hlen:bs.length + s.size <= 140737488355328) (hBw:B <= w.heap.size) :
  Calls Tryz.prog 14 #[.pointer (some ⟨b,0,none⟩),.string s] w fun e w'=>e = .returned (.tuple #[.int .i64 s.size,.nilIface]) /\ (Lib.BuilderAtF 41 5 B b (.pointer (some ⟨b,0,none⟩)) (bs ++ Lib.strCells s) w' /\ Below B w w' /\ Lib.OthersKept 5 (some b) w w') :=
 Any.Builder_WriteString_k Tryz.lays166b Tryz.extra105 B b bs s w h hlen hBw
theorem Tryz.toS (B b:Nat) (l:List UInt8) (w:World) (h:Lib.IsBuilderF 41 5 B b (Lib.byteCells l) w) (hBw:B <= w.heap.size) :
  Calls Tryz.prog 16 #[.pointer (some ⟨b,0,none⟩)] w fun e w'=>e = .returned (.string ⟨l.toArray⟩) /\ (Lib.IsBuilderF 41 5 B b (Lib.byteCells l) w' /\ Below B w w' /\ Lib.OthersKept 5 (some b) w w') :=
 Any.Builder_String_any_k Tryz.lays169b Tryz.extra105 B b l w h hBw
def Tryz.pw1:List UInt8:=[112,111,114,116,32,49,10]
def Tryz.pw2:List UInt8:=[112,111,114,116,32,50,10]
def Tryz.portsL (p0 p1:Bool):Nat -> List UInt8
 | 0=>[]
 | 1=>if p0 then Tryz.pw1 else []
 | _=>(if p0 then Tryz.pw1 else []) ++ (if p1 then Tryz.pw2 else [])
def Tryz.rowL (word:List UInt8) (p:Nat × Nat):List UInt8:=word ++ Tryz.hex4 p.1 ++ [45] ++ Tryz.hex4 p.2 ++ [10]
def Tryz.rowsL (word:List UInt8) (L:List (Nat × Nat)):List UInt8:=(L.map (Tryz.rowL word)).flatten
theorem Tryz.bld_below {T e:TypeId} {B b:Nat} {bs:List Value} {w w':World} (h:Lib.IsBuilderF T e B b bs w) (hb:Below w.heap.size w w'):Lib.IsBuilderF T e B b bs w':=by
 have key:∀ p,Lib.BuilderAtF T e B b p bs w -> Lib.BuilderAtF T e B b p bs w':=by
  rintro p ⟨hB,v,hbk,hown,hne⟩
  have hlt:∀ k o,w.heap[k]? = some o -> w'.heap[k]? = some o:=fun k o hk=>(hb.block k (Array.getElem?_eq_some_iff.1 hk).1).trans hk
  refine ⟨hB,v,hlt _ _ hbk,⟨hown.1,?_⟩,hne⟩
  rcases hown.2 with hn | ⟨g,cap,cur,fz,hv,hbg,hg,rest⟩
  ·exact .inl hn
  ·exact .inr ⟨g,cap,cur,fz,hv,hbg,hlt _ _ hg,rest⟩
 exact h.elim (fun x=>.inl (key _ x)) (fun x=>.inr (key _ x))
structure Tryz.PS (v:World) (B k:Nat) (acc:List UInt8) (p:Nat × Nat) (W:World):Prop where
 hB:Below B v W
 hI:Lib.IsBuilderF 41 5 B B (Lib.byteCells acc) W
 c0:W.cell? ⟨k,0,none⟩ = some (.int .i64 p.1)
 c1:W.cell? ⟨k,1,none⟩ = some (.int .i64 p.2)
theorem Tryz.PS.drew {v:World} {B k:Nat} {acc:List UInt8} {p:Nat × Nat} {W:World} (h:Tryz.PS v B k acc p W):Tryz.PS v B k acc p W.drew:=⟨h.hB.drew,h.hI,h.c0,h.c1⟩
theorem Tryz.PS.four {v:World} {B k:Nat} {acc:List UInt8} {p:Nat × Nat} (hg:v.cell? ⟨5,15,none⟩ = some (.int .u8 4)) (h5:5 < B) (n:Nat) (hn:n < 65536) (W:World) (h:Tryz.PS v B k acc p W) :
  Calls Tryz.prog 15 #[.int .i64 n] W fun e W1=>e = .returned (.string ⟨(Tryz.hex4 n).toArray⟩) /\ Tryz.PS v B k acc p W1 /\ W1.cell? ⟨k,0,none⟩ = some (.int .i64 p.1) /\ W1.cell? ⟨k,1,none⟩ = some (.int .i64 p.2):=by
 refine (Tryz.four n W (by rw [h.hB.cell h5]; exact hg) hn).mono ?_
 rintro e W1 ⟨rfl,hb⟩
 have d0:W1.cell? ⟨k,0,none⟩ = some (.int .i64 p.1):=by rw [hb.cell (World.block_lt_of_cell? W _ h.c0)]; exact h.c0
 have d1:W1.cell? ⟨k,1,none⟩ = some (.int .i64 p.2):=by rw [hb.cell (World.block_lt_of_cell? W _ h.c1)]; exact h.c1
 exact ⟨rfl,⟨h.hB.trans (hb.mono (h.hI.elim (fun x=>Nat.le_of_lt x.lt) fun x=>Nat.le_of_lt x.lt)),Tryz.bld_below h.hI hb,d0,d1⟩,d0,d1⟩
theorem Tryz.lineW (word:List UInt8) (p:Nat × Nat) (hw:word.length <= 10):∃ X1 X2 X3 X4:ByteArray,X4 = ⟨(Tryz.rowL word p).toArray⟩ /\
  (∀ w,(Op.stringOp .add ⟨word.toArray⟩ ⟨(Tryz.hex4 p.1).toArray⟩).run Tryz.prog w = .ok (.string X1) w) /\ (∀ w,(Op.stringOp .add X1 ⟨#[45]⟩).run Tryz.prog w = .ok (.string X2) w) /\
  (∀ w,(Op.stringOp .add X2 ⟨(Tryz.hex4 p.2).toArray⟩).run Tryz.prog w = .ok (.string X3) w) /\ (∀ w,(Op.stringOp .add X3 ⟨#[10]⟩).run Tryz.prog w = .ok (.string X4) w):=by
 have h1:(Tryz.hex4 p.1).length = 4:=YtfgbfdlacnihkaaGreatDoor.Po.hex4_len _
 have h2:(Tryz.hex4 p.2).length = 4:=YtfgbfdlacnihkaaGreatDoor.Po.hex4_len _
 unfold Tryz.rowL
 generalize Tryz.hex4 p.1 = H1 at h1
 generalize Tryz.hex4 p.2 = H2 at h2
 refine ⟨⟨word.toArray⟩ ++ ⟨H1.toArray⟩,⟨word.toArray⟩ ++ ⟨H1.toArray⟩ ++ ⟨#[45]⟩,⟨word.toArray⟩ ++ ⟨H1.toArray⟩ ++ ⟨#[45]⟩ ++ ⟨H2.toArray⟩,⟨word.toArray⟩ ++ ⟨H1.toArray⟩ ++ ⟨#[45]⟩ ++ ⟨H2.toArray⟩ ++ ⟨#[10]⟩,?_,fun w=>run_string_add w _ _ ?_ ?_,fun w=>run_string_add w _ _ ?_ ?_,fun w=>run_string_add w _ _ ?_ ?_,fun w=>run_string_add w _ _ ?_ ?_⟩
 ·apply ByteArray.ext
  simp [ByteArray.data_append]
 all_goals (simp [ByteArray.size_append,ByteArray.size_mk',h1,h2] <;> omega)
theorem Tryz.strB (acc l:List UInt8):Lib.byteCells acc ++ Lib.strCells ⟨l.toArray⟩ = Lib.byteCells (acc ++ l):=by
 rw [Lib.byteCells_append]; rfl
theorem Tryz.PS.wr {v:World} {B k:Nat} {acc:List UInt8} {p:Nat × Nat} (l:List UInt8) (hl:acc.length + l.length <= 140737488355328) (W:World) (h:Tryz.PS v B k acc p W) :
  Calls Tryz.prog 14 #[.pointer (some ⟨B,0,none⟩),.string ⟨l.toArray⟩] W fun e W1=>e = .returned (.tuple #[.int .i64 l.length,.nilIface]) /\ Lib.IsBuilderF 41 5 B B (Lib.byteCells (acc ++ l)) W1 /\ Below B v W1:=by
 have hBW:B <= W.heap.size:=h.hI.elim (fun x=>Nat.le_of_lt x.lt) fun x=>Nat.le_of_lt x.lt
 refine (Tryz.wrS B B _ ⟨l.toArray⟩ W h.hI (by rw [Lib.byteCells_length]; simpa [ByteArray.size_mk'] using hl) hBW).mono ?_
 rintro e W1 ⟨rfl,h1,hb,_⟩
 rw [Tryz.strB] at h1
 exact ⟨by simp [ByteArray.size_mk'],.inr h1,h.hB.trans hb⟩
def Tryz.printL (p0 p1:Bool) (L1 L2:List (Nat × Nat)):List UInt8:=Tryz.portsL p0 p1 2 ++ (Tryz.rowsL [114,97,109,32] L1 ++ Tryz.rowsL [115,97,118,101,32] L2)
theorem Tryz.rowsL_succ (word:List UInt8) {L:List (Nat × Nat)} {i:Nat} {p:Nat × Nat} (h:L[i]? = some p):Tryz.rowsL word (L.take (i + 1)) = Tryz.rowsL word (L.take i) ++ Tryz.rowL word p:=by
 unfold Tryz.rowsL
 rw [List.take_add_one,h]
 simp
theorem Tryz.rowsL_len (word:List UInt8):∀ L:List (Nat × Nat),(Tryz.rowsL word L).length = (word.length + 10) * L.length
 | []=>rfl
 | p :: L=>by
  have h1:(Tryz.hex4 p.1).length = 4:=YtfgbfdlacnihkaaGreatDoor.Po.hex4_len _
  have h2:(Tryz.hex4 p.2).length = 4:=YtfgbfdlacnihkaaGreatDoor.Po.hex4_len _
  have:=Tryz.rowsL_len word L
  unfold Tryz.rowsL at this ⊢
  simp only [List.map_cons,List.flatten_cons,List.length_append,this,Tryz.rowL,h1,h2,List.length_cons,List.length_nil,Nat.mul_add]
  omega
theorem Tryz.portsL_len (p0 p1:Bool):(Tryz.portsL p0 p1 2).length <= 14:=by cases p0 <;> cases p1 <;> decide
set_option maxHeartbeats 4000000 in
set_option maxRecDepth 1000000 in
theorem Tryz.print0 (p0 p1:Bool) (a1 a2:Option Addr) (n1 n2 c1 c2:Nat) (w:World) (hs1:n1 <= 100) (hs2:n2 <= 100) (L1 L2:List (Nat × Nat)) (hl1:L1.length = n1) (hl2:L2.length = n2)
  (hR1:∀ (i:Nat) (p:Nat × Nat),L1[i]? = some p -> p.1 < 65536 /\ p.2 < 65536 /\ ∃ b o,a1 = some ⟨b,o,none⟩ /\ b < w.heap.size /\ w.cell? ⟨b,o + i * 2,none⟩ = some (.int .i64 p.1) /\ w.cell? ⟨b,o + i * 2 + 1,none⟩ = some (.int .i64 p.2))
  (hR2:∀ (i:Nat) (p:Nat × Nat),L2[i]? = some p -> p.1 < 65536 /\ p.2 < 65536 /\ ∃ b o,a2 = some ⟨b,o,none⟩ /\ b < w.heap.size /\ w.cell? ⟨b,o + i * 2,none⟩ = some (.int .i64 p.1) /\ w.cell? ⟨b,o + i * 2 + 1,none⟩ = some (.int .i64 p.2))
  (hg:w.cell? ⟨5,15,none⟩ = some (.int .u8 4))
  (hC:∀ W,Below w.heap.size w W -> Calls Tryz.prog 6 #[.agg #[.bool p0,.bool p1,.slice a1 n1 c1,.slice a2 n2 c2]] W fun e w'=>e = .returned (.int .i64 0) /\ YtfgbfdlacnihkaaGreatDoor.Sx.Keep [] W w') :
  Calls Tryz.prog 5 #[.agg #[.bool p0,.bool p1,.slice a1 n1 c1,.slice a2 n2 c2]] w fun e w'=>e = .returned (.tuple #[.string ⟨(Tryz.printL p0 p1 L1 L2).toArray⟩,.int .i64 0]) /\ Below w.heap.size w w':=by
 go_enter Tryz.func5,Tryz.ntmps5
 go_wp2_with (go_at_call 6; refine (hC _ ((Below.refl w.heap.size w).alloc (Nat.le_refl _) _)).mono ?_; rintro e w' ⟨rfl,hk⟩)
 have hsz:w.heap.size < w'.heap.size:=by have:=hk.size; simp at this; omega
 have hcb:∀ (i:Nat) (x:Value),(#[Value.bool p0,.bool p1,.slice a1 n1 c1,.slice a2 n2 c2]:Array Value)[i]? = some x -> w'.cell? ⟨w.heap.size,i,none⟩ = some x:=fun i x hx=>by
  rw [hk.cell _ (by simp) (by simp),Tryz.cell_new,hx]
 have hcw:∀ a:Addr,a.block < w.heap.size -> w'.cell? a = w.cell? a:=fun a ha=>by
  rw [hk.cell _ (by simp; omega) (by simp)]
  exact (((Below.refl w.heap.size w).alloc (Nat.le_refl _) _).cell ha)
 have ix0:∀ w,(Instr.index 42 (.agg #[.string ⟨#[112,111,114,116,32,49,10]⟩,.string ⟨#[112,111,114,116,32,50,10]⟩]) (.int .i64 0)).run Tryz.prog w = .ok (.string ⟨#[112,111,114,116,32,49,10]⟩) w:=fun w=>by kernel_rfl
 have ix1:∀ w,(Instr.index 42 (.agg #[.string ⟨#[112,111,114,116,32,49,10]⟩,.string ⟨#[112,111,114,116,32,50,10]⟩]) (.int .i64 1)).run Tryz.prog w = .ok (.string ⟨#[112,111,114,116,32,50,10]⟩) w:=fun w=>by kernel_rfl
 have hg':w'.cell? ⟨5,15,none⟩ = some (.int .u8 4):=by rw [hcw _ (World.block_lt_of_cell? w _ hg)]; exact hg
 have h5:5 < w'.heap.size:=World.block_lt_of_cell? w' _ hg'
 go_loopw [18] (fun s wr=>∃ i:Nat,s = .int .i64 i /\ i <= 2 /\ Lib.IsBuilderF 41 5 w'.heap.size w'.heap.size (Lib.byteCells (Tryz.portsL p0 p1 i)) wr /\ Below w'.heap.size w' wr) (fun s wr=>2 - (RowKit.intOf s).toNat)
 case atStart =>
  exact ⟨0,rfl,by omega,Lib.IsBuilderF.of (Lib.fresh_isBuilder 41 5 w'),(Below.refl _ w').alloc (Nat.le_refl _) _⟩
 case round =>
  obtain ⟨i,rfl,hi,hI,hb⟩:=hrel
  have hBw:=hb.size
  have d0:wr.cell? ⟨w.heap.size,0,none⟩ = some (.bool p0):=by rw [hb.cell hsz]; exact hcb 0 _ rfl
  have d1:wr.cell? ⟨w.heap.size,1,none⟩ = some (.bool p1):=by rw [hb.cell hsz]; exact hcb 1 _ rfl
  match i,hi with
  | 0,_ =>
   cases p0 with
   | true =>
    have hc:=Tryz.wrS w'.heap.size w'.heap.size _ ⟨#[112,111,114,116,32,49,10]⟩ wr hI (by cases p1 <;> decide) hBw
    go_wp2_with (go_at_call 14; refine hc.mono ?_)
    rintro e w1 ⟨rfl,h1,hb1,k1⟩
    go_wp2
    go_roundw
    case rel=>exact ⟨1,rfl,by omega,Or.inr h1,hb.trans hb1⟩
    case measure=>decide
   | false =>
    go_wp2
    go_roundw
    case rel=>exact ⟨1,rfl,by omega,hI,hb⟩
    case measure=>decide
  | 1,_ =>
   cases p1 with
   | true =>
    have hc:=Tryz.wrS w'.heap.size w'.heap.size _ ⟨#[112,111,114,116,32,50,10]⟩ wr hI (by cases p0 <;> decide) hBw
    go_wp2_with (go_at_call 14; refine hc.mono ?_)
    rintro e w1 ⟨rfl,h1,hb1,k1⟩
    go_wp2
    go_roundw
    case rel=>exact ⟨2,rfl,by omega,by cases p0 <;> exact Or.inr h1,hb.trans hb1⟩
    case measure=>decide
   | false =>
    go_wp2
    go_roundw
    case rel=>exact ⟨2,rfl,by omega,by cases p0 <;> exact hI,hb⟩
    case measure=>decide
  | 2,_ =>
   have d2:wr.cell? ⟨w.heap.size,2,none⟩ = some (.slice a1 n1 c1):=by rw [hb.cell hsz]; exact hcb 2 _ rfl
   go_wp2
   go_loopw [32] (fun s wr2=>∃ i:Nat,s = .int .i64 i /\ i <= n1 /\ Lib.IsBuilderF 41 5 w'.heap.size w'.heap.size (Lib.byteCells (Tryz.portsL p0 p1 2 ++ Tryz.rowsL [114,97,109,32] (L1.take i))) wr2 /\ Below w'.heap.size w' wr2) (fun s wr2=>n1 - (RowKit.intOf s).toNat)
   case atStart=>exact ⟨0,rfl,by omega,by simpa [Tryz.rowsL] using hI,hb⟩
   case round =>
    clear hI hBw hb d0 d1 d2
    obtain ⟨i,rfl,hi,hI,hb⟩:=hrel
    have hBw:=hb.size
    by_cases hlt:i < n1
    ·skip
     obtain ⟨p,hp⟩:∃ p,L1[i]? = some p:=⟨_,List.getElem?_eq_getElem (by omega)⟩
     obtain ⟨hp1,hp2,b,o,rfl,hbl,e1,e2⟩:=hR1 i p hp
     rw [<- hcw _ (by simpa using hbl),<- hb.cell (by show b < _; omega)] at e1 e2
     have hS0:Tryz.PS w' w'.heap.size wr.heap.size _ p (wr.alloc (.cells #[.int .i64 p.1,.int .i64 p.2] 48)):=⟨hb.alloc hBw _,hI.alloc _,Tryz.cell_new _ _ _ _,Tryz.cell_new _ _ _ _⟩
     have hf1:=fun W h=>Tryz.PS.four (p:=p) (k:=wr.heap.size) (acc:=Tryz.portsL p0 p1 2 ++ Tryz.rowsL [114,97,109,32] (L1.take i)) hg' h5 p.1 hp1 W h
     have hf2:=fun W h=>Tryz.PS.four (p:=p) (k:=wr.heap.size) (acc:=Tryz.portsL p0 p1 2 ++ Tryz.rowsL [114,97,109,32] (L1.take i)) hg' h5 p.2 hp2 W h
     have hll:(Tryz.portsL p0 p1 2 ++ Tryz.rowsL [114,97,109,32] (L1.take i)).length + (Tryz.rowL [114,97,109,32] p).length <= 140737488355328:=by
      have q1:=Tryz.portsL_len p0 p1
      have q2:=Tryz.rowsL_len [114,97,109,32] (L1.take (i + 1))
      have q3:=Tryz.rowsL_len [114,97,109,32] L1
      have q5:(L1.take (i + 1)).length <= 100:=by rw [List.length_take]; omega
      rw [Tryz.rowsL_succ _ hp] at q2
      simp only [List.length_append,List.length_cons,List.length_nil] at q2 q3 ⊢
      omega
     have hwr:=fun W h=>Tryz.PS.wr (v:=w') (B:=w'.heap.size) (k:=wr.heap.size) (p:=p) (Tryz.rowL [114,97,109,32] p) hll W h
     clear hll
     obtain ⟨X1,X2,X3,X4,rfl,x1,x2,x3,x4⟩:=Tryz.lineW [114,97,109,32] p (by decide)
     go_wp2
     go_region_with (first
      | (go_at_call 15; first
       | (refine (hf2 _ hS1).mono ?_; rintro e W2 ⟨rfl,hS2,k20,k21⟩)
       | (refine (hf1 _ hS0.drew).mono ?_; rintro e W1 ⟨rfl,hS1,k10,k11⟩))
      | (go_at_call 14; refine (hwr _ hS2).mono ?_; rintro e W3 ⟨rfl,hI3,hb3⟩))
     all_goals (
      go_wp2
      go_roundw
      case rel =>
       (repeat apply Exists.intro)
       exact ⟨⟨i + 1,by go_num,by omega,by rw [Tryz.rowsL_succ _ hp,<- List.append_assoc]; exact hI3,hb3⟩,rfl⟩
      case measure=>simp [RowKit.intOf]; omega)
    ·have d3:wr.cell? ⟨w.heap.size,3,none⟩ = some (.slice a2 n2 c2):=by rw [hb.cell hsz]; exact hcb 3 _ rfl
     obtain rfl:i = n1:=by omega
     have hT1:L1.take i = L1:=List.take_of_length_le (by omega)
     rw [hT1] at hI
     go_wp2
     go_loopw [51] (fun s wr2=>∃ j:Nat,s = .int .i64 j /\ j <= n2 /\ Lib.IsBuilderF 41 5 w'.heap.size w'.heap.size (Lib.byteCells (Tryz.portsL p0 p1 2 ++ Tryz.rowsL [114,97,109,32] L1 ++ Tryz.rowsL [115,97,118,101,32] (L2.take j))) wr2 /\ Below w'.heap.size w' wr2) (fun s wr2=>n2 - (RowKit.intOf s).toNat)
     case atStart=>exact ⟨0,rfl,by omega,by simpa [Tryz.rowsL] using hI,hb⟩
     case round =>
      clear hI hBw hb d3 hlt hi hT1
      rename_i n1 _
      obtain ⟨i,rfl,hi,hI,hb⟩:=hrel
      have hBw:=hb.size
      by_cases hlt:i < n2
      ·skip
       obtain ⟨p,hp⟩:∃ p,L2[i]? = some p:=⟨_,List.getElem?_eq_getElem (by omega)⟩
       obtain ⟨hp1,hp2,b,o,rfl,hbl,e1,e2⟩:=hR2 i p hp
       rw [<- hcw _ (by simpa using hbl),<- hb.cell (by show b < _; omega)] at e1 e2
       have hS0:Tryz.PS w' w'.heap.size wr.heap.size _ p (wr.alloc (.cells #[.int .i64 p.1,.int .i64 p.2] 48)):=⟨hb.alloc hBw _,hI.alloc _,Tryz.cell_new _ _ _ _,Tryz.cell_new _ _ _ _⟩
       have hf1:=fun W h=>Tryz.PS.four (p:=p) (k:=wr.heap.size) (acc:=Tryz.portsL p0 p1 2 ++ Tryz.rowsL [114,97,109,32] L1 ++ Tryz.rowsL [115,97,118,101,32] (L2.take i)) hg' h5 p.1 hp1 W h
       have hf2:=fun W h=>Tryz.PS.four (p:=p) (k:=wr.heap.size) (acc:=Tryz.portsL p0 p1 2 ++ Tryz.rowsL [114,97,109,32] L1 ++ Tryz.rowsL [115,97,118,101,32] (L2.take i)) hg' h5 p.2 hp2 W h
       have hll:(Tryz.portsL p0 p1 2 ++ Tryz.rowsL [114,97,109,32] L1 ++ Tryz.rowsL [115,97,118,101,32] (L2.take i)).length + (Tryz.rowL [115,97,118,101,32] p).length <= 140737488355328:=by
        have q1:=Tryz.portsL_len p0 p1
        have q2:=Tryz.rowsL_len [115,97,118,101,32] (L2.take (i + 1))
        have q3:=Tryz.rowsL_len [114,97,109,32] L1
        have q5:(L2.take (i + 1)).length <= 100:=by rw [List.length_take]; omega
        rw [Tryz.rowsL_succ _ hp] at q2
        simp only [List.length_append,List.length_cons,List.length_nil] at q2 q3 ⊢
        omega
       have hwr:=fun W h=>Tryz.PS.wr (v:=w') (B:=w'.heap.size) (k:=wr.heap.size) (p:=p) (Tryz.rowL [115,97,118,101,32] p) hll W h
       clear hll
       obtain ⟨X1,X2,X3,X4,rfl,x1,x2,x3,x4⟩:=Tryz.lineW [115,97,118,101,32] p (by decide)
       go_wp2
       go_region_with (first
        | (go_at_call 15; first
         | (refine (hf2 _ hS1).mono ?_; rintro e W2 ⟨rfl,hS2,k20,k21⟩)
         | (refine (hf1 _ hS0.drew).mono ?_; rintro e W1 ⟨rfl,hS1,k10,k11⟩))
        | (go_at_call 14; refine (hwr _ hS2).mono ?_; rintro e W3 ⟨rfl,hI3,hb3⟩))
       all_goals (
        go_wp2
        go_roundw
        case rel =>
         (repeat apply Exists.intro)
         exact ⟨⟨i + 1,by go_num,by omega,by rw [Tryz.rowsL_succ _ hp,<- List.append_assoc]; exact hI3,hb3⟩,rfl⟩
        case measure=>simp [RowKit.intOf]; omega)
      ·obtain rfl:i = n2:=by omega
       have hT2:L2.take i = L2:=List.take_of_length_le (by omega)
       rw [hT2] at hI
       have hc:=Tryz.toS w'.heap.size w'.heap.size _ wr hI hBw
       go_wp2_with (go_at_call 16; refine hc.mono ?_)
       rintro e w1 ⟨rfl,_,hb1,_⟩
       go_wp2
       go_ret2
       refine ⟨rfl,Below.trans ?_ ((hb.trans hb1).mono (Nat.le_of_lt hsz))⟩
       exact ((Below.refl w.heap.size w).alloc (Nat.le_refl _) _).trans ⟨hk.os,hk.tape,hk.output,hk.size,fun k hk'=>hk.blk k (by simp; omega) (by simp)⟩
set_option maxHeartbeats 4000000 in
theorem Tryz.print1 (k:Int) (hk0:k ≠ 0) (p0 p1:Bool) (a1 a2:Option Addr) (n1 n2 c1 c2:Nat) (w:World)
  (hC:∀ W,Below w.heap.size w W -> Calls Tryz.prog 6 #[.agg #[.bool p0,.bool p1,.slice a1 n1 c1,.slice a2 n2 c2]] W fun e w'=>e = .returned (.int .i64 k) /\ YtfgbfdlacnihkaaGreatDoor.Sx.Keep [] W w') :
  Calls Tryz.prog 5 #[.agg #[.bool p0,.bool p1,.slice a1 n1 c1,.slice a2 n2 c2]] w fun e w'=>e = .returned (.tuple #[.string ⟨#[]⟩,.int .i64 k]) /\ Below w.heap.size w w':=by
 go_enter Tryz.func5,Tryz.ntmps5
 go_wp2_with (go_at_call 6; refine (hC _ ((Below.refl w.heap.size w).alloc (Nat.le_refl _) _)).mono ?_; rintro e w' ⟨rfl,hk⟩)
 go_wp2
 go_ret2
 refine ⟨rfl,?_⟩
 have hsz:w.heap.size < w'.heap.size:=by have:=hk.size; simp at this; omega
 exact ((Below.refl w.heap.size w).alloc (Nat.le_refl _) _).trans ⟨hk.os,hk.tape,hk.output,hk.size,fun k hk'=>hk.blk k (by simp; omega) (by simp)⟩
end Go.Proofs
namespace Go.Proofs.YtfgbfdlacnihkaaGreatDoor.Po
open Go Go.Proofs Go.RowKit Go.Proofs.YtfgbfdlacnihkaaGreatDoor.Sx
variable {m:Int}
theorem sl_inv {w:World} {v:Value} {l:List Int} {n:Int} {r:Option Rg} (h:flatSl w ks2 v = some (l,n,r)) :
  ∃ a k c,v = .slice a k c /\ n = ((k:Nat):Int) /\ k <= c /\ l.length = k * 2 /\ InR .i64 ((k:Nat):Int) /\ (k = 0 \/ ∃ b o,a = some ⟨b,o,none⟩ /\ seqAt w b o ks2 l):=by
 have h0:=h
 unfold flatSl at h
 split at h
 ·rename_i p len cap
  split at h
  ·cases h
  ·rename_i hbl
   have hle:len <= cap:=by
    rw [Bool.not_eq_true,Bool.eq_false_iff,ne_eq,Nat.blt_eq] at hbl
    omega
   split at h
   ·rename_i hz
    rw [beq_iff_eq] at hz
    subst hz
    simp only [Option.some.injEq,Prod.mk.injEq] at h
    obtain ⟨rfl,rfl,rfl⟩:=h
    exact ⟨p,0,cap,rfl,rfl,hle,rfl,⟨by decide,by decide⟩,.inl rfl⟩
   ·split at h
    ·rename_i b o
     split at h
     ·rename_i hin
      split at h
      ·rename_i l' hb
       simp only [Option.some.injEq,Prod.mk.injEq] at h
       obtain ⟨rfl,rfl,rfl⟩:=h
       obtain ⟨_,_,g3,g4,_⟩:=flatSl_sq h0
       exact ⟨_,len,cap,rfl,rfl,hle,g3,inR_spec hin,.inr ⟨b,o,rfl,g4⟩⟩
      ·cases h
     ·cases h
    ·cases h
 ·cases h
theorem sl_keep {w w':World} {B:Nat} (hB:w.heap.size <= B) (hb:Below B w w') {v:Value} {l:List Int} {n:Int} {r:Option Rg} (h:flatSl w ks2 v = some (l,n,r)):∃ r',flatSl w' ks2 v = some (l,n,r'):=by
 obtain ⟨a,k,c,rfl,rfl,hk,hl,hin,hs⟩:=sl_inv h
 rcases hs with rfl | ⟨b,o,rfl,hs⟩
 ·obtain rfl:l = []:=List.eq_nil_of_length_eq_zero (by simpa using hl)
  exact ⟨none,flatSl_0⟩
 ·by_cases hk0:k = 0
  ·subst hk0
   obtain rfl:l = []:=List.eq_nil_of_length_eq_zero (by simpa using hl)
   exact ⟨none,flatSl_0⟩
  ·exact ⟨_,flatSl_mk (fun j x hj=>by
    obtain ⟨ck,u,e1,e2,e3⟩:=hs j x hj
    refine ⟨ck,u,e1,?_,e3⟩
    rw [hb.cell (by have:=World.block_lt_of_cell? w _ e2; simp only at this ⊢; omega)]
    exact e2) hl hk hin hk0⟩
def polSh:List CK:=[.bool,.bool,.sl ks2,.sl ks2]
theorem flatC_nil' {w:World} {ps:List Rg} {vs:List Value} {f:Fl} (h:flatC w ps [] vs = some f):vs = [] /\ f = ([],[]):=by
 cases vs with
 | nil=>simp [flatC] at h; exact ⟨rfl,h.symm⟩
 | cons v vs=>simp [flatC] at h
theorem flatC_bool' {w:World} {ps:List Rg} {l:List CK} {vs:List Value} {f:Fl} (h:flatC w ps (.bool :: l) vs = some f):∃ b us is bs,vs = .bool b :: us /\ flatC w ps l us = some (is,bs) /\ f = (is,b :: bs):=by
 cases vs with
 | nil=>simp [flatC] at h
 | cons v vs =>
  unfold flatC at h
  split at h
  ·rename_i b is bs h1
   cases h
   exact ⟨b,vs,is,bs,rfl,h1,rfl⟩
  ·cases h
theorem flatC_sl' {w:World} {ps:List Rg} {ks:List CK} {l:List CK} {vs:List Value} {f:Fl} (h:flatC w ps (.sl ks :: l) vs = some f) :
  ∃ v us q n r is bs,vs = v :: us /\ flatSl w ks v = some (q,n,r) /\ flatC w ps l us = some (is,bs) /\ f = (enc q :: n :: is,bs):=by
 cases vs with
 | nil=>simp [flatC] at h
 | cons v vs =>
  unfold flatC at h
  split at h
  ·rename_i q n r is bs h1 h2
   cases h
   exact ⟨v,vs,q,n,r,is,bs,rfl,h1,h2,rfl⟩
  ·cases h
theorem flat_pol {vs:List Value} {w:World} {is:List Int} {bs:List Bool} {ps:List Rg} (h:flatArgs [.val true polSh] vs w = some (is,bs,ps)) :
  ∃ (p0 p1:Bool) (v1 v2:Value) (l1 l2:List Int) (n1 n2:Int) (r1 r2:Option Rg),vs = [.agg #[.bool p0,.bool p1,v1,v2]] /\ is = [enc l1,n1,enc l2,n2] /\ bs = [p0,p1] /\ ps = [] /\
   flatSl w ks2 v1 = some (l1,n1,r1) /\ flatSl w ks2 v2 = some (l2,n2,r2):=by
 cases vs with
 | nil=>simp [flatArgs] at h
 | cons v us =>
  unfold flatArgs at h
  split at h
  ·rename_i i b is' bs' ps' h1 h2
   simp only [Option.some.injEq,Prod.mk.injEq] at h
   obtain ⟨rfl,rfl,rfl⟩:=h
   obtain ⟨rfl,rfl,rfl,rfl⟩:=flat_nil h2
   unfold flat1 at h1
   rw [if_pos rfl] at h1
   split at h1
   ·rename_i cs
    obtain ⟨p0,u1,_,_,e1,h1,e2⟩:=flatC_bool' h1
    obtain ⟨p1,u2,_,_,e3,h1,e4⟩:=flatC_bool' h1
    obtain ⟨v1,u3,l1,n1,r1,_,_,e5,s1,h1,e6⟩:=flatC_sl' h1
    obtain ⟨v2,u4,l2,n2,r2,_,_,e7,s2,h1,e8⟩:=flatC_sl' h1
    obtain ⟨e9,e10⟩:=flatC_nil' h1
    cases e10; cases e8; cases e6; cases e4; cases e2
    subst e9 e7 e5 e3
    obtain ⟨cs⟩:=cs
    simp only at e1
    subst e1
    exact ⟨p0,p1,v1,v2,l1,l2,n1,n2,r1,r2,rfl,rfl,rfl,rfl,s1,s2⟩
   ·cases h1
  ·cases h
theorem Laid.below {gl:Gl} {w w':World} {B:Nat} (h:Laid gl w) (hB:w.heap.size <= B) (hb:Below B w w'):Laid gl w':=fun g vs hg=>by
 obtain ⟨h1,h2⟩:=h g vs hg
 refine ⟨Nat.lt_of_lt_of_le h1 hb.size,fun j v hj=>?_⟩
 obtain ⟨h3,h4⟩:=h2 j v hj
 exact ⟨by rw [hb.cell (by simp only; omega)]; exact h3,h4⟩
theorem check_at {w:World} {p0 p1:Bool} {v1 v2:Value} {l1 l2:List Int} {n1 n2:Int} {r1 r2:Option Rg} (hL:Laid (gl m) w) (s1:flatSl w ks2 v1 = some (l1,n1,r1)) (s2:flatSl w ks2 v2 = some (l2,n2,r2))
  (hp:(F6 [enc l1,n1,enc l2,n2] [p0,p1]).2.headD false = true) (W:World) (hb:Below w.heap.size w W) :
  Calls Tryz.prog 6 #[.agg #[.bool p0,.bool p1,v1,v2]] W fun e w'=>e = .returned (.int .i64 ((F6 [enc l1,n1,enc l2,n2] [p0,p1]).1.getD 0 0)) /\ Keep [] W w':=by
 obtain ⟨q1,t1⟩:=sl_keep (Nat.le_refl _) hb s1
 obtain ⟨q2,t2⟩:=sl_keep (Nat.le_refl _) hb s2
 have hfl:flatArgs s6.args [.agg #[.bool p0,.bool p1,v1,v2]] W = some ([enc l1,n1,enc l2,n2],[p0,p1],[]):=by
  have t1:flatSl W [.int .i64,.int .i64] v1 = some (l1,n1,q1):=t1
  have t2:flatSl W [.int .i64,.int .i64] v2 = some (l2,n2,q2):=t2
  simp [s6,flatArgs,flat1,flatC,t1,t2]
 refine (c6 (m:=m) [.agg #[.bool p0,.bool p1,v1,v2]] W _ _ _ (Laid.below hL (Nat.le_refl _) hb) hfl trivial (fun r hr=>by cases hr) (fun q hq=>by cases hq) (fun q hq=>by cases hq) (fun _=>hp)).mono ?_
 rintro e w' ⟨v,rfl,hk,⟨r,p,hr,hps,ho,hx⟩,hy⟩
 clear hx hy
 refine ⟨?_,hk⟩
 have hps:some (([],[]):Fl) = some p:=hps
 cases hps
 simp only [flatRes,s6,Bool.false_eq_true,if_false,flat1] at hr
 unfold flatC at hr
 split at hr
 ·rename_i k' n is bs hnil
  split at hr
  ·rename_i hc
   rw [Bool.and_eq_true,beq_iff_eq] at hc
   obtain ⟨rfl,_⟩:=hc
   cases hr
   cases hnil
   rw [ho]
   rfl
  ·cases hr
 ·cases hr
def toNN (q:Int):List (Nat × Nat):=(pairs (dec q)).map fun p=>(p.1.toNat,p.2.toNat)
def okNN (q:Int):Bool:=(pairs (dec q)).all fun p=>decide (0 <= p.1) && decide (p.1 < 65536) && decide (0 <= p.2) && decide (p.2 < 65536)
def s5:Sum:={ args:=[.val true polSh],tup:=true,res:=[(false,[.str]),(false,[.int .i64])],pre:=true }
def preP (is:List Int):Bool:=decide (is.getD 1 0 <= 100) && decide (is.getD 3 0 <= 100) && (okNN (is.getD 0 0) && okNN (is.getD 2 0))
def txtP (is:List Int) (bs:List Bool):List UInt8:=Tryz.printL (bs.getD 0 false) (bs.getD 1 false) (toNN (is.getD 0 0)) (toNN (is.getD 2 0))
noncomputable def F5:Fun:=fun is bs =>
 if (F6 is bs).1.getD 0 0 = 0 then ([enc (ubyt (txtP is bs)),0],[(F6 is bs).2.headD false && preP is]) else ([enc (ubyt []),(F6 is bs).1.getD 0 0],[(F6 is bs).2.headD false])
theorem rows_at {w:World} {a:Option Addr} {k:Nat} {l:List Int} (hl:l.length = k * 2) (hs:k = 0 \/ ∃ b o,a = some ⟨b,o,none⟩ /\ seqAt w b o ks2 l) (hok:okNN (enc l) = true) :
  (toNN (enc l)).length = k /\ ∀ (i:Nat) (p:Nat × Nat),(toNN (enc l))[i]? = some p -> p.1 < 65536 /\ p.2 < 65536 /\ ∃ b o,a = some ⟨b,o,none⟩ /\ b < w.heap.size /\ w.cell? ⟨b,o + i * 2,none⟩ = some (.int .i64 p.1) /\ w.cell? ⟨b,o + i * 2 + 1,none⟩ = some (.int .i64 p.2):=by
 unfold toNN
 rw [dec_enc,List.length_map]
 refine ⟨pairs_len hl,fun i p hp=>?_⟩
 rw [List.getElem?_map,Option.map_eq_some_iff] at hp
 obtain ⟨x,hx,rfl⟩:=hp
 unfold okNN at hok
 rw [dec_enc,List.all_eq_true] at hok
 have:=hok x (List.mem_of_getElem? hx)
 simp only [Bool.and_eq_true,decide_eq_true_eq] at this
 obtain ⟨h1,h2⟩:=pairs_get hl hx
 have hi:i < k:=by rw [<- pairs_len hl]; exact (List.getElem?_eq_some_iff.1 hx).1
 obtain ⟨b,o,rfl,hq⟩:=hs.resolve_left (by omega)
 obtain ⟨ck,u,e1,e2,e3⟩:=hq _ _ h1
 obtain ⟨ck',u',e1',e2',e3'⟩:=hq _ _ h2
 rw [ks2_get] at e1 e1'
 cases e1; cases e1'
 obtain ⟨rfl,_⟩:=e3
 obtain ⟨rfl,_⟩:=e3'
 refine ⟨by omega,by omega,b,o,rfl,World.block_lt_of_cell? w _ e2,?_,?_⟩
 ·rw [e2]; simp only [Option.some.injEq,Value.int.injEq,true_and]; omega
 ·rw [show o + i * 2 + 1 = o + (i * 2 + 1) by omega,e2']; simp only [Option.some.injEq,Value.int.injEq,true_and]; omega
theorem printL_len (p0 p1:Bool) (L1 L2:List (Nat × Nat)):(Tryz.printL p0 p1 L1 L2).length <= 14 + 14 * L1.length + 15 * L2.length:=by
 have h1:=Tryz.portsL_len p0 p1
 have h2:=Tryz.rowsL_len [114,97,109,32] L1
 have h3:=Tryz.rowsL_len [115,97,118,101,32] L2
 unfold Tryz.printL
 rw [List.length_append,List.length_append,h2,h3]
 simp only [List.length_cons,List.length_nil]
 omega
theorem c5:Contract Tryz.prog (gl m) 5 s5 F5:=by
 intro vs w is bs ps hL hfl ha hz h1 h2 hpre
 obtain ⟨p0,p1,v1,v2,l1,l2,n1,n2,r1,r2,rfl,rfl,rfl,rfl,s1,s2⟩:=flat_pol hfl
 have hp:=hpre rfl
 obtain ⟨a1,k1,c1,rfl,rfl,hk1,hl1,hin1,hs1⟩:=sl_inv s1
 obtain ⟨a2,k2,c2,rfl,rfl,hk2,hl2,hin2,hs2⟩:=sl_inv s2
 have fin:∀ (l:List UInt8) (e:Int) (b:Bool) (w':World),l.length <= 10000 -> InR .i64 e -> Below w.heap.size w w' -> F5 [enc l1,(k1:Int),enc l2,(k2:Int)] [p0,p1] = ([enc (ubyt l),e],[b]) ->
   ∃ v,Ending.returned (.tuple #[.string ⟨l.toArray⟩,.int .i64 e]) = .returned v /\ Keep [] w w' /\ OutOk s5 [] v w' (F5 [enc l1,(k1:Int),enc l2,(k2:Int)] [p0,p1]) /\
    ∀ r,r ∈ resRgs w' s5 v -> w.heap.size <= r.blk \/ ∃ q,(q ∈ argRgs s5.args [.agg #[.bool p0,.bool p1,.slice a1 k1 c1,.slice a2 k2 c2]] w \/ ∃ (g:Nat) (us:List Value),(gl m)[g]? = some us /\ q = gRg g us) /\ r.within q:=by
  intro l e b w' hl he hb hF
  have hr:inR .i64 ((⟨l.toArray⟩:ByteArray).size:Int) = true:=inR_mk (by
   show InR .i64 ((l.toArray.size:Nat):Int)
   rw [List.size_toArray]
   exact ⟨by show (-9223372036854775808:Int) <= _; omega,by show _ <= (9223372036854775807:Int); omega⟩)
  refine ⟨_,rfl,below_keep hb,⟨([enc (ubyt l),e],[]),([],[]),?_,rfl,by rw [hF]; simp,by rw [hF]; simp [s5]⟩,fun r hr=>?_⟩
  ·simp [flatRes,s5,flatTup,flat1,flatC,hr,encS_mk,inR_mk he]
  ·simp [resRgs,s5,rgTup,rg1,rgC] at hr
 by_cases hc:(F6 [enc l1,(k1:Int),enc l2,(k2:Int)] [p0,p1]).1.getD 0 0 = 0
 ·have hF:F5 [enc l1,(k1:Int),enc l2,(k2:Int)] [p0,p1] = ([enc (ubyt (txtP [enc l1,(k1:Int),enc l2,(k2:Int)] [p0,p1])),0],[(F6 [enc l1,(k1:Int),enc l2,(k2:Int)] [p0,p1]).2.headD false && preP [enc l1,(k1:Int),enc l2,(k2:Int)]]):=by
   unfold F5; rw [if_pos hc]
  rw [hF] at hp
  simp only [List.headD_cons,Bool.and_eq_true] at hp
  obtain ⟨hp0,hp1⟩:=hp
  unfold preP at hp1
  simp only [List.getD_cons_zero,List.getD_cons_succ,Bool.and_eq_true,decide_eq_true_eq] at hp1
  obtain ⟨⟨hb1,hb2⟩,ho1,ho2⟩:=hp1
  obtain ⟨g1,g2⟩:=rows_at hl1 hs1 ho1
  obtain ⟨g3,g4⟩:=rows_at hl2 hs2 ho2
  have hC:=check_at (m:=m) hL s1 s2 hp0
  rw [hc] at hC
  refine (Tryz.print0 p0 p1 a1 a2 k1 k2 c1 c2 w (by omega) (by omega) _ _ g1 g3 g2 g4 ((hL 5 _ rfl).2 15 (.int .u8 4) rfl).1 hC).mono ?_
  rintro e w' ⟨rfl,hb⟩
  refine fin _ 0 _ w' ?_ ⟨by decide,by decide⟩ hb hF
  have:=printL_len p0 p1 (toNN (enc l1)) (toNN (enc l2))
  rw [g1,g3] at this
  omega
 ·have hF:F5 [enc l1,(k1:Int),enc l2,(k2:Int)] [p0,p1] = ([enc (ubyt []),(F6 [enc l1,(k1:Int),enc l2,(k2:Int)] [p0,p1]).1.getD 0 0],[(F6 [enc l1,(k1:Int),enc l2,(k2:Int)] [p0,p1]).2.headD false]):=by
   unfold F5; rw [if_neg hc]
  rw [hF] at hp
  have hC:=check_at (m:=m) hL s1 s2 hp
  have hi:InR .i64 ((F6 [enc l1,(k1:Int),enc l2,(k2:Int)] [p0,p1]).1.getD 0 0):=by
   have:(F6 [enc l1,(k1:Int),enc l2,(k2:Int)] [p0,p1]).1.getD 0 0 = 0 \/ (F6 [enc l1,(k1:Int),enc l2,(k2:Int)] [p0,p1]).1.getD 0 0 = 1:=by
    show (S6.run (tabF T3) true [enc l1,(k1:Int),enc l2,(k2:Int)] [p0,p1]).1.getD 0 0 = 0 \/ (S6.run (tabF T3) true [enc l1,(k1:Int),enc l2,(k2:Int)] [p0,p1]).1.getD 0 0 = 1
    obtain ⟨ρ,e1,e2,e3,e4⟩:=Smry.run_specT (Φ:=tabF T3) (S:=S6) (is:=[enc l1,(k1:Int),enc l2,(k2:Int)]) (bs:=[p0,p1]) rfl
    rw [e1]
    clear e1 e2 e3
    simp only [S6,eqns,Em.eqn,RI.d,A.d,B.d,and_true] at e4
    show ρ.i 4 = 0 \/ ρ.i 4 = 1
    have:=e4.2.2.2.2
    by_cases hb:ρ.b 9 = true
    ·exact .inl (this.2.2.2.2.trans (if_pos hb))
    ·exact .inr (this.2.2.2.2.trans (if_neg hb))
   rcases this with h | h <;> rw [h] <;> exact ⟨by decide,by decide⟩
  refine (Tryz.print1 _ hc p0 p1 a1 a2 k1 k2 c1 c2 w hC).mono ?_
  rintro e w' ⟨rfl,hb⟩
  exact fin [] _ _ w' (by simp) hi hb hF
theorem call5:∀ args w,(callFunc 5 args).run Tryz.prog w = .ok (.enter 5 args) w:=callable_of Tryz.func5 (by kernel_rfl) (by kernel_rfl)
end Go.Proofs.YtfgbfdlacnihkaaGreatDoor.Po
