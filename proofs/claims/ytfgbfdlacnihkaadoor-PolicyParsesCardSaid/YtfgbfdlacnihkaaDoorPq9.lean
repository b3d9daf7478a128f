/-
  Merged texts (PoS2, PoU1). No condition.
-/
import Derived.Test.YtfgbfdlacnihkaaDoorPq7
import Derived.Test.YtfgbfdlacnihkaaDoorPq8
set_option linter.unusedVariables false
set_option linter.unusedSimpArgs false
namespace Go.Proofs.YtfgbfdlacnihkaaDoor.Po
open Go Go.Proofs Go.Proofs.YtfgbfdlacnihkaaDoor.Sx
variable {m:Int}
noncomputable def e23:Nat × Sum × Fun:=(23,s23,F23)
noncomputable def T5:List (Nat × Sum × Fun):=e23 :: T4
theorem A5:AllOk Tryd.prog (tabF T5) (gl m) (tabS T5):=AllOk.cons (s:=e23.2.1) c23 call23 (fun S h=>by cases h) A4
def s24:Sum:={ args:=[(.val true [.bool,.bool,(.sl [(.int .i64),(.int .i64)]),(.sl [(.int .i64),(.int .i64)])])],tup:=false,res:=[(false,[.bool])],pre:=false }
def S24:Smry:=(.mk [(.db 2 (.eqb (.v 0) (.c false))),(.db 3 (.eqb (.v 1) (.c false))),(.db 4 (.and (.v 2) (.v 3))),(.di 4 (.ar .add .i64 (.v 1) (.v 3))),(.db 5 (.cm .eql (.v 4) (.c 0))),(.db 6 (.and (.v 4) (.v 5)))] [] [(.v 6)])
def i24:List (Nat × List Nat × List Nat × List Nat × Bool):=sp0
theorem x24:AllOk Tryd.prog (tabF T5) (gl m) (tabS T5):=A5
theorem y24l:LsOk (tabF T5) []:=fun p hp=>by cases hp
theorem h24:HOk Tryd.prog (tabF T5) (gl m) (hC m (mkIs [] i24) (tabS T5)):=hC_ok x24 (by kernel_rfl) (by kernel_rfl) (mkIs_ok y24l)
theorem k24:fnX Tryd.prog (hC m (mkIs [] i24) (tabS T5)) (gl m) (ctlL Tryd.f24 (gl m) s24 []) Tryd.f24 s24 = some S24:=by kernel_rfl
noncomputable def F24:Fun:=S24.run (tabF T5) false
theorem y24:LoopsOk (tabF T5) (ctlL Tryd.f24 (gl m) s24 []):=fun p hp=>by cases hp
theorem z24:(wsEm S24.em (argI s24.args) (argB s24.args) && shOk s24 && noOb S24.em) = true:=by kernel_rfl
theorem d24:Contract Tryd.prog (gl m) 24 s24 F24:=contract_of h24 Tryd.func24 y24 k24 z24
theorem c24:Contract Tryd.prog (gl m) 24 s24 F24:=d24
theorem call24:∀ args w,(callFunc 24 args).run Tryd.prog w = .ok (.enter 24 args) w:=callable_of Tryd.func24 (by kernel_rfl) (by kernel_rfl)
noncomputable def e24:Nat × Sum × Fun:=(24,withInl s24 S24,F24)
noncomputable def T6:List (Nat × Sum × Fun):=e24 :: T5
theorem A6:AllOk Tryd.prog (tabF T6) (gl m) (tabS T6):=AllOk.cons (s:=e24.2.1) c24 call24 (fun S h=>by cases h; exact ⟨rfl,fun _ _=>rfl⟩) A5
def s22:Sum:={ args:=[(.val false [(.sl [(.int .i64),(.int .i64)])]),(.val false [(.sl [(.int .i64),(.int .i64)])])],tup:=false,res:=[(false,[.bool])],pre:=true }
def S22:Smry:=(.mk [(.db 0 (.cm .neq (.v 1) (.v 3))),(.call 102200 [(.v 0),(.v 1),(.v 2),(.v 3),(.c 0)] [] 4 0 1 3),(.ob [((.v 0),false)] (.v 1)),(.db 4 (.not (.v 0))),(.db 5 (.and (.v 4) (.v 3)))] [] [(.v 5)])
def L102200:LAnn:={ id:=102200,ga:=[0,1,2,3],gb:=[],hv:=[5],dr:=[2,3,6,7,8,9,11,12,13,15,16,17,18,19,20,21,22,23,24],hb:=[],db:=[],xs:=[4],xb:=[],nI:=5,nB:=0,S:=(.mk [(.db 0 (.cm .lss (.v 4) (.v 1))),(.db 1 (.cm .geq (.v 4) (.c 0))),(.ob [((.v 0),true)] (.v 1)),(.db 2 (.cm .lss (.v 4) (.v 1))),(.ob [((.v 0),true)] (.v 2)),(.di 5 (.get (.v 0) (.v 4) 2 0)),(.di 6 (.get (.v 0) (.v 4) 2 1)),(.db 3 (.cm .geq (.v 4) (.c 0))),(.ob [((.v 0),true)] (.v 3)),(.db 4 (.cm .lss (.v 4) (.v 3))),(.ob [((.v 0),true)] (.v 4)),(.di 7 (.get (.v 2) (.v 4) 2 0)),(.di 8 (.get (.v 2) (.v 4) 2 1)),(.db 5 (.cm .eql (.v 5) (.v 7))),(.db 6 (.cm .eql (.v 6) (.v 8))),(.db 7 (.and (.v 5) (.v 6))),(.db 8 (.not (.v 7))),(.di 9 (.ar .add .i64 (.v 4) (.c 1))),(.db 9 (.not (.v 8))),(.db 10 (.not (.v 8))),(.db 11 (.and (.v 0) (.v 10))),(.db 12 (.and (.v 0) (.v 8))),(.db 13 (.not (.v 0)))] [(.v 0),(.v 1),(.v 2),(.v 3),(.v 9)] [(.v 11),(.v 12),(.v 13)]) }
def l22:List (Nat × LAnn):=[(5,L102200)]
def i22:List (Nat × List Nat × List Nat × List Nat × Bool):=[(40,[],[],[],false),(60,[],[],[],false),(50,[],[],[],false),(41,[],[],[],false),(52,[],[],[],false),(53,[],[],[],false),(70,[],[],[],false),(68,[],[],[],false),(81,[],[],[],true),(16,[],[],[],false),(30,[],[],[],false),(45,[],[],[],false)]
theorem x22:AllOk Tryd.prog (lpF (l22.map (·.2)) (tabF T6)) (gl m) (tabS T6):=(AllOk.loops (l:=l22.map (·.2)) A6 (by kernel_rfl))
theorem y22l:LsOk (lpF (l22.map (·.2)) (tabF T6)) l22:=LoopsOk.of (fn:=Tryd.f22) (gl:=(gl 0)) (s:=s22) (l:=l22) (by kernel_rfl)
theorem h22:HOk Tryd.prog (lpF (l22.map (·.2)) (tabF T6)) (gl m) (hC m (mkIs l22 i22) (tabS T6)):=hC_ok x22 (by kernel_rfl) (by kernel_rfl) (mkIs_ok y22l)
theorem k22:fnX Tryd.prog (hC m (mkIs l22 i22) (tabS T6)) (gl m) (ctlL Tryd.f22 (gl m) s22 (sel l22 [0])) Tryd.f22 s22 = some S22:=by kernel_rfl
noncomputable def F22:Fun:=S22.run (lpF (l22.map (·.2)) (tabF T6)) true
theorem y22:LoopsOk (lpF (l22.map (·.2)) (tabF T6)) (ctlL Tryd.f22 (gl m) s22 (sel l22 [0])):=fun p hp=>y22l p (sel_mem hp)
theorem z22:(wsEm S22.em (argI s22.args) (argB s22.args) && shOk s22 && s22.pre) = true:=by kernel_rfl
theorem d22:Contract Tryd.prog (gl m) 22 s22 F22:=contract_pre h22 Tryd.func22 y22 k22 z22
theorem c22:Contract Tryd.prog (gl m) 22 s22 F22:=d22
theorem call22:∀ args w,(callFunc 22 args).run Tryd.prog w = .ok (.enter 22 args) w:=callable_of Tryd.func22 (by kernel_rfl) (by kernel_rfl)
noncomputable def e22:Nat × Sum × Fun:=(22,s22,F22)
noncomputable def T7:List (Nat × Sum × Fun):=e22 :: T6
theorem A7:AllOk Tryd.prog (tabF T7) (gl m) (tabS T7):=AllOk.cons (s:=e22.2.1) c22 call22 (fun S h=>by cases h) A6
def s9:Sum:={ args:=[(.val true [.bool,.bool,(.sl [(.int .i64),(.int .i64)]),(.sl [(.int .i64),(.int .i64)])]),(.val true [.bool,.bool,(.sl [(.int .i64),(.int .i64)]),(.sl [(.int .i64),(.int .i64)])])],tup:=false,res:=[(false,[.bool])],pre:=true }
def S9:Smry:=(.mk [(.db 4 (.eqb (.v 0) (.v 2))),(.db 5 (.eqb (.v 1) (.v 3))),(.db 6 (.and (.v 4) (.v 5))),(.call 22 [(.v 0),(.v 1),(.v 4),(.v 5)] [] 8 0 7 2),(.ob [((.v 6),true)] (.v 7)),(.db 9 (.and (.v 6) (.v 8))),(.call 22 [(.v 2),(.v 3),(.v 6),(.v 7)] [] 8 0 10 2),(.ob [((.v 9),true)] (.v 10)),(.db 12 (.and (.v 9) (.v 11)))] [] [(.v 12)])
def i9:List (Nat × List Nat × List Nat × List Nat × Bool):=sp0
theorem x9:AllOk Tryd.prog (tabF T7) (gl m) (tabS T7):=A7
theorem y9l:LsOk (tabF T7) []:=fun p hp=>by cases hp
theorem h9:HOk Tryd.prog (tabF T7) (gl m) (hC m (mkIs [] i9) (tabS T7)):=hC_ok x9 (by kernel_rfl) (by kernel_rfl) (mkIs_ok y9l)
theorem k9:fnX Tryd.prog (hC m (mkIs [] i9) (tabS T7)) (gl m) (ctlL Tryd.f9 (gl m) s9 []) Tryd.f9 s9 = some S9:=by kernel_rfl
noncomputable def F9:Fun:=S9.run (tabF T7) true
theorem y9:LoopsOk (tabF T7) (ctlL Tryd.f9 (gl m) s9 []):=fun p hp=>by cases hp
theorem z9:(wsEm S9.em (argI s9.args) (argB s9.args) && shOk s9 && s9.pre) = true:=by kernel_rfl
theorem d9:Contract Tryd.prog (gl m) 9 s9 F9:=contract_pre h9 Tryd.func9 y9 k9 z9
theorem c9:Contract Tryd.prog (gl m) 9 s9 F9:=d9
theorem call9:∀ args w,(callFunc 9 args).run Tryd.prog w = .ok (.enter 9 args) w:=callable_of Tryd.func9 (by kernel_rfl) (by kernel_rfl)
noncomputable def e9:Nat × Sum × Fun:=(9,s9,F9)
noncomputable def T8:List (Nat × Sum × Fun):=e9 :: T7
theorem A8:AllOk Tryd.prog (tabF T8) (gl m) (tabS T8):=AllOk.cons (s:=e9.2.1) c9 call9 (fun S h=>by cases h) A7
def s25:Sum:={ args:=[(.val false [(.sl [(.int .i64),(.int .i64)])]),(.val false [(.int .i64)])],tup:=false,res:=[(false,[.bool])],pre:=true }
def S25:Smry:=(.mk [(.call 102500 [(.v 0),(.v 1),(.v 2),(.c 0)] [] 3 1 0 3),(.ob [] (.v 0)),(.di 4 (.ite (.v 2) (.c (-1)) (.v 3))),(.db 3 (.cm .geq (.v 4) (.c 0)))] [] [(.v 3)])
def L102500:LAnn:={ id:=102500,ga:=[0,1,2],gb:=[],hv:=[8],dr:=[2,3,6,10,11,12,13,14,15,17,18],hb:=[],db:=[],xs:=[4],xb:=[],nI:=4,nB:=0,S:=(.mk [(.db 0 (.cm .lss (.v 3) (.v 1))),(.db 1 (.cm .geq (.v 3) (.c 0))),(.ob [((.v 0),true)] (.v 1)),(.db 2 (.cm .lss (.v 3) (.v 1))),(.ob [((.v 0),true)] (.v 2)),(.di 4 (.get (.v 0) (.v 3) 2 0)),(.di 5 (.get (.v 0) (.v 3) 2 1)),(.db 3 (.cm .geq (.v 2) (.v 4))),(.db 4 (.cm .leq (.v 2) (.v 5))),(.db 5 (.and (.v 3) (.v 4))),(.di 6 (.ar .add .i64 (.v 3) (.c 1))),(.db 6 (.not (.v 5))),(.db 7 (.not (.v 5))),(.db 8 (.and (.v 0) (.v 7))),(.db 9 (.and (.v 0) (.v 5))),(.db 10 (.not (.v 0)))] [(.v 0),(.v 1),(.v 2),(.v 6),(.v 3)] [(.v 8),(.v 9),(.v 10)]) }
def l25:List (Nat × LAnn):=[(3,L102500)]
def i25:List (Nat × List Nat × List Nat × List Nat × Bool):=[(40,[],[],[],false),(60,[0],[],[],false),(50,[],[],[],false),(41,[],[],[],false),(52,[],[],[],false),(53,[],[],[],false),(70,[],[],[],false),(68,[],[],[],false),(81,[],[],[],true),(16,[],[],[],false),(30,[],[],[],false),(45,[],[],[],false)]
theorem x25:AllOk Tryd.prog (lpF (l25.map (·.2)) (tabF T8)) (gl m) (tabS T8):=(AllOk.loops (l:=l25.map (·.2)) A8 (by kernel_rfl))
theorem y25l:LsOk (lpF (l25.map (·.2)) (tabF T8)) l25:=LoopsOk.of (fn:=Tryd.f25) (gl:=(gl 0)) (s:=s25) (l:=l25) (by kernel_rfl)
theorem h25:HOk Tryd.prog (lpF (l25.map (·.2)) (tabF T8)) (gl m) (hC m (mkIs l25 i25) (tabS T8)):=hC_ok x25 (by kernel_rfl) (by kernel_rfl) (mkIs_ok y25l)
theorem k25:fnX Tryd.prog (hC m (mkIs l25 i25) (tabS T8)) (gl m) (ctlL Tryd.f25 (gl m) s25 (sel l25 [])) Tryd.f25 s25 = some S25:=by kernel_rfl
noncomputable def F25:Fun:=S25.run (lpF (l25.map (·.2)) (tabF T8)) true
theorem y25:LoopsOk (lpF (l25.map (·.2)) (tabF T8)) (ctlL Tryd.f25 (gl m) s25 (sel l25 [])):=fun p hp=>y25l p (sel_mem hp)
theorem z25:(wsEm S25.em (argI s25.args) (argB s25.args) && shOk s25 && s25.pre) = true:=by kernel_rfl
theorem d25:Contract Tryd.prog (gl m) 25 s25 F25:=contract_pre h25 Tryd.func25 y25 k25 z25
theorem c25:Contract Tryd.prog (gl m) 25 s25 F25:=d25
theorem call25:∀ args w,(callFunc 25 args).run Tryd.prog w = .ok (.enter 25 args) w:=callable_of Tryd.func25 (by kernel_rfl) (by kernel_rfl)
noncomputable def e25:Nat × Sum × Fun:=(25,s25,F25)
noncomputable def T9:List (Nat × Sum × Fun):=e25 :: T8
theorem A9:AllOk Tryd.prog (tabF T9) (gl m) (tabS T9):=AllOk.cons (s:=e25.2.1) c25 call25 (fun S h=>by cases h) A8
def s11:Sum:={ args:=[(.val true [.bool,.bool,(.sl [(.int .i64),(.int .i64)]),(.sl [(.int .i64),(.int .i64)])]),(.val false [(.int .i64)]),(.val false [(.int .i64)])],tup:=false,res:=[(false,[.bool])],pre:=true }
def S11:Smry:=(.mk [(.db 2 (.cm .eql (.v 4) (.c 0))),(.db 3 (.cm .geq (.v 5) (.c 0))),(.db 4 (.cm .lss (.v 5) (.c 2))),(.db 5 (.and (.v 3) (.v 4))),(.db 6 (.cm .geq (.v 5) (.c 0))),(.ob [((.v 2),true),((.v 5),true)] (.v 6)),(.db 7 (.cm .lss (.v 5) (.c 2))),(.ob [((.v 2),true),((.v 5),true)] (.v 7)),(.db 8 (.cm .eql (.v 5) (.c 0))),(.db 9 (.ite (.v 8) (.v 0) (.v 1))),(.db 10 (.and (.v 5) (.v 9))),(.db 11 (.cm .eql (.v 4) (.c 1))),(.call 25 [(.v 0),(.v 1),(.v 5)] [] 6 0 12 2),(.ob [((.v 2),false),((.v 11),true)] (.v 12)),(.db 14 (.cm .eql (.v 4) (.c 2))),(.call 25 [(.v 2),(.v 3),(.v 5)] [] 6 0 15 2),(.ob [((.v 2),false),((.v 11),false),((.v 14),true)] (.v 15)),(.db 17 (.or (.v 11) (.v 14))),(.db 18 (.ite (.v 11) (.v 13) (.v 16))),(.db 19 (.or (.v 2) (.v 17))),(.db 20 (.ite (.v 2) (.v 10) (.v 18))),(.db 21 (.not (.v 2))),(.db 22 (.not (.v 11))),(.db 23 (.not (.v 14))),(.db 24 (.and (.v 22) (.v 23))),(.db 25 (.and (.v 21) (.v 24))),(.db 26 (.ite (.v 25) (.c false) (.v 20)))] [] [(.v 26)])
def i11:List (Nat × List Nat × List Nat × List Nat × Bool):=sp0
theorem x11:AllOk Tryd.prog (tabF T9) (gl m) (tabS T9):=A9
theorem y11l:LsOk (tabF T9) []:=fun p hp=>by cases hp
theorem h11:HOk Tryd.prog (tabF T9) (gl m) (hC m (mkIs [] i11) (tabS T9)):=hC_ok x11 (by kernel_rfl) (by kernel_rfl) (mkIs_ok y11l)
theorem k11:fnX Tryd.prog (hC m (mkIs [] i11) (tabS T9)) (gl m) (ctlL Tryd.f11 (gl m) s11 []) Tryd.f11 s11 = some S11:=by kernel_rfl
noncomputable def F11:Fun:=S11.run (tabF T9) true
theorem y11:LoopsOk (tabF T9) (ctlL Tryd.f11 (gl m) s11 []):=fun p hp=>by cases hp
theorem z11:(wsEm S11.em (argI s11.args) (argB s11.args) && shOk s11 && s11.pre) = true:=by kernel_rfl
theorem d11:Contract Tryd.prog (gl m) 11 s11 F11:=contract_pre h11 Tryd.func11 y11 k11 z11
theorem c11:Contract Tryd.prog (gl m) 11 s11 F11:=d11
theorem call11:∀ args w,(callFunc 11 args).run Tryd.prog w = .ok (.enter 11 args) w:=callable_of Tryd.func11 (by kernel_rfl) (by kernel_rfl)
noncomputable def e11:Nat × Sum × Fun:=(11,s11,F11)
noncomputable def T10:List (Nat × Sum × Fun):=e11 :: T9
theorem A10:AllOk Tryd.prog (tabF T10) (gl m) (tabS T10):=AllOk.cons (s:=e11.2.1) c11 call11 (fun S h=>by cases h) A9
def s44:Sum:={ args:=[(.val false [(.sl [(.int .i64),(.int .i64)])]),(.val false [(.sl [(.int .i64),(.int .i64)])])],tup:=false,res:=[(false,[.bool])],pre:=true }
def S44:Smry:=(.mk [(.db 0 (.cm .neq (.v 1) (.v 3))),(.call 104400 [(.v 0),(.v 1),(.v 2),(.v 3),(.c 0)] [] 4 0 1 3),(.ob [((.v 0),false)] (.v 1)),(.db 4 (.not (.v 0))),(.db 5 (.and (.v 4) (.v 3)))] [] [(.v 5)])
def L104400:LAnn:={ id:=104400,ga:=[0,1,2,3],gb:=[],hv:=[13],dr:=[2,3,6,7,8,9,11,15,16,17,18,19,20,21,22,23,25],hb:=[],db:=[],xs:=[4],xb:=[],nI:=5,nB:=0,S:=(.mk [(.db 0 (.cm .lss (.v 4) (.v 1))),(.db 1 (.cm .geq (.v 4) (.c 0))),(.ob [((.v 0),true)] (.v 1)),(.db 2 (.cm .lss (.v 4) (.v 1))),(.ob [((.v 0),true)] (.v 2)),(.di 5 (.get (.v 0) (.v 4) 2 0)),(.di 6 (.get (.v 0) (.v 4) 2 1)),(.db 3 (.cm .geq (.v 4) (.c 0))),(.ob [((.v 0),true)] (.v 3)),(.db 4 (.cm .lss (.v 4) (.v 3))),(.ob [((.v 0),true)] (.v 4)),(.di 7 (.get (.v 2) (.v 4) 2 0)),(.di 8 (.get (.v 2) (.v 4) 2 1)),(.db 5 (.cm .eql (.v 5) (.v 7))),(.db 6 (.cm .eql (.v 6) (.v 8))),(.db 7 (.and (.v 5) (.v 6))),(.db 8 (.not (.v 7))),(.di 9 (.ar .add .i64 (.v 4) (.c 1))),(.db 9 (.not (.v 8))),(.db 10 (.not (.v 8))),(.db 11 (.and (.v 0) (.v 10))),(.db 12 (.and (.v 0) (.v 8))),(.db 13 (.not (.v 0)))] [(.v 0),(.v 1),(.v 2),(.v 3),(.v 9)] [(.v 11),(.v 12),(.v 13)]) }
def l44:List (Nat × LAnn):=[(5,L104400)]
def i44:List (Nat × List Nat × List Nat × List Nat × Bool):=[(40,[],[],[],false),(60,[],[],[],false),(50,[],[],[],false),(41,[],[],[],false),(52,[],[],[],false),(53,[],[],[],false),(70,[],[],[],false),(68,[],[],[],false),(81,[],[],[],true),(16,[],[],[],false),(30,[],[],[],false),(45,[],[],[],false)]
theorem x44:AllOk Tryd.prog (lpF (l44.map (·.2)) (tabF T10)) (gl m) (tabS T10):=(AllOk.loops (l:=l44.map (·.2)) A10 (by kernel_rfl))
theorem y44l:LsOk (lpF (l44.map (·.2)) (tabF T10)) l44:=LoopsOk.of (fn:=Tryd.f44) (gl:=(gl 0)) (s:=s44) (l:=l44) (by kernel_rfl)
theorem h44:HOk Tryd.prog (lpF (l44.map (·.2)) (tabF T10)) (gl m) (hC m (mkIs l44 i44) (tabS T10)):=hC_ok x44 (by kernel_rfl) (by kernel_rfl) (mkIs_ok y44l)
theorem k44:fnX Tryd.prog (hC m (mkIs l44 i44) (tabS T10)) (gl m) (ctlL Tryd.f44 (gl m) s44 (sel l44 [0])) Tryd.f44 s44 = some S44:=by kernel_rfl
noncomputable def F44:Fun:=S44.run (lpF (l44.map (·.2)) (tabF T10)) true
theorem y44:LoopsOk (lpF (l44.map (·.2)) (tabF T10)) (ctlL Tryd.f44 (gl m) s44 (sel l44 [0])):=fun p hp=>y44l p (sel_mem hp)
theorem z44:(wsEm S44.em (argI s44.args) (argB s44.args) && shOk s44 && s44.pre) = true:=by kernel_rfl
theorem d44:Contract Tryd.prog (gl m) 44 s44 F44:=contract_pre h44 Tryd.func44 y44 k44 z44
theorem c44:Contract Tryd.prog (gl m) 44 s44 F44:=d44
theorem call44:∀ args w,(callFunc 44 args).run Tryd.prog w = .ok (.enter 44 args) w:=callable_of Tryd.func44 (by kernel_rfl) (by kernel_rfl)
noncomputable def e44:Nat × Sum × Fun:=(44,s44,F44)
noncomputable def T11:List (Nat × Sum × Fun):=e44 :: T10
theorem A11:AllOk Tryd.prog (tabF T11) (gl m) (tabS T11):=AllOk.cons (s:=e44.2.1) c44 call44 (fun S h=>by cases h) A10
def s29:Sum:={ args:=[(.val true [.bool,.bool,(.sl [(.int .i64),(.int .i64)]),(.sl [(.int .i64),(.int .i64)])]),(.val true [.bool,.bool,(.sl [(.int .i64),(.int .i64)]),(.sl [(.int .i64),(.int .i64)])])],tup:=false,res:=[(false,[.bool])],pre:=true }
def S29:Smry:=(.mk [(.db 4 (.eqb (.v 0) (.v 2))),(.db 5 (.eqb (.v 1) (.v 3))),(.db 6 (.and (.v 4) (.v 5))),(.call 44 [(.v 0),(.v 1),(.v 4),(.v 5)] [] 8 0 7 2),(.ob [((.v 6),true)] (.v 7)),(.db 9 (.and (.v 6) (.v 8))),(.call 44 [(.v 2),(.v 3),(.v 6),(.v 7)] [] 8 0 10 2),(.ob [((.v 9),true)] (.v 10)),(.db 12 (.and (.v 9) (.v 11)))] [] [(.v 12)])
def i29:List (Nat × List Nat × List Nat × List Nat × Bool):=sp0
theorem x29:AllOk Tryd.prog (tabF T11) (gl m) (tabS T11):=A11
theorem y29l:LsOk (tabF T11) []:=fun p hp=>by cases hp
theorem h29:HOk Tryd.prog (tabF T11) (gl m) (hC m (mkIs [] i29) (tabS T11)):=hC_ok x29 (by kernel_rfl) (by kernel_rfl) (mkIs_ok y29l)
theorem k29:fnX Tryd.prog (hC m (mkIs [] i29) (tabS T11)) (gl m) (ctlL Tryd.f29 (gl m) s29 []) Tryd.f29 s29 = some S29:=by kernel_rfl
noncomputable def F29:Fun:=S29.run (tabF T11) true
theorem y29:LoopsOk (tabF T11) (ctlL Tryd.f29 (gl m) s29 []):=fun p hp=>by cases hp
theorem z29:(wsEm S29.em (argI s29.args) (argB s29.args) && shOk s29 && s29.pre) = true:=by kernel_rfl
theorem d29:Contract Tryd.prog (gl m) 29 s29 F29:=contract_pre h29 Tryd.func29 y29 k29 z29
theorem c29:Contract Tryd.prog (gl m) 29 s29 F29:=d29
theorem call29:∀ args w,(callFunc 29 args).run Tryd.prog w = .ok (.enter 29 args) w:=callable_of Tryd.func29 (by kernel_rfl) (by kernel_rfl)
noncomputable def e29:Nat × Sum × Fun:=(29,s29,F29)
noncomputable def T12:List (Nat × Sum × Fun):=e29 :: T11
theorem A12:AllOk Tryd.prog (tabF T12) (gl m) (tabS T12):=AllOk.cons (s:=e29.2.1) c29 call29 (fun S h=>by cases h) A11
def s27:Sum:={ args:=[(.val false [(.sl [(.int .i64),(.int .i64)])])],tup:=false,res:=[(false,[(.sl [(.int .i64),(.int .i64)])])],pre:=true }
def S27:Smry:=(.mk [(.db 0 (.cm .gtr (.v 1) (.c 20))),(.db 1 (.cm .leq (.c 20) (.v 1))),(.ob [((.v 0),true)] (.v 1)),(.di 2 (.sub (.v 0) (.c 0) (.c 20) 2)),(.db 2 (.not (.v 0))),(.di 3 (.ite (.v 2) (.v 0) (.v 2))),(.di 4 (.ite (.v 2) (.v 1) (.c 20)))] [(.v 3),(.v 4)] [])
def i27:List (Nat × List Nat × List Nat × List Nat × Bool):=sp0
theorem x27:AllOk Tryd.prog (tabF T12) (gl m) (tabS T12):=A12
theorem y27l:LsOk (tabF T12) []:=fun p hp=>by cases hp
theorem h27:HOk Tryd.prog (tabF T12) (gl m) (hC m (mkIs [] i27) (tabS T12)):=hC_ok x27 (by kernel_rfl) (by kernel_rfl) (mkIs_ok y27l)
theorem k27:fnX Tryd.prog (hC m (mkIs [] i27) (tabS T12)) (gl m) (ctlL Tryd.f27 (gl m) s27 []) Tryd.f27 s27 = some S27:=by kernel_rfl
noncomputable def F27:Fun:=S27.run (tabF T12) true
theorem y27:LoopsOk (tabF T12) (ctlL Tryd.f27 (gl m) s27 []):=fun p hp=>by cases hp
theorem z27:(wsEm S27.em (argI s27.args) (argB s27.args) && shOk s27 && s27.pre) = true:=by kernel_rfl
theorem d27:Contract Tryd.prog (gl m) 27 s27 F27:=contract_pre h27 Tryd.func27 y27 k27 z27
theorem c27:Contract Tryd.prog (gl m) 27 s27 F27:=d27
theorem call27:∀ args w,(callFunc 27 args).run Tryd.prog w = .ok (.enter 27 args) w:=callable_of Tryd.func27 (by kernel_rfl) (by kernel_rfl)
noncomputable def e27:Nat × Sum × Fun:=(27,s27,F27)
noncomputable def T13:List (Nat × Sum × Fun):=e27 :: T12
theorem A13:AllOk Tryd.prog (tabF T13) (gl m) (tabS T13):=AllOk.cons (s:=e27.2.1) c27 call27 (fun S h=>by cases h) A12
def s13:Sum:={ args:=[(.val true [.bool,.bool,(.sl [(.int .i64),(.int .i64)]),(.sl [(.int .i64),(.int .i64)])])],tup:=false,res:=[(true,[.bool,.bool,(.sl [(.int .i64),(.int .i64)]),(.sl [(.int .i64),(.int .i64)])])],pre:=true }
def S13:Smry:=(.mk [(.call 27 [(.v 0),(.v 1)] [] 4 2 2 1),(.ob [] (.v 2)),(.call 27 [(.v 2),(.v 3)] [] 6 2 3 1),(.ob [] (.v 3))] [(.v 4),(.v 5),(.v 6),(.v 7)] [(.v 0),(.v 1)])
def i13:List (Nat × List Nat × List Nat × List Nat × Bool):=sp0
theorem x13:AllOk Tryd.prog (tabF T13) (gl m) (tabS T13):=A13
theorem y13l:LsOk (tabF T13) []:=fun p hp=>by cases hp
theorem h13:HOk Tryd.prog (tabF T13) (gl m) (hC m (mkIs [] i13) (tabS T13)):=hC_ok x13 (by kernel_rfl) (by kernel_rfl) (mkIs_ok y13l)
theorem k13:fnX Tryd.prog (hC m (mkIs [] i13) (tabS T13)) (gl m) (ctlL Tryd.f13 (gl m) s13 []) Tryd.f13 s13 = some S13:=by kernel_rfl
noncomputable def F13:Fun:=S13.run (tabF T13) true
theorem y13:LoopsOk (tabF T13) (ctlL Tryd.f13 (gl m) s13 []):=fun p hp=>by cases hp
theorem z13:(wsEm S13.em (argI s13.args) (argB s13.args) && shOk s13 && s13.pre) = true:=by kernel_rfl
theorem d13:Contract Tryd.prog (gl m) 13 s13 F13:=contract_pre h13 Tryd.func13 y13 k13 z13
theorem c13:Contract Tryd.prog (gl m) 13 s13 F13:=d13
theorem call13:∀ args w,(callFunc 13 args).run Tryd.prog w = .ok (.enter 13 args) w:=callable_of Tryd.func13 (by kernel_rfl) (by kernel_rfl)
noncomputable def e13:Nat × Sum × Fun:=(13,s13,F13)
noncomputable def T14:List (Nat × Sum × Fun):=e13 :: T13
theorem A14:AllOk Tryd.prog (tabF T14) (gl m) (tabS T14):=AllOk.cons (s:=e13.2.1) c13 call13 (fun S h=>by cases h) A13
def s18:Sum:={ args:=[(.val false [.str]),(.val false [(.int .i64)])],tup:=true,res:=[(true,[(.int .i64),(.int .i64)]),(false,[.bool])],pre:=true }
def S18:Smry:=(.mk [(.call 17 [(.v 0),(.c 1237940039285380274899124224)] [] 2 2 0 2),(.ob [] (.v 0)),(.db 2 (.not (.v 1))),(.di 4 (.ite (.v 2) (.v 2) (.v 3))),(.call 32 [(.v 2)] [] 5 1 3 1),(.call 32 [(.v 4)] [] 6 1 4 1),(.db 5 (.and (.v 3) (.v 4))),(.db 6 (.cm .leq (.v 5) (.v 6))),(.db 7 (.and (.v 5) (.v 6))),(.db 8 (.cm .lss (.v 6) (.v 1))),(.db 9 (.and (.v 7) (.v 8)))] [(.v 5),(.v 6)] [(.v 9)])
def i18:List (Nat × List Nat × List Nat × List Nat × Bool):=sp0
theorem x18:AllOk Tryd.prog (tabF T14) (gl m) (tabS T14):=A14
theorem y18l:LsOk (tabF T14) []:=fun p hp=>by cases hp
theorem h18:HOk Tryd.prog (tabF T14) (gl m) (hC m (mkIs [] i18) (tabS T14)):=hC_ok x18 (by kernel_rfl) (by kernel_rfl) (mkIs_ok y18l)
theorem k18:fnX Tryd.prog (hC m (mkIs [] i18) (tabS T14)) (gl m) (ctlL Tryd.f18 (gl m) s18 []) Tryd.f18 s18 = some S18:=by kernel_rfl
noncomputable def F18:Fun:=S18.run (tabF T14) true
theorem y18:LoopsOk (tabF T14) (ctlL Tryd.f18 (gl m) s18 []):=fun p hp=>by cases hp
theorem z18:(wsEm S18.em (argI s18.args) (argB s18.args) && shOk s18 && s18.pre) = true:=by kernel_rfl
theorem d18:Contract Tryd.prog (gl m) 18 s18 F18:=contract_pre h18 Tryd.func18 y18 k18 z18
theorem c18:Contract Tryd.prog (gl m) 18 s18 F18:=d18
theorem call18:∀ args w,(callFunc 18 args).run Tryd.prog w = .ok (.enter 18 args) w:=callable_of Tryd.func18 (by kernel_rfl) (by kernel_rfl)
noncomputable def e18:Nat × Sum × Fun:=(18,s18,F18)
noncomputable def T15:List (Nat × Sum × Fun):=e18 :: T14
theorem A15:AllOk Tryd.prog (tabF T15) (gl m) (tabS T15):=AllOk.cons (s:=e18.2.1) c18 call18 (fun S h=>by cases h) A14
def s72:Sum:={ args:=[(.val false [(.int .u8)])],tup:=false,res:=[(false,[(.int .i64)])],pre:=false }
def S72:Smry:=(.mk [(.db 0 (.cm .geq (.v 0) (.c 48))),(.db 1 (.cm .leq (.v 0) (.c 57))),(.db 2 (.and (.v 0) (.v 1))),(.di 1 (.cv .i64 (.v 0))),(.di 2 (.ar .sub .i64 (.v 1) (.c 48))),(.db 3 (.cm .geq (.v 0) (.c 97))),(.db 4 (.cm .leq (.v 0) (.c 102))),(.db 5 (.and (.v 3) (.v 4))),(.di 3 (.cv .i64 (.v 0))),(.di 4 (.ar .sub .i64 (.v 3) (.c 87))),(.db 6 (.not (.v 5))),(.di 5 (.ite (.v 6) (.c (-1)) (.v 4))),(.db 7 (.not (.v 2))),(.di 6 (.ite (.v 7) (.v 5) (.v 2)))] [(.v 6)] [])
def i72:List (Nat × List Nat × List Nat × List Nat × Bool):=sp0
theorem x72:AllOk Tryd.prog (tabF T15) (gl m) (tabS T15):=A15
theorem y72l:LsOk (tabF T15) []:=fun p hp=>by cases hp
theorem h72:HOk Tryd.prog (tabF T15) (gl m) (hC m (mkIs [] i72) (tabS T15)):=hC_ok x72 (by kernel_rfl) (by kernel_rfl) (mkIs_ok y72l)
theorem k72:fnX Tryd.prog (hC m (mkIs [] i72) (tabS T15)) (gl m) (ctlL Tryd.f72 (gl m) s72 []) Tryd.f72 s72 = some S72:=by kernel_rfl
noncomputable def F72:Fun:=S72.run (tabF T15) false
theorem y72:LoopsOk (tabF T15) (ctlL Tryd.f72 (gl m) s72 []):=fun p hp=>by cases hp
theorem z72:(wsEm S72.em (argI s72.args) (argB s72.args) && shOk s72 && noOb S72.em) = true:=by kernel_rfl
theorem d72:Contract Tryd.prog (gl m) 72 s72 F72:=contract_of h72 Tryd.func72 y72 k72 z72
theorem c72:Contract Tryd.prog (gl m) 72 s72 F72:=d72
theorem call72:∀ args w,(callFunc 72 args).run Tryd.prog w = .ok (.enter 72 args) w:=callable_of Tryd.func72 (by kernel_rfl) (by kernel_rfl)
noncomputable def e72:Nat × Sum × Fun:=(72,withInl s72 S72,F72)
noncomputable def T16:List (Nat × Sum × Fun):=e72 :: T15
theorem A16:AllOk Tryd.prog (tabF T16) (gl m) (tabS T16):=AllOk.cons (s:=e72.2.1) c72 call72 (fun S h=>by cases h; exact ⟨rfl,fun _ _=>rfl⟩) A15
def s56:Sum:={ args:=[(.val false [.str]),(.val false [(.int .i64)])],tup:=true,res:=[(false,[(.int .i64)]),(false,[(.int .i64)])],pre:=true }
def S56:Smry:=(.mk [(.call 105600 [(.v 0),(.v 1),(.c 0)] [] 2 2 0 2),(.ob [] (.v 0))] [(.v 3),(.v 2)] [])
def L105600:LAnn:={ id:=105600,ga:=[0],gb:=[],hv:=[1,6],dr:=[2,3,7,8,9,10,11,12,13,14,15,16,18,19,20,21,22,23,24,25,26,27,28,29],hb:=[],db:=[],xs:=[4,5,1,6],xb:=[],nI:=3,nB:=0,S:=(.mk [(.di 3 (.lenq (.v 0) 1)),(.db 0 (.cm .lss (.v 1) (.v 3))),(.db 1 (.cm .geq (.v 1) (.c 0))),(.ob [((.v 0),true)] (.v 1)),(.di 4 (.lenq (.v 0) 1)),(.db 2 (.cm .lss (.v 1) (.v 4))),(.ob [((.v 0),true)] (.v 2)),(.di 5 (.get (.v 0) (.v 1) 1 0)),(.db 3 (.cm .geq (.v 5) (.c 48))),(.db 4 (.cm .leq (.v 5) (.c 57))),(.db 5 (.and (.v 3) (.v 4))),(.di 6 (.cv .i64 (.v 5))),(.di 7 (.ar .sub .i64 (.v 6) (.c 48))),(.db 6 (.cm .geq (.v 5) (.c 97))),(.db 7 (.cm .leq (.v 5) (.c 102))),(.db 8 (.and (.v 6) (.v 7))),(.di 8 (.cv .i64 (.v 5))),(.di 9 (.ar .sub .i64 (.v 8) (.c 87))),(.db 9 (.not (.v 8))),(.di 10 (.ite (.v 9) (.c (-1)) (.v 9))),(.db 10 (.not (.v 5))),(.di 11 (.ite (.v 10) (.v 10) (.v 7))),(.db 11 (.cm .geq (.v 11) (.c 0))),(.db 12 (.and (.v 0) (.v 11))),(.di 12 (.ar .mul .i64 (.c 16) (.v 2))),(.db 13 (.cm .geq (.v 1) (.c 0))),(.ob [((.v 12),true)] (.v 13)),(.di 13 (.lenq (.v 0) 1)),(.db 14 (.cm .lss (.v 1) (.v 13))),(.ob [((.v 12),true)] (.v 14)),(.di 14 (.get (.v 0) (.v 1) 1 0)),(.db 15 (.cm .geq (.v 14) (.c 48))),(.db 16 (.cm .leq (.v 14) (.c 57))),(.db 17 (.and (.v 15) (.v 16))),(.di 15 (.cv .i64 (.v 14))),(.di 16 (.ar .sub .i64 (.v 15) (.c 48))),(.db 18 (.cm .geq (.v 14) (.c 97))),(.db 19 (.cm .leq (.v 14) (.c 102))),(.db 20 (.and (.v 18) (.v 19))),(.di 17 (.cv .i64 (.v 14))),(.di 18 (.ar .sub .i64 (.v 17) (.c 87))),(.db 21 (.not (.v 20))),(.di 19 (.ite (.v 21) (.c (-1)) (.v 18))),(.db 22 (.not (.v 17))),(.di 20 (.ite (.v 22) (.v 19) (.v 16))),(.di 21 (.ar .add .i64 (.v 12) (.v 20))),(.di 22 (.mn (.v 21) (.c 100000))),(.di 23 (.ar .add .i64 (.v 1) (.c 1))),(.db 23 (.not (.v 12)))] [(.v 0),(.v 23),(.v 22),(.v 1),(.v 2)] [(.v 12),(.v 23)]) }
def l56:List (Nat × LAnn):=[(3,L105600)]
def i56:List (Nat × List Nat × List Nat × List Nat × Bool):=[(40,[],[],[],false),(60,[],[],[],false),(50,[],[],[],false),(41,[],[],[],false),(52,[],[],[],false),(53,[],[],[],false),(70,[],[],[],false),(68,[],[],[],false),(81,[],[],[],true),(16,[],[],[],false),(30,[],[],[],false),(45,[],[],[],false)]
theorem x56:AllOk Tryd.prog (lpF (l56.map (·.2)) (tabF T16)) (gl m) (tabS T16):=(AllOk.loops (l:=l56.map (·.2)) A16 (by kernel_rfl))
theorem y56l:LsOk (lpF (l56.map (·.2)) (tabF T16)) l56:=LoopsOk.of (fn:=Tryd.f56) (gl:=(gl 0)) (s:=s56) (l:=l56) (by kernel_rfl)
theorem h56:HOk Tryd.prog (lpF (l56.map (·.2)) (tabF T16)) (gl m) (hC m (mkIs l56 i56) (tabS T16)):=hC_ok x56 (by kernel_rfl) (by kernel_rfl) (mkIs_ok y56l)
theorem k56:fnX Tryd.prog (hC m (mkIs l56 i56) (tabS T16)) (gl m) (ctlL Tryd.f56 (gl m) s56 (sel l56 [0])) Tryd.f56 s56 = some S56:=by kernel_rfl
noncomputable def F56:Fun:=S56.run (lpF (l56.map (·.2)) (tabF T16)) true
theorem y56:LoopsOk (lpF (l56.map (·.2)) (tabF T16)) (ctlL Tryd.f56 (gl m) s56 (sel l56 [0])):=fun p hp=>y56l p (sel_mem hp)
theorem z56:(wsEm S56.em (argI s56.args) (argB s56.args) && shOk s56 && s56.pre) = true:=by kernel_rfl
theorem d56:Contract Tryd.prog (gl m) 56 s56 F56:=contract_pre h56 Tryd.func56 y56 k56 z56
theorem c56:Contract Tryd.prog (gl m) 56 s56 F56:=d56
theorem call56:∀ args w,(callFunc 56 args).run Tryd.prog w = .ok (.enter 56 args) w:=callable_of Tryd.func56 (by kernel_rfl) (by kernel_rfl)
noncomputable def e56:Nat × Sum × Fun:=(56,s56,F56)
noncomputable def T17:List (Nat × Sum × Fun):=e56 :: T16
theorem A17:AllOk Tryd.prog (tabF T17) (gl m) (tabS T17):=AllOk.cons (s:=e56.2.1) c56 call56 (fun S h=>by cases h) A16
def s35:Sum:={ args:=[(.val false [.str]),(.val false [(.int .i64)])],tup:=true,res:=[(true,[(.int .i64),(.int .i64)]),(false,[.bool])],pre:=true }
def S35:Smry:=(.mk [(.call 56 [(.v 0),(.c 0)] [] 2 2 0 1),(.ob [] (.v 0)),(.db 1 (.cm .lss (.v 3) (.c 1))),(.db 2 (.cm .gtr (.v 3) (.c 4))),(.db 3 (.or (.v 1) (.v 2))),(.di 4 (.lenq (.v 0) 1)),(.db 4 (.cm .lss (.v 3) (.v 4))),(.db 5 (.cm .geq (.v 3) (.c 0))),(.ob [((.v 3),false),((.v 4),true)] (.v 5)),(.di 5 (.lenq (.v 0) 1)),(.db 6 (.cm .lss (.v 3) (.v 5))),(.ob [((.v 3),false),((.v 4),true)] (.v 6)),(.di 6 (.get (.v 0) (.v 3) 1 0)),(.db 7 (.cm .neq (.v 6) (.c 45))),(.di 7 (.ar .add .i64 (.v 3) (.c 1))),(.call 56 [(.v 0),(.v 7)] [] 8 2 8 1),(.ob [((.v 3),false),((.v 4),true),((.v 7),false)] (.v 8)),(.di 10 (.ar .sub .i64 (.v 9) (.v 7))),(.db 9 (.cm .lss (.v 10) (.c 1))),(.di 11 (.ar .sub .i64 (.v 9) (.v 7))),(.db 10 (.cm .gtr (.v 11) (.c 4))),(.db 11 (.or (.v 9) (.v 10))),(.di 12 (.lenq (.v 0) 1)),(.db 12 (.cm .neq (.v 9) (.v 12))),(.db 13 (.or (.v 11) (.v 12))),(.db 14 (.not (.v 7))),(.db 15 (.ite (.v 14) (.v 13) (.v 7))),(.db 16 (.not (.v 7))),(.db 17 (.not (.v 13))),(.db 18 (.and (.v 16) (.v 17))),(.db 19 (.ite (.v 4) (.v 18) (.c true))),(.di 13 (.ite (.v 4) (.v 9) (.v 3))),(.di 14 (.ite (.v 4) (.v 8) (.v 2))),(.db 20 (.cm .leq (.v 2) (.v 14))),(.db 21 (.cm .lss (.v 14) (.v 1))),(.db 22 (.and (.v 20) (.v 21))),(.db 23 (.and (.v 19) (.v 22))),(.di 15 (.ite (.v 19) (.v 2) (.c 0))),(.di 16 (.ite (.v 19) (.v 14) (.c 0))),(.db 24 (.not (.v 3))),(.db 25 (.and (.v 24) (.v 23))),(.di 17 (.ite (.v 24) (.v 15) (.c 0))),(.di 18 (.ite (.v 24) (.v 16) (.c 0)))] [(.v 17),(.v 18)] [(.v 25)])
def i35:List (Nat × List Nat × List Nat × List Nat × Bool):=sp0
theorem x35:AllOk Tryd.prog (tabF T17) (gl m) (tabS T17):=A17
theorem y35l:LsOk (tabF T17) []:=fun p hp=>by cases hp
theorem h35:HOk Tryd.prog (tabF T17) (gl m) (hC m (mkIs [] i35) (tabS T17)):=hC_ok x35 (by kernel_rfl) (by kernel_rfl) (mkIs_ok y35l)
theorem k35:fnX Tryd.prog (hC m (mkIs [] i35) (tabS T17)) (gl m) (ctlL Tryd.f35 (gl m) s35 []) Tryd.f35 s35 = some S35:=by kernel_rfl
noncomputable def F35:Fun:=S35.run (tabF T17) true
theorem y35:LoopsOk (tabF T17) (ctlL Tryd.f35 (gl m) s35 []):=fun p hp=>by cases hp
theorem z35:(wsEm S35.em (argI s35.args) (argB s35.args) && shOk s35 && s35.pre) = true:=by kernel_rfl
theorem d35:Contract Tryd.prog (gl m) 35 s35 F35:=contract_pre h35 Tryd.func35 y35 k35 z35
theorem c35:Contract Tryd.prog (gl m) 35 s35 F35:=d35
theorem call35:∀ args w,(callFunc 35 args).run Tryd.prog w = .ok (.enter 35 args) w:=callable_of Tryd.func35 (by kernel_rfl) (by kernel_rfl)
noncomputable def e35:Nat × Sum × Fun:=(35,s35,F35)
noncomputable def T18:List (Nat × Sum × Fun):=e35 :: T17
theorem A18:AllOk Tryd.prog (tabF T18) (gl m) (tabS T18):=AllOk.cons (s:=e35.2.1) c35 call35 (fun S h=>by cases h) A17
def s34:Sum:={ args:=[(.val false [.str]),(.val false [.str])],tup:=false,res:=[(false,[.bool])],pre:=true }
def S34:Smry:=(.mk [(.di 2 (.lenq (.v 0) 1)),(.di 3 (.lenq (.v 1) 1)),(.db 0 (.cm .geq (.v 2) (.v 3))),(.di 4 (.lenq (.v 1) 1)),(.di 5 (.lenq (.v 0) 1)),(.db 1 (.cm .leq (.c 0) (.v 4))),(.ob [((.v 0),true)] (.v 1)),(.db 2 (.cm .leq (.v 4) (.v 5))),(.ob [((.v 0),true)] (.v 2)),(.di 6 (.sub (.v 0) (.c 0) (.v 4) 1)),(.db 3 (.cm .eql (.v 6) (.v 1))),(.db 4 (.and (.v 0) (.v 3)))] [] [(.v 4)])
def i34:List (Nat × List Nat × List Nat × List Nat × Bool):=sp0
theorem x34:AllOk Tryd.prog (tabF T18) (gl m) (tabS T18):=A18
theorem y34l:LsOk (tabF T18) []:=fun p hp=>by cases hp
theorem h34:HOk Tryd.prog (tabF T18) (gl m) (hC m (mkIs [] i34) (tabS T18)):=hC_ok x34 (by kernel_rfl) (by kernel_rfl) (mkIs_ok y34l)
theorem k34:fnX Tryd.prog (hC m (mkIs [] i34) (tabS T18)) (gl m) (ctlL Tryd.f34 (gl m) s34 []) Tryd.f34 s34 = some S34:=by kernel_rfl
noncomputable def F34:Fun:=S34.run (tabF T18) true
theorem y34:LoopsOk (tabF T18) (ctlL Tryd.f34 (gl m) s34 []):=fun p hp=>by cases hp
theorem z34:(wsEm S34.em (argI s34.args) (argB s34.args) && shOk s34 && s34.pre) = true:=by kernel_rfl
theorem d34:Contract Tryd.prog (gl m) 34 s34 F34:=contract_pre h34 Tryd.func34 y34 k34 z34
theorem c34:Contract Tryd.prog (gl m) 34 s34 F34:=d34
theorem call34:∀ args w,(callFunc 34 args).run Tryd.prog w = .ok (.enter 34 args) w:=callable_of Tryd.func34 (by kernel_rfl) (by kernel_rfl)
noncomputable def e34:Nat × Sum × Fun:=(34,s34,F34)
noncomputable def T19:List (Nat × Sum × Fun):=e34 :: T18
theorem A19:AllOk Tryd.prog (tabF T19) (gl m) (tabS T19):=AllOk.cons (s:=e34.2.1) c34 call34 (fun S h=>by cases h) A18
def s20:Sum:={ args:=[(.val true [.bool,.bool,(.sl [(.int .i64),(.int .i64)]),(.sl [(.int .i64),(.int .i64)])]),(.val false [.str])],tup:=true,res:=[(true,[.bool,.bool,(.sl [(.int .i64),(.int .i64)]),(.sl [(.int .i64),(.int .i64)])]),(false,[.bool])],pre:=true }
def S20:Smry:=(.mk [(.db 2 (.cm .eql (.v 4) (.c 0))),(.di 5 (.lenq (.v 4) 1)),(.db 3 (.cm .lss (.c 0) (.v 5))),(.ob [((.v 2),false)] (.v 3)),(.di 6 (.get (.v 4) (.c 0) 1 0)),(.db 4 (.cm .eql (.v 6) (.c 35))),(.db 5 (.or (.v 2) (.v 4))),(.db 6 (.cm .eql (.v 4) (.c 101201126653655309176247673359618320749541102467007896784292689468698684252350546153340998027408427106452328311549549105857588446710928476305936212962825157333037796117079140136242281624038231903388902617139439481384278052363811429529695089265874130860921883989434808168457417718344426418745101618433624066971523825289658368))),(.db 7 (.cm .eql (.v 4) (.c 404804506614621236704990693437994281323876077113221074319644726509844193604343566491281573579564113849232945108024766972942301552789618691606456312873932922215313932531928682182942643237178056415248554134848557084227289277500850477456850122739613465372136968757972962496957539641190180217024592881402633461933085436929900544))),(.call 34 [(.v 4),(.c 673297395398191808945096467479145250065008181184167419315352869621791955472343115302168078794351350169167927619673915307814153730969278090716634912611640904164747440035570957683320308354830997095852696053844279296)] [] 7 0 8 2),(.ob [((.v 5),false),((.v 6),false),((.v 7),false)] (.v 8)),(.di 7 (.lenq (.v 4) 1)),(.db 10 (.cm .leq (.c 4) (.v 7))),(.ob [((.v 5),false),((.v 6),false),((.v 7),false),((.v 9),true)] (.v 10)),(.db 11 (.cm .leq (.v 7) (.v 7))),(.ob [((.v 5),false),((.v 6),false),((.v 7),false),((.v 9),true)] (.v 11)),(.di 8 (.sub (.v 4) (.c 4) (.v 7) 1)),(.call 35 [(.v 8),(.c 2048)] [] 9 2 12 2),(.ob [((.v 5),false),((.v 6),false),((.v 7),false),((.v 9),true)] (.v 12)),(.db 14 (.cm .leq (.v 1) (.c 4398046511104))),(.ob [((.v 5),false),((.v 6),false),((.v 7),false),((.v 9),true)] (.v 14)),(.di 11 (.lst [(.v 9),(.v 10)])),(.db 15 (.cm .leq (.v 1) (.c 4398046511104))),(.ob [((.v 5),false),((.v 6),false),((.v 7),false),((.v 9),true)] (.v 15)),(.di 12 (.cat (.v 0) (.v 11))),(.di 13 (.ar .add .i64 (.v 1) (.c 1))),(.call 34 [(.v 4),(.c 9076030935533343889394336988630724078093093587135212337716790028131575744441157651624044294081355167201375844120737036631266793366386133293787891686241204800536128141339719729593284677222534595967732621833034659995557837512776775954339150798446591213760134942539945918190338441216)] [] 14 0 16 2),(.ob [((.v 5),false),((.v 6),false),((.v 7),false),((.v 9),false)] (.v 16)),(.di 14 (.lenq (.v 4) 1)),(.db 18 (.cm .leq (.c 5) (.v 14))),(.ob [((.v 5),false),((.v 6),false),((.v 7),false),((.v 9),false),((.v 17),true)] (.v 18)),(.db 19 (.cm .leq (.v 14) (.v 14))),(.ob [((.v 5),false),((.v 6),false),((.v 7),false),((.v 9),false),((.v 17),true)] (.v 19)),(.di 15 (.sub (.v 4) (.c 5) (.v 14) 1)),(.call 35 [(.v 15),(.c 8192)] [] 16 2 20 2),(.ob [((.v 5),false),((.v 6),false),((.v 7),false),((.v 9),false),((.v 17),true)] (.v 20)),(.db 22 (.cm .leq (.v 3) (.c 4398046511104))),(.ob [((.v 5),false),((.v 6),false),((.v 7),false),((.v 9),false),((.v 17),true)] (.v 22)),(.di 18 (.lst [(.v 16),(.v 17)])),(.db 23 (.cm .leq (.v 3) (.c 4398046511104))),(.ob [((.v 5),false),((.v 6),false),((.v 7),false),((.v 9),false),((.v 17),true)] (.v 23)),(.di 19 (.cat (.v 2) (.v 18))),(.di 20 (.ar .add .i64 (.v 3) (.c 1))),(.db 24 (.not (.v 17))),(.db 25 (.ite (.v 24) (.c false) (.v 21))),(.di 21 (.ite (.v 24) (.v 2) (.v 19))),(.di 22 (.ite (.v 24) (.v 3) (.v 20))),(.db 26 (.not (.v 9))),(.db 27 (.ite (.v 26) (.v 25) (.v 13))),(.di 23 (.ite (.v 26) (.v 0) (.v 12))),(.di 24 (.ite (.v 26) (.v 1) (.v 13))),(.di 25 (.ite (.v 26) (.v 21) (.v 2))),(.di 26 (.ite (.v 26) (.v 22) (.v 3))),(.db 28 (.not (.v 7))),(.db 29 (.ite (.v 28) (.v 27) (.c true))),(.db 30 (.ite (.v 28) (.v 1) (.c true))),(.di 27 (.ite (.v 28) (.v 23) (.v 0))),(.di 28 (.ite (.v 28) (.v 24) (.v 1))),(.di 29 (.ite (.v 28) (.v 25) (.v 2))),(.di 30 (.ite (.v 28) (.v 26) (.v 3))),(.db 31 (.not (.v 6))),(.db 32 (.ite (.v 31) (.v 29) (.c true))),(.db 33 (.ite (.v 31) (.v 0) (.c true))),(.db 34 (.ite (.v 31) (.v 30) (.v 1))),(.di 31 (.ite (.v 31) (.v 27) (.v 0))),(.di 32 (.ite (.v 31) (.v 28) (.v 1))),(.di 33 (.ite (.v 31) (.v 29) (.v 2))),(.di 34 (.ite (.v 31) (.v 30) (.v 3))),(.db 35 (.not (.v 5))),(.db 36 (.ite (.v 35) (.v 32) (.c true))),(.db 37 (.ite (.v 35) (.v 33) (.v 0))),(.db 38 (.ite (.v 35) (.v 34) (.v 1))),(.di 35 (.ite (.v 35) (.v 31) (.v 0))),(.di 36 (.ite (.v 35) (.v 32) (.v 1))),(.di 37 (.ite (.v 35) (.v 33) (.v 2))),(.di 38 (.ite (.v 35) (.v 34) (.v 3)))] [(.v 35),(.v 36),(.v 37),(.v 38)] [(.v 37),(.v 38),(.v 36)])
def i20:List (Nat × List Nat × List Nat × List Nat × Bool):=sp0
theorem x20:AllOk Tryd.prog (tabF T19) (gl m) (tabS T19):=A19
theorem y20l:LsOk (tabF T19) []:=fun p hp=>by cases hp
theorem h20:HOk Tryd.prog (tabF T19) (gl m) (hC m (mkIs [] i20) (tabS T19)):=hC_ok x20 (by kernel_rfl) (by kernel_rfl) (mkIs_ok y20l)
theorem k20:fnX Tryd.prog (hC m (mkIs [] i20) (tabS T19)) (gl m) (ctlL Tryd.f20 (gl m) s20 []) Tryd.f20 s20 = some S20:=by kernel_rfl
noncomputable def F20:Fun:=S20.run (tabF T19) true
theorem y20:LoopsOk (tabF T19) (ctlL Tryd.f20 (gl m) s20 []):=fun p hp=>by cases hp
theorem z20:(wsEm S20.em (argI s20.args) (argB s20.args) && shOk s20 && s20.pre) = true:=by kernel_rfl
theorem d20:Contract Tryd.prog (gl m) 20 s20 F20:=contract_pre h20 Tryd.func20 y20 k20 z20
theorem c20:Contract Tryd.prog (gl m) 20 s20 F20:=d20
theorem call20:∀ args w,(callFunc 20 args).run Tryd.prog w = .ok (.enter 20 args) w:=callable_of Tryd.func20 (by kernel_rfl) (by kernel_rfl)
noncomputable def e20:Nat × Sum × Fun:=(20,s20,F20)
noncomputable def T20:List (Nat × Sum × Fun):=e20 :: T19
theorem A20:AllOk Tryd.prog (tabF T20) (gl m) (tabS T20):=AllOk.cons (s:=e20.2.1) c20 call20 (fun S h=>by cases h) A19
def s71:Sum:={ args:=[(.val false [(.int .i64)])],tup:=false,res:=[(false,[.bool])],pre:=false }
def S71:Smry:=(.mk [(.db 0 (.cm .neq (.v 0) (.v 0)))] [] [(.v 0)])
def i71:List (Nat × List Nat × List Nat × List Nat × Bool):=sp0
theorem x71:AllOk Tryd.prog (tabF T20) (gl m) (tabS T20):=A20
theorem y71l:LsOk (tabF T20) []:=fun p hp=>by cases hp
theorem h71:HOk Tryd.prog (tabF T20) (gl m) (hC m (mkIs [] i71) (tabS T20)):=hC_ok x71 (by kernel_rfl) (by kernel_rfl) (mkIs_ok y71l)
theorem k71:fnX Tryd.prog (hC m (mkIs [] i71) (tabS T20)) (gl m) (ctlL Tryd.f71 (gl m) s71 []) Tryd.f71 s71 = some S71:=by kernel_rfl
noncomputable def F71:Fun:=S71.run (tabF T20) false
theorem y71:LoopsOk (tabF T20) (ctlL Tryd.f71 (gl m) s71 []):=fun p hp=>by cases hp
theorem z71:(wsEm S71.em (argI s71.args) (argB s71.args) && shOk s71 && noOb S71.em) = true:=by kernel_rfl
theorem d71:Contract Tryd.prog (gl m) 71 s71 F71:=contract_of h71 Tryd.func71 y71 k71 z71
theorem c71:Contract Tryd.prog (gl m) 71 s71 F71:=d71
theorem call71:∀ args w,(callFunc 71 args).run Tryd.prog w = .ok (.enter 71 args) w:=callable_of Tryd.func71 (by kernel_rfl) (by kernel_rfl)
noncomputable def e71:Nat × Sum × Fun:=(71,withInl s71 S71,F71)
noncomputable def T21:List (Nat × Sum × Fun):=e71 :: T20
theorem A21:AllOk Tryd.prog (tabF T21) (gl m) (tabS T21):=AllOk.cons (s:=e71.2.1) c71 call71 (fun S h=>by cases h; exact ⟨rfl,fun _ _=>rfl⟩) A20
def s55:Sum:={ args:=[(.val false [(.int .i64)]),(.val false [(.int .i64)])],tup:=false,res:=[(false,[(.int .i64)])],pre:=false }
def S55:Smry:=(.mk [(.db 0 (.cm .neq (.v 0) (.v 0))),(.db 1 (.cm .neq (.v 1) (.v 1))),(.db 2 (.not (.v 1))),(.di 2 (.ite (.v 2) (.c (-1)) (.c 0))),(.db 3 (.cm .lss (.v 0) (.v 1))),(.db 4 (.cm .gtr (.v 0) (.v 1))),(.db 5 (.not (.v 4))),(.di 3 (.ite (.v 5) (.c 0) (.c 1))),(.db 6 (.not (.v 3))),(.di 4 (.ite (.v 6) (.v 3) (.c (-1)))),(.db 7 (.not (.v 1))),(.di 5 (.ite (.v 7) (.v 4) (.c 1))),(.db 8 (.not (.v 0))),(.di 6 (.ite (.v 8) (.v 5) (.v 2)))] [(.v 6)] [])
def i55:List (Nat × List Nat × List Nat × List Nat × Bool):=sp0
theorem x55:AllOk Tryd.prog (tabF T21) (gl m) (tabS T21):=A21
theorem y55l:LsOk (tabF T21) []:=fun p hp=>by cases hp
theorem h55:HOk Tryd.prog (tabF T21) (gl m) (hC m (mkIs [] i55) (tabS T21)):=hC_ok x55 (by kernel_rfl) (by kernel_rfl) (mkIs_ok y55l)
theorem k55:fnX Tryd.prog (hC m (mkIs [] i55) (tabS T21)) (gl m) (ctlL Tryd.f55 (gl m) s55 []) Tryd.f55 s55 = some S55:=by kernel_rfl
noncomputable def F55:Fun:=S55.run (tabF T21) false
theorem y55:LoopsOk (tabF T21) (ctlL Tryd.f55 (gl m) s55 []):=fun p hp=>by cases hp
theorem z55:(wsEm S55.em (argI s55.args) (argB s55.args) && shOk s55 && noOb S55.em) = true:=by kernel_rfl
theorem d55:Contract Tryd.prog (gl m) 55 s55 F55:=contract_of h55 Tryd.func55 y55 k55 z55
theorem c55:Contract Tryd.prog (gl m) 55 s55 F55:=d55
theorem call55:∀ args w,(callFunc 55 args).run Tryd.prog w = .ok (.enter 55 args) w:=callable_of Tryd.func55 (by kernel_rfl) (by kernel_rfl)
noncomputable def e55:Nat × Sum × Fun:=(55,withInl s55 S55,F55)
noncomputable def T22:List (Nat × Sum × Fun):=e55 :: T21
theorem A22:AllOk Tryd.prog (tabF T22) (gl m) (tabS T22):=AllOk.cons (s:=e55.2.1) c55 call55 (fun S h=>by cases h; exact ⟨rfl,fun _ _=>rfl⟩) A21
def s54:Sum:={ args:=[(.val true [(.int .i64),(.int .i64)]),(.val true [(.int .i64),(.int .i64)])],tup:=false,res:=[(false,[(.int .i64)])],pre:=false }
def S54:Smry:=(.mk [(.db 0 (.cm .neq (.v 0) (.v 0))),(.db 1 (.cm .neq (.v 2) (.v 2))),(.db 2 (.not (.v 1))),(.di 4 (.ite (.v 2) (.c (-1)) (.c 0))),(.db 3 (.cm .lss (.v 0) (.v 2))),(.db 4 (.cm .gtr (.v 0) (.v 2))),(.db 5 (.not (.v 4))),(.di 5 (.ite (.v 5) (.c 0) (.c 1))),(.db 6 (.not (.v 3))),(.di 6 (.ite (.v 6) (.v 5) (.c (-1)))),(.db 7 (.not (.v 1))),(.di 7 (.ite (.v 7) (.v 6) (.c 1))),(.db 8 (.not (.v 0))),(.di 8 (.ite (.v 8) (.v 7) (.v 4)))] [(.v 8)] [])
def i54:List (Nat × List Nat × List Nat × List Nat × Bool):=sp0
theorem x54:AllOk Tryd.prog (tabF T22) (gl m) (tabS T22):=A22
theorem y54l:LsOk (tabF T22) []:=fun p hp=>by cases hp
theorem h54:HOk Tryd.prog (tabF T22) (gl m) (hC m (mkIs [] i54) (tabS T22)):=hC_ok x54 (by kernel_rfl) (by kernel_rfl) (mkIs_ok y54l)
theorem k54:fnX Tryd.prog (hC m (mkIs [] i54) (tabS T22)) (gl m) (ctlL Tryd.f54 (gl m) s54 []) Tryd.f54 s54 = some S54:=by kernel_rfl
noncomputable def F54:Fun:=S54.run (tabF T22) false
theorem y54:LoopsOk (tabF T22) (ctlL Tryd.f54 (gl m) s54 []):=fun p hp=>by cases hp
theorem z54:(wsEm S54.em (argI s54.args) (argB s54.args) && shOk s54 && noOb S54.em) = true:=by kernel_rfl
theorem d54:Contract Tryd.prog (gl m) 54 s54 F54:=contract_of h54 Tryd.func54 y54 k54 z54
theorem c54:Contract Tryd.prog (gl m) 54 s54 F54:=d54
theorem call54:∀ args w,(callFunc 54 args).run Tryd.prog w = .ok (.enter 54 args) w:=callable_of Tryd.func54 (by kernel_rfl) (by kernel_rfl)
noncomputable def e54:Nat × Sum × Fun:=(54,withInl s54 S54,F54)
noncomputable def T23:List (Nat × Sum × Fun):=e54 :: T22
theorem A23:AllOk Tryd.prog (tabF T23) (gl m) (tabS T23):=AllOk.cons (s:=e54.2.1) c54 call54 (fun S h=>by cases h; exact ⟨rfl,fun _ _=>rfl⟩) A22
def s33:Sum:={ args:=[(.val false [(.sl [(.int .i64),(.int .i64)])])],tup:=true,res:=[(false,[(.sl [(.int .i64),(.int .i64)])]),(false,[(.int .i64)])],pre:=true }
def S33:Smry:=(.mk [(.call 103301 [(.v 0),(.v 1),(.c 0)] [] 2 1 0 3),(.ob [] (.v 0)),(.di 3 (.ite (.v 2) (.c (-1)) (.v 2))),(.db 3 (.cm .geq (.v 3) (.c 0))),(.call 103302 [(.v 0),(.v 1),(.c 0),(.c 0),(.c 0)] [] 4 2 4 2),(.ob [((.v 3),false)] (.v 4)),(.db 6 (.cm .leq (.v 5) (.c 2305843009213693952))),(.ob [((.v 3),false)] (.v 6)),(.call 69 [(.v 4),(.v 5)] [] 6 1 7 0),(.call 103300 [(.v 5),(.v 6),(.c 0),(.c 0),(.c 0)] [] 7 2 7 2),(.ob [((.v 3),false)] (.v 7)),(.db 9 (.not (.v 3))),(.di 9 (.ite (.v 9) (.v 7) (.c 0))),(.di 10 (.ite (.v 9) (.v 8) (.c 0))),(.di 11 (.ite (.v 9) (.c 0) (.c 1)))] [(.v 9),(.v 10),(.v 11)] [])
def L103300:LAnn:={ id:=103300,ga:=[5,6],gb:=[],hv:=[16],dr:=[1,6,9,11,12,13,18,19,20,21,22,23,24,25,26,27,28,29,30,31,32,33,34,36,37,38,39,40,41,42,43,44,45,46,47,48,49,50,51,52,53,54,55],hb:=[24],db:=[],xs:=[2,3],xb:=[24],nI:=5,nB:=0,S:=(.mk [(.db 0 (.cm .lss (.v 2) (.v 0))),(.db 1 (.cm .geq (.v 2) (.c 0))),(.ob [((.v 0),true)] (.v 1)),(.db 2 (.cm .lss (.v 2) (.v 0))),(.ob [((.v 0),true)] (.v 2)),(.di 5 (.get (.v 1) (.v 2) 2 0)),(.di 6 (.get (.v 1) (.v 2) 2 1)),(.db 3 (.cm .gtr (.v 4) (.c 0))),(.di 7 (.ar .sub .i64 (.v 4) (.c 1))),(.db 4 (.cm .geq (.v 7) (.c 0))),(.ob [((.v 0),true),((.v 3),true)] (.v 4)),(.db 5 (.cm .lss (.v 7) (.v 4))),(.ob [((.v 0),true),((.v 3),true)] (.v 5)),(.di 8 (.get (.v 3) (.v 7) 2 1)),(.di 9 (.ar .add .i64 (.v 8) (.c 1))),(.db 6 (.cm .leq (.v 5) (.v 9))),(.db 7 (.and (.v 3) (.v 6))),(.di 10 (.ar .sub .i64 (.v 4) (.c 1))),(.di 11 (.ar .sub .i64 (.v 4) (.c 1))),(.db 8 (.cm .geq (.v 11) (.c 0))),(.ob [((.v 0),true),((.v 7),true)] (.v 8)),(.db 9 (.cm .lss (.v 11) (.v 4))),(.ob [((.v 0),true),((.v 7),true)] (.v 9)),(.di 12 (.get (.v 3) (.v 11) 2 1)),(.di 13 (.mx (.v 12) (.v 6))),(.db 10 (.cm .geq (.v 10) (.c 0))),(.ob [((.v 0),true),((.v 7),true)] (.v 10)),(.db 11 (.cm .lss (.v 10) (.v 4))),(.ob [((.v 0),true),((.v 7),true)] (.v 11)),(.di 14 (.setq (.v 3) (.v 10) 2 1 (.v 13))),(.di 15 (.lst [(.v 5),(.v 6)])),(.db 12 (.cm .leq (.v 4) (.c 4398046511104))),(.ob [((.v 0),true),((.v 7),false)] (.v 12)),(.di 16 (.cat (.v 3) (.v 15))),(.di 17 (.ar .add .i64 (.v 4) (.c 1))),(.di 18 (.ite (.v 7) (.v 14) (.v 16))),(.di 19 (.ite (.v 7) (.v 4) (.v 17))),(.di 20 (.ar .add .i64 (.v 2) (.c 1))),(.db 13 (.not (.v 0)))] [(.v 0),(.v 1),(.v 20),(.v 18),(.v 19),(.v 3),(.v 4)] [(.v 0),(.v 13)]),sd:=[(1000005,0,true,[.int .i64,.int .i64])] }
def L103301:LAnn:={ id:=103301,ga:=[0,1],gb:=[],hv:=[8],dr:=[2,3,6,10,11,12,13,14,15,17,18],hb:=[],db:=[],xs:=[4],xb:=[],nI:=3,nB:=0,S:=(.mk [(.db 0 (.cm .lss (.v 2) (.v 1))),(.db 1 (.cm .geq (.v 2) (.c 0))),(.ob [((.v 0),true)] (.v 1)),(.db 2 (.cm .lss (.v 2) (.v 1))),(.ob [((.v 0),true)] (.v 2)),(.di 3 (.get (.v 0) (.v 2) 2 0)),(.di 4 (.get (.v 0) (.v 2) 2 1)),(.db 3 (.cm .geq (.v 3) (.c 0))),(.db 4 (.cm .geq (.v 4) (.v 3))),(.db 5 (.and (.v 3) (.v 4))),(.db 6 (.cm .lss (.v 4) (.c 65536))),(.db 7 (.and (.v 5) (.v 6))),(.db 8 (.not (.v 7))),(.di 5 (.ar .add .i64 (.v 2) (.c 1))),(.db 9 (.not (.v 8))),(.db 10 (.not (.v 8))),(.db 11 (.and (.v 0) (.v 10))),(.db 12 (.and (.v 0) (.v 8))),(.db 13 (.not (.v 0)))] [(.v 0),(.v 1),(.v 5),(.v 2)] [(.v 11),(.v 12),(.v 13)]) }
def L103302:LAnn:={ id:=103302,ga:=[0,1],gb:=[],hv:=[7],dr:=[2,3,9,10,11,12,13,15],hb:=[18],db:=[],xs:=[],xb:=[18],nI:=5,nB:=0,S:=(.mk [(.db 0 (.cm .lss (.v 2) (.v 1))),(.db 1 (.cm .geq (.v 2) (.c 0))),(.ob [((.v 0),true)] (.v 1)),(.db 2 (.cm .lss (.v 2) (.v 1))),(.ob [((.v 0),true)] (.v 2)),(.di 5 (.get (.v 0) (.v 2) 2 0)),(.di 6 (.get (.v 0) (.v 2) 2 1)),(.di 7 (.lst [(.v 5),(.v 6)])),(.db 3 (.cm .leq (.v 4) (.c 4398046511104))),(.ob [((.v 0),true)] (.v 3)),(.di 8 (.cat (.v 3) (.v 7))),(.di 9 (.ar .add .i64 (.v 4) (.c 1))),(.di 10 (.ar .add .i64 (.v 2) (.c 1))),(.db 4 (.not (.v 0)))] [(.v 0),(.v 1),(.v 10),(.v 8),(.v 9),(.v 3),(.v 4)] [(.v 0),(.v 4)]),sd:=[(16,0,true,[.int .i64,.int .i64])] }
def l33:List (Nat × LAnn):=[(7,L103300),(3,L103301),(2,L103302)]
def i33:List (Nat × List Nat × List Nat × List Nat × Bool):=[(40,[],[],[],false),(60,[1],[],[],false),(50,[],[],[],false),(41,[],[],[],false),(52,[],[],[],false),(53,[],[],[],false),(70,[],[],[],false),(68,[],[],[],false),(81,[],[],[2],true),(16,[],[],[],false),(30,[],[],[],false),(45,[],[],[],false)]
theorem x33:AllOk Tryd.prog (lpF (l33.map (·.2)) (tabF T23)) (gl m) (tabS T23):=(AllOk.loops (l:=l33.map (·.2)) A23 (by kernel_rfl))
theorem y33l:LsOk (lpF (l33.map (·.2)) (tabF T23)) l33:=LoopsOk.of (fn:=Tryd.f33) (gl:=(gl 0)) (s:=s33) (l:=l33) (by kernel_rfl)
theorem h33:HOk Tryd.prog (lpF (l33.map (·.2)) (tabF T23)) (gl m) (hC m (mkIs l33 i33) (tabS T23)):=hC_ok x33 (by kernel_rfl) (by kernel_rfl) (mkIs_ok y33l)
theorem k33:fnX Tryd.prog (hC m (mkIs l33 i33) (tabS T23)) (gl m) (ctlL Tryd.f33 (gl m) s33 (sel l33 [0])) Tryd.f33 s33 = some S33:=by kernel_rfl
noncomputable def F33:Fun:=S33.run (lpF (l33.map (·.2)) (tabF T23)) true
theorem y33:LoopsOk (lpF (l33.map (·.2)) (tabF T23)) (ctlL Tryd.f33 (gl m) s33 (sel l33 [0])):=fun p hp=>y33l p (sel_mem hp)
theorem z33:(wsEm S33.em (argI s33.args) (argB s33.args) && shOk s33 && s33.pre) = true:=by kernel_rfl
theorem d33:Contract Tryd.prog (gl m) 33 s33 F33:=contract_pre h33 Tryd.func33 y33 k33 z33
theorem c33:Contract Tryd.prog (gl m) 33 s33 F33:=d33
theorem call33:∀ args w,(callFunc 33 args).run Tryd.prog w = .ok (.enter 33 args) w:=callable_of Tryd.func33 (by kernel_rfl) (by kernel_rfl)
noncomputable def e33:Nat × Sum × Fun:=(33,s33,F33)
noncomputable def T24:List (Nat × Sum × Fun):=e33 :: T23
theorem A24:AllOk Tryd.prog (tabF T24) (gl m) (tabS T24):=AllOk.cons (s:=e33.2.1) c33 call33 (fun S h=>by cases h) A23
def s19:Sum:={ args:=[(.val true [.bool,.bool,(.sl [(.int .i64),(.int .i64)]),(.sl [(.int .i64),(.int .i64)])])],tup:=true,res:=[(true,[.bool,.bool,(.sl [(.int .i64),(.int .i64)]),(.sl [(.int .i64),(.int .i64)])]),(false,[(.int .i64)]),(false,[(.int .i64)])],pre:=true }
def S19:Smry:=(.mk [(.call 33 [(.v 0),(.v 1)] [] 4 3 2 1),(.ob [] (.v 2)),(.call 33 [(.v 2),(.v 3)] [] 7 3 3 1),(.ob [] (.v 3)),(.db 4 (.cm .neq (.v 6) (.c 0))),(.db 5 (.cm .neq (.v 9) (.c 0))),(.db 6 (.or (.v 4) (.v 5))),(.di 10 (.mx (.v 6) (.v 9))),(.db 7 (.not (.v 6))),(.di 11 (.ite (.v 7) (.c 0) (.v 10))),(.db 8 (.and (.v 7) (.v 0))),(.db 9 (.and (.v 7) (.v 1))),(.di 12 (.ite (.v 7) (.v 4) (.c 0))),(.di 13 (.ite (.v 7) (.v 5) (.c 0))),(.di 14 (.ite (.v 7) (.v 7) (.c 0))),(.di 15 (.ite (.v 7) (.v 8) (.c 0)))] [(.v 12),(.v 13),(.v 14),(.v 15),(.c 0),(.v 11)] [(.v 8),(.v 9)])
def i19:List (Nat × List Nat × List Nat × List Nat × Bool):=sp0
theorem x19:AllOk Tryd.prog (tabF T24) (gl m) (tabS T24):=A24
theorem y19l:LsOk (tabF T24) []:=fun p hp=>by cases hp
theorem h19:HOk Tryd.prog (tabF T24) (gl m) (hC m (mkIs [] i19) (tabS T24)):=hC_ok x19 (by kernel_rfl) (by kernel_rfl) (mkIs_ok y19l)
theorem k19:fnX Tryd.prog (hC m (mkIs [] i19) (tabS T24)) (gl m) (ctlL Tryd.f19 (gl m) s19 []) Tryd.f19 s19 = some S19:=by kernel_rfl
noncomputable def F19:Fun:=S19.run (tabF T24) true
theorem y19:LoopsOk (tabF T24) (ctlL Tryd.f19 (gl m) s19 []):=fun p hp=>by cases hp
theorem z19:(wsEm S19.em (argI s19.args) (argB s19.args) && shOk s19 && s19.pre) = true:=by kernel_rfl
theorem d19:Contract Tryd.prog (gl m) 19 s19 F19:=contract_pre h19 Tryd.func19 y19 k19 z19
theorem c19:Contract Tryd.prog (gl m) 19 s19 F19:=d19
theorem call19:∀ args w,(callFunc 19 args).run Tryd.prog w = .ok (.enter 19 args) w:=callable_of Tryd.func19 (by kernel_rfl) (by kernel_rfl)
noncomputable def e19:Nat × Sum × Fun:=(19,s19,F19)
noncomputable def T25:List (Nat × Sum × Fun):=e19 :: T24
theorem A25:AllOk Tryd.prog (tabF T25) (gl m) (tabS T25):=AllOk.cons (s:=e19.2.1) c19 call19 (fun S h=>by cases h) A24
def s12:Sum:={ args:=[(.val true [.bool,.bool,(.sl [(.int .i64),(.int .i64)]),(.sl [(.int .i64),(.int .i64)])]),(.val true [.bool,.bool,(.sl [(.int .i64),(.int .i64)]),(.sl [(.int .i64),(.int .i64)])])],tup:=true,res:=[(true,[.bool,.bool,(.sl [(.int .i64),(.int .i64)]),(.sl [(.int .i64),(.int .i64)])]),(false,[(.int .i64)])],pre:=true }
def S12:Smry:=(.mk [(.call 14 [(.v 0),(.v 1),(.v 2),(.v 3)] [(.v 0),(.v 1)] 8 1 4 1),(.ob [] (.v 4)),(.db 5 (.cm .neq (.v 8) (.c 0))),(.call 14 [(.v 4),(.v 5),(.v 6),(.v 7)] [(.v 2),(.v 3)] 9 1 6 1),(.ob [((.v 5),false)] (.v 6)),(.db 7 (.cm .neq (.v 9) (.c 0))),(.db 8 (.or (.v 5) (.v 7))),(.db 9 (.cm .leq (.v 1) (.c 4398046511104))),(.ob [((.v 8),false)] (.v 9)),(.db 10 (.cm .leq (.v 5) (.c 4398046511104))),(.ob [((.v 8),false)] (.v 10)),(.di 10 (.cat (.v 0) (.v 4))),(.di 11 (.ar .add .i64 (.v 1) (.v 5))),(.db 11 (.cm .leq (.v 3) (.c 4398046511104))),(.ob [((.v 8),false)] (.v 11)),(.db 12 (.cm .leq (.v 7) (.c 4398046511104))),(.ob [((.v 8),false)] (.v 12)),(.di 12 (.cat (.v 2) (.v 6))),(.di 13 (.ar .add .i64 (.v 3) (.v 7))),(.db 13 (.or (.v 0) (.v 2))),(.db 14 (.or (.v 1) (.v 3))),(.call 19 [(.v 10),(.v 11),(.v 12),(.v 13)] [(.v 13),(.v 14)] 14 6 15 3),(.ob [((.v 8),false)] (.v 15)),(.db 18 (.not (.v 8))),(.di 20 (.ite (.v 18) (.v 19) (.c 1))),(.db 19 (.and (.v 18) (.v 16))),(.db 20 (.and (.v 18) (.v 17))),(.di 21 (.ite (.v 18) (.v 14) (.c 0))),(.di 22 (.ite (.v 18) (.v 15) (.c 0))),(.di 23 (.ite (.v 18) (.v 16) (.c 0))),(.di 24 (.ite (.v 18) (.v 17) (.c 0)))] [(.v 21),(.v 22),(.v 23),(.v 24),(.v 20)] [(.v 19),(.v 20)])
def i12:List (Nat × List Nat × List Nat × List Nat × Bool):=sp0
theorem x12:AllOk Tryd.prog (tabF T25) (gl m) (tabS T25):=A25
theorem y12l:LsOk (tabF T25) []:=fun p hp=>by cases hp
theorem h12:HOk Tryd.prog (tabF T25) (gl m) (hC m (mkIs [] i12) (tabS T25)):=hC_ok x12 (by kernel_rfl) (by kernel_rfl) (mkIs_ok y12l)
theorem k12:fnX Tryd.prog (hC m (mkIs [] i12) (tabS T25)) (gl m) ((ctlL Tryd.f12 (gl m) s12 []).fz [36,19,21]) Tryd.f12 s12 = some S12:=by kernel_rfl
noncomputable def F12:Fun:=S12.run (tabF T25) true
theorem y12:LoopsOk (tabF T25) ((ctlL Tryd.f12 (gl m) s12 []).fz [36,19,21]):=fun p hp=>by cases hp
theorem z12:(wsEm S12.em (argI s12.args) (argB s12.args) && shOk s12 && s12.pre) = true:=by kernel_rfl
theorem d12:Contract Tryd.prog (gl m) 12 s12 F12:=contract_pre h12 Tryd.func12 y12 k12 z12
theorem c12:Contract Tryd.prog (gl m) 12 s12 F12:=d12
theorem call12:∀ args w,(callFunc 12 args).run Tryd.prog w = .ok (.enter 12 args) w:=callable_of Tryd.func12 (by kernel_rfl) (by kernel_rfl)
noncomputable def e12:Nat × Sum × Fun:=(12,s12,F12)
noncomputable def T26:List (Nat × Sum × Fun):=e12 :: T25
theorem A26:AllOk Tryd.prog (tabF T26) (gl m) (tabS T26):=AllOk.cons (s:=e12.2.1) c12 call12 (fun S h=>by cases h) A25
def s15:Sum:={ args:=[(.val true [.bool,.bool,(.sl [(.int .i64),(.int .i64)]),(.sl [(.int .i64),(.int .i64)])]),(.val true [.bool,.bool,(.sl [(.int .i64),(.int .i64)]),(.sl [(.int .i64),(.int .i64)])])],tup:=false,res:=[(false,[.bool])],pre:=true }
def S15:Smry:=(.mk [(.call 12 [(.v 0),(.v 1),(.v 2),(.v 3),(.v 4),(.v 5),(.v 6),(.v 7)] [(.v 0),(.v 1),(.v 2),(.v 3)] 8 5 4 3),(.ob [] (.v 4)),(.db 7 (.cm .eql (.v 12) (.c 0))),(.call 29 [(.v 8),(.v 9),(.v 10),(.v 11),(.v 0),(.v 1),(.v 2),(.v 3)] [(.v 5),(.v 6),(.v 0),(.v 1)] 13 0 8 2),(.ob [((.v 7),true)] (.v 8)),(.db 10 (.and (.v 7) (.v 9)))] [] [(.v 10)])
def i15:List (Nat × List Nat × List Nat × List Nat × Bool):=sp0
theorem x15:AllOk Tryd.prog (tabF T26) (gl m) (tabS T26):=A26
theorem y15l:LsOk (tabF T26) []:=fun p hp=>by cases hp
theorem h15:HOk Tryd.prog (tabF T26) (gl m) (hC m (mkIs [] i15) (tabS T26)):=hC_ok x15 (by kernel_rfl) (by kernel_rfl) (mkIs_ok y15l)
theorem k15:fnX Tryd.prog (hC m (mkIs [] i15) (tabS T26)) (gl m) (ctlL Tryd.f15 (gl m) s15 []) Tryd.f15 s15 = some S15:=by kernel_rfl
noncomputable def F15:Fun:=S15.run (tabF T26) true
theorem y15:LoopsOk (tabF T26) (ctlL Tryd.f15 (gl m) s15 []):=fun p hp=>by cases hp
theorem z15:(wsEm S15.em (argI s15.args) (argB s15.args) && shOk s15 && s15.pre) = true:=by kernel_rfl
theorem d15:Contract Tryd.prog (gl m) 15 s15 F15:=contract_pre h15 Tryd.func15 y15 k15 z15
theorem c15:Contract Tryd.prog (gl m) 15 s15 F15:=d15
theorem call15:∀ args w,(callFunc 15 args).run Tryd.prog w = .ok (.enter 15 args) w:=callable_of Tryd.func15 (by kernel_rfl) (by kernel_rfl)
noncomputable def e15:Nat × Sum × Fun:=(15,s15,F15)
noncomputable def T27:List (Nat × Sum × Fun):=e15 :: T26
theorem A27:AllOk Tryd.prog (tabF T27) (gl m) (tabS T27):=AllOk.cons (s:=e15.2.1) c15 call15 (fun S h=>by cases h) A26
def s7:Sum:={ args:=[(.val false [.str])],tup:=true,res:=[(true,[.bool,.bool,(.sl [(.int .i64),(.int .i64)]),(.sl [(.int .i64),(.int .i64)])]),(false,[(.int .i64)]),(false,[(.int .i64)])],pre:=true }
def S7:Smry:=(.mk [(.di 1 (.lenq (.v 0) 1)),(.db 0 (.cm .gtr (.v 1) (.c 4096))),(.call 100701 [(.c 0),(.c 0),(.c 0),(.v 0),(.c 0),(.c 0),(.c 0),(.c 0)] [(.c false),(.c false)] 2 15 1 8),(.ob [((.v 0),false)] (.v 1)),(.di 17 (.ar .add .i64 (.v 11) (.c 1))),(.call 17 [(.v 12),(.c 18446744073709551616)] [] 18 2 9 2),(.ob [((.v 0),false),((.v 3),true)] (.v 9)),(.db 11 (.cm .eql (.v 12) (.c 0))),(.di 20 (.lenq (.v 12) 1)),(.db 12 (.cm .lss (.c 0) (.v 20))),(.ob [((.v 0),false),((.v 3),true),((.v 11),false)] (.v 12)),(.di 21 (.get (.v 12) (.c 0) 1 0)),(.db 13 (.cm .eql (.v 21) (.c 35))),(.db 14 (.or (.v 11) (.v 13))),(.db 15 (.cm .eql (.v 12) (.c 101201126653655309176247673359618320749541102467007896784292689468698684252350546153340998027408427106452328311549549105857588446710928476305936212962825157333037796117079140136242281624038231903388902617139439481384278052363811429529695089265874130860921883989434808168457417718344426418745101618433624066971523825289658368))),(.db 16 (.cm .eql (.v 12) (.c 404804506614621236704990693437994281323876077113221074319644726509844193604343566491281573579564113849232945108024766972942301552789618691606456312873932922215313932531928682182942643237178056415248554134848557084227289277500850477456850122739613465372136968757972962496957539641190180217024592881402633461933085436929900544))),(.db 17 (.cm .eql (.v 18) (.c 18249762470488780874564686422801165299572914028994239722316770071618762150820028412114107606083103440547666402945751196236274621968200155370478810131130049114787347345637689285127159831664263168))),(.call 18 [(.v 19),(.c 2048)] [] 22 2 18 2),(.ob [((.v 0),false),((.v 3),true),((.v 14),false),((.v 15),false),((.v 16),false),((.v 17),true)] (.v 18)),(.di 24 (.lst [(.v 22),(.v 23)])),(.db 20 (.cm .leq (.v 14) (.c 4398046511104))),(.ob [((.v 0),false),((.v 3),true),((.v 14),false),((.v 15),false),((.v 16),false),((.v 17),true),((.v 19),true)] (.v 20)),(.di 25 (.cat (.v 13) (.v 24))),(.di 26 (.ar .add .i64 (.v 14) (.c 1))),(.db 21 (.cm .eql (.v 18) (.c 246006311446272417135694895366447328831463738361430131889861426372772843299150878933561367862235003852613318967308339667134873002754909477153737757749266397423567820323744698078089092888018563767116988471774089869395919961357613656313570578195805825271848763392))),(.call 18 [(.v 19),(.c 8192)] [] 27 2 22 2),(.ob [((.v 0),false),((.v 3),true),((.v 14),false),((.v 15),false),((.v 16),false),((.v 17),false),((.v 21),true)] (.v 22)),(.di 29 (.lst [(.v 27),(.v 28)])),(.db 24 (.cm .leq (.v 16) (.c 4398046511104))),(.ob [((.v 0),false),((.v 3),true),((.v 14),false),((.v 15),false),((.v 16),false),((.v 17),false),((.v 21),true),((.v 23),true)] (.v 24)),(.di 30 (.cat (.v 15) (.v 29))),(.di 31 (.ar .add .i64 (.v 16) (.c 1))),(.db 25 (.not (.v 23))),(.db 26 (.ite (.v 21) (.v 25) (.c true))),(.db 27 (.not (.v 19))),(.db 28 (.ite (.v 17) (.v 27) (.v 26))),(.db 29 (.and (.v 21) (.v 23))),(.db 30 (.ite (.v 17) (.v 19) (.v 29))),(.di 32 (.ite (.v 17) (.v 15) (.v 30))),(.di 33 (.ite (.v 17) (.v 16) (.v 31))),(.di 34 (.ite (.v 17) (.v 25) (.v 13))),(.di 35 (.ite (.v 17) (.v 26) (.v 14))),(.db 31 (.or (.v 16) (.v 30))),(.di 36 (.ite (.v 16) (.v 15) (.v 32))),(.di 37 (.ite (.v 16) (.v 16) (.v 33))),(.di 38 (.ite (.v 16) (.v 13) (.v 34))),(.di 39 (.ite (.v 16) (.v 14) (.v 35))),(.db 32 (.or (.v 16) (.v 8))),(.db 33 (.or (.v 15) (.v 31))),(.di 40 (.ite (.v 15) (.v 15) (.v 36))),(.di 41 (.ite (.v 15) (.v 16) (.v 37))),(.di 42 (.ite (.v 15) (.v 13) (.v 38))),(.di 43 (.ite (.v 15) (.v 14) (.v 39))),(.db 34 (.or (.v 15) (.v 7))),(.db 35 (.ite (.v 15) (.v 8) (.v 32))),(.db 36 (.or (.v 14) (.v 33))),(.di 44 (.ite (.v 14) (.v 15) (.v 40))),(.di 45 (.ite (.v 14) (.v 16) (.v 41))),(.di 46 (.ite (.v 14) (.v 13) (.v 42))),(.di 47 (.ite (.v 14) (.v 14) (.v 43))),(.db 37 (.ite (.v 14) (.v 7) (.v 34))),(.db 38 (.ite (.v 14) (.v 8) (.v 35))),(.db 39 (.not (.v 14))),(.db 40 (.not (.v 15))),(.db 41 (.not (.v 16))),(.db 42 (.and (.v 41) (.v 28))),(.db 43 (.and (.v 40) (.v 42))),(.db 44 (.and (.v 39) (.v 43))),(.di 48 (.ite (.v 36) (.v 44) (.v 15))),(.di 49 (.ite (.v 36) (.v 45) (.v 16))),(.di 50 (.ite (.v 36) (.v 46) (.v 13))),(.di 51 (.ite (.v 36) (.v 47) (.v 14))),(.db 45 (.ite (.v 36) (.v 37) (.v 7))),(.db 46 (.ite (.v 36) (.v 38) (.v 8))),(.di 52 (.ite (.v 36) (.v 10) (.c 7))),(.di 53 (.ite (.v 36) (.v 9) (.v 17))),(.di 54 (.ite (.v 3) (.v 48) (.v 7))),(.di 55 (.ite (.v 3) (.v 49) (.v 8))),(.di 56 (.ite (.v 3) (.v 50) (.v 5))),(.di 57 (.ite (.v 3) (.v 51) (.v 6))),(.di 58 (.ite (.v 3) (.v 17) (.v 4))),(.db 47 (.ite (.v 3) (.v 45) (.v 5))),(.db 48 (.ite (.v 3) (.v 46) (.v 6))),(.di 59 (.ite (.v 3) (.v 52) (.v 3))),(.di 60 (.ite (.v 3) (.v 53) (.v 2))),(.db 49 (.ite (.v 3) (.v 36) (.v 4))),(.call 19 [(.v 56),(.v 57),(.v 54),(.v 55)] [(.v 47),(.v 48)] 61 6 50 3),(.ob [((.v 0),false),((.v 49),true)] (.v 50)),(.db 53 (.and (.v 49) (.v 51))),(.db 54 (.and (.v 49) (.v 52))),(.di 67 (.ite (.v 49) (.v 61) (.c 0))),(.di 68 (.ite (.v 49) (.v 62) (.c 0))),(.di 69 (.ite (.v 49) (.v 63) (.c 0))),(.di 70 (.ite (.v 49) (.v 64) (.c 0))),(.di 71 (.ite (.v 49) (.v 66) (.v 59))),(.di 72 (.ite (.v 49) (.v 65) (.v 60))),(.db 55 (.not (.v 0))),(.db 56 (.and (.v 55) (.v 53))),(.db 57 (.and (.v 55) (.v 54))),(.di 73 (.ite (.v 55) (.v 67) (.c 0))),(.di 74 (.ite (.v 55) (.v 68) (.c 0))),(.di 75 (.ite (.v 55) (.v 69) (.c 0))),(.di 76 (.ite (.v 55) (.v 70) (.c 0))),(.di 77 (.ite (.v 55) (.v 71) (.c 9))),(.di 78 (.ite (.v 55) (.v 72) (.c 0)))] [(.v 73),(.v 74),(.v 75),(.v 76),(.v 78),(.v 77)] [(.v 56),(.v 57)])
def L100700:LAnn:={ id:=100700,ga:=[],gb:=[],hv:=[],dr:=[4,5,9,10,12,13,15,16,17,18,19,20,21,22,23,24,26,27,28,29,30,31,32,34,35,36,37,38,39,40,41,43,44,45,46,47,48,49,50,51],hb:=[],db:=[],xs:=[],xb:=[],nI:=0,nB:=0,S:=(.mk [] [] []),sd:=[(9,2,true,[.int .i64,.int .i64]),(9,3,true,[.int .i64,.int .i64])] }
def L100701:LAnn:={ id:=100701,ga:=[],gb:=[],hv:=[],dr:=[4,5,9,10,12,13,15,16,17,18,19,20,21,22,23,24,26,27,28,29,30,31,32,34,35,36,37,38,39,40,41,43,44,45,46,47,48,49,50,51],hb:=[7,8,9,10,11,15,16],db:=[],xs:=[],xb:=[7,8,9,10,11,15,16],nI:=8,nB:=2,S:=(.mk [(.call 47 [(.v 3),(.c 1048576)] [] 8 1 2 1),(.ob [] (.v 2)),(.db 3 (.cm .lss (.v 8) (.c 0))),(.di 9 (.ar .add .i64 (.v 8) (.c 0))),(.di 10 (.lenq (.v 3) 1)),(.db 4 (.cm .leq (.c 0) (.v 9))),(.ob [((.v 3),false)] (.v 4)),(.db 5 (.cm .leq (.v 9) (.v 10))),(.ob [((.v 3),false)] (.v 5)),(.di 11 (.sub (.v 3) (.c 0) (.v 9) 1)),(.di 12 (.ar .add .i64 (.v 2) (.c 1))),(.call 17 [(.v 11),(.c 18446744073709551616)] [] 13 2 6 2),(.ob [((.v 3),false)] (.v 6)),(.db 8 (.cm .eql (.v 11) (.c 0))),(.di 15 (.lenq (.v 11) 1)),(.db 9 (.cm .lss (.c 0) (.v 15))),(.ob [((.v 3),false),((.v 8),false)] (.v 9)),(.di 16 (.get (.v 11) (.c 0) 1 0)),(.db 10 (.cm .eql (.v 16) (.c 35))),(.db 11 (.or (.v 8) (.v 10))),(.db 12 (.cm .eql (.v 11) (.c 101201126653655309176247673359618320749541102467007896784292689468698684252350546153340998027408427106452328311549549105857588446710928476305936212962825157333037796117079140136242281624038231903388902617139439481384278052363811429529695089265874130860921883989434808168457417718344426418745101618433624066971523825289658368))),(.db 13 (.cm .eql (.v 11) (.c 404804506614621236704990693437994281323876077113221074319644726509844193604343566491281573579564113849232945108024766972942301552789618691606456312873932922215313932531928682182942643237178056415248554134848557084227289277500850477456850122739613465372136968757972962496957539641190180217024592881402633461933085436929900544))),(.db 14 (.cm .eql (.v 13) (.c 18249762470488780874564686422801165299572914028994239722316770071618762150820028412114107606083103440547666402945751196236274621968200155370478810131130049114787347345637689285127159831664263168))),(.call 18 [(.v 14),(.c 2048)] [] 17 2 15 2),(.ob [((.v 3),false),((.v 11),false),((.v 12),false),((.v 13),false),((.v 14),true)] (.v 15)),(.di 19 (.lst [(.v 17),(.v 18)])),(.db 17 (.cm .leq (.v 5) (.c 4398046511104))),(.ob [((.v 3),false),((.v 11),false),((.v 12),false),((.v 13),false),((.v 14),true),((.v 16),true)] (.v 17)),(.di 20 (.cat (.v 4) (.v 19))),(.di 21 (.ar .add .i64 (.v 5) (.c 1))),(.db 18 (.cm .eql (.v 13) (.c 246006311446272417135694895366447328831463738361430131889861426372772843299150878933561367862235003852613318967308339667134873002754909477153737757749266397423567820323744698078089092888018563767116988471774089869395919961357613656313570578195805825271848763392))),(.call 18 [(.v 14),(.c 8192)] [] 22 2 19 2),(.ob [((.v 3),false),((.v 11),false),((.v 12),false),((.v 13),false),((.v 14),false),((.v 18),true)] (.v 19)),(.di 24 (.lst [(.v 22),(.v 23)])),(.db 21 (.cm .leq (.v 7) (.c 4398046511104))),(.ob [((.v 3),false),((.v 11),false),((.v 12),false),((.v 13),false),((.v 14),false),((.v 18),true),((.v 20),true)] (.v 21)),(.di 25 (.cat (.v 6) (.v 24))),(.di 26 (.ar .add .i64 (.v 7) (.c 1))),(.db 22 (.not (.v 20))),(.db 23 (.ite (.v 18) (.v 22) (.c true))),(.db 24 (.not (.v 16))),(.db 25 (.ite (.v 14) (.v 24) (.v 23))),(.db 26 (.and (.v 18) (.v 20))),(.db 27 (.ite (.v 14) (.v 16) (.v 26))),(.di 27 (.ite (.v 14) (.v 6) (.v 25))),(.di 28 (.ite (.v 14) (.v 7) (.v 26))),(.di 29 (.ite (.v 14) (.v 20) (.v 4))),(.di 30 (.ite (.v 14) (.v 21) (.v 5))),(.db 28 (.or (.v 13) (.v 27))),(.di 31 (.ite (.v 13) (.v 6) (.v 27))),(.di 32 (.ite (.v 13) (.v 7) (.v 28))),(.di 33 (.ite (.v 13) (.v 4) (.v 29))),(.di 34 (.ite (.v 13) (.v 5) (.v 30))),(.db 29 (.or (.v 13) (.v 1))),(.db 30 (.or (.v 12) (.v 28))),(.di 35 (.ite (.v 12) (.v 6) (.v 31))),(.di 36 (.ite (.v 12) (.v 7) (.v 32))),(.di 37 (.ite (.v 12) (.v 4) (.v 33))),(.di 38 (.ite (.v 12) (.v 5) (.v 34))),(.db 31 (.or (.v 12) (.v 0))),(.db 32 (.ite (.v 12) (.v 1) (.v 29))),(.db 33 (.or (.v 11) (.v 30))),(.di 39 (.ite (.v 11) (.v 6) (.v 35))),(.di 40 (.ite (.v 11) (.v 7) (.v 36))),(.di 41 (.ite (.v 11) (.v 4) (.v 37))),(.di 42 (.ite (.v 11) (.v 5) (.v 38))),(.db 34 (.ite (.v 11) (.v 0) (.v 31))),(.db 35 (.ite (.v 11) (.v 1) (.v 32))),(.db 36 (.not (.v 11))),(.db 37 (.not (.v 12))),(.db 38 (.not (.v 13))),(.db 39 (.and (.v 38) (.v 25))),(.db 40 (.and (.v 37) (.v 39))),(.db 41 (.and (.v 36) (.v 40))),(.di 43 (.ite (.v 33) (.v 39) (.v 6))),(.di 44 (.ite (.v 33) (.v 40) (.v 7))),(.di 45 (.ite (.v 33) (.v 41) (.v 4))),(.di 46 (.ite (.v 33) (.v 42) (.v 5))),(.db 42 (.ite (.v 33) (.v 34) (.v 0))),(.db 43 (.ite (.v 33) (.v 35) (.v 1))),(.di 47 (.ite (.v 33) (.v 1) (.c 7))),(.di 48 (.ite (.v 33) (.v 0) (.v 12))),(.db 44 (.not (.v 33))),(.di 49 (.ar .add .i64 (.v 8) (.c 1))),(.di 50 (.lenq (.v 3) 1)),(.db 45 (.cm .geq (.v 49) (.c 0))),(.ob [((.v 3),false),((.v 44),false)] (.v 45)),(.db 46 (.cm .leq (.v 49) (.v 50))),(.ob [((.v 3),false),((.v 44),false)] (.v 46)),(.db 47 (.cm .leq (.v 50) (.v 50))),(.ob [((.v 3),false),((.v 44),false)] (.v 47)),(.di 51 (.sub (.v 3) (.v 49) (.v 50) 1)),(.db 48 (.not (.v 44))),(.db 49 (.not (.v 3))),(.ob [((.v 3),false),((.v 44),false)] (.v 33)),(.db 50 (.not (.v 3))),(.db 51 (.not (.v 44))),(.db 52 (.and (.v 50) (.v 51))),(.db 53 (.not (.v 3))),(.db 54 (.and (.v 53) (.v 44)))] [(.v 48),(.v 47),(.v 12),(.v 51),(.v 45),(.v 46),(.v 43),(.v 44),(.v 48),(.v 47),(.v 12),(.v 45),(.v 46),(.v 43),(.v 44),(.v 0),(.v 1),(.v 2),(.v 3),(.v 4),(.v 5),(.v 6),(.v 7)] [(.v 52),(.v 42),(.v 43),(.v 54),(.v 3),(.v 33),(.v 42),(.v 43),(.v 0),(.v 1)]),sd:=[(9,2,true,[.int .i64,.int .i64]),(9,3,true,[.int .i64,.int .i64])] }
def l7:List (Nat × LAnn):=[(2,L100700),(6,L100701)]
def i7:List (Nat × List Nat × List Nat × List Nat × Bool):=[(40,[],[],[],false),(60,[],[],[],false),(50,[],[],[],false),(41,[],[],[],false),(52,[],[],[],false),(53,[],[],[],false),(70,[],[],[],false),(68,[],[],[],false),(81,[],[],[],true),(16,[],[],[],false),(30,[],[],[],false),(45,[],[],[],false)]
theorem x7:AllOk Tryd.prog (lpF (l7.map (·.2)) (tabF T27)) (gl m) (tabS T27):=(AllOk.loops (l:=l7.map (·.2)) A27 (by kernel_rfl))
theorem y7l:LsOk (lpF (l7.map (·.2)) (tabF T27)) l7:=LoopsOk.of (fn:=Tryd.f7) (gl:=(gl 0)) (s:=s7) (l:=l7) (by kernel_rfl)
theorem h7:HOk Tryd.prog (lpF (l7.map (·.2)) (tabF T27)) (gl m) (hC m (mkIs l7 i7) (tabS T27)):=hC_ok x7 (by kernel_rfl) (by kernel_rfl) (mkIs_ok y7l)
theorem k7:fnX Tryd.prog (hC m (mkIs l7 i7) (tabS T27)) (gl m) ((ctlR Tryd.prog (hC m (mkIs l7 i7) (tabS T27)) (gl m) Tryd.f7 s7 (sel l7 []) (sel l7 []) (sel l7 [0,1])).fz [36,19,21]) Tryd.f7 s7 = some S7:=by kernel_rfl
noncomputable def F7:Fun:=S7.run (lpF (l7.map (·.2)) (tabF T27)) true
theorem y7:LoopsOk (lpF (l7.map (·.2)) (tabF T27)) ((ctlR Tryd.prog (hC m (mkIs l7 i7) (tabS T27)) (gl m) Tryd.f7 s7 (sel l7 []) (sel l7 []) (sel l7 [0,1])).fz [36,19,21]):=fun p hp=>y7l p (sel_mem hp)
theorem z7:(wsEm S7.em (argI s7.args) (argB s7.args) && shOk s7 && s7.pre) = true:=by kernel_rfl
theorem d7:Contract Tryd.prog (gl m) 7 s7 F7:=contract_preA h7 Tryd.func7 y7 k7 z7 (EAll.rf (fn:=Tryd.f7) (s:=s7) (lo:=sel l7 []) h7 (lsOk_sel y7l []) (lsOk_sel y7l [0,1]))
theorem c7:Contract Tryd.prog (gl m) 7 s7 F7:=d7
theorem call7:∀ args w,(callFunc 7 args).run Tryd.prog w = .ok (.enter 7 args) w:=callable_of Tryd.func7 (by kernel_rfl) (by kernel_rfl)
noncomputable def e7:Nat × Sum × Fun:=(7,s7,F7)
noncomputable def T28:List (Nat × Sum × Fun):=e7 :: T27
theorem A28:AllOk Tryd.prog (tabF T28) (gl m) (tabS T28):=AllOk.cons (s:=e7.2.1) c7 call7 (fun S h=>by cases h) A27
def s36:Sum:={ args:=[(.val false [(.sl [.bool])])],tup:=false,res:=[(false,[(.sl [(.int .i64),(.int .i64)])])],pre:=true }
def S36:Smry:=(.mk [(.call 103600 [(.v 0),(.v 1),(.c 0),(.c 0),(.c 0)] [] 2 2 0 2),(.ob [] (.v 0))] [(.v 2),(.v 3)] [])
def L103600:LAnn:={ id:=103600,ga:=[0,1],gb:=[],hv:=[4],dr:=[1,5,6,7,9,10,11,12,13,14,16,17,18,19,20,21,22,23,25,26,27,28,29,30,31,32,33,34,35,36,37,38],hb:=[7],db:=[],xs:=[2],xb:=[7],nI:=5,nB:=0,S:=(.mk [(.db 0 (.cm .lss (.v 2) (.v 1))),(.db 1 (.cm .geq (.v 2) (.c 0))),(.ob [((.v 0),true)] (.v 1)),(.db 2 (.cm .lss (.v 2) (.v 1))),(.ob [((.v 0),true)] (.v 2)),(.db 3 (.getb (.v 0) (.v 2) 1 0)),(.db 4 (.not (.v 3))),(.db 5 (.cm .gtr (.v 2) (.c 0))),(.di 5 (.ar .sub .i64 (.v 2) (.c 1))),(.db 6 (.cm .geq (.v 5) (.c 0))),(.ob [((.v 0),true),((.v 4),false),((.v 5),true)] (.v 6)),(.db 7 (.cm .lss (.v 5) (.v 1))),(.ob [((.v 0),true),((.v 4),false),((.v 5),true)] (.v 7)),(.db 8 (.getb (.v 0) (.v 5) 1 0)),(.db 9 (.and (.v 5) (.v 8))),(.di 6 (.ar .sub .i64 (.v 4) (.c 1))),(.db 10 (.cm .geq (.v 6) (.c 0))),(.ob [((.v 0),true),((.v 4),false),((.v 9),true)] (.v 10)),(.db 11 (.cm .lss (.v 6) (.v 4))),(.ob [((.v 0),true),((.v 4),false),((.v 9),true)] (.v 11)),(.di 7 (.setq (.v 3) (.v 6) 2 1 (.v 2))),(.di 8 (.lst [(.v 2),(.v 2)])),(.db 12 (.cm .leq (.v 4) (.c 4398046511104))),(.ob [((.v 0),true),((.v 4),false),((.v 9),false)] (.v 12)),(.di 9 (.cat (.v 3) (.v 8))),(.di 10 (.ar .add .i64 (.v 4) (.c 1))),(.di 11 (.ite (.v 9) (.v 7) (.v 9))),(.di 12 (.ite (.v 9) (.v 4) (.v 10))),(.db 13 (.not (.v 4))),(.db 14 (.not (.v 4))),(.db 15 (.or (.v 14) (.v 4))),(.di 13 (.ite (.v 14) (.v 11) (.v 3))),(.di 14 (.ite (.v 14) (.v 12) (.v 4))),(.di 15 (.ar .add .i64 (.v 2) (.c 1))),(.db 16 (.not (.v 0)))] [(.v 0),(.v 1),(.v 15),(.v 13),(.v 14),(.v 3),(.v 4)] [(.v 0),(.v 16)]),sd:=[(1000003,0,true,[.int .i64,.int .i64])] }
def l36:List (Nat × LAnn):=[(4,L103600)]
def i36:List (Nat × List Nat × List Nat × List Nat × Bool):=[(40,[],[],[],false),(60,[],[],[],false),(50,[],[],[],false),(41,[],[],[],false),(52,[],[],[],false),(53,[],[],[],false),(70,[],[],[],false),(68,[],[],[],false),(81,[],[],[],true),(16,[],[],[],false),(30,[],[],[],false),(45,[],[],[],false)]
theorem x36:AllOk Tryd.prog (lpF (l36.map (·.2)) (tabF T28)) (gl m) (tabS T28):=(AllOk.loops (l:=l36.map (·.2)) A28 (by kernel_rfl))
theorem y36l:LsOk (lpF (l36.map (·.2)) (tabF T28)) l36:=LoopsOk.of (fn:=Tryd.f36) (gl:=(gl 0)) (s:=s36) (l:=l36) (by kernel_rfl)
theorem h36:HOk Tryd.prog (lpF (l36.map (·.2)) (tabF T28)) (gl m) (hC m (mkIs l36 i36) (tabS T28)):=hC_ok x36 (by kernel_rfl) (by kernel_rfl) (mkIs_ok y36l)
theorem k36:fnX Tryd.prog (hC m (mkIs l36 i36) (tabS T28)) (gl m) (ctlL Tryd.f36 (gl m) s36 (sel l36 [0])) Tryd.f36 s36 = some S36:=by kernel_rfl
noncomputable def F36:Fun:=S36.run (lpF (l36.map (·.2)) (tabF T28)) true
theorem y36:LoopsOk (lpF (l36.map (·.2)) (tabF T28)) (ctlL Tryd.f36 (gl m) s36 (sel l36 [0])):=fun p hp=>y36l p (sel_mem hp)
theorem z36:(wsEm S36.em (argI s36.args) (argB s36.args) && shOk s36 && s36.pre) = true:=by kernel_rfl
theorem d36:Contract Tryd.prog (gl m) 36 s36 F36:=contract_pre h36 Tryd.func36 y36 k36 z36
theorem c36:Contract Tryd.prog (gl m) 36 s36 F36:=d36
theorem call36:∀ args w,(callFunc 36 args).run Tryd.prog w = .ok (.enter 36 args) w:=callable_of Tryd.func36 (by kernel_rfl) (by kernel_rfl)
noncomputable def e36:Nat × Sum × Fun:=(36,s36,F36)
noncomputable def T29:List (Nat × Sum × Fun):=e36 :: T28
theorem A29:AllOk Tryd.prog (tabF T29) (gl m) (tabS T29):=AllOk.cons (s:=e36.2.1) c36 call36 (fun S h=>by cases h) A28
def s21:Sum:={ args:=[(.val false [(.sl [(.int .i64),(.int .i64)])])],tup:=false,res:=[(false,[(.sl [(.int .i64),(.int .i64)])])],pre:=true }
def S21:Smry:=(.mk [(.call 102100 [(.v 0),(.v 1),(.c 0),(.c 0)] [] 2 2 0 2),(.ob [] (.v 0)),(.db 2 (.cm .geq (.v 2) (.c 0))),(.ob [] (.v 2)),(.db 3 (.cm .leq (.v 2) (.c 281474976710656))),(.ob [] (.v 3)),(.di 4 (.rep (.v 2) 1)),(.call 102101 [(.v 0),(.v 1),(.c 0),(.v 4),(.v 2)] [] 5 3 4 2),(.ob [] (.v 4)),(.call 36 [(.v 6),(.v 7)] [] 8 2 6 1),(.ob [] (.v 6))] [(.v 8),(.v 9)] [])
def L102100:LAnn:={ id:=102100,ga:=[0,1],gb:=[],hv:=[3,4],dr:=[1,8,9,10,12,13,14,15,16,17,18,19,20,21,22,23,24,25,26,28,29,30,31,32,33,34,35,36,37,38,39,40,42,43,44,45,46,47,48],hb:=[],db:=[],xs:=[2,3,4],xb:=[],nI:=4,nB:=0,S:=(.mk [(.db 0 (.cm .lss (.v 3) (.v 1))),(.db 1 (.cm .geq (.v 3) (.c 0))),(.ob [((.v 0),true)] (.v 1)),(.db 2 (.cm .lss (.v 3) (.v 1))),(.ob [((.v 0),true)] (.v 2)),(.di 4 (.get (.v 0) (.v 3) 2 1)),(.di 5 (.ar .add .i64 (.v 4) (.c 1))),(.di 6 (.mx (.v 2) (.v 5))),(.di 7 (.ar .add .i64 (.v 3) (.c 1))),(.db 3 (.not (.v 0)))] [(.v 0),(.v 1),(.v 6),(.v 7),(.v 2),(.v 3)] [(.v 0),(.v 3)]) }
def L102101:LAnn:={ id:=102101,ga:=[0,1],gb:=[],hv:=[6],dr:=[1,8,9,10,12,13,14,15,16,17,18,19,20,21,22,23,24,25,26,28,29,30,31,32,33,34,35,36,37,38,39,40,42,43,44,45,46,47,48],hb:=[9],db:=[],xs:=[2,6],xb:=[9],nI:=5,nB:=0,S:=(.mk [(.db 0 (.cm .lss (.v 2) (.v 1))),(.db 1 (.cm .geq (.v 2) (.c 0))),(.ob [((.v 0),true)] (.v 1)),(.db 2 (.cm .lss (.v 2) (.v 1))),(.ob [((.v 0),true)] (.v 2)),(.di 5 (.get (.v 0) (.v 2) 2 0)),(.call 102102 [(.v 0),(.v 1),(.v 2),(.v 5),(.v 3),(.v 4)] [] 6 3 3 2),(.ob [((.v 0),true)] (.v 3)),(.di 9 (.ar .add .i64 (.v 2) (.c 1))),(.db 5 (.not (.v 0)))] [(.v 0),(.v 1),(.v 9),(.v 7),(.v 8),(.v 2),(.v 3),(.v 4)] [(.v 0),(.v 5)]) }
def L102102:LAnn:={ id:=102102,ga:=[0,1,2],gb:=[],hv:=[7],dr:=[1,8,9,10,12,13,14,15,16,17,18,19,20,21,22,23,24,25,26,28,29,30,31,32,33,34,35,36,37,38,39,40,42,43,44,45,46,47,48],hb:=[9],db:=[],xs:=[2,7],xb:=[9],nI:=6,nB:=0,S:=(.mk [(.db 0 (.cm .geq (.v 2) (.c 0))),(.ob [] (.v 0)),(.db 1 (.cm .lss (.v 2) (.v 1))),(.ob [] (.v 1)),(.di 6 (.get (.v 0) (.v 2) 2 1)),(.db 2 (.cm .leq (.v 3) (.v 6))),(.db 3 (.cm .geq (.v 3) (.c 0))),(.ob [((.v 2),true)] (.v 3)),(.db 4 (.cm .lss (.v 3) (.v 5))),(.ob [((.v 2),true)] (.v 4)),(.di 7 (.setq (.v 4) (.v 3) 1 0 (.c 1))),(.di 8 (.ar .add .i64 (.v 3) (.c 1))),(.db 5 (.not (.v 2)))] [(.v 0),(.v 1),(.v 2),(.v 8),(.v 7),(.v 5),(.v 3),(.v 4),(.v 5)] [(.v 2),(.v 5)]) }
def l21:List (Nat × LAnn):=[(4,L102100),(9,L102101),(12,L102102)]
def i21:List (Nat × List Nat × List Nat × List Nat × Bool):=[(40,[],[],[],false),(60,[],[],[],false),(50,[],[],[],false),(41,[],[],[],false),(52,[],[],[],false),(53,[],[],[],false),(70,[],[],[],false),(68,[],[],[],false),(81,[],[],[],true),(16,[],[],[],false),(30,[],[],[],false),(45,[],[],[],false)]
theorem x21:AllOk Tryd.prog (lpF (l21.map (·.2)) (tabF T29)) (gl m) (tabS T29):=(AllOk.loops (l:=l21.map (·.2)) A29 (by kernel_rfl))
theorem y21l:LsOk (lpF (l21.map (·.2)) (tabF T29)) l21:=LoopsOk.of (fn:=Tryd.f21) (gl:=(gl 0)) (s:=s21) (l:=l21) (by kernel_rfl)
theorem h21:HOk Tryd.prog (lpF (l21.map (·.2)) (tabF T29)) (gl m) (hC m (mkIs l21 i21) (tabS T29)):=hC_ok x21 (by kernel_rfl) (by kernel_rfl) (mkIs_ok y21l)
theorem k21:fnX Tryd.prog (hC m (mkIs l21 i21) (tabS T29)) (gl m) ((ctlL Tryd.f21 (gl m) s21 (sel l21 [0,1,2])).fz [36,19,21]) Tryd.f21 s21 = some S21:=by kernel_rfl
noncomputable def F21:Fun:=S21.run (lpF (l21.map (·.2)) (tabF T29)) true
theorem y21:LoopsOk (lpF (l21.map (·.2)) (tabF T29)) ((ctlL Tryd.f21 (gl m) s21 (sel l21 [0,1,2])).fz [36,19,21]):=fun p hp=>y21l p (sel_mem hp)
theorem z21:(wsEm S21.em (argI s21.args) (argB s21.args) && shOk s21 && s21.pre) = true:=by kernel_rfl
theorem d21:Contract Tryd.prog (gl m) 21 s21 F21:=contract_pre h21 Tryd.func21 y21 k21 z21
theorem c21:Contract Tryd.prog (gl m) 21 s21 F21:=d21
theorem call21:∀ args w,(callFunc 21 args).run Tryd.prog w = .ok (.enter 21 args) w:=callable_of Tryd.func21 (by kernel_rfl) (by kernel_rfl)
noncomputable def e21:Nat × Sum × Fun:=(21,s21,F21)
noncomputable def T30:List (Nat × Sum × Fun):=e21 :: T29
theorem A30:AllOk Tryd.prog (tabF T30) (gl m) (tabS T30):=AllOk.cons (s:=e21.2.1) c21 call21 (fun S h=>by cases h) A29
def s8:Sum:={ args:=[(.val false [.str])],tup:=true,res:=[(true,[.bool,.bool,(.sl [(.int .i64),(.int .i64)]),(.sl [(.int .i64),(.int .i64)])]),(false,[(.int .i64)]),(false,[(.int .i64)])],pre:=true }
def S8:Smry:=(.mk [(.di 1 (.lenq (.v 0) 1)),(.db 0 (.cm .gtr (.v 1) (.c 4096))),(.call 100800 [(.v 0),(.c 1),(.c 0),(.c 0),(.c 0),(.c 0),(.c 0),(.c 0)] [(.c false),(.c false)] 2 5 1 5),(.ob [((.v 0),false)] (.v 1)),(.call 21 [(.v 3),(.v 4)] [] 7 2 6 1),(.ob [((.v 0),false),((.v 3),true)] (.v 6)),(.call 21 [(.v 5),(.v 6)] [] 9 2 7 1),(.ob [((.v 0),false),((.v 3),true)] (.v 7)),(.di 11 (.ite (.v 3) (.c 0) (.v 2))),(.di 12 (.ite (.v 3) (.c 0) (.c 7))),(.db 8 (.and (.v 3) (.v 4))),(.db 9 (.and (.v 3) (.v 5))),(.di 13 (.ite (.v 3) (.v 7) (.c 0))),(.di 14 (.ite (.v 3) (.v 8) (.c 0))),(.di 15 (.ite (.v 3) (.v 9) (.c 0))),(.di 16 (.ite (.v 3) (.v 10) (.c 0))),(.db 10 (.not (.v 0))),(.di 17 (.ite (.v 10) (.v 11) (.c 0))),(.di 18 (.ite (.v 10) (.v 12) (.c 9))),(.db 11 (.and (.v 10) (.v 8))),(.db 12 (.and (.v 10) (.v 9))),(.di 19 (.ite (.v 10) (.v 13) (.c 0))),(.di 20 (.ite (.v 10) (.v 14) (.c 0))),(.di 21 (.ite (.v 10) (.v 15) (.c 0))),(.di 22 (.ite (.v 10) (.v 16) (.c 0)))] [(.v 19),(.v 20),(.v 21),(.v 22),(.v 17),(.v 18)] [(.v 11),(.v 12)])
def L100800:LAnn:={ id:=100800,ga:=[0],gb:=[],hv:=[6,7,8],dr:=[1,11,12,14,15,16,17,18,20,21,22,23,24,25,26,27,28,29,30,32,33,34,35,36,37,38,39,40,41,43,44,45,46,47,48,49,50,51,52,53,54,55,56,57,58],hb:=[7],db:=[],xs:=[2,3,4],xb:=[7],nI:=8,nB:=2,S:=(.mk [(.di 8 (.lenq (.v 0) 1)),(.db 2 (.cm .leq (.v 3) (.v 8))),(.di 9 (.lenq (.v 0) 1)),(.db 3 (.cm .lss (.v 3) (.v 9))),(.db 4 (.cm .geq (.v 3) (.c 0))),(.ob [((.v 2),true),((.v 3),true)] (.v 4)),(.di 10 (.lenq (.v 0) 1)),(.db 5 (.cm .lss (.v 3) (.v 10))),(.ob [((.v 2),true),((.v 3),true)] (.v 5)),(.di 11 (.get (.v 0) (.v 3) 1 0)),(.db 6 (.cm .neq (.v 11) (.c 10))),(.db 7 (.and (.v 3) (.v 6))),(.di 12 (.lenq (.v 0) 1)),(.db 8 (.cm .geq (.v 2) (.c 0))),(.ob [((.v 2),true),((.v 7),false)] (.v 8)),(.db 9 (.cm .leq (.v 2) (.v 3))),(.ob [((.v 2),true),((.v 7),false)] (.v 9)),(.db 10 (.cm .leq (.v 3) (.v 12))),(.ob [((.v 2),true),((.v 7),false)] (.v 10)),(.di 13 (.sub (.v 0) (.v 2) (.v 3) 1)),(.call 20 [(.v 4),(.v 5),(.v 6),(.v 7),(.v 13)] [(.v 0),(.v 1)] 14 4 11 4),(.ob [((.v 2),true),((.v 7),false)] (.v 11)),(.db 15 (.not (.v 14))),(.di 18 (.ar .add .i64 (.v 1) (.c 1))),(.di 19 (.ar .add .i64 (.v 3) (.c 1))),(.db 16 (.not (.v 15))),(.db 17 (.not (.v 7))),(.db 18 (.not (.v 7))),(.db 19 (.not (.v 15))),(.db 20 (.and (.v 18) (.v 19))),(.db 21 (.or (.v 20) (.v 7))),(.di 20 (.ite (.v 20) (.v 18) (.v 1))),(.di 21 (.ite (.v 20) (.v 19) (.v 2))),(.db 22 (.ite (.v 20) (.v 12) (.v 0))),(.db 23 (.ite (.v 20) (.v 13) (.v 1))),(.di 22 (.ite (.v 20) (.v 14) (.v 4))),(.di 23 (.ite (.v 20) (.v 15) (.v 5))),(.di 24 (.ite (.v 20) (.v 16) (.v 6))),(.di 25 (.ite (.v 20) (.v 17) (.v 7))),(.di 26 (.ar .add .i64 (.v 3) (.c 1))),(.db 24 (.and (.v 2) (.v 21))),(.db 25 (.not (.v 7))),(.db 26 (.and (.v 25) (.v 15))),(.db 27 (.and (.v 2) (.v 26))),(.db 28 (.not (.v 2)))] [(.v 0),(.v 20),(.v 21),(.v 26),(.v 22),(.v 23),(.v 24),(.v 25),(.v 1),(.v 4),(.v 5),(.v 6),(.v 7)] [(.v 24),(.v 22),(.v 23),(.v 27),(.v 28),(.v 0),(.v 1)]),sd:=[(7,2,false,[.int .i64,.int .i64]),(7,3,false,[.int .i64,.int .i64])] }
def l8:List (Nat × LAnn):=[(7,L100800)]
def i8:List (Nat × List Nat × List Nat × List Nat × Bool):=[(40,[],[],[],false),(60,[],[],[],false),(50,[],[],[],false),(41,[],[],[],false),(52,[],[],[],false),(53,[],[],[],false),(70,[],[],[],false),(68,[],[],[],false),(81,[],[],[],true),(16,[],[],[],false),(30,[],[],[],false),(45,[],[],[],false)]
theorem x8:AllOk Tryd.prog (lpF (l8.map (·.2)) (tabF T30)) (gl m) (tabS T30):=(AllOk.loops (l:=l8.map (·.2)) A30 (by kernel_rfl))
theorem y8l:LsOk (lpF (l8.map (·.2)) (tabF T30)) l8:=LoopsOk.of (fn:=Tryd.f8) (gl:=(gl 0)) (s:=s8) (l:=l8) (by kernel_rfl)
theorem h8:HOk Tryd.prog (lpF (l8.map (·.2)) (tabF T30)) (gl m) (hC m (mkIs l8 i8) (tabS T30)):=hC_ok x8 (by kernel_rfl) (by kernel_rfl) (mkIs_ok y8l)
theorem k8:fnX Tryd.prog (hC m (mkIs l8 i8) (tabS T30)) (gl m) ((ctlL Tryd.f8 (gl m) s8 (sel l8 [0])).fz [36,19,21]) Tryd.f8 s8 = some S8:=by kernel_rfl
noncomputable def F8:Fun:=S8.run (lpF (l8.map (·.2)) (tabF T30)) true
theorem y8:LoopsOk (lpF (l8.map (·.2)) (tabF T30)) ((ctlL Tryd.f8 (gl m) s8 (sel l8 [0])).fz [36,19,21]):=fun p hp=>y8l p (sel_mem hp)
theorem z8:(wsEm S8.em (argI s8.args) (argB s8.args) && shOk s8 && s8.pre) = true:=by kernel_rfl
theorem d8:Contract Tryd.prog (gl m) 8 s8 F8:=contract_pre h8 Tryd.func8 y8 k8 z8
theorem c8:Contract Tryd.prog (gl m) 8 s8 F8:=d8
theorem call8:∀ args w,(callFunc 8 args).run Tryd.prog w = .ok (.enter 8 args) w:=callable_of Tryd.func8 (by kernel_rfl) (by kernel_rfl)
noncomputable def e8:Nat × Sum × Fun:=(8,s8,F8)
noncomputable def T31:List (Nat × Sum × Fun):=e8 :: T30
theorem A31:AllOk Tryd.prog (tabF T31) (gl m) (tabS T31):=AllOk.cons (s:=e8.2.1) c8 call8 (fun S h=>by cases h) A30
def s10:Sum:={ args:=[],tup:=false,res:=[(false,[.bool])],pre:=true }
def S10:Smry:=(.mk [(.call 23 [(.c 39614081257132168801066942464),(.c 1),(.c 0),(.c 0)] [(.c true),(.c false)] 0 2 0 1),(.ob [] (.v 0)),(.call 7 [(.c 175555970201398037864189960039098610574940786992552928328208298184894501349876136186330626776309512881220524397968692806768347467691210972263265569513850883070532148348809777940602264079369085776176717536779981246149727596355667861827579075585031615090076645550475389720871432155184728781675170212062691328)] [] 2 6 1 3),(.ob [] (.v 1)),(.call 7 [(.c 0)] [] 8 6 4 3),(.ob [] (.v 4)),(.db 7 (.cm .eql (.v 0) (.c 3062302278987264410674014099952538134529440485145592893164731941640471658369612547942791401665897482000281883369006372177948813453010409754392113509966874757962158373042057921336923509629471718650217571809758850420188443798020291606937751249175506258514049222660702975380452550360450749962719400227897802577836651689983656279722490961790232392342992722922308584259987858154371894537100421090022036586572421164711157108445679599167506914277801199496960308930278878974007535565026780821022788612396998099038507917649437827800571885055596998247015506332278241138379271204271450850129472976504623918407923489421753098021837526662573127819680320461965019792405210084250249082561310580722329275664615394707913807161742006208658694966720596656377376498375637966365046739511356116619718031361716374438416026480948356469717743431422174520379305273327616))),(.db 8 (.cm .eql (.v 1) (.c 0))),(.db 9 (.and (.v 7) (.v 8))),(.db 10 (.cm .eql (.v 6) (.c 1))),(.db 11 (.and (.v 9) (.v 10))),(.db 12 (.cm .eql (.v 7) (.c 7))),(.db 13 (.and (.v 11) (.v 12))),(.db 14 (.eqb (.v 5) (.c false))),(.db 15 (.eqb (.v 6) (.c false))),(.db 16 (.and (.v 14) (.v 15))),(.di 14 (.ar .add .i64 (.v 9) (.v 11))),(.db 17 (.cm .eql (.v 14) (.c 0))),(.db 18 (.and (.v 16) (.v 17))),(.db 19 (.and (.v 13) (.v 18))),(.db 20 (.cm .eql (.v 12) (.c 0))),(.db 21 (.and (.v 19) (.v 20))),(.db 22 (.cm .eql (.v 13) (.c 0))),(.db 23 (.and (.v 21) (.v 22)))] [] [(.v 23)])
def i10:List (Nat × List Nat × List Nat × List Nat × Bool):=sp0
theorem x10:AllOk Tryd.prog (tabF T31) (gl m) (tabS T31):=A31
theorem y10l:LsOk (tabF T31) []:=fun p hp=>by cases hp
theorem h10:HOk Tryd.prog (tabF T31) (gl m) (hC m (mkIs [] i10) (tabS T31)):=hC_ok x10 (by kernel_rfl) (by kernel_rfl) (mkIs_ok y10l)
theorem k10:fnX Tryd.prog (hC m (mkIs [] i10) (tabS T31)) (gl m) (ctlL Tryd.f10 (gl m) s10 []) Tryd.f10 s10 = some S10:=by kernel_rfl
noncomputable def F10:Fun:=S10.run (tabF T31) true
theorem y10:LoopsOk (tabF T31) (ctlL Tryd.f10 (gl m) s10 []):=fun p hp=>by cases hp
theorem z10:(wsEm S10.em (argI s10.args) (argB s10.args) && shOk s10 && s10.pre) = true:=by kernel_rfl
theorem d10:Contract Tryd.prog (gl m) 10 s10 F10:=contract_pre h10 Tryd.func10 y10 k10 z10
theorem c10:Contract Tryd.prog (gl m) 10 s10 F10:=d10
theorem call10:∀ args w,(callFunc 10 args).run Tryd.prog w = .ok (.enter 10 args) w:=callable_of Tryd.func10 (by kernel_rfl) (by kernel_rfl)
noncomputable def e10:Nat × Sum × Fun:=(10,s10,F10)
noncomputable def T32:List (Nat × Sum × Fun):=e10 :: T31
theorem A32:AllOk Tryd.prog (tabF T32) (gl m) (tabS T32):=AllOk.cons (s:=e10.2.1) c10 call10 (fun S h=>by cases h) A31
def s6:Sum:={ args:=[(.val true [.bool,.bool,(.sl [(.int .i64),(.int .i64)]),(.sl [(.int .i64),(.int .i64)])]),(.val true [.bool,.bool,(.sl [(.int .i64),(.int .i64)]),(.sl [(.int .i64),(.int .i64)])]),(.val true [.bool,.bool,(.sl [(.int .i64),(.int .i64)]),(.sl [(.int .i64),(.int .i64)])])],tup:=false,res:=[(false,[.bool])],pre:=true }
def S6:Smry:=(.mk [(.call 13 [(.v 0),(.v 1),(.v 2),(.v 3)] [(.v 0),(.v 1)] 12 4 6 3),(.ob [] (.v 6)),(.call 13 [(.v 4),(.v 5),(.v 6),(.v 7)] [(.v 2),(.v 3)] 16 4 9 3),(.ob [] (.v 9)),(.call 13 [(.v 8),(.v 9),(.v 10),(.v 11)] [(.v 4),(.v 5)] 20 4 12 3),(.ob [] (.v 12)),(.call 12 [(.v 12),(.v 13),(.v 14),(.v 15),(.v 16),(.v 17),(.v 18),(.v 19)] [(.v 7),(.v 8),(.v 10),(.v 11)] 24 5 15 3),(.ob [] (.v 15)),(.db 18 (.cm .neq (.v 28) (.c 0))),(.db 19 (.cm .eql (.v 28) (.c 1))),(.call 10 [] [] 29 0 20 2),(.ob [((.v 18),true),((.v 19),true)] (.v 20)),(.db 22 (.and (.v 19) (.v 21))),(.call 12 [(.v 16),(.v 17),(.v 18),(.v 19),(.v 12),(.v 13),(.v 14),(.v 15)] [(.v 10),(.v 11),(.v 7),(.v 8)] 29 5 23 3),(.ob [((.v 18),false)] (.v 23)),(.call 12 [(.v 12),(.v 13),(.v 14),(.v 15),(.v 12),(.v 13),(.v 14),(.v 15)] [(.v 7),(.v 8),(.v 7),(.v 8)] 34 5 26 3),(.ob [((.v 18),false)] (.v 26)),(.call 12 [(.v 12),(.v 13),(.v 14),(.v 15),(.c 0),(.c 0),(.c 0),(.c 0)] [(.v 7),(.v 8),(.c false),(.c false)] 39 5 29 3),(.ob [((.v 18),false)] (.v 29)),(.db 32 (.cm .neq (.v 33) (.c 0))),(.db 33 (.cm .neq (.v 38) (.c 0))),(.db 34 (.or (.v 32) (.v 33))),(.db 35 (.cm .neq (.v 43) (.c 0))),(.db 36 (.or (.v 34) (.v 35))),(.call 9 [(.v 24),(.v 25),(.v 26),(.v 27),(.v 29),(.v 30),(.v 31),(.v 32)] [(.v 16),(.v 17),(.v 24),(.v 25)] 44 0 37 2),(.ob [((.v 18),false),((.v 36),false)] (.v 37)),(.db 39 (.not (.v 38))),(.db 40 (.or (.v 36) (.v 39))),(.call 9 [(.v 34),(.v 35),(.v 36),(.v 37),(.v 12),(.v 13),(.v 14),(.v 15)] [(.v 27),(.v 28),(.v 7),(.v 8)] 44 0 41 2),(.ob [((.v 18),false),((.v 40),false)] (.v 41)),(.db 43 (.not (.v 42))),(.db 44 (.or (.v 40) (.v 43))),(.call 9 [(.v 39),(.v 40),(.v 41),(.v 42),(.v 12),(.v 13),(.v 14),(.v 15)] [(.v 30),(.v 31),(.v 7),(.v 8)] 44 0 45 2),(.ob [((.v 18),false),((.v 44),false)] (.v 45)),(.db 47 (.not (.v 46))),(.db 48 (.or (.v 44) (.v 47))),(.call 14 [(.v 24),(.v 25),(.v 26),(.v 27)] [(.v 16),(.v 17)] 44 1 49 1),(.ob [((.v 18),false),((.v 48),false)] (.v 49)),(.db 50 (.cm .neq (.v 44) (.c 0))),(.db 51 (.or (.v 48) (.v 50))),(.call 15 [(.v 24),(.v 25),(.v 26),(.v 27),(.v 12),(.v 13),(.v 14),(.v 15)] [(.v 16),(.v 17),(.v 7),(.v 8)] 45 0 52 2),(.ob [((.v 18),false),((.v 51),false)] (.v 52)),(.call 15 [(.v 24),(.v 25),(.v 26),(.v 27),(.v 16),(.v 17),(.v 18),(.v 19)] [(.v 16),(.v 17),(.v 10),(.v 11)] 45 0 54 2),(.ob [((.v 18),false),((.v 51),false),((.v 53),true)] (.v 54)),(.db 56 (.and (.v 53) (.v 55))),(.call 15 [(.v 20),(.v 21),(.v 22),(.v 23),(.v 12),(.v 13),(.v 14),(.v 15)] [(.v 13),(.v 14),(.v 7),(.v 8)] 45 0 57 2),(.ob [((.v 18),false),((.v 51),false),((.v 56),true)] (.v 57)),(.db 59 (.not (.v 58))),(.call 15 [(.v 20),(.v 21),(.v 22),(.v 23),(.v 16),(.v 17),(.v 18),(.v 19)] [(.v 13),(.v 14),(.v 10),(.v 11)] 45 0 60 2),(.ob [((.v 18),false),((.v 51),false),((.v 56),true),((.v 59),false)] (.v 60)),(.db 62 (.not (.v 61))),(.db 63 (.or (.v 59) (.v 62))),(.call 15 [(.v 20),(.v 21),(.v 22),(.v 23),(.v 24),(.v 25),(.v 26),(.v 27)] [(.v 13),(.v 14),(.v 16),(.v 17)] 45 0 64 2),(.ob [((.v 18),false),((.v 51),false),((.v 56),true),((.v 63),false)] (.v 64)),(.db 66 (.or (.v 63) (.v 65))),(.db 67 (.and (.v 56) (.v 66))),(.call 10 [] [] 45 0 68 2),(.ob [((.v 18),false),((.v 51),false),((.v 67),true)] (.v 68)),(.db 70 (.and (.v 67) (.v 69))),(.db 71 (.not (.v 51))),(.db 72 (.and (.v 71) (.v 70))),(.db 73 (.not (.v 18))),(.db 74 (.ite (.v 73) (.v 72) (.v 22)))] [] [(.v 74)])
def i6:List (Nat × List Nat × List Nat × List Nat × Bool):=sp0
theorem x6:AllOk Tryd.prog (tabF T32) (gl m) (tabS T32):=A32
theorem y6l:LsOk (tabF T32) []:=fun p hp=>by cases hp
theorem h6:HOk Tryd.prog (tabF T32) (gl m) (hC m (mkIs [] i6) (tabS T32)):=hC_ok x6 (by kernel_rfl) (by kernel_rfl) (mkIs_ok y6l)
theorem k6:fnX Tryd.prog (hC m (mkIs [] i6) (tabS T32)) (gl m) (ctlL Tryd.f6 (gl m) s6 []) Tryd.f6 s6 = some S6:=by kernel_rfl
noncomputable def F6:Fun:=S6.run (tabF T32) true
theorem y6:LoopsOk (tabF T32) (ctlL Tryd.f6 (gl m) s6 []):=fun p hp=>by cases hp
theorem z6:(wsEm S6.em (argI s6.args) (argB s6.args) && shOk s6 && s6.pre) = true:=by kernel_rfl
theorem d6:Contract Tryd.prog (gl m) 6 s6 F6:=contract_pre h6 Tryd.func6 y6 k6 z6
theorem c6:Contract Tryd.prog (gl m) 6 s6 F6:=d6
theorem call6:∀ args w,(callFunc 6 args).run Tryd.prog w = .ok (.enter 6 args) w:=callable_of Tryd.func6 (by kernel_rfl) (by kernel_rfl)
noncomputable def e6:Nat × Sum × Fun:=(6,s6,F6)
noncomputable def T33:List (Nat × Sum × Fun):=e6 :: T32
theorem A33:AllOk Tryd.prog (tabF T33) (gl m) (tabS T33):=AllOk.cons (s:=e6.2.1) c6 call6 (fun S h=>by cases h) A32
def s5:Sum:={ args:=[(.val false [.str]),(.val false [.str]),(.val false [.str])],tup:=false,res:=[(false,[.bool])],pre:=true }
def S5:Smry:=(.mk [(.di 3 (.lenq (.v 0) 1)),(.db 0 (.cm .gtr (.v 3) (.c 1000))),(.di 4 (.lenq (.v 1) 1)),(.db 1 (.cm .gtr (.v 4) (.c 1000))),(.db 2 (.or (.v 0) (.v 1))),(.di 5 (.lenq (.v 2) 1)),(.db 3 (.cm .gtr (.v 5) (.c 100))),(.db 4 (.or (.v 2) (.v 3))),(.call 10 [] [] 6 0 5 2),(.ob [((.v 4),true)] (.v 5)),(.call 100500 [(.v 2),(.c 0)] [] 6 0 7 4),(.ob [((.v 4),false)] (.v 7)),(.call 7 [(.v 0)] [] 6 6 11 3),(.ob [((.v 4),false),((.v 9),true)] (.v 11)),(.call 7 [(.v 1)] [] 12 6 14 3),(.ob [((.v 4),false),((.v 9),true)] (.v 14)),(.db 17 (.cm .neq (.v 11) (.c 0))),(.db 18 (.cm .neq (.v 17) (.c 0))),(.db 19 (.or (.v 17) (.v 18))),(.di 18 (.lenq (.v 0) 1)),(.db 20 (.cm .leq (.v 18) (.c 4611686018427387903))),(.ob [((.v 4),false),((.v 9),true),((.v 19),true)] (.v 20)),(.di 19 (.cat (.v 0) (.c 1048576))),(.di 20 (.lenq (.v 19) 1)),(.db 21 (.cm .leq (.v 20) (.c 4611686018427387903))),(.ob [((.v 4),false),((.v 9),true),((.v 19),true)] (.v 21)),(.di 21 (.lenq (.v 1) 1)),(.db 22 (.cm .leq (.v 21) (.c 4611686018427387903))),(.ob [((.v 4),false),((.v 9),true),((.v 19),true)] (.v 22)),(.di 22 (.cat (.v 19) (.v 1))),(.call 7 [(.v 22)] [] 23 6 23 3),(.ob [((.v 4),false),((.v 9),true),((.v 19),true)] (.v 23)),(.db 26 (.cm .gtr (.v 27) (.c 0))),(.db 27 (.cm .eql (.v 28) (.c 7))),(.db 28 (.and (.v 26) (.v 27))),(.call 10 [] [] 29 0 29 2),(.ob [((.v 4),false),((.v 9),true),((.v 19),true),((.v 28),true)] (.v 29)),(.db 31 (.and (.v 28) (.v 30))),(.di 29 (.lenq (.v 0) 1)),(.db 32 (.cm .leq (.v 29) (.c 4611686018427387903))),(.ob [((.v 4),false),((.v 9),true),((.v 19),false)] (.v 32)),(.di 30 (.cat (.v 0) (.c 2475880078570760549799297024))),(.di 31 (.lenq (.v 30) 1)),(.db 33 (.cm .leq (.v 31) (.c 4611686018427387903))),(.ob [((.v 4),false),((.v 9),true),((.v 19),false)] (.v 33)),(.di 32 (.lenq (.v 2) 1)),(.db 34 (.cm .leq (.v 32) (.c 4611686018427387903))),(.ob [((.v 4),false),((.v 9),true),((.v 19),false)] (.v 34)),(.di 33 (.cat (.v 30) (.v 2))),(.di 34 (.lenq (.v 33) 1)),(.db 35 (.cm .leq (.v 34) (.c 4611686018427387903))),(.ob [((.v 4),false),((.v 9),true),((.v 19),false)] (.v 35)),(.di 35 (.cat (.v 33) (.c 2199024304128))),(.di 36 (.lenq (.v 35) 1)),(.db 36 (.cm .leq (.v 36) (.c 4611686018427387903))),(.ob [((.v 4),false),((.v 9),true),((.v 19),false)] (.v 36)),(.di 37 (.lenq (.v 1) 1)),(.db 37 (.cm .leq (.v 37) (.c 4611686018427387903))),(.ob [((.v 4),false),((.v 9),true),((.v 19),false)] (.v 37)),(.di 38 (.cat (.v 35) (.v 1))),(.call 7 [(.v 38)] [] 39 6 38 3),(.ob [((.v 4),false),((.v 9),true),((.v 19),false)] (.v 38)),(.call 12 [(.v 6),(.v 7),(.v 8),(.v 9),(.v 12),(.v 13),(.v 14),(.v 15)] [(.v 12),(.v 13),(.v 15),(.v 16)] 45 5 41 3),(.ob [((.v 4),false),((.v 9),true),((.v 19),false)] (.v 41)),(.db 44 (.cm .eql (.v 43) (.c 0))),(.db 45 (.cm .eql (.v 44) (.c 0))),(.db 46 (.and (.v 44) (.v 45))),(.db 47 (.cm .eql (.v 49) (.c 0))),(.db 48 (.and (.v 46) (.v 47))),(.call 9 [(.v 39),(.v 40),(.v 41),(.v 42),(.v 45),(.v 46),(.v 47),(.v 48)] [(.v 39),(.v 40),(.v 42),(.v 43)] 50 0 49 2),(.ob [((.v 4),false),((.v 9),true),((.v 19),false),((.v 48),true)] (.v 49)),(.db 51 (.and (.v 48) (.v 50))),(.call 10 [] [] 50 0 52 2),(.ob [((.v 4),false),((.v 9),true),((.v 19),false),((.v 51),true)] (.v 52)),(.db 54 (.and (.v 51) (.v 53))),(.db 55 (.not (.v 19))),(.db 56 (.ite (.v 55) (.v 54) (.v 31))),(.db 57 (.ite (.v 9) (.v 56) (.v 10))),(.db 58 (.not (.v 4))),(.db 59 (.ite (.v 58) (.v 57) (.v 6)))] [] [(.v 59)])
def L100500:LAnn:={ id:=100500,ga:=[2],gb:=[],hv:=[7],dr:=[3,4,5,9,12,14,22,23,24,25,26,27,28,29,30,31,32,33,35,36,37,38,40,41,42,43,44,46,47,48,49,50,51,52,53,54,55,56,57,58,59,60,61,62,63,65,66,67,68,69,70,71,72,73,74,75,76,77,78,79,80,81,82,83,84,85,86,87,88,89,90,91,92,93,94,95,96,97,98,99,100,101,102,103,104,105,106,107,108,109,110,111,112,113,114,115,116,117,118],hb:=[],db:=[],xs:=[6],xb:=[],nI:=2,nB:=0,S:=(.mk [(.di 2 (.lenq (.v 0) 1)),(.db 0 (.cm .lss (.v 1) (.v 2))),(.db 1 (.cm .geq (.v 1) (.c 0))),(.ob [((.v 0),true)] (.v 1)),(.di 3 (.lenq (.v 0) 1)),(.db 2 (.cm .lss (.v 1) (.v 3))),(.ob [((.v 0),true)] (.v 2)),(.di 4 (.get (.v 0) (.v 1) 1 0)),(.db 3 (.cm .eql (.v 4) (.c 10))),(.call 10 [] [] 5 0 4 2),(.ob [((.v 0),true),((.v 3),true)] (.v 4)),(.di 5 (.ar .add .i64 (.v 1) (.c 1))),(.db 6 (.not (.v 3))),(.db 7 (.not (.v 3))),(.db 8 (.and (.v 0) (.v 7))),(.db 9 (.and (.v 0) (.v 3))),(.db 10 (.not (.v 0)))] [(.v 0),(.v 5)] [(.v 8),(.v 9),(.v 10),(.v 5)]) }
def l5:List (Nat × LAnn):=[(5,L100500)]
def i5:List (Nat × List Nat × List Nat × List Nat × Bool):=[(40,[],[],[],false),(60,[],[],[],false),(50,[],[],[],false),(41,[],[],[],false),(52,[],[],[],false),(53,[],[],[],false),(70,[],[],[],false),(68,[],[],[],false),(81,[],[],[],true),(16,[],[],[],false),(30,[],[],[],false),(45,[],[],[],false)]
theorem x5:AllOk Tryd.prog (lpF (l5.map (·.2)) (tabF T33)) (gl m) (tabS T33):=(AllOk.loops (l:=l5.map (·.2)) A33 (by kernel_rfl))
theorem y5l:LsOk (lpF (l5.map (·.2)) (tabF T33)) l5:=LoopsOk.of (fn:=Tryd.f5) (gl:=(gl 0)) (s:=s5) (l:=l5) (by kernel_rfl)
theorem h5:HOk Tryd.prog (lpF (l5.map (·.2)) (tabF T33)) (gl m) (hC m (mkIs l5 i5) (tabS T33)):=hC_ok x5 (by kernel_rfl) (by kernel_rfl) (mkIs_ok y5l)
theorem k5:fnX Tryd.prog (hC m (mkIs l5 i5) (tabS T33)) (gl m) (ctlL Tryd.f5 (gl m) s5 (sel l5 [0])) Tryd.f5 s5 = some S5:=by kernel_rfl
noncomputable def F5:Fun:=S5.run (lpF (l5.map (·.2)) (tabF T33)) true
theorem y5:LoopsOk (lpF (l5.map (·.2)) (tabF T33)) (ctlL Tryd.f5 (gl m) s5 (sel l5 [0])):=fun p hp=>y5l p (sel_mem hp)
theorem z5:(wsEm S5.em (argI s5.args) (argB s5.args) && shOk s5 && s5.pre) = true:=by kernel_rfl
theorem d5:Contract Tryd.prog (gl m) 5 s5 F5:=contract_pre h5 Tryd.func5 y5 k5 z5
theorem c5:Contract Tryd.prog (gl m) 5 s5 F5:=d5
theorem call5:∀ args w,(callFunc 5 args).run Tryd.prog w = .ok (.enter 5 args) w:=callable_of Tryd.func5 (by kernel_rfl) (by kernel_rfl)
noncomputable def e5:Nat × Sum × Fun:=(5,s5,F5)
noncomputable def T34:List (Nat × Sum × Fun):=e5 :: T33
theorem A34:AllOk Tryd.prog (tabF T34) (gl m) (tabS T34):=AllOk.cons (s:=e5.2.1) c5 call5 (fun S h=>by cases h) A33
def s3:Sum:={ args:=[(.val false [.str])],tup:=false,res:=[(false,[.bool])],pre:=true }
def S3:Smry:=(.mk [(.di 1 (.lenq (.v 0) 1)),(.db 0 (.cm .gtr (.v 1) (.c 4097))),(.di 2 (.lenq (.v 0) 1)),(.db 1 (.cm .leq (.c 4097) (.v 2))),(.ob [((.v 0),true)] (.v 1)),(.di 3 (.sub (.v 0) (.c 0) (.c 4097) 1)),(.di 4 (.ite (.v 0) (.v 3) (.v 0))),(.call 7 [(.v 4)] [] 5 6 2 3),(.ob [] (.v 2)),(.call 8 [(.v 4)] [] 11 6 5 3),(.ob [] (.v 5)),(.call 9 [(.v 5),(.v 6),(.v 7),(.v 8),(.v 11),(.v 12),(.v 13),(.v 14)] [(.v 3),(.v 4),(.v 6),(.v 7)] 17 0 8 2),(.ob [] (.v 8)),(.db 10 (.cm .eql (.v 9) (.v 15))),(.db 11 (.and (.v 9) (.v 10))),(.db 12 (.cm .eql (.v 10) (.v 16))),(.db 13 (.and (.v 11) (.v 12))),(.call 10 [] [] 17 0 14 2),(.ob [((.v 13),true)] (.v 14)),(.db 16 (.and (.v 13) (.v 15)))] [] [(.v 16)])
def i3:List (Nat × List Nat × List Nat × List Nat × Bool):=sp0
theorem x3:AllOk Tryd.prog (tabF T34) (gl m) (tabS T34):=A34
theorem y3l:LsOk (tabF T34) []:=fun p hp=>by cases hp
theorem h3:HOk Tryd.prog (tabF T34) (gl m) (hC m (mkIs [] i3) (tabS T34)):=hC_ok x3 (by kernel_rfl) (by kernel_rfl) (mkIs_ok y3l)
theorem k3:fnX Tryd.prog (hC m (mkIs [] i3) (tabS T34)) (gl m) (ctlL Tryd.f3 (gl m) s3 []) Tryd.f3 s3 = some S3:=by kernel_rfl
noncomputable def F3:Fun:=S3.run (tabF T34) true
theorem y3:LoopsOk (tabF T34) (ctlL Tryd.f3 (gl m) s3 []):=fun p hp=>by cases hp
theorem z3:(wsEm S3.em (argI s3.args) (argB s3.args) && shOk s3 && s3.pre) = true:=by kernel_rfl
theorem d3:Contract Tryd.prog (gl m) 3 s3 F3:=contract_pre h3 Tryd.func3 y3 k3 z3
theorem c3:Contract Tryd.prog (gl m) 3 s3 F3:=d3
theorem call3:∀ args w,(callFunc 3 args).run Tryd.prog w = .ok (.enter 3 args) w:=callable_of Tryd.func3 (by kernel_rfl) (by kernel_rfl)
noncomputable def e3:Nat × Sum × Fun:=(3,s3,F3)
noncomputable def T35:List (Nat × Sum × Fun):=e3 :: T34
theorem A35:AllOk Tryd.prog (tabF T35) (gl m) (tabS T35):=AllOk.cons (s:=e3.2.1) c3 call3 (fun S h=>by cases h) A34
end Go.Proofs.YtfgbfdlacnihkaaDoor.Po
namespace Go.Proofs.YtfgbfdlacnihkaaDoor.Po
open Go Go.Proofs Go.Proofs.YtfgbfdlacnihkaaDoor.Sx
abbrev Pr:=Int × Int
def fl2:List Pr -> List Int
 | []=>[]
 | p :: l=>p.1 :: p.2 :: fl2 l
def eP (l:List Pr):Int:=enc (fl2 l)
theorem fl2_append:∀ l m:List Pr,fl2 (l ++ m) = fl2 l ++ fl2 m
 | [],m=>rfl
 | p :: l,m=>by simp only [fl2,List.cons_append,fl2_append l m]
theorem fl2_get0:∀ (l:List Pr) (i:Nat),(fl2 l).getD (i * 2) 0 = (l.getD i (0,0)).1
 | [],i=>by simp [fl2]
 | p :: l,0=>rfl
 | p :: l,i + 1=>by
  rw [show (i + 1) * 2 = i * 2 + 1 + 1 by omega]
  simp only [fl2,List.getD_cons_succ]
  exact fl2_get0 l i
theorem fl2_get1:∀ (l:List Pr) (i:Nat),(fl2 l).getD (i * 2 + 1) 0 = (l.getD i (0,0)).2
 | [],i=>by simp [fl2]
 | p :: l,0=>rfl
 | p :: l,i + 1=>by
  rw [show (i + 1) * 2 + 1 = (i * 2 + 1) + 1 + 1 by omega]
  simp only [fl2,List.getD_cons_succ]
  exact fl2_get1 l i
theorem fl2_take:∀ (l:List Pr) (n:Nat),(fl2 l).take (n * 2) = fl2 (l.take n)
 | [],n=>by simp [fl2]
 | p :: l,0=>by simp [fl2]
 | p :: l,n + 1=>by
  rw [show (n + 1) * 2 = n * 2 + 1 + 1 by omega]
  simp only [fl2,List.take_succ_cons,fl2_take l n]
theorem fl2_set0:∀ (l:List Pr) (i:Nat) (x:Int),(fl2 l).set (i * 2) x = fl2 (l.set i (x,(l.getD i (0,0)).2))
 | [],i,x=>by simp [fl2]
 | p :: l,0,x=>rfl
 | p :: l,i + 1,x=>by
  rw [show (i + 1) * 2 = i * 2 + 1 + 1 by omega]
  have:=fl2_set0 l i x
  simp only [fl2,List.set_cons_succ,List.getD_cons_succ]
  rw [this]
theorem fl2_set1:∀ (l:List Pr) (i:Nat) (x:Int),(fl2 l).set (i * 2 + 1) x = fl2 (l.set i ((l.getD i (0,0)).1,x))
 | [],i,x=>by simp [fl2]
 | p :: l,0,x=>rfl
 | p :: l,i + 1,x=>by
  rw [show (i + 1) * 2 + 1 = (i * 2 + 1) + 1 + 1 by omega]
  have:=fl2_set1 l i x
  simp only [fl2,List.set_cons_succ,List.getD_cons_succ]
  rw [this]
theorem eP_get0 (l:List Pr) (i:Nat):(dec (eP l)).getD (i * 2) 0 = (l.getD i (0,0)).1:=by unfold eP; rw [dec_enc]; exact fl2_get0 l i
theorem eP_get1 (l:List Pr) (i:Nat):(dec (eP l)).getD (i * 2 + 1) 0 = (l.getD i (0,0)).2:=by unfold eP; rw [dec_enc]; exact fl2_get1 l i
theorem wrap_i64_in {x:Int} (h0:-9223372036854775808 <= x) (h1:x <= 9223372036854775807):IntKind.wrap .i64 x = x:=by
 rw [IntKind.wrap_i64]; omega
theorem arAdd {x y:Int} (h0:-9223372036854775808 <= x + y) (h1:x + y <= 9223372036854775807):arI .add .i64 x y = x + y:=wrap_i64_in h0 h1
def small (n:Nat):Prop:=n <= 4611686018427387904

def runI {α:Type} (stp:Nat -> α -> α) (stop:Nat -> α -> Option Fl) (fin:α -> Fl):Nat -> Nat -> α -> Fl
 | 0,_,a=>fin a
 | k + 1,i,a=>match stop i a with
  | some o=>o
  | none=>runI stp stop fin k (i + 1) (stp i a)
theorem idx_rule {α:Type} {F:Fun} {nI nB:Nat} (n:Nat) (E:Nat -> α -> List Int) (stp:Nat -> α -> α) (stop:Nat -> α -> Option Fl) (fin:α -> Fl) (inv:Nat -> α -> Prop)
  (h1:∀ i a,i < n -> inv i a -> stop i a = none -> ∃ rb,(F (E i a) []).2 = true :: true :: rb /\ (F (E i a) []).1.take nI = E (i + 1) (stp i a) /\ rb.take nB = [] /\ inv (i + 1) (stp i a))
  (h2:∀ i a o,i < n -> inv i a -> stop i a = some o -> ∃ rb,(F (E i a) []).2 = true :: false :: rb /\ ((F (E i a) []).1.drop nI,rb.drop nB) = o)
  (h3:∀ a,inv n a -> ∃ rb,(F (E n a) []).2 = true :: false :: rb /\ ((F (E n a) []).1.drop nI,rb.drop nB) = fin a) :
  ∀ a,inv 0 a -> loopF F nI nB (E 0 a) [] = ((runI stp stop fin n 0 a).1,true :: (runI stp stop fin n 0 a).2):=by
 have key:∀ k i a,i + k = n -> inv i a -> ∃ m,LRun F nI nB m (E i a) [] (runI stp stop fin k i a):=by
  intro k
  induction k with
  | zero =>
   intro i a hi ha
   have:i = n:=by omega
   subst this
   obtain ⟨rb,g1,g2⟩:=h3 a ha
   refine ⟨1,?_⟩
   show LRun F nI nB 1 (E i a) [] (fin a)
   rw [<- g2]
   exact .stop g1
  | succ k ih =>
   intro i a hi ha
   unfold runI
   cases hs:stop i a with
   | some o =>
    obtain ⟨rb,g1,g2⟩:=h2 i a o (by omega) ha hs
    refine ⟨1,?_⟩
    show LRun F nI nB 1 (E i a) [] o
    rw [<- g2]
    exact .stop g1
   | none =>
    obtain ⟨rb,g1,g2,g3,g4⟩:=h1 i a (by omega) ha hs
    obtain ⟨m,hm⟩:=ih (i + 1) (stp i a) (by omega) g4
    refine ⟨m + 1,.turn g1 ?_⟩
    rw [g2,g3]
    exact hm
 intro a ha
 obtain ⟨m,hm⟩:=key n 0 a (by omega) ha
 exact loopF_of hm
theorem search_runI {p:Nat -> Bool} {f g:Fl}:∀ (k i:Nat),runI (α:=Unit) (fun _ a=>a) (fun i _=>if p i then some f else none) (fun _=>g) k i () = if (List.range' i k).any p then f else g
 | 0,i=>rfl
 | k + 1,i=>by
  unfold runI
  rw [List.range'_succ,List.any_cons]
  cases h:p i
  ·simp only [Bool.false_eq_true,if_false,Bool.false_or]
   exact search_runI k (i + 1)
  ·simp

def allR (r:Pr -> Pr -> Bool) (a b:List Pr):Bool:=decide (a.length = b.length) && (List.range' 0 a.length).all fun i=>r (a.getD i (0,0)) (b.getD i (0,0))
theorem cmp_loop {F:Fun} {a b:List Pr} (r:Pr -> Pr -> Bool) (ht:∀ i:Nat,i <= a.length -> F [eP a,a.length,eP b,b.length,i] [] =
  ([eP a,a.length,eP b,b.length,((i + 1:Nat):Int)],[true,decide (i < a.length) && r (a.getD i (0,0)) (b.getD i (0,0)),decide (i < a.length) && !r (a.getD i (0,0)) (b.getD i (0,0)),!decide (i < a.length)])) :
  loopF F 5 0 [eP a,a.length,eP b,b.length,0] [] = ([],[true,!((List.range' 0 a.length).all fun i=>r (a.getD i (0,0)) (b.getD i (0,0))),(List.range' 0 a.length).all fun i=>r (a.getD i (0,0)) (b.getD i (0,0))]):=by
 have h:=idx_rule (α:=Unit) (F:=F) (nI:=5) (nB:=0) a.length (fun i _=>[eP a,a.length,eP b,b.length,i]) (fun _ x=>x)
  (fun i _=>if (!r (a.getD i (0,0)) (b.getD i (0,0))) then some ([],[true,false]) else none) (fun _=>([],[false,true])) (fun _ _=>True) (fun i _ hi _ hs=>?_) (fun i _ o hi _ hs=>?_) (fun _ _=>?_) () trivial
 ·have h:loopF F 5 0 [eP a,a.length,eP b,b.length,0] [] = _:=h
  rw [h,search_runI,List.any_eq_not_all_not]
  simp only [Bool.not_not]
  cases (List.range' 0 a.length).all fun i=>r (a.getD i (0,0)) (b.getD i (0,0)) <;> rfl
 ·rw [ht i (Nat.le_of_lt hi)]
  simp only [hi,decide_true,Bool.true_and]
  cases hr:r (a.getD i (0,0)) (b.getD i (0,0))
  ·rw [hr] at hs; simp at hs
  ·exact ⟨_,rfl,rfl,rfl,trivial⟩
 ·rw [ht i (Nat.le_of_lt hi)]
  simp only [hi,decide_true,Bool.true_and]
  cases hr:r (a.getD i (0,0)) (b.getD i (0,0))
  ·rw [hr] at hs
   simp only [Bool.not_false,if_true,Option.some.injEq] at hs
   subst hs
   exact ⟨_,rfl,rfl⟩
  ·rw [hr] at hs; simp at hs
 ·rw [ht a.length (Nat.le_refl _)]
  simp only [Nat.lt_irrefl,decide_false,Bool.false_and]
  exact ⟨_,rfl,rfl⟩
def rR (x y:Pr):Bool:=(x.1 == y.1) && (x.2 == y.2)
theorem t22 {Φ:Funs} {a b:List Pr} (hl:a.length = b.length) (hs:small a.length) (i:Nat) (hi:i <= a.length):L102200.S.run Φ true [eP a,a.length,eP b,b.length,i] [] =
  ([eP a,a.length,eP b,b.length,((i + 1:Nat):Int)],[true,decide (i < a.length) && rR (a.getD i (0,0)) (b.getD i (0,0)),decide (i < a.length) && !rR (a.getD i (0,0)) (b.getD i (0,0)),!decide (i < a.length)]):=by
 unfold small at hs
 obtain ⟨ρ,e1,e2,e3,e4⟩:=Smry.run_specT (Φ:=Φ) (S:=L102200.S) (is:=[eP a,a.length,eP b,b.length,i]) (bs:=[]) rfl
 rw [e1,obAll_eq]
 clear e1
 simp only [L102200,obs,Gd.d_cons,Gd.d_nil,eqns,Em.eqn,headsI,headsB,RI.d,RB.d,A.d,B.d,cm_eql,cm_neq,cm_lss,cm_leq,cm_gtr,cm_geq,List.map_cons,List.map_nil,and_true,Nat.zero_add,Nat.reduceAdd,ltn,upto,true_and,Nat.add_zero,List.getD_cons_zero,List.getD_cons_succ] at e2 e3 e4 ⊢
 simp only [e2,e3,Int.toNat_natCast] at e4 ⊢
 clear e2 e3
 have d0:decide ((0:Int) <= (i:Int)) = true:=decide_eq_true (by omega)
 have d3:arI .add .i64 (i:Int) 1 = ((i + 1:Nat):Int):=arAdd (by omega) (by omega)
 have d1:decide ((i:Int) < (a.length:Int)) = decide (i < a.length):=by simp
 have d2:decide ((i:Int) < (b.length:Int)) = decide (i < a.length):=by simp [hl]
 simp only [d0,d1,d2,d3,eP_get0,eP_get1] at e4
 simp only [e4]
 generalize a.getD i (0,0) = x
 generalize b.getD i (0,0) = y
 unfold rR
 generalize decide (i < a.length) = u
 generalize (x.1 == y.1) = v
 generalize (x.2 == y.2) = w
 cases u <;> cases v <;> cases w <;> rfl
theorem w22 {a b:List Pr} (hs:small a.length) (hs':small b.length):F22 [eP a,a.length,eP b,b.length] [] = ([],[true,allR rR a b]):=by
 have hl:(lpF (l22.map (·.2)) (tabF T6)) 102200 = loopF (L102200.S.run (tabF T6) true) 5 0:=by kernel_rfl
 show S22.run (lpF (l22.map (·.2)) (tabF T6)) true [eP a,a.length,eP b,b.length] [] = _
 generalize lpF (l22.map (·.2)) (tabF T6) = Φ at hl
 obtain ⟨ρ,e1,e2,e3,e4⟩:=Smry.run_specT (Φ:=Φ) (S:=S22) (is:=[eP a,a.length,eP b,b.length]) (bs:=[]) rfl
 rw [e1,obAll_eq]
 clear e1
 simp only [S22,obs,Gd.d_cons,Gd.d_nil,eqns,Em.eqn,headsI,headsB,RI.d,RB.d,A.d,B.d,cm_eql,cm_neq,cm_lss,cm_leq,cm_gtr,cm_geq,List.map_cons,List.map_nil,and_true,Nat.zero_add,Nat.reduceAdd,ltn,upto,true_and,Nat.add_zero,List.getD_cons_zero,List.getD_cons_succ] at e2 e3 e4 ⊢
 simp only [e2,e3,Int.toNat_natCast] at e4 ⊢
 clear e2 e3
 rw [hl] at e4
 unfold allR
 by_cases hn:a.length = b.length
 ·rw [cmp_loop rR (t22 hn hs)] at e4
  simp only [hn,List.getD_cons_zero,List.getD_cons_succ] at e4
  simp only [e4,hn]
  simp
 ·have d1:((a.length:Int) != (b.length:Int)) = true:=bne_iff_ne.2 (by omega)
  simp only [d1] at e4
  simp [e4,hn]
theorem srch_runI {p:Nat -> Bool} {xs:Nat -> List Int}:∀ (k i:Nat),
  ((List.range' i k).any p = true -> ∃ j,i <= j /\ j < i + k /\ p j = true /\ runI (α:=Unit) (fun _ a=>a) (fun i _=>if p i then some (xs i,[true,false]) else none) (fun _=>(xs (i + k),[false,true])) k i () = (xs j,[true,false])) /\
  ((List.range' i k).any p = false -> runI (α:=Unit) (fun _ a=>a) (fun i _=>if p i then some (xs i,[true,false]) else none) (fun _=>(xs (i + k),[false,true])) k i () = (xs (i + k),[false,true]))
 | 0,i=>⟨fun h=>by simp at h,fun _=>rfl⟩
 | k + 1,i=>by
  obtain ⟨h1,h2⟩:=srch_runI (p:=p) (xs:=xs) k (i + 1)
  rw [List.range'_succ,List.any_cons]
  unfold runI
  rw [show i + (k + 1) = i + 1 + k by omega]
  cases h:p i
  ·simp only [Bool.false_eq_true,if_false,Bool.false_or]
   refine ⟨fun he=>?_,h2⟩
   obtain ⟨j,g1,g2,g3⟩:=h1 he
   exact ⟨j,by omega,by omega,g3⟩
  ·simp only [if_true,Bool.true_or]
   exact ⟨fun _=>⟨i,Nat.le_refl _,by omega,h,rfl⟩,fun he=>by cases he⟩
theorem srch {F:Fun} (B:List Int) (n:Nat) (p:Nat -> Bool) (xs:Nat -> List Int) (ht:∀ i:Nat,i <= n -> F (B ++ [(i:Int)]) [] = (B ++ [((i + 1:Nat):Int)] ++ xs i,[true,decide (i < n) && !p i,decide (i < n) && p i,!decide (i < n)])) :
  ((List.range' 0 n).any p = true -> ∃ j,j < n /\ p j = true /\ loopF F (B.length + 1) 0 (B ++ [0]) [] = (xs j,[true,true,false])) /\
  ((List.range' 0 n).any p = false -> loopF F (B.length + 1) 0 (B ++ [0]) [] = (xs n,[true,false,true])):=by
 have htk:∀ (x:Int) (l:List Int),(B ++ [x] ++ l).take (B.length + 1) = B ++ [x]:=fun x l=>by
  rw [List.take_append_of_le_length (by simp)]
  exact List.take_of_length_le (by simp)
 have hdr:∀ (x:Int) (l:List Int),(B ++ [x] ++ l).drop (B.length + 1) = l:=fun x l=>by
  rw [show B.length + 1 = (B ++ [x]).length by simp,List.drop_left]
 have h:=idx_rule (α:=Unit) (F:=F) (nI:=B.length + 1) (nB:=0) n (fun i _=>B ++ [(i:Int)]) (fun _ x=>x)
  (fun i _=>if p i then some (xs i,[true,false]) else none) (fun _=>(xs (0 + n),[false,true])) (fun _ _=>True) (fun i _ hi _ hs=>?_) (fun i _ o hi _ hs=>?_) (fun _ _=>?_) () trivial
 ·have h:loopF F (B.length + 1) 0 (B ++ [0]) [] = _:=h
  obtain ⟨h1,h2⟩:=srch_runI (p:=p) (xs:=xs) n 0
  refine ⟨fun he=>?_,fun he=>?_⟩
  ·obtain ⟨j,_,g2,g3,g4⟩:=h1 he
   exact ⟨j,by omega,g3,by rw [h,g4]⟩
  ·rw [h,h2 he,Nat.zero_add]
 ·rw [ht i (Nat.le_of_lt hi)]
  simp only [hi,decide_true,Bool.true_and]
  cases hr:p i
  ·exact ⟨_,rfl,htk _ _,rfl,trivial⟩
  ·rw [hr] at hs; simp at hs
 ·rw [ht i (Nat.le_of_lt hi)]
  simp only [hi,decide_true,Bool.true_and]
  cases hr:p i
  ·rw [hr] at hs; simp at hs
  ·rw [hr] at hs
   simp only [if_true,Option.some.injEq] at hs
   subst hs
   exact ⟨_,rfl,by rw [hdr]; rfl⟩
 ·rw [ht n (Nat.le_refl _)]
  simp only [Nat.lt_irrefl,decide_false,Bool.false_and]
  exact ⟨_,rfl,by rw [hdr,Nat.zero_add]; rfl⟩
def may (x:Pr):Bool:=decide (0 <= x.1) && decide (x.1 <= x.2) && decide (x.2 < 65536)
def badC (l:List Pr) (i:Nat):Bool:=!may (l.getD i (0,0)) || (decide (0 < i) && decide ((l.getD i (0,0)).1 < arI .add .i64 (l.getD (i - 1) (0,0)).2 2))
def badW (l:List Pr) (i:Nat):Bool:=!may (l.getD i (0,0))
def inR' (x:Pr) (t:Int):Bool:=decide (x.1 <= t) && decide (t <= x.2)
theorem t43 {Φ:Funs} {l:List Pr} (hs:small l.length) (i:Nat) (hi:i <= l.length):L104300.S.run Φ true ([eP l,l.length] ++ [(i:Int)]) [] =
  ([eP l,l.length] ++ [((i + 1:Nat):Int)] ++ [],[true,decide (i < l.length) && !badC l i,decide (i < l.length) && badC l i,!decide (i < l.length)]):=by
 unfold small at hs
 simp only [List.cons_append,List.nil_append]
 obtain ⟨ρ,e1,e2,e3,e4⟩:=Smry.run_specT (Φ:=Φ) (S:=L104300.S) (is:=[eP l,l.length,i]) (bs:=[]) rfl
 rw [e1,obAll_eq]
 clear e1
 simp only [L104300,obs,Gd.d_cons,Gd.d_nil,eqns,Em.eqn,headsI,headsB,RI.d,RB.d,A.d,B.d,cm_eql,cm_neq,cm_lss,cm_leq,cm_gtr,cm_geq,List.map_cons,List.map_nil,and_true,Nat.zero_add,Nat.reduceAdd,ltn,upto,true_and,Nat.add_zero,List.getD_cons_zero,List.getD_cons_succ] at e2 e3 e4 ⊢
 simp only [e2,e3,Int.toNat_natCast] at e4 ⊢
 clear e2 e3
 have d0:decide ((0:Int) <= (i:Int)) = true:=decide_eq_true (by omega)
 have d3:arI .add .i64 (i:Int) 1 = ((i + 1:Nat):Int):=arAdd (by omega) (by omega)
 have d1:decide ((i:Int) < (l.length:Int)) = decide (i < l.length):=by simp
 have d5:arI .sub .i64 (i:Int) 1 = (i:Int) - 1:=by show IntKind.wrap .i64 _ = _; exact wrap_i64_in (by omega) (by omega)
 have d6:((i:Int) - 1).toNat = i - 1:=by omega
 have d7:decide ((i:Int) > 0) = decide (0 < i):=by simp
 have d8:decide ((0:Int) <= (i:Int) - 1) = decide (0 < i):=by by_cases h:0 < i <;> simp [h] <;> omega
 have d9:decide ((i:Int) - 1 < (l.length:Int)) = true:=decide_eq_true (by omega)
 simp only [d0,d1,d3,eP_get0,eP_get1,d5,d6,d7] at e4
 simp only [e4]
 simp only [d6,d8,d9]
 unfold badC may
 generalize l.getD i (0,0) = x
 generalize l.getD (i - 1) (0,0) = y
 generalize decide (i < l.length) = u
 generalize decide (0 < i) = g
 generalize (decide (0 <= x.1) && decide (x.1 <= x.2) && decide (x.2 < 65536)) = m
 generalize decide (x.1 < arI .add .i64 y.2 2) = c
 cases u <;> cases g <;> cases m <;> cases c <;> rfl
theorem t33a {Φ:Funs} {l:List Pr} (hs:small l.length) (i:Nat) (hi:i <= l.length):L103301.S.run Φ true ([eP l,l.length] ++ [(i:Int)]) [] =
  ([eP l,l.length] ++ [((i + 1:Nat):Int)] ++ [(i:Int)],[true,decide (i < l.length) && !badW l i,decide (i < l.length) && badW l i,!decide (i < l.length)]):=by
 unfold small at hs
 simp only [List.cons_append,List.nil_append]
 obtain ⟨ρ,e1,e2,e3,e4⟩:=Smry.run_specT (Φ:=Φ) (S:=L103301.S) (is:=[eP l,l.length,i]) (bs:=[]) rfl
 rw [e1,obAll_eq]
 clear e1
 simp only [L103301,obs,Gd.d_cons,Gd.d_nil,eqns,Em.eqn,headsI,headsB,RI.d,RB.d,A.d,B.d,cm_eql,cm_neq,cm_lss,cm_leq,cm_gtr,cm_geq,List.map_cons,List.map_nil,and_true,Nat.zero_add,Nat.reduceAdd,ltn,upto,true_and,Nat.add_zero,List.getD_cons_zero,List.getD_cons_succ] at e2 e3 e4 ⊢
 simp only [e2,e3,Int.toNat_natCast] at e4 ⊢
 clear e2 e3
 have d0:decide ((0:Int) <= (i:Int)) = true:=decide_eq_true (by omega)
 have d3:arI .add .i64 (i:Int) 1 = ((i + 1:Nat):Int):=arAdd (by omega) (by omega)
 have d1:decide ((i:Int) < (l.length:Int)) = decide (i < l.length):=by simp
 simp only [d0,d1,d3,eP_get0,eP_get1] at e4
 simp only [e4]
 unfold badW may
 generalize l.getD i (0,0) = x
 generalize decide (i < l.length) = u
 generalize (decide (0 <= x.1) && decide (x.1 <= x.2) && decide (x.2 < 65536)) = m
 cases u <;> cases m <;> rfl
theorem t25 {Φ:Funs} {l:List Pr} {t:Int} (hs:small l.length) (i:Nat) (hi:i <= l.length):L102500.S.run Φ true ([eP l,l.length,t] ++ [(i:Int)]) [] =
  ([eP l,l.length,t] ++ [((i + 1:Nat):Int)] ++ [(i:Int)],[true,decide (i < l.length) && !inR' (l.getD i (0,0)) t,decide (i < l.length) && inR' (l.getD i (0,0)) t,!decide (i < l.length)]):=by
 unfold small at hs
 simp only [List.cons_append,List.nil_append]
 obtain ⟨ρ,e1,e2,e3,e4⟩:=Smry.run_specT (Φ:=Φ) (S:=L102500.S) (is:=[eP l,l.length,t,i]) (bs:=[]) rfl
 rw [e1,obAll_eq]
 clear e1
 simp only [L102500,obs,Gd.d_cons,Gd.d_nil,eqns,Em.eqn,headsI,headsB,RI.d,RB.d,A.d,B.d,cm_eql,cm_neq,cm_lss,cm_leq,cm_gtr,cm_geq,List.map_cons,List.map_nil,and_true,Nat.zero_add,Nat.reduceAdd,ltn,upto,true_and,Nat.add_zero,List.getD_cons_zero,List.getD_cons_succ] at e2 e3 e4 ⊢
 simp only [e2,e3,Int.toNat_natCast] at e4 ⊢
 clear e2 e3
 have d0:decide ((0:Int) <= (i:Int)) = true:=decide_eq_true (by omega)
 have d3:arI .add .i64 (i:Int) 1 = ((i + 1:Nat):Int):=arAdd (by omega) (by omega)
 have d1:decide ((i:Int) < (l.length:Int)) = decide (i < l.length):=by simp
 simp only [d0,d1,d3,eP_get0,eP_get1] at e4
 simp only [e4]
 unfold inR'
 generalize l.getD i (0,0) = x
 generalize decide (i < l.length) = u
 generalize (decide (x.1 <= t) && decide (t <= x.2)) = m
 cases u <;> cases m <;> rfl
theorem w43 {l:List Pr} (hs:small l.length):F43 [eP l,l.length] [] = ([if (List.range' 0 l.length).any (badC l) then 1 else 0],[true]):=by
 have hl:(lpF (l43.map (·.2)) (tabF T1)) 104300 = loopF (L104300.S.run (tabF T1) true) 3 0:=by kernel_rfl
 show S43.run (lpF (l43.map (·.2)) (tabF T1)) true [eP l,l.length] [] = _
 generalize lpF (l43.map (·.2)) (tabF T1) = Φ at hl
 obtain ⟨ρ,e1,e2,e3,e4⟩:=Smry.run_specT (Φ:=Φ) (S:=S43) (is:=[eP l,l.length]) (bs:=[]) rfl
 rw [e1,obAll_eq]
 clear e1
 simp only [S43,obs,Gd.d_cons,Gd.d_nil,eqns,Em.eqn,headsI,headsB,RI.d,RB.d,A.d,B.d,cm_eql,cm_neq,cm_lss,cm_leq,cm_gtr,cm_geq,List.map_cons,List.map_nil,and_true,Nat.zero_add,Nat.reduceAdd,ltn,upto,true_and,Nat.add_zero,List.getD_cons_zero,List.getD_cons_succ] at e2 e3 e4 ⊢
 simp only [e2,e3,Int.toNat_natCast] at e4 ⊢
 clear e2 e3
 rw [hl] at e4
 obtain ⟨q1,q2⟩:=srch [eP l,l.length] l.length (fun i=>badC l i) (fun _=>[]) (fun i hi=>t43 (Φ:=tabF T1) hs i hi)
 simp only [List.length_cons,List.length_nil,Nat.zero_add,Nat.reduceAdd,List.cons_append,List.nil_append] at q1 q2
 cases hb:(List.range' 0 l.length).any (fun i=>badC l i)
 ·rw [q2 hb] at e4
  simp only [List.getD_cons_zero,List.getD_cons_succ] at e4
  simp [e4]
 ·obtain ⟨j,j1,j2,j3⟩:=q1 hb
  rw [j3] at e4
  simp only [List.getD_cons_zero,List.getD_cons_succ] at e4
  simp [e4]
theorem w25 {l:List Pr} {t:Int} (hs:small l.length):F25 [eP l,l.length,t] [] = ([],[true,(List.range' 0 l.length).any fun i=>inR' (l.getD i (0,0)) t]):=by
 have hl:(lpF (l25.map (·.2)) (tabF T8)) 102500 = loopF (L102500.S.run (tabF T8) true) 4 0:=by kernel_rfl
 show S25.run (lpF (l25.map (·.2)) (tabF T8)) true [eP l,l.length,t] [] = _
 generalize lpF (l25.map (·.2)) (tabF T8) = Φ at hl
 obtain ⟨ρ,e1,e2,e3,e4⟩:=Smry.run_specT (Φ:=Φ) (S:=S25) (is:=[eP l,l.length,t]) (bs:=[]) rfl
 rw [e1,obAll_eq]
 clear e1
 simp only [S25,obs,Gd.d_cons,Gd.d_nil,eqns,Em.eqn,headsI,headsB,RI.d,RB.d,A.d,B.d,cm_eql,cm_neq,cm_lss,cm_leq,cm_gtr,cm_geq,List.map_cons,List.map_nil,and_true,Nat.zero_add,Nat.reduceAdd,ltn,upto,true_and,Nat.add_zero,List.getD_cons_zero,List.getD_cons_succ] at e2 e3 e4 ⊢
 simp only [e2,e3,Int.toNat_natCast] at e4 ⊢
 clear e2 e3
 rw [hl] at e4
 obtain ⟨q1,q2⟩:=srch [eP l,l.length,t] l.length (fun i=>inR' (l.getD i (0,0)) t) (fun i=>[(i:Int)]) (fun i hi=>t25 (Φ:=tabF T8) hs i hi)
 simp only [List.length_cons,List.length_nil,Nat.zero_add,Nat.reduceAdd,List.cons_append,List.nil_append] at q1 q2
 cases hb:(List.range' 0 l.length).any (fun i=>inR' (l.getD i (0,0)) t)
 ·rw [q2 hb] at e4
  simp only [List.getD_cons_zero,List.getD_cons_succ] at e4
  simp [e4]
 ·obtain ⟨j,j1,j2,j3⟩:=q1 hb
  rw [j3] at e4
  simp only [List.getD_cons_zero,List.getD_cons_succ] at e4
  simp [e4]
theorem eP_sub (l:List Pr) (k:Nat):enc (((dec (eP l)).drop (Int.toNat 0 * 2)).take ((k - Int.toNat 0) * 2)) = eP (l.take k):=by
 unfold eP
 rw [dec_enc]
 simp only [Int.toNat_zero,Nat.zero_mul,List.drop_zero,Nat.sub_zero]
 rw [fl2_take]
theorem w27 (l:List Pr):F27 [eP l,l.length] [] = ([eP (l.take 20),(l.take 20).length],[true]):=by
 show S27.run (tabF _) true _ _ = _
 generalize (tabF _) = Φ
 obtain ⟨ρ,e1,e2,e3,e4⟩:=Smry.run_specT (Φ:=Φ) (S:=S27) (is:=[eP l,l.length]) (bs:=[]) rfl
 rw [e1,obAll_eq]
 clear e1
 simp only [S27,obs,Gd.d_cons,Gd.d_nil,eqns,Em.eqn,headsI,headsB,RI.d,RB.d,A.d,B.d,cm_eql,cm_neq,cm_lss,cm_leq,cm_gtr,cm_geq,List.map_cons,List.map_nil,and_true,Nat.zero_add,Nat.reduceAdd,ltn,upto,true_and,Nat.add_zero,List.getD_cons_zero,List.getD_cons_succ] at e2 e3 e4 ⊢
 simp only [e2,e3,Int.toNat_natCast] at e4 ⊢
 clear e2 e3
 have h:=eP_sub l 20
 simp only [show Int.toNat 20 = 20 from rfl] at e4
 simp only [e4,h]
 rcases Nat.lt_or_ge 20 l.length with hn | hn
 ·have d1:decide ((l.length:Int) > 20) = true:=decide_eq_true (by omega)
  have d2:decide ((20:Int) <= (l.length:Int)) = true:=decide_eq_true (by omega)
  have d3:(l.take 20).length = 20:=by rw [List.length_take]; omega
  simp only [d1,d2,d3]
  simp
 ·have d1:decide ((l.length:Int) > 20) = false:=decide_eq_false (by omega)
  simp only [d1,List.take_of_length_le hn]
  simp
theorem t44 {Φ:Funs} {a b:List Pr} (hl:a.length = b.length) (hs:small a.length) (i:Nat) (hi:i <= a.length):L104400.S.run Φ true [eP a,a.length,eP b,b.length,i] [] =
  ([eP a,a.length,eP b,b.length,((i + 1:Nat):Int)],[true,decide (i < a.length) && rR (a.getD i (0,0)) (b.getD i (0,0)),decide (i < a.length) && !rR (a.getD i (0,0)) (b.getD i (0,0)),!decide (i < a.length)]):=by
 unfold small at hs
 obtain ⟨ρ,e1,e2,e3,e4⟩:=Smry.run_specT (Φ:=Φ) (S:=L104400.S) (is:=[eP a,a.length,eP b,b.length,i]) (bs:=[]) rfl
 rw [e1,obAll_eq]
 clear e1
 simp only [L104400,obs,Gd.d_cons,Gd.d_nil,eqns,Em.eqn,headsI,headsB,RI.d,RB.d,A.d,B.d,cm_eql,cm_neq,cm_lss,cm_leq,cm_gtr,cm_geq,List.map_cons,List.map_nil,and_true,Nat.zero_add,Nat.reduceAdd,ltn,upto,true_and,Nat.add_zero,List.getD_cons_zero,List.getD_cons_succ] at e2 e3 e4 ⊢
 simp only [e2,e3,Int.toNat_natCast] at e4 ⊢
 clear e2 e3
 have d0:decide ((0:Int) <= (i:Int)) = true:=decide_eq_true (by omega)
 have d3:arI .add .i64 (i:Int) 1 = ((i + 1:Nat):Int):=arAdd (by omega) (by omega)
 have d1:decide ((i:Int) < (a.length:Int)) = decide (i < a.length):=by simp
 have d2:decide ((i:Int) < (b.length:Int)) = decide (i < a.length):=by simp [hl]
 simp only [d0,d1,d2,d3,eP_get0,eP_get1] at e4
 simp only [e4]
 generalize a.getD i (0,0) = x
 generalize b.getD i (0,0) = y
 unfold rR
 generalize decide (i < a.length) = u
 generalize (x.1 == y.1) = v
 generalize (x.2 == y.2) = w
 cases u <;> cases v <;> cases w <;> rfl
theorem w44 {a b:List Pr} (hs:small a.length) (hs':small b.length):F44 [eP a,a.length,eP b,b.length] [] = ([],[true,allR rR a b]):=by
 have hl:(lpF (l44.map (·.2)) (tabF T10)) 104400 = loopF (L104400.S.run (tabF T10) true) 5 0:=by kernel_rfl
 show S44.run (lpF (l44.map (·.2)) (tabF T10)) true [eP a,a.length,eP b,b.length] [] = _
 generalize lpF (l44.map (·.2)) (tabF T10) = Φ at hl
 obtain ⟨ρ,e1,e2,e3,e4⟩:=Smry.run_specT (Φ:=Φ) (S:=S44) (is:=[eP a,a.length,eP b,b.length]) (bs:=[]) rfl
 rw [e1,obAll_eq]
 clear e1
 simp only [S44,obs,Gd.d_cons,Gd.d_nil,eqns,Em.eqn,headsI,headsB,RI.d,RB.d,A.d,B.d,cm_eql,cm_neq,cm_lss,cm_leq,cm_gtr,cm_geq,List.map_cons,List.map_nil,and_true,Nat.zero_add,Nat.reduceAdd,ltn,upto,true_and,Nat.add_zero,List.getD_cons_zero,List.getD_cons_succ] at e2 e3 e4 ⊢
 simp only [e2,e3,Int.toNat_natCast] at e4 ⊢
 clear e2 e3
 rw [hl] at e4
 unfold allR
 by_cases hn:a.length = b.length
 ·rw [cmp_loop rR (t44 hn hs)] at e4
  simp only [hn,List.getD_cons_zero,List.getD_cons_succ] at e4
  simp only [e4,hn]
  simp
 ·have d1:((a.length:Int) != (b.length:Int)) = true:=bne_iff_ne.2 (by omega)
  simp only [d1] at e4
  simp [e4,hn]
end Go.Proofs.YtfgbfdlacnihkaaDoor.Po
