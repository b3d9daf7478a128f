/-
  Flat's laws, and what they stand on (merged by wip/gen2/mini.py): part Pm8. No condition.
-/
import Derived.Test.YtghlmhlamoagoaaGreatPm4
import Derived.Test.YtghlmhlamoagoaaGreatPm5
import Derived.Test.YtghlmhlamoagoaaGreatPm7
set_option linter.unusedVariables false
set_option linter.unusedSimpArgs false
namespace Go.Proofs.YtghlmhlamoagoaaGreat.Fl
open Go Go.Proofs Go.Proofs.YtghlmhlamoagoaaGreat.Sx
section
variable {m : Int}

def s75 : Sum := { args := [(.ptr wk), (.val true [(.int .u8), .bool])], tup := false, res := [(false, [.bool])], pre := true }
def S75 : Smry := xK 18 15 [zO 14 xG,.c 114 (xC 0 17) (xD 0 14) 17 14,zO 14 xH,.c 73 (xC 0 17++[0]) (xD 0 14++[0]) 18 16,.o [(15,false),(30,true)] 31,zO 14 xI,zM 6 xH,.c 115 (xC 0 6++[53]++xC 7 11) (xD 0 15) 17 15,.o [(15,false),(30,false),(47,true)] 48,zO 14 (.c 11),.c 116 (xC 0 18) (xD 0 15) 17 16,.o [(15,false),(30,false),(47,false),(63,true)] 64,zO 14 (.c 18),zO 14 (.c 19),zP 80 80 81,.c 117 (xC 0 18) (xD 0 15) 17 15,zO 14 (.c 20),zD 82 98,zQ 82 83,zH 82 88 0,zP 82 84 0,zH 82 89 1,zP 82 85 1,zH 82 90 2,zP 82 86 2,zH 82 91 3,zP 82 87 3,zH 82 92 4,zH 82 93 5,zH 82 94 6,zP 82 88 4,zH 82 95 7,zH 82 96 xG,zH 82 97 9,zP 82 89 5,zH 82 98 10,zP 82 90 6,zP 82 91 7,zH 82 99 11,zP 82 92 8,zP 82 93 9,zH 82 100 12,zP 82 94 10,zP 82 95 xE,zH 82 101 13,zH 82 102 14,zH 82 103 15,zH 82 104 16,zP 82 96 12,zP 82 97 13,zD 63 99,zP 63 65 100,zH 63 71 105,zP 63 66 101,zH 63 72 106,zP 63 67 102,zH 63 73 107,zP 63 68 103,zH 63 74 108,zP 63 69 104,zH 63 75 109,zH 63 76 110,zH 63 77 111,zP 63 70 105,zH 63 78 112,zH 63 79 113,zH 63 80 114,zP 63 71 106,zH 63 81 115,zP 63 72 107,zP 63 73 108,zH 63 82 116,zP 63 74 109,zP 63 75 110,zH 63 83 117,zP 63 76 111,zP 63 77 112,zH 63 84 118,zH 63 85 119,zH 63 86 120,zH 63 87 121,zP 63 78 113,zP 63 79 114,zD 47 115,zD 47 116,zH 47 54 122,zP 47 49 117,zH 47 55 123,zP 47 50 118,zH 47 56 124,zP 47 51 119,zH 47 57 125,zP 47 52 120,zH 47 58 126,zH 47 59 127,zH 47 60 128,zP 47 53 121,zH 47 61 129,zH 47 62 130,zH 47 63 131,zP 47 54 122,zH 47 64 132,zP 47 55 123,zP 47 56 124,zH 47 65 133,zP 47 57 125,zP 47 58 126,zH 47 66 134,zP 47 59 127,zP 47 60 128,zH 47 67 135,zH 47 68 136,zH 47 69 137,zH 47 70 138,zP 47 61 129,zP 47 62 130,zD 30 131,zD 30 132,zH 30 35 139,zP 30 32 133,zH 30 37 140,zP 30 34 134,zH 30 38 141,zP 30 35 135,zH 30 39 142,zP 30 36 136,zH 30 40 143,zH 30 41 144,zH 30 42 145,zP 30 37 137,zH 30 43 146,zH 30 44 147,zH 30 45 148,zP 30 38 138,zH 30 46 149,zP 30 39 139,zP 30 40 140,zH 30 47 150,zP 30 41 141,zP 30 42 142,zH 30 48 151,zP 30 43 143,zP 30 44 144,zH 30 49 152,zH 30 50 153,zH 30 51 154,zH 30 52 155,zP 30 45 145,zP 30 46 146,zD 15 147,zD 15 148,zH 15 18 156,zP 15 16 149,zH 15 19 157,zP 15 17 150,zH 15 20 158,zP 15 18 151,zH 15 21 159,zP 15 19 152,zH 15 22 160,zH 15 23 161,zH 15 24 162,zP 15 20 153,zH 15 25 163,zH 15 26 164,zH 15 27 165,zP 15 21 154,zH 15 28 166,zP 15 22 155,zP 15 23 156,zH 15 29 167,zP 15 24 157,zP 15 25 158,zH 15 30 168,zP 15 26 159,zP 15 27 160,zH 15 31 169,zH 15 32 170,zH 15 33 171,zH 15 34 172,zP 15 28 161,zP 15 29 162,zR 14 (.c 3),xB 14 (.c 10),zQ 179 180,.c 119 (xC 0 18) (xD 0 15) 17 16,.o [(15,false),(30,false),(47,false),(63,false),(82,false),(98,false),(181,true)] 182,.c 120 (xC 0 18) (xD 0 15) 17 15,zG 181,zP 213 198 183,zH 213 207 190,zP 213 199 184,zH 213 208 191,zP 213 200 185,zH 213 209 192,zP 213 201 186,zH 213 210 193,zP 213 202 187,zH 213 211 194,zH 213 212 195,zH 213 213 196,zP 213 203 188,zH 213 214 197,zH 213 215 198,zH 213 216 199,zP 213 204 189,zH 213 217 200,zP 213 205 190,zP 213 206 191,zH 213 218 201,zP 213 207 192,zP 213 208 193,zH 213 219 202,zP 213 209 194,zP 213 210 195,zH 213 220 203,zH 213 221 204,zH 213 222 205,zH 213 223 206,zP 213 211 196,zP 213 212 197,zG 15,zG 30,zG 47,zG 63,zG 82,zG 98,zQ 233 234,zQ 232 235,zQ 231 236,zQ 230 237,zQ 229 238,zP 239 214 164,zH 239 224 173,zP 239 215 165,zH 239 225 174,zP 239 216 166,zH 239 226 175,zP 239 217 167,zH 239 227 176,zP 239 218 168,zH 239 228 177,zH 239 229 178,zH 239 230 179,zP 239 219 169,zH 239 231 180,zH 239 232 181,zH 239 233 182,zP 239 220 170,zH 239 234 183,zP 239 221 171,zP 239 222 172,zH 239 235 184,zP 239 223 173,zP 239 224 174,zH 239 236 185,zP 239 225 175,zP 239 226 176,zH 239 237 186,zH 239 238 187,zH 239 239 188,zH 239 240 189,zP 239 227 177,zP 239 228 178] (xC 241 17) (xD 240 15)
noncomputable def F75 : Fun := S75.run (tabF T75) true
noncomputable def T76 : Tb := (75, s75, F75) :: T75
theorem A76 : Ok m T76 := ad A75 Tryz.func75 (S := S75) (by kernel_rfl)
def s76 : Sum := { args := [(.ptr wk), (.val true [.bool, .bool, .bool])], tup := true, res := [], pre := false }
def S76 : Smry := xK 17 17 [zI 5 (.c 4),zC 17 xG,zD 10 17,zG 8,zQ 15 19,zD 9 20,zI 4 (.c 4),zO 18 xG,zQ 14 22,zH 23 xH xG,zH 21 xI 19,zH 16 xG 8,zH 16 (.c 3) 11,zP 16 xF 11] (xC 0 8++[21,9,10,22,20,13,14,15,16]) (xD 0 8++[15,21,18,24,12,13])
noncomputable def F76 : Fun := S76.run (tabF T76) false
noncomputable def T77 : Tb := (76, s76, F76) :: T76
theorem A77 : Ok m T77 := ad A76 Tryz.func76 (S := S76) (by kernel_rfl)
def s47 : Sum := { args := [(.val true cp), (.val true [(.int .u8), .bool]), (.val true [.bool, .bool, .bool])], tup := true, res := [(true, cp), (false, [(.int .i64)])], pre := true }
def S47 : Smry := xK 14 16 [.c 21 (xC 0 13) (xD 0 12) 1 0,zF 14 xG,.c 35 [7] [] 4 2,.c 25 (xC 0 13) (xD 0 12) 2 4,.o [(16,false),(10,false)] 19,zD 10 22,zO 8 xG,.c 74 (xC 0 13++[15,16,17,18,13]) (xD 0 10++[23,11,17,18,12]) 17 14,.c 75 (xC 0 13++[15,16,17,18,13]) (xD 0 10++[23,11,17,18,12]) 17 16,.o [(16,false),(24,false)] 39,zO 52 (.c 17),zH 55 xG 50,zO 55 xI,zP 56 xF 50,xA 46 xH,zH 40 xG 56,zH 40 55 49,zP 40 57 50,zH 24 21 38,zP 24 25 41,zH 24 22 39,zP 24 26 42,zH 24 23 40,zP 24 27 43,zH 24 24 41,zP 24 28 44,zH 24 25 42,zH 24 26 43,zH 24 27 44,zP 24 29 45,zH 24 28 45,zH 24 xH 57,zH 24 30 47,zP 24 30 46,zH 24 31 48,zP 24 31 47,zP 24 32 48,zH 24 32 58,zP 24 33 49,zP 24 34 58,zH 24 33 50,zP 24 35 51,zP 24 36 52,zH 24 34 51,zH 24 35 52,zH 24 36 53,zH 24 37 54,zP 24 37 53,zP 24 38 54,.c 76 (xC 59 17) (xD 59 14++[13,14,15]) 17 14,zG 16,zH 87 xG 14,zH 87 76 0,zP 87 73 0,zH 87 77 1,zP 87 74 1,zH 87 78 2,zP 87 75 2,zH 87 79 3,zP 87 76 3,zH 87 80 4,zH 87 81 5,zH 87 82 6,zP 87 77 4,zH 87 83 7,zH 87 84 8,zH 87 85 9,zP 87 78 5,zH 87 86 10,zP 87 79 6,zP 87 80 7,zH 87 87 11,zP 87 81 8,zP 87 82 9,zH 87 88 12,zP 87 83 10,zP 87 84 11] (xC 94 13++[93]) (xD 88 12)
noncomputable def F47 : Fun := S47.run (tabF T77) true
noncomputable def T78 : Tb := (47, s47, F47) :: T77
theorem A78 : Ok m T78 := ad A77 Tryz.func47 (S := S47) (by kernel_rfl)
def s14 : Sum := { args := [(.val true cp), (.val false [(.sl [(.int .u8), .bool])]), (.val true [.bool, .bool, .bool])], tup := true, res := [(true, cp), (false, [(.sl [(.int .u8), .bool])]), (true, [(.int .u16), .bool, (.int .u8), .bool, .bool]), (false, [(.int .i64)])], pre := true }
def S14v0 : Smry := xK 15 15 [.c 16 [13,14] [] 1 0,zO 15 xG,.o [] 15,.c 21 (xC 0 13) (xD 0 12) 1 0,zO 16 xG,.o [] 16,xB 14 (.c yQ79),.o [] 17,.c 25 (xC 0 13) (xD 0 12) 2 4,.o [] 18,zA 17,.i (.ar .sub .i64 14 xH),.i (.ar .and .i64 19 20),zR 21 xG,.o [] 22,zB 21 14,.o [] 23,.i (.b2i 20),.i (.setq 13 21 2 0 18),.i (.setq 23 21 2 1 22),zH 19 24 13,.i (.get 25 21 2 0),.b (.getb 25 21 2 1),.c 47 (xC 0 13++[26]) (xD 0 12++[24,12,13,14]) 14 13,.o [] 25,zF 40 xG,zG 38,zH 39 25 13,zH 39 xG 40,zH 39 27 0,zP 39 26 0,zH 39 28 1,zP 39 27 1,zH 39 29 2,zP 39 28 2,zH 39 30 3,zP 39 29 3,zH 39 31 4,zH 39 32 5,zH 39 33 6,zP 39 30 4,zH 39 34 7,zH 39 35 8,zH 39 36 9,zP 39 31 5,zH 39 37 10,zP 39 32 6,zP 39 33 7,zH 39 38 11,zP 39 34 8,zP 39 35 9,zH 39 39 12,zP 39 36 10,zP 39 37 11,zH 39 17 xG,zQ 39 19,zH 39 26 xG,zQ 39 24,zQ 39 21] (xC 43 13++[41,14,56,57,42]) (xD 40 15)
noncomputable def F14v0 : Fun := S14v0.run (tabF T78) true
theorem d14v0 : Ct m 14 s14 F14v0 := contract_pre (hCv_ok [(16, 0), (21, 0)] A78) Tryz.func14 (k := (ctlOf Tryz.f14 (gl m) s14)) (LoopsOk.nil rfl) (isS_eq (by kernel_rfl)) (by kernel_rfl)
def S14v1 : Smry := xK 15 15 [.c 16 [13,14] [] 1 0,zO 15 xG,.o [] 15,.c 21 (xC 0 13) (xD 0 12) 1 0,zO 16 xH,.o [] 16] (xC 0 15++[xG,xG,xH]) (xD 0 12++[xF,xF,xF])
noncomputable def F14v1 : Fun := S14v1.run (tabF T78) true
theorem d14v1 : Ct m 14 s14 F14v1 := contract_pre (hCv_ok [(16, 0), (21, 1)] A78) Tryz.func14 (k := (ctlOf Tryz.f14 (gl m) s14)) (LoopsOk.nil rfl) (isS_eq (by kernel_rfl)) (by kernel_rfl)
def S14v2 : Smry := xK 15 15 [.c 16 [13,14] [] 1 0,zO 15 xH,.o [] 15] (xC 0 15++[xG,xG,xH]) (xD 0 12++[xF,xF,xF])
noncomputable def F14v2 : Fun := S14v2.run (tabF T78) true
theorem d14v2 : Ct m 14 s14 F14v2 := contract_pre (hCv_ok [(16, 1)] A78) Tryz.func14 (k := (ctlOf Tryz.f14 (gl m) s14)) (LoopsOk.nil rfl) (isS_eq (by kernel_rfl)) (by kernel_rfl)
noncomputable def F14 : Fun := (F14v0.alt (F14v1.alt F14v2))
theorem c14 : Ct m 14 s14 F14 := (Contract.alt d14v0 (Contract.alt d14v1 d14v2 rfl) rfl)
noncomputable def T79 : Tb := (14, s14, F14) :: T78
theorem A79 : Ok m T79 := ac Tryz.func14 (by kernel_rfl) (by kernel_rfl) c14 ⟨rfl, rfl⟩ A78
def s15 : Sum := { args := [(.val true cp), (.val false [(.sl [(.int .u8), .bool])]), (.val false [(.int .i64)])], tup := true, res := [(true, cp), (false, [(.sl [(.int .u8), .bool])]), (false, [(.int .i64)]), (false, [(.int .i64)])], pre := true }
def S15v0 : Smry := xK 16 12 [.c 16 [13,14] [] 1 0,zO 16 xG,.o [] 12,.c 21 (xC 0 13) (xD 0 12) 1 0,zO 17 xG,.o [] 13,xB 14 (.c yQ79),.o [] 14,zB 15 xG,zC 15 (.c 100000),zD 15 16,.c 101500 (xC 0 16++[xG,xG,xG,xG,xG,xG,xG,xG,xG,xG,xG,xG,xG,xG,xG,xG,xG,13,14]++xC 0 13++[xG]) (xD 0 12++[xF,xF,xF,xF,xF,xF,xF,xF,xF,xF,xF,xF]++xD 0 12) 64 52,.o [(17,false)] 18,zH 20 81 49,zH 20 68 36,zP 20 58 34,zH 20 69 37,zP 20 59 35,zH 20 70 38,zP 20 60 36,zH 20 71 39,zP 20 61 37,zH 20 72 40,zH 20 73 41,zH 20 74 42,zP 20 62 38,zH 20 75 43,zH 20 76 44,zH 20 77 45,zP 20 63 39,zH 20 78 46,zP 20 64 40,zP 20 65 41,zH 20 79 47,zP 20 66 42,zP 20 67 43,zH 20 80 48,zP 20 68 44,zP 20 69 45,zH 20 66 35,zH 20 65 34,zH 20 63 32,zH 20 64 33,zH 20 50 19,zP 20 46 22,zH 20 51 20,zP 20 47 23,zH 20 52 21,zP 20 48 24,zH 20 53 22,zP 20 49 25,zH 20 54 23,zH 20 55 24,zH 20 56 25,zP 20 50 26,zH 20 57 26,zH 20 58 27,zH 20 59 28,zP 20 51 27,zH 20 60 29,zP 20 52 28,zP 20 53 29,zH 20 61 30,zP 20 54 30,zP 20 55 31,zH 20 62 31,zP 20 56 32,zP 20 57 33,zD 20 21,zH 20 xG 18,xB 113 xG,zG 94,zG 95,zQ 96 97,zD 94 98,zH 99 82 xG,zH 99 xG 97,zH 99 96 98,zH 99 67 99,zH 99 83 100,zP 99 70 82,zH 99 84 101,zP 99 71 83,zH 99 85 102,zP 99 72 84,zH 99 86 103,zP 99 73 85,zH 99 87 104,zH 99 88 105,zH 99 89 106,zP 99 74 86,zH 99 90 107,zH 99 91 108,zH 99 92 109,zP 99 75 87,zH 99 93 110,zP 99 76 88,zP 99 77 89,zH 99 94 111,zP 99 78 90,zP 99 79 91,zH 99 95 112,zP 99 80 92,zP 99 81 93,zG 17,zH 112 114 xG,zH 112 115 xH,zH 112 116 13,zH 112 117 14,zH 112 118 0,zP 112 100 0,zH 112 119 1,zP 112 101 1,zH 112 120 2,zP 112 102 2,zH 112 121 3,zP 112 103 3,zH 112 122 4,zH 112 123 5,zH 112 124 6,zP 112 104 4,zH 112 125 7,zH 112 126 8,zH 112 127 9,zP 112 105 5,zH 112 128 10,zP 112 106 6,zP 112 107 7,zH 112 129 11,zP 112 108 8,zP 112 109 9,zH 112 130 12,zP 112 110 10,zP 112 111 11] (xC 135 13++[133,134,131,132]) (xD 113 12)
def L101500 : LAnn := { id := 101500, ga := [0, 1, 2, 3, 4, 5, 6, 7, 8, 9, 10, 11, 12, 13, 14, 15], gb := [0, 1, 2, 3, 4, 5, 6, 7, 8, 9, 10, 11], hv := [7], dr := [3, 9, 10, 11, 12, 13, 14, 15, 16, 17, 18, 19, 20, 21, 22, 23, 24, 25, 27], hb := [4, 5, 7, 10, 11, 13], db := [], xs := [], xb := [4, 5, 7, 10, 11, 13], nI := 49, nB := 36, S := (.mk [(.db 36 (.cm .lss 16 15)), (.call 25 [35, 36, 37, 38, 39, 40, 41, 42, 43, 44, 45, 46, 47] [24, 25, 26, 27, 28, 29, 30, 31, 32, 33, 34, 35] 49 2 37 4), (.ob [(36, true)] 37), (.di 51 (.cv .i64 49)), (.di 52 (.ar .sub .i64 34 (.c 1))), (.di 53 (.ar .and .i64 51 52)), (.db 41 (.cm .geq 53 (.c 0))), (.ob [(36, true)] 41), (.db 42 (.cm .lss 53 34)), (.ob [(36, true)] 42), (.di 54 (.b2i 39)), (.di 55 (.setq 33 53 2 0 50)), (.di 56 (.setq 55 53 2 1 54)), (.di 57 (.ite 38 56 33)), (.di 58 (.get 57 53 2 0)), (.db 43 (.getb 57 53 2 1)), (.call 47 [35, 36, 37, 38, 39, 40, 41, 42, 43, 44, 45, 46, 47, 58] [24, 25, 26, 27, 28, 29, 30, 31, 32, 33, 34, 35, 43, (.c false), (.c false), (.c false)] 59 14 44 13), (.ob [(36, true)] 44), (.db 57 (.cm .neq 72 (.c 0))), (.di 73 (.ar .add .i64 48 (.c 1))), (.db 58 (.cm .eql 67 (.c 0))), (.db 59 (.not 57)), (.db 60 (.not 57)), (.db 61 (.and 60 58)), (.db 62 (.not 57)), (.db 63 (.not 58)), (.db 64 (.and 62 63)), (.di 74 (.ite 64 73 48)), (.di 75 (.ite 64 32 72)), (.di 76 (.ite 64 30 13)), (.di 77 (.ite 64 31 14)), (.di 78 (.ite 64 17 0)), (.db 65 (.ite 64 12 0)), (.di 79 (.ite 64 18 1)), (.db 66 (.ite 64 13 1)), (.di 80 (.ite 64 19 2)), (.db 67 (.ite 64 14 2)), (.di 81 (.ite 64 20 3)), (.db 68 (.ite 64 15 3)), (.di 82 (.ite 64 21 4)), (.di 83 (.ite 64 22 5)), (.di 84 (.ite 64 23 6)), (.db 69 (.ite 64 16 4)), (.di 85 (.ite 64 24 7)), (.di 86 (.ite 64 25 8)), (.di 87 (.ite 64 26 9)), (.db 70 (.ite 64 17 5)), (.di 88 (.ite 64 27 10)), (.db 71 (.ite 64 18 6)), (.db 72 (.ite 64 19 7)), (.di 89 (.ite 64 28 11)), (.db 73 (.ite 64 20 8)), (.db 74 (.ite 64 21 9)), (.di 90 (.ite 64 29 12)), (.db 75 (.ite 64 22 10)), (.db 76 (.ite 64 23 11)), (.db 77 (.ite 61 (.c false) 64)), (.di 91 (.ite 61 73 74)), (.di 92 (.ite 61 32 75)), (.di 93 (.ite 61 30 76)), (.di 94 (.ite 61 31 77)), (.di 95 (.ite 61 17 78)), (.db 78 (.ite 61 12 65)), (.di 96 (.ite 61 18 79)), (.db 79 (.ite 61 13 66)), (.di 97 (.ite 61 19 80)), (.db 80 (.ite 61 14 67)), (.di 98 (.ite 61 20 81)), (.db 81 (.ite 61 15 68)), (.di 99 (.ite 61 21 82)), (.di 100 (.ite 61 22 83)), (.di 101 (.ite 61 23 84)), (.db 82 (.ite 61 16 69)), (.di 102 (.ite 61 24 85)), (.di 103 (.ite 61 25 86)), (.di 104 (.ite 61 26 87)), (.db 83 (.ite 61 17 70)), (.di 105 (.ite 61 27 88)), (.db 84 (.ite 61 18 71)), (.db 85 (.ite 61 19 72)), (.di 106 (.ite 61 28 89)), (.db 86 (.ite 61 20 73)), (.db 87 (.ite 61 21 74)), (.di 107 (.ite 61 29 90)), (.db 88 (.ite 61 22 75)), (.db 89 (.ite 61 23 76)), (.db 90 (.ite 61 (.c false) 64)), (.di 108 (.ite 61 (.c 1) (.c 0))), (.db 91 (.not 77)), (.db 92 (.or 91 56)), (.di 109 (.ar .add .i64 16 (.c 1))), (.db 93 (.not 92)), (.ob [(36, true), (92, false)] 90), (.db 94 (.not 92)), (.db 95 (.and 36 94)), (.db 96 (.and 36 92)), (.db 97 (.not 36))] [0, 1, 2, 3, 4, 5, 6, 7, 8, 9, 10, 11, 12, 13, 14, 15, 109, 95, 96, 97, 98, 99, 100, 101, 102, 103, 104, 105, 106, 107, 93, 94, 92, 57, 34, 59, 60, 61, 62, 63, 64, 65, 66, 67, 68, 69, 70, 71, 91, 108, 95, 96, 97, 98, 99, 100, 101, 102, 103, 104, 105, 106, 107, 93, 94, 92, 57, 59, 60, 61, 62, 63, 64, 65, 66, 67, 68, 69, 70, 71, 91, 17, 18, 19, 20, 21, 22, 23, 24, 25, 26, 27, 28, 29, 30, 31, 32, 33, 34, 35, 36, 37, 38, 39, 40, 41, 42, 43, 44, 45, 46, 47, 48] [95, 0, 1, 2, 3, 4, 5, 6, 7, 8, 9, 10, 11, 78, 79, 80, 81, 82, 83, 84, 85, 86, 87, 88, 89, 45, 46, 47, 48, 49, 50, 51, 52, 53, 54, 55, 56, 96, 97, 90, 78, 79, 80, 81, 82, 83, 84, 85, 86, 87, 88, 89, 45, 46, 47, 48, 49, 50, 51, 52, 53, 54, 55, 56, 12, 13, 14, 15, 16, 17, 18, 19, 20, 21, 22, 23, 24, 25, 26, 27, 28, 29, 30, 31, 32, 33, 34, 35]), sd := [(5, 0, false, [.int .u8, .bool])] }
def l15v0a : List (Nat × LAnn) := []
def l15v0b : List (Nat × LAnn) := []
def l15v0c : List (Nat × LAnn) := [(2, L101500)]
def l15v0 : List (Nat × LAnn) := l15v0a ++ (l15v0b ++ l15v0c)
theorem k15v0 : fnX Tryz.prog (hCv m [(16, 0), (21, 0)] (tabS T79)) (gl m) (ctlR Tryz.prog (hCv m [(16, 0), (21, 0)] (tabS T79)) (gl m) Tryz.f15 s15 l15v0a l15v0b l15v0c) Tryz.f15 s15 = some S15v0 := by kernel_rfl
noncomputable def F15v0 : Fun := S15v0.run (lpF (l15v0.map (·.2)) (tabF T79)) true
theorem x15v0 : AllOk Tryz.prog (lpF (l15v0.map (·.2)) (tabF T79)) (gl m) (tabS T79) := (AllOk.loops (l := l15v0.map (·.2)) A79 (by kernel_rfl))
theorem y15v0l : LoopsOk (lpF (l15v0.map (·.2)) (tabF T79)) (ctlL Tryz.f15 (gl m) s15 l15v0) := LoopsOk.of (fn := Tryz.f15) (gl := (gl m)) (s := s15) (l := l15v0) (by kernel_rfl)
theorem y15v0 : LoopsOk (lpF (l15v0.map (·.2)) (tabF T79)) (ctlR Tryz.prog (hCv m [(16, 0), (21, 0)] (tabS T79)) (gl m) Tryz.f15 s15 l15v0a l15v0b l15v0c) := (LoopsOk.nil rfl)
theorem z15v0 : (wsEm S15v0.em (argI s15.args) (argB s15.args) && shOk s15 && s15.pre) = true := by kernel_rfl
theorem d15v0 : Contract Tryz.prog (gl m) 15 s15 F15v0 := contract_preA (hCv_ok [(16, 0), (21, 0)] x15v0) Tryz.func15 y15v0 k15v0 z15v0 (EAll.rf (hCv_ok [(16, 0), (21, 0)] x15v0) (fun p hp => by cases hp) (fun p hp => y15v0l (m := m) p (by show p ∈ l15v0; unfold l15v0; simp only [List.mem_append]; exact .inr (.inr hp))))
def S15v1 : Smry := xK 16 12 [.c 16 [13,14] [] 1 0,zO 16 xG,.o [] 12,.c 21 (xC 0 13) (xD 0 12) 1 0,zO 17 xH,.o [] 13] (xC 0 15++[xG,xH]) (xD 0 12)
def L101530 : LAnn := { id := 101530, ga := [], gb := [], hv := [], dr := [3, 9, 10, 11, 12, 13, 14, 15, 16, 17, 18, 19, 20, 21, 22, 23, 24, 25, 27], hb := [], db := [], xs := [], xb := [], nI := 0, nB := 0, S := (.mk [] [] []) }
def l15v1a : List (Nat × LAnn) := []
def l15v1b : List (Nat × LAnn) := []
def l15v1c : List (Nat × LAnn) := [(2, L101530)]
def l15v1 : List (Nat × LAnn) := l15v1a ++ (l15v1b ++ l15v1c)
theorem k15v1 : fnX Tryz.prog (hCv m [(16, 0), (21, 1)] (tabS T79)) (gl m) (ctlR Tryz.prog (hCv m [(16, 0), (21, 1)] (tabS T79)) (gl m) Tryz.f15 s15 l15v1a l15v1b l15v1c) Tryz.f15 s15 = some S15v1 := by kernel_rfl
noncomputable def F15v1 : Fun := S15v1.run (lpF (l15v1.map (·.2)) (tabF T79)) true
theorem x15v1 : AllOk Tryz.prog (lpF (l15v1.map (·.2)) (tabF T79)) (gl m) (tabS T79) := (AllOk.loops (l := l15v1.map (·.2)) A79 (by kernel_rfl))
theorem y15v1l : LoopsOk (lpF (l15v1.map (·.2)) (tabF T79)) (ctlL Tryz.f15 (gl m) s15 l15v1) := LoopsOk.of (fn := Tryz.f15) (gl := (gl m)) (s := s15) (l := l15v1) (by kernel_rfl)
theorem y15v1 : LoopsOk (lpF (l15v1.map (·.2)) (tabF T79)) (ctlR Tryz.prog (hCv m [(16, 0), (21, 1)] (tabS T79)) (gl m) Tryz.f15 s15 l15v1a l15v1b l15v1c) := (LoopsOk.nil rfl)
theorem z15v1 : (wsEm S15v1.em (argI s15.args) (argB s15.args) && shOk s15 && s15.pre) = true := by kernel_rfl
theorem d15v1 : Contract Tryz.prog (gl m) 15 s15 F15v1 := contract_preA (hCv_ok [(16, 0), (21, 1)] x15v1) Tryz.func15 y15v1 k15v1 z15v1 (EAll.rf (hCv_ok [(16, 0), (21, 1)] x15v1) (fun p hp => by cases hp) (fun p hp => y15v1l (m := m) p (by show p ∈ l15v1; unfold l15v1; simp only [List.mem_append]; exact .inr (.inr hp))))
def S15v2 : Smry := xK 16 12 [.c 16 [13,14] [] 1 0,zO 16 xH,.o [] 12] (xC 0 15++[xG,xH]) (xD 0 12)
def L101560 : LAnn := { id := 101560, ga := [], gb := [], hv := [], dr := [3, 9, 10, 11, 12, 13, 14, 15, 16, 17, 18, 19, 20, 21, 22, 23, 24, 25, 27], hb := [], db := [], xs := [], xb := [], nI := 0, nB := 0, S := (.mk [] [] []) }
def l15v2a : List (Nat × LAnn) := []
def l15v2b : List (Nat × LAnn) := []
def l15v2c : List (Nat × LAnn) := [(2, L101560)]
def l15v2 : List (Nat × LAnn) := l15v2a ++ (l15v2b ++ l15v2c)
theorem k15v2 : fnX Tryz.prog (hCv m [(16, 1)] (tabS T79)) (gl m) (ctlR Tryz.prog (hCv m [(16, 1)] (tabS T79)) (gl m) Tryz.f15 s15 l15v2a l15v2b l15v2c) Tryz.f15 s15 = some S15v2 := by kernel_rfl
noncomputable def F15v2 : Fun := S15v2.run (lpF (l15v2.map (·.2)) (tabF T79)) true
theorem x15v2 : AllOk Tryz.prog (lpF (l15v2.map (·.2)) (tabF T79)) (gl m) (tabS T79) := (AllOk.loops (l := l15v2.map (·.2)) A79 (by kernel_rfl))
theorem y15v2l : LoopsOk (lpF (l15v2.map (·.2)) (tabF T79)) (ctlL Tryz.f15 (gl m) s15 l15v2) := LoopsOk.of (fn := Tryz.f15) (gl := (gl m)) (s := s15) (l := l15v2) (by kernel_rfl)
theorem y15v2 : LoopsOk (lpF (l15v2.map (·.2)) (tabF T79)) (ctlR Tryz.prog (hCv m [(16, 1)] (tabS T79)) (gl m) Tryz.f15 s15 l15v2a l15v2b l15v2c) := (LoopsOk.nil rfl)
theorem z15v2 : (wsEm S15v2.em (argI s15.args) (argB s15.args) && shOk s15 && s15.pre) = true := by kernel_rfl
theorem d15v2 : Contract Tryz.prog (gl m) 15 s15 F15v2 := contract_preA (hCv_ok [(16, 1)] x15v2) Tryz.func15 y15v2 k15v2 z15v2 (EAll.rf (hCv_ok [(16, 1)] x15v2) (fun p hp => by cases hp) (fun p hp => y15v2l (m := m) p (by show p ∈ l15v2; unfold l15v2; simp only [List.mem_append]; exact .inr (.inr hp))))
noncomputable def F15 : Fun := (F15v0.alt (F15v1.alt F15v2))
theorem c15 : Ct m 15 s15 F15 := (Contract.alt d15v0 (Contract.alt d15v1 d15v2 rfl) rfl)
noncomputable def T80 : Tb := (15, s15, F15) :: T79
theorem A80 : Ok m T80 := ac Tryz.func15 (by kernel_rfl) (by kernel_rfl) c15 ⟨rfl, rfl⟩ A79
end
section
variable {m : Int}

def s10 : Sum := { args := [(.val true cp), (.val false [(.sl [(.int .u8), .bool])]), (.val false [(.int .i64)])], tup := true, res := [(true, cp), (false, [(.sl [(.int .u8), .bool])]), (false, [(.sl [(.int .u16), .bool, (.int .u8), .bool, .bool])]), (false, [(.int .i64)])], pre := true }
def S10v0 : Smry := (.mk [(.call 16 [(.v 13), (.v 14)] [] 16 1 12 0), (.db 12 (.cm .eql (.v 16) (.c 0))), (.ob [] (.v 12)), (.call 21 [(.v 0), (.v 1), (.v 2), (.v 3), (.v 4), (.v 5), (.v 6), (.v 7), (.v 8), (.v 9), (.v 10), (.v 11), (.v 12)] [(.v 0), (.v 1), (.v 2), (.v 3), (.v 4), (.v 5), (.v 6), (.v 7), (.v 8), (.v 9), (.v 10), (.v 11)] 17 1 13 0), (.db 13 (.cm .eql (.v 17) (.c 0))), (.ob [] (.v 13)), (.db 14 (.cm .leq (.v 14) (.c 35184372088832))), (.ob [] (.v 14)), (.db 15 (.cm .lss (.v 15) (.c 0))), (.db 16 (.cm .gtr (.v 15) (.c 100000))), (.db 17 (.or (.v 15) (.v 16))), (.call 101000 [(.v 0), (.v 1), (.v 2), (.v 3), (.v 4), (.v 5), (.v 6), (.v 7), (.v 8), (.v 9), (.v 10), (.v 11), (.v 12), (.v 13), (.v 14), (.v 15), (.c 0), (.c 0), (.c 0), (.c 0), (.c 0), (.c 0), (.c 0), (.c 0), (.c 0), (.c 0), (.c 0), (.c 0), (.c 0), (.c 0), (.c 0), (.c 0), (.c 0), (.v 13), (.v 14), (.v 0), (.v 1), (.v 2), (.v 3), (.v 4), (.v 5), (.v 6), (.v 7), (.v 8), (.v 9), (.v 10), (.v 11), (.v 12), (.c 0), (.c 0)] [(.v 0), (.v 1), (.v 2), (.v 3), (.v 4), (.v 5), (.v 6), (.v 7), (.v 8), (.v 9), (.v 10), (.v 11), (.c false), (.c false), (.c false), (.c false), (.c false), (.c false), (.c false), (.c false), (.c false), (.c false), (.c false), (.c false), (.v 0), (.v 1), (.v 2), (.v 3), (.v 4), (.v 5), (.v 6), (.v 7), (.v 8), (.v 9), (.v 10), (.v 11)] 18 65 18 52), (.ob [((.v 17), false)] (.v 18)), (.di 83 (.ite (.v 20) (.v 81) (.v 48))), (.di 84 (.ite (.v 20) (.v 82) (.v 49))), (.di 85 (.ite (.v 20) (.v 68) (.v 35))), (.db 70 (.ite (.v 20) (.v 58) (.v 34))), (.di 86 (.ite (.v 20) (.v 69) (.v 36))), (.db 71 (.ite (.v 20) (.v 59) (.v 35))), (.di 87 (.ite (.v 20) (.v 70) (.v 37))), (.db 72 (.ite (.v 20) (.v 60) (.v 36))), (.di 88 (.ite (.v 20) (.v 71) (.v 38))), (.db 73 (.ite (.v 20) (.v 61) (.v 37))), (.di 89 (.ite (.v 20) (.v 72) (.v 39))), (.di 90 (.ite (.v 20) (.v 73) (.v 40))), (.di 91 (.ite (.v 20) (.v 74) (.v 41))), (.db 74 (.ite (.v 20) (.v 62) (.v 38))), (.di 92 (.ite (.v 20) (.v 75) (.v 42))), (.di 93 (.ite (.v 20) (.v 76) (.v 43))), (.di 94 (.ite (.v 20) (.v 77) (.v 44))), (.db 75 (.ite (.v 20) (.v 63) (.v 39))), (.di 95 (.ite (.v 20) (.v 78) (.v 45))), (.db 76 (.ite (.v 20) (.v 64) (.v 40))), (.db 77 (.ite (.v 20) (.v 65) (.v 41))), (.di 96 (.ite (.v 20) (.v 79) (.v 46))), (.db 78 (.ite (.v 20) (.v 66) (.v 42))), (.db 79 (.ite (.v 20) (.v 67) (.v 43))), (.di 97 (.ite (.v 20) (.v 80) (.v 47))), (.db 80 (.ite (.v 20) (.v 68) (.v 44))), (.db 81 (.ite (.v 20) (.v 69) (.v 45))), (.di 98 (.ite (.v 20) (.v 66) (.v 34))), (.di 99 (.ite (.v 20) (.v 65) (.v 33))), (.di 100 (.ite (.v 20) (.v 63) (.v 31))), (.di 101 (.ite (.v 20) (.v 64) (.v 32))), (.di 102 (.ite (.v 20) (.v 50) (.v 18))), (.db 82 (.ite (.v 20) (.v 46) (.v 22))), (.di 103 (.ite (.v 20) (.v 51) (.v 19))), (.db 83 (.ite (.v 20) (.v 47) (.v 23))), (.di 104 (.ite (.v 20) (.v 52) (.v 20))), (.db 84 (.ite (.v 20) (.v 48) (.v 24))), (.di 105 (.ite (.v 20) (.v 53) (.v 21))), (.db 85 (.ite (.v 20) (.v 49) (.v 25))), (.di 106 (.ite (.v 20) (.v 54) (.v 22))), (.di 107 (.ite (.v 20) (.v 55) (.v 23))), (.di 108 (.ite (.v 20) (.v 56) (.v 24))), (.db 86 (.ite (.v 20) (.v 50) (.v 26))), (.di 109 (.ite (.v 20) (.v 57) (.v 25))), (.di 110 (.ite (.v 20) (.v 58) (.v 26))), (.di 111 (.ite (.v 20) (.v 59) (.v 27))), (.db 87 (.ite (.v 20) (.v 51) (.v 27))), (.di 112 (.ite (.v 20) (.v 60) (.v 28))), (.db 88 (.ite (.v 20) (.v 52) (.v 28))), (.db 89 (.ite (.v 20) (.v 53) (.v 29))), (.di 113 (.ite (.v 20) (.v 61) (.v 29))), (.db 90 (.ite (.v 20) (.v 54) (.v 30))), (.db 91 (.ite (.v 20) (.v 55) (.v 31))), (.di 114 (.ite (.v 20) (.v 62) (.v 30))), (.db 92 (.ite (.v 20) (.v 56) (.v 32))), (.db 93 (.ite (.v 20) (.v 57) (.v 33))), (.db 94 (.or (.v 20) (.v 21))), (.di 115 (.ite (.v 94) (.v 83) (.c 0))), (.di 116 (.ite (.v 94) (.v 84) (.c 0))), (.di 117 (.ite (.v 94) (.c 0) (.v 99))), (.di 118 (.ite (.v 94) (.v 98) (.v 100))), (.di 119 (.ite (.v 94) (.v 67) (.v 101))), (.di 120 (.ite (.v 94) (.v 85) (.v 102))), (.db 95 (.ite (.v 94) (.v 70) (.v 82))), (.di 121 (.ite (.v 94) (.v 86) (.v 103))), (.db 96 (.ite (.v 94) (.v 71) (.v 83))), (.di 122 (.ite (.v 94) (.v 87) (.v 104))), (.db 97 (.ite (.v 94) (.v 72) (.v 84))), (.di 123 (.ite (.v 94) (.v 88) (.v 105))), (.db 98 (.ite (.v 94) (.v 73) (.v 85))), (.di 124 (.ite (.v 94) (.v 89) (.v 106))), (.di 125 (.ite (.v 94) (.v 90) (.v 107))), (.di 126 (.ite (.v 94) (.v 91) (.v 108))), (.db 99 (.ite (.v 94) (.v 74) (.v 86))), (.di 127 (.ite (.v 94) (.v 92) (.v 109))), (.di 128 (.ite (.v 94) (.v 93) (.v 110))), (.di 129 (.ite (.v 94) (.v 94) (.v 111))), (.db 100 (.ite (.v 94) (.v 75) (.v 87))), (.di 130 (.ite (.v 94) (.v 95) (.v 112))), (.db 101 (.ite (.v 94) (.v 76) (.v 88))), (.db 102 (.ite (.v 94) (.v 77) (.v 89))), (.di 131 (.ite (.v 94) (.v 96) (.v 113))), (.db 103 (.ite (.v 94) (.v 78) (.v 90))), (.db 104 (.ite (.v 94) (.v 79) (.v 91))), (.di 132 (.ite (.v 94) (.v 97) (.v 114))), (.db 105 (.ite (.v 94) (.v 80) (.v 92))), (.db 106 (.ite (.v 94) (.v 81) (.v 93))), (.db 107 (.not (.v 17))), (.di 133 (.ite (.v 107) (.v 115) (.c 0))), (.di 134 (.ite (.v 107) (.v 116) (.c 0))), (.di 135 (.ite (.v 107) (.v 117) (.c 1))), (.di 136 (.ite (.v 107) (.v 118) (.v 13))), (.di 137 (.ite (.v 107) (.v 119) (.v 14))), (.di 138 (.ite (.v 107) (.v 120) (.v 0))), (.db 108 (.ite (.v 107) (.v 95) (.v 0))), (.di 139 (.ite (.v 107) (.v 121) (.v 1))), (.db 109 (.ite (.v 107) (.v 96) (.v 1))), (.di 140 (.ite (.v 107) (.v 122) (.v 2))), (.db 110 (.ite (.v 107) (.v 97) (.v 2))), (.di 141 (.ite (.v 107) (.v 123) (.v 3))), (.db 111 (.ite (.v 107) (.v 98) (.v 3))), (.di 142 (.ite (.v 107) (.v 124) (.v 4))), (.di 143 (.ite (.v 107) (.v 125) (.v 5))), (.di 144 (.ite (.v 107) (.v 126) (.v 6))), (.db 112 (.ite (.v 107) (.v 99) (.v 4))), (.di 145 (.ite (.v 107) (.v 127) (.v 7))), (.di 146 (.ite (.v 107) (.v 128) (.v 8))), (.di 147 (.ite (.v 107) (.v 129) (.v 9))), (.db 113 (.ite (.v 107) (.v 100) (.v 5))), (.di 148 (.ite (.v 107) (.v 130) (.v 10))), (.db 114 (.ite (.v 107) (.v 101) (.v 6))), (.db 115 (.ite (.v 107) (.v 102) (.v 7))), (.di 149 (.ite (.v 107) (.v 131) (.v 11))), (.db 116 (.ite (.v 107) (.v 103) (.v 8))), (.db 117 (.ite (.v 107) (.v 104) (.v 9))), (.di 150 (.ite (.v 107) (.v 132) (.v 12))), (.db 118 (.ite (.v 107) (.v 105) (.v 10))), (.db 119 (.ite (.v 107) (.v 106) (.v 11)))] [(.v 138), (.v 139), (.v 140), (.v 141), (.v 142), (.v 143), (.v 144), (.v 145), (.v 146), (.v 147), (.v 148), (.v 149), (.v 150), (.v 136), (.v 137), (.v 133), (.v 134), (.v 135)] [(.v 108), (.v 109), (.v 110), (.v 111), (.v 112), (.v 113), (.v 114), (.v 115), (.v 116), (.v 117), (.v 118), (.v 119)])
def L101000 : LAnn := { id := 101000, ga := [0, 1, 2, 3, 4, 5, 6, 7, 8, 9, 10, 11, 12, 13, 14, 15], gb := [0, 1, 2, 3, 4, 5, 6, 7, 8, 9, 10, 11], hv := [7], dr := [3, 9, 10, 11, 12, 13, 14, 15, 16, 17, 18, 19, 20, 21, 22, 23, 24, 25, 27], hb := [4, 5, 7, 10, 11, 16], db := [], xs := [], xb := [4, 5, 7, 10, 11, 16], nI := 50, nB := 36, S := (.mk [(.db 36 (.cm .lss 16 15)), (.call 25 [35, 36, 37, 38, 39, 40, 41, 42, 43, 44, 45, 46, 47] [24, 25, 26, 27, 28, 29, 30, 31, 32, 33, 34, 35] 50 2 37 4), (.ob [(36, true)] 37), (.di 52 (.cv .i64 50)), (.di 53 (.ar .sub .i64 34 (.c 1))), (.di 54 (.ar .and .i64 52 53)), (.db 41 (.cm .geq 54 (.c 0))), (.ob [(36, true)] 41), (.db 42 (.cm .lss 54 34)), (.ob [(36, true)] 42), (.di 55 (.b2i 39)), (.di 56 (.setq 33 54 2 0 51)), (.di 57 (.setq 56 54 2 1 55)), (.di 58 (.ite 38 57 33)), (.di 59 (.get 58 54 2 0)), (.db 43 (.getb 58 54 2 1)), (.call 47 [35, 36, 37, 38, 39, 40, 41, 42, 43, 44, 45, 46, 47, 59] [24, 25, 26, 27, 28, 29, 30, 31, 32, 33, 34, 35, 43, (.c false), (.c false), (.c false)] 60 14 44 13), (.ob [(36, true)] 44), (.db 57 (.cm .neq 73 (.c 0))), (.di 74 (.b2i 38)), (.di 75 (.b2i 43)), (.di 76 (.b2i 40)), (.di 77 (.lst [50, 74, 59, 75, 76])), (.db 58 (.cm .leq 49 (.c 11728124029610))), (.ob [(36, true), (57, false)] 58), (.di 78 (.cat 48 77)), (.di 79 (.ar .add .i64 49 (.c 1))), (.db 59 (.not 57)), (.db 60 (.not 57)), (.di 80 (.ite 60 78 48)), (.di 81 (.ite 60 79 49)), (.di 82 (.ite 60 32 73)), (.di 83 (.ite 60 30 13)), (.di 84 (.ite 60 31 14)), (.di 85 (.ite 60 17 0)), (.db 61 (.ite 60 12 0)), (.di 86 (.ite 60 18 1)), (.db 62 (.ite 60 13 1)), (.di 87 (.ite 60 19 2)), (.db 63 (.ite 60 14 2)), (.di 88 (.ite 60 20 3)), (.db 64 (.ite 60 15 3)), (.di 89 (.ite 60 21 4)), (.di 90 (.ite 60 22 5)), (.di 91 (.ite 60 23 6)), (.db 65 (.ite 60 16 4)), (.di 92 (.ite 60 24 7)), (.di 93 (.ite 60 25 8)), (.di 94 (.ite 60 26 9)), (.db 66 (.ite 60 17 5)), (.di 95 (.ite 60 27 10)), (.db 67 (.ite 60 18 6)), (.db 68 (.ite 60 19 7)), (.di 96 (.ite 60 28 11)), (.db 69 (.ite 60 20 8)), (.db 70 (.ite 60 21 9)), (.di 97 (.ite 60 29 12)), (.db 71 (.ite 60 22 10)), (.db 72 (.ite 60 23 11)), (.db 73 (.not 60)), (.db 74 (.or 73 56)), (.di 98 (.ar .add .i64 16 (.c 1))), (.db 75 (.not 74)), (.ob [(36, true), (74, false)] 60), (.db 76 (.not 74)), (.db 77 (.and 36 76)), (.db 78 (.and 36 74)), (.db 79 (.not 36))] [0, 1, 2, 3, 4, 5, 6, 7, 8, 9, 10, 11, 12, 13, 14, 15, 98, 85, 86, 87, 88, 89, 90, 91, 92, 93, 94, 95, 96, 97, 83, 84, 82, 58, 34, 60, 61, 62, 63, 64, 65, 66, 67, 68, 69, 70, 71, 72, 80, 81, 85, 86, 87, 88, 89, 90, 91, 92, 93, 94, 95, 96, 97, 83, 84, 82, 58, 60, 61, 62, 63, 64, 65, 66, 67, 68, 69, 70, 71, 72, 80, 81, 17, 18, 19, 20, 21, 22, 23, 24, 25, 26, 27, 28, 29, 30, 31, 32, 33, 34, 35, 36, 37, 38, 39, 40, 41, 42, 43, 44, 45, 46, 47, 48, 49] [77, 0, 1, 2, 3, 4, 5, 6, 7, 8, 9, 10, 11, 61, 62, 63, 64, 65, 66, 67, 68, 69, 70, 71, 72, 45, 46, 47, 48, 49, 50, 51, 52, 53, 54, 55, 56, 78, 79, 60, 61, 62, 63, 64, 65, 66, 67, 68, 69, 70, 71, 72, 45, 46, 47, 48, 49, 50, 51, 52, 53, 54, 55, 56, 12, 13, 14, 15, 16, 17, 18, 19, 20, 21, 22, 23, 24, 25, 26, 27, 28, 29, 30, 31, 32, 33, 34, 35]), sd := [(12, 0, true, [.int .u16, .bool, .int .u8, .bool, .bool]), (5, 0, false, [.int .u8, .bool])] }
def l10v0a : List (Nat × LAnn) := []
def l10v0b : List (Nat × LAnn) := []
def l10v0c : List (Nat × LAnn) := [(2, L101000)]
def l10v0 : List (Nat × LAnn) := l10v0a ++ (l10v0b ++ l10v0c)
theorem k10v0 : fnX Tryz.prog (hCv m [(16, 0), (21, 0)] (tabS T80)) (gl m) (ctlR Tryz.prog (hCv m [(16, 0), (21, 0)] (tabS T80)) (gl m) Tryz.f10 s10 l10v0a l10v0b l10v0c) Tryz.f10 s10 = some S10v0 := by kernel_rfl
noncomputable def F10v0 : Fun := S10v0.run (lpF (l10v0.map (·.2)) (tabF T80)) true
theorem x10v0 : AllOk Tryz.prog (lpF (l10v0.map (·.2)) (tabF T80)) (gl m) (tabS T80) := (AllOk.loops (l := l10v0.map (·.2)) A80 (by kernel_rfl))
theorem y10v0l : LoopsOk (lpF (l10v0.map (·.2)) (tabF T80)) (ctlL Tryz.f10 (gl m) s10 l10v0) := LoopsOk.of (fn := Tryz.f10) (gl := (gl m)) (s := s10) (l := l10v0) (by kernel_rfl)
theorem y10v0 : LoopsOk (lpF (l10v0.map (·.2)) (tabF T80)) (ctlR Tryz.prog (hCv m [(16, 0), (21, 0)] (tabS T80)) (gl m) Tryz.f10 s10 l10v0a l10v0b l10v0c) := (LoopsOk.nil rfl)
theorem z10v0 : (wsEm S10v0.em (argI s10.args) (argB s10.args) && shOk s10 && s10.pre) = true := by kernel_rfl
theorem d10v0 : Contract Tryz.prog (gl m) 10 s10 F10v0 := contract_preA (hCv_ok [(16, 0), (21, 0)] x10v0) Tryz.func10 y10v0 k10v0 z10v0 (EAll.rf (hCv_ok [(16, 0), (21, 0)] x10v0) (fun p hp => by cases hp) (fun p hp => y10v0l (m := m) p (by show p ∈ l10v0; unfold l10v0; simp only [List.mem_append]; exact .inr (.inr hp))))
def S10v1 : Smry := (.mk [(.call 16 [(.v 13), (.v 14)] [] 16 1 12 0), (.db 12 (.cm .eql (.v 16) (.c 0))), (.ob [] (.v 12)), (.call 21 [(.v 0), (.v 1), (.v 2), (.v 3), (.v 4), (.v 5), (.v 6), (.v 7), (.v 8), (.v 9), (.v 10), (.v 11), (.v 12)] [(.v 0), (.v 1), (.v 2), (.v 3), (.v 4), (.v 5), (.v 6), (.v 7), (.v 8), (.v 9), (.v 10), (.v 11)] 17 1 13 0), (.db 13 (.cm .eql (.v 17) (.c 1))), (.ob [] (.v 13))] [(.v 0), (.v 1), (.v 2), (.v 3), (.v 4), (.v 5), (.v 6), (.v 7), (.v 8), (.v 9), (.v 10), (.v 11), (.v 12), (.v 13), (.v 14), (.c 0), (.c 0), (.c 1)] [(.v 0), (.v 1), (.v 2), (.v 3), (.v 4), (.v 5), (.v 6), (.v 7), (.v 8), (.v 9), (.v 10), (.v 11)])
def L101030 : LAnn := { id := 101030, ga := [], gb := [], hv := [], dr := [3, 9, 10, 11, 12, 13, 14, 15, 16, 17, 18, 19, 20, 21, 22, 23, 24, 25, 27], hb := [], db := [], xs := [], xb := [], nI := 0, nB := 0, S := (.mk [] [] []) }
def l10v1a : List (Nat × LAnn) := []
def l10v1b : List (Nat × LAnn) := []
def l10v1c : List (Nat × LAnn) := [(2, L101030)]
def l10v1 : List (Nat × LAnn) := l10v1a ++ (l10v1b ++ l10v1c)
theorem k10v1 : fnX Tryz.prog (hCv m [(16, 0), (21, 1)] (tabS T80)) (gl m) (ctlR Tryz.prog (hCv m [(16, 0), (21, 1)] (tabS T80)) (gl m) Tryz.f10 s10 l10v1a l10v1b l10v1c) Tryz.f10 s10 = some S10v1 := by kernel_rfl
noncomputable def F10v1 : Fun := S10v1.run (lpF (l10v1.map (·.2)) (tabF T80)) true
theorem x10v1 : AllOk Tryz.prog (lpF (l10v1.map (·.2)) (tabF T80)) (gl m) (tabS T80) := (AllOk.loops (l := l10v1.map (·.2)) A80 (by kernel_rfl))
theorem y10v1l : LoopsOk (lpF (l10v1.map (·.2)) (tabF T80)) (ctlL Tryz.f10 (gl m) s10 l10v1) := LoopsOk.of (fn := Tryz.f10) (gl := (gl m)) (s := s10) (l := l10v1) (by kernel_rfl)
theorem y10v1 : LoopsOk (lpF (l10v1.map (·.2)) (tabF T80)) (ctlR Tryz.prog (hCv m [(16, 0), (21, 1)] (tabS T80)) (gl m) Tryz.f10 s10 l10v1a l10v1b l10v1c) := (LoopsOk.nil rfl)
theorem z10v1 : (wsEm S10v1.em (argI s10.args) (argB s10.args) && shOk s10 && s10.pre) = true := by kernel_rfl
theorem d10v1 : Contract Tryz.prog (gl m) 10 s10 F10v1 := contract_preA (hCv_ok [(16, 0), (21, 1)] x10v1) Tryz.func10 y10v1 k10v1 z10v1 (EAll.rf (hCv_ok [(16, 0), (21, 1)] x10v1) (fun p hp => by cases hp) (fun p hp => y10v1l (m := m) p (by show p ∈ l10v1; unfold l10v1; simp only [List.mem_append]; exact .inr (.inr hp))))
def S10v2 : Smry := (.mk [(.call 16 [(.v 13), (.v 14)] [] 16 1 12 0), (.db 12 (.cm .eql (.v 16) (.c 1))), (.ob [] (.v 12))] [(.v 0), (.v 1), (.v 2), (.v 3), (.v 4), (.v 5), (.v 6), (.v 7), (.v 8), (.v 9), (.v 10), (.v 11), (.v 12), (.v 13), (.v 14), (.c 0), (.c 0), (.c 1)] [(.v 0), (.v 1), (.v 2), (.v 3), (.v 4), (.v 5), (.v 6), (.v 7), (.v 8), (.v 9), (.v 10), (.v 11)])
def L101060 : LAnn := { id := 101060, ga := [], gb := [], hv := [], dr := [3, 9, 10, 11, 12, 13, 14, 15, 16, 17, 18, 19, 20, 21, 22, 23, 24, 25, 27], hb := [], db := [], xs := [], xb := [], nI := 0, nB := 0, S := (.mk [] [] []) }
def l10v2a : List (Nat × LAnn) := []
def l10v2b : List (Nat × LAnn) := []
def l10v2c : List (Nat × LAnn) := [(2, L101060)]
def l10v2 : List (Nat × LAnn) := l10v2a ++ (l10v2b ++ l10v2c)
theorem k10v2 : fnX Tryz.prog (hCv m [(16, 1)] (tabS T80)) (gl m) (ctlR Tryz.prog (hCv m [(16, 1)] (tabS T80)) (gl m) Tryz.f10 s10 l10v2a l10v2b l10v2c) Tryz.f10 s10 = some S10v2 := by kernel_rfl
noncomputable def F10v2 : Fun := S10v2.run (lpF (l10v2.map (·.2)) (tabF T80)) true
theorem x10v2 : AllOk Tryz.prog (lpF (l10v2.map (·.2)) (tabF T80)) (gl m) (tabS T80) := (AllOk.loops (l := l10v2.map (·.2)) A80 (by kernel_rfl))
theorem y10v2l : LoopsOk (lpF (l10v2.map (·.2)) (tabF T80)) (ctlL Tryz.f10 (gl m) s10 l10v2) := LoopsOk.of (fn := Tryz.f10) (gl := (gl m)) (s := s10) (l := l10v2) (by kernel_rfl)
theorem y10v2 : LoopsOk (lpF (l10v2.map (·.2)) (tabF T80)) (ctlR Tryz.prog (hCv m [(16, 1)] (tabS T80)) (gl m) Tryz.f10 s10 l10v2a l10v2b l10v2c) := (LoopsOk.nil rfl)
theorem z10v2 : (wsEm S10v2.em (argI s10.args) (argB s10.args) && shOk s10 && s10.pre) = true := by kernel_rfl
theorem d10v2 : Contract Tryz.prog (gl m) 10 s10 F10v2 := contract_preA (hCv_ok [(16, 1)] x10v2) Tryz.func10 y10v2 k10v2 z10v2 (EAll.rf (hCv_ok [(16, 1)] x10v2) (fun p hp => by cases hp) (fun p hp => y10v2l (m := m) p (by show p ∈ l10v2; unfold l10v2; simp only [List.mem_append]; exact .inr (.inr hp))))
noncomputable def F10 : Fun := (F10v0.alt (F10v1.alt F10v2))
theorem c10 : Ct m 10 s10 F10 := (Contract.alt d10v0 (Contract.alt d10v1 d10v2 rfl) rfl)
noncomputable def T81 : Tb := (10, s10, F10) :: T80
theorem A81 : Ok m T81 := ac Tryz.func10 (by kernel_rfl) (by kernel_rfl) c10 ⟨rfl, rfl⟩ A80
def s9 : Sum := { args := [(.val false [(.sl [(.int .u8), .bool])])], tup := false, res := [(false, [(.sl [(.int .u8), .bool])])], pre := true }
def S9 : Smry := (.mk [(.db 0 (.cm .gtr (.v 1) (.c 1024))), (.db 1 (.cm .leq (.c 1024) (.v 1))), (.ob [((.v 0), true)] (.v 1)), (.di 2 (.sub (.v 0) (.c 0) (.c 1024) 2)), (.db 2 (.not (.v 0))), (.di 3 (.ite (.v 2) (.v 0) (.v 2))), (.di 4 (.ite (.v 2) (.v 1) (.c 1024)))] [(.v 3), (.v 4)] [])
noncomputable def F9 : Fun := S9.run (tabF T81) true
noncomputable def T82 : Tb := (9, s9, F9) :: T81
theorem A82 : Ok m T82 := ad A81 Tryz.func9 (S := S9) (by kernel_rfl)
def s12 : Sum := { args := [(.val false [(.sl [(.int .u8), .bool])]), (.val false [(.sl [(.int .u8), .bool])])], tup := false, res := [(false, [.bool])], pre := true }
def S12 : Smry := (.mk [(.db 0 (.cm .neq (.v 1) (.v 3))), (.call 101200 [(.v 0), (.v 1), (.v 2), (.v 3), (.c 0)] [] 4 0 1 3), (.ob [((.v 0), false)] (.v 1)), (.db 4 (.not (.v 0))), (.db 5 (.and (.v 4) (.v 3)))] [] [(.v 5)])
def L101200 : LAnn := { id := 101200, ga := [0, 1, 2, 3], gb := [], hv := [5], dr := [2, 3, 6, 7, 8, 9, 11, 12, 13, 15, 16, 17, 18, 19, 20, 21, 22, 23, 24], hb := [], db := [], xs := [4], xb := [], nI := 5, nB := 0, S := (.mk [(.db 0 (.cm .lss 4 1)), (.db 1 (.cm .geq 4 (.c 0))), (.ob [(0, true)] 1), (.db 2 (.cm .lss 4 1)), (.ob [(0, true)] 2), (.di 5 (.get 0 4 2 0)), (.db 3 (.getb 0 4 2 1)), (.db 4 (.cm .geq 4 (.c 0))), (.ob [(0, true)] 4), (.db 5 (.cm .lss 4 3)), (.ob [(0, true)] 5), (.di 6 (.get 2 4 2 0)), (.db 6 (.getb 2 4 2 1)), (.db 7 (.cm .eql 5 6)), (.db 8 (.eqb 3 6)), (.db 9 (.and 7 8)), (.db 10 (.not 9)), (.di 7 (.ar .add .i64 4 (.c 1))), (.db 11 (.not 10)), (.db 12 (.not 10)), (.db 13 (.and 0 12)), (.db 14 (.and 0 10)), (.db 15 (.not 0))] [0, 1, 2, 3, 7] [13, 14, 15]) }
def l12 : List (Nat × LAnn) := [(5, L101200)]
theorem k12 : fnX Tryz.prog (hC m (tabS T82)) (gl m) (ctlL Tryz.f12 (gl m) s12 l12) Tryz.f12 s12 = some S12 := by kernel_rfl
noncomputable def F12 : Fun := S12.run (lpF (l12.map (·.2)) (tabF T82)) true
theorem x12 : AllOk Tryz.prog (lpF (l12.map (·.2)) (tabF T82)) (gl m) (tabS T82) := (AllOk.loops (l := l12.map (·.2)) A82 (by kernel_rfl))
theorem y12 : LoopsOk (lpF (l12.map (·.2)) (tabF T82)) (ctlL Tryz.f12 (gl m) s12 l12) := (LoopsOk.of (fn := Tryz.f12) (gl := (gl m)) (s := s12) (l := l12) (by kernel_rfl))
theorem z12 : (wsEm S12.em (argI s12.args) (argB s12.args) && shOk s12 && s12.pre) = true := by kernel_rfl
theorem d12 : Contract Tryz.prog (gl m) 12 s12 F12 := contract_pre (hC_ok x12) Tryz.func12 y12 k12 z12
theorem c12 : Contract Tryz.prog (gl m) 12 s12 F12 := d12
noncomputable def T83 : Tb := (12, s12, F12) :: T82
theorem A83 : Ok m T83 := ac Tryz.func12 (by kernel_rfl) (by kernel_rfl) c12 ⟨rfl, rfl⟩ A82
def s13 : Sum := { args := [(.val false [(.sl [(.int .u16), .bool, (.int .u8), .bool, .bool])]), (.val false [(.sl [(.int .u16), .bool, (.int .u8), .bool, .bool])])], tup := false, res := [(false, [.bool])], pre := true }
def S13 : Smry := (.mk [(.db 0 (.cm .neq (.v 1) (.v 3))), (.call 101300 [(.v 0), (.v 1), (.v 2), (.v 3), (.c 0)] [] 4 0 1 3), (.ob [((.v 0), false)] (.v 1)), (.db 4 (.not (.v 0))), (.db 5 (.and (.v 4) (.v 3)))] [] [(.v 5)])
def L101300 : LAnn := { id := 101300, ga := [0, 1, 2, 3], gb := [], hv := [5], dr := [2, 3, 6, 7, 8, 9, 11, 12, 13, 15, 16, 17, 18, 19, 20, 21, 22, 23, 24], hb := [], db := [], xs := [4], xb := [], nI := 5, nB := 0, S := (.mk [(.db 0 (.cm .lss 4 1)), (.db 1 (.cm .geq 4 (.c 0))), (.ob [(0, true)] 1), (.db 2 (.cm .lss 4 1)), (.ob [(0, true)] 2), (.di 5 (.get 0 4 5 0)), (.db 3 (.getb 0 4 5 1)), (.di 6 (.get 0 4 5 2)), (.db 4 (.getb 0 4 5 3)), (.db 5 (.getb 0 4 5 4)), (.db 6 (.cm .geq 4 (.c 0))), (.ob [(0, true)] 6), (.db 7 (.cm .lss 4 3)), (.ob [(0, true)] 7), (.di 7 (.get 2 4 5 0)), (.db 8 (.getb 2 4 5 1)), (.di 8 (.get 2 4 5 2)), (.db 9 (.getb 2 4 5 3)), (.db 10 (.getb 2 4 5 4)), (.db 11 (.cm .eql 5 7)), (.db 12 (.eqb 3 8)), (.db 13 (.cm .eql 6 8)), (.db 14 (.eqb 4 9)), (.db 15 (.and 13 14)), (.db 16 (.eqb 5 10)), (.db 17 (.and 15 16)), (.db 18 (.and 12 17)), (.db 19 (.and 11 18)), (.db 20 (.not 19)), (.di 9 (.ar .add .i64 4 (.c 1))), (.db 21 (.not 20)), (.db 22 (.not 20)), (.db 23 (.and 0 22)), (.db 24 (.and 0 20)), (.db 25 (.not 0))] [0, 1, 2, 3, 9] [23, 24, 25]) }
def l13 : List (Nat × LAnn) := [(5, L101300)]
theorem k13 : fnX Tryz.prog (hC m (tabS T83)) (gl m) (ctlL Tryz.f13 (gl m) s13 l13) Tryz.f13 s13 = some S13 := by kernel_rfl
noncomputable def F13 : Fun := S13.run (lpF (l13.map (·.2)) (tabF T83)) true
theorem x13 : AllOk Tryz.prog (lpF (l13.map (·.2)) (tabF T83)) (gl m) (tabS T83) := (AllOk.loops (l := l13.map (·.2)) A83 (by kernel_rfl))
theorem y13 : LoopsOk (lpF (l13.map (·.2)) (tabF T83)) (ctlL Tryz.f13 (gl m) s13 l13) := (LoopsOk.of (fn := Tryz.f13) (gl := (gl m)) (s := s13) (l := l13) (by kernel_rfl))
theorem z13 : (wsEm S13.em (argI s13.args) (argB s13.args) && shOk s13 && s13.pre) = true := by kernel_rfl
theorem d13 : Contract Tryz.prog (gl m) 13 s13 F13 := contract_pre (hC_ok x13) Tryz.func13 y13 k13 z13
theorem c13 : Contract Tryz.prog (gl m) 13 s13 F13 := d13
noncomputable def T84 : Tb := (13, s13, F13) :: T83
theorem A84 : Ok m T84 := ac Tryz.func13 (by kernel_rfl) (by kernel_rfl) c13 ⟨rfl, rfl⟩ A83
def s11 : Sum := { args := [], tup := false, res := [(false, [.bool])], pre := true }
def S11 : Smry := xK 0 0 [.c 10 [xG,xG,xG,xG,xG,xG,xG,xG,xG,xG,xG,xG,xG,(.c yQ80),(.c 256),xI] [xF,xF,xF,xF,xF,xF,xF,xF,xF,xF,xF,xF] 18 13,.o [] 0,.c 15 [xG,xG,xG,xG,xG,xG,xG,xG,xG,xG,xG,xG,xG,(.c yQ80),(.c 256),(.c 9)] [xF,xF,xF,xF,xF,xF,xF,xF,xF,xF,xF,xF] 17 13,.o [] 13,zO 0 (.c 5),zO 16 xI,zQ 26 27,zO 17 xG,zQ 28 29,zO 33 xI,zQ 30 31,zO 34 xG,zQ 32 33,.c 16 [(.c yQ81),(.c 300)] [] 1 0,zO 35 xH,zQ 34 35] [] [36]
noncomputable def F11 : Fun := S11.run (tabF T84) true
theorem c11 : Ct m 11 s11 F11 := contract_pre (hC_ok A84) Tryz.func11 (k := ((ctlOf Tryz.f11 (gl m) s11).fz [10, 14, 15])) (LoopsOk.nil rfl) (isS_eq (by kernel_rfl)) (by kernel_rfl)
noncomputable def T85 : Tb := (11, s11, F11) :: T84
theorem A85 : Ok m T85 := ac Tryz.func11 (by kernel_rfl) (by kernel_rfl) c11 ⟨rfl, rfl⟩ A84
end
end Go.Proofs.YtghlmhlamoagoaaGreat.Fl
namespace Go.Proofs.YtghlmhlamoagoaaGreat.Sx
open Go

theorem Smry.run_specT {Φ : Funs} {S : Smry} {is : List Int} {bs : List Bool} (hw : wsEm S.em is.length bs.length = true) : ∃ ρ : Env, S.run Φ true is bs = (S.ri.map (A.d ρ), obAll ρ S.em :: S.rb.map (B.d ρ)) /\ headsI ρ is 0 /\ headsB ρ bs 0 /\ eqns Φ ρ S.em := by
 obtain ⟨h1, h2⟩ := evEm_spec Φ S.em is bs hw
 refine ⟨envOf (evEm Φ S.em is bs).1 (evEm Φ S.em is bs).2, rfl, headsI_of fun n hn => ?_, headsB_of fun n hn => ?_, eqns_of fun e he => ?_⟩
 ·rw [Nat.zero_add]; exact h1.1 n hn
 ·rw [Nat.zero_add]; exact h1.2 n hn
 ·have := h2 e he
  cases e <;> simp_all

def obs (ρ : Env) : List Em -> Bool
 | [] => true
 | .ob g b :: l => (!(Gd.d ρ g) || b.d ρ) && obs ρ l
 | .di _ _ :: l => obs ρ l
 | .db _ _ :: l => obs ρ l
 | .call _ _ _ _ _ _ _ :: l => obs ρ l
theorem obAll_eq {ρ : Env} : ∀ {l : List Em}, obAll ρ l = obs ρ l
 | [] => rfl
 | e :: l => by
  have ih := obAll_eq (ρ := ρ) (l := l)
  unfold obAll at ih ⊢
  cases e <;> simp [obs, ih]

theorem loop_rule {F : Fun} {nI nB : Nat} (Inv : List Int -> List Bool -> Prop) (mu : List Int -> List Bool -> Nat) (Post : Fl -> Prop)
  (step : ∀ is bs, Inv is bs -> ∃ c rb, (F is bs).2 = true :: c :: rb /\ (c = false -> Post ((F is bs).1.drop nI, rb.drop nB)) /\
   (c = true -> Inv ((F is bs).1.take nI) (rb.take nB) /\ mu ((F is bs).1.take nI) (rb.take nB) < mu is bs)) :
  ∀ is bs, Inv is bs -> ∃ o, loopF F nI nB is bs = (o.1, true :: o.2) /\ Post o := by
 have key : ∀ n is bs, mu is bs <= n -> Inv is bs -> ∃ m o, LRun F nI nB m is bs o /\ Post o := by
  intro n
  induction n with
  | zero =>
   intro is bs hn hi
   obtain ⟨c, rb, h1, h2, h3⟩ := step is bs hi
   cases c
   ·exact ⟨1, _, .stop h1, h2 rfl⟩
   ·have := (h3 rfl).2; omega
  | succ n ih =>
   intro is bs hn hi
   obtain ⟨c, rb, h1, h2, h3⟩ := step is bs hi
   cases c
   ·exact ⟨1, _, .stop h1, h2 rfl⟩
   ·obtain ⟨h4, h5⟩ := h3 rfl
    obtain ⟨m, o, h6, h7⟩ := ih _ _ (by omega) h4
    exact ⟨m + 1, o, .turn h1 h6, h7⟩
 intro is bs hi
 obtain ⟨m, o, h1, h2⟩ := key _ is bs (Nat.le_refl _) hi
 exact ⟨o, loopF_of h1, h2⟩

theorem cm_eql (x y : Int) : cmB .eql x y = (x == y) := rfl
theorem cm_neq (x y : Int) : cmB .neq x y = (x != y) := rfl
theorem cm_lss (x y : Int) : cmB .lss x y = decide (x < y) := rfl
theorem cm_leq (x y : Int) : cmB .leq x y = decide (x <= y) := rfl
theorem cm_gtr (x y : Int) : cmB .gtr x y = decide (y < x) := rfl
theorem cm_geq (x y : Int) : cmB .geq x y = decide (y <= x) := rfl
def upto (p : Nat -> Prop) : Nat -> Nat -> Prop
 | _, 0 => True
 | k, n + 1 => p k /\ upto p (k + 1) n
theorem upto_of {p : Nat -> Prop} : ∀ {n k : Nat}, (∀ j, k <= j -> j < k + n -> p j) -> upto p k n
 | 0, _, _ => trivial
 | n + 1, k, h => ⟨h k (Nat.le_refl _) (by omega), upto_of fun j h1 h2 => h j (by omega) (by omega)⟩
theorem of_upto {p : Nat -> Prop} : ∀ {n k : Nat}, upto p k n -> ∀ j, k <= j -> j < k + n -> p j
 | 0, k, _, j, h1, h2 => by omega
 | n + 1, k, h, j, h1, h2 => by
  rcases Nat.eq_or_lt_of_le h1 with e | e
  ·subst e; exact h.1
  ·exact of_upto h.2 j e (by omega)
theorem ltn {p : Nat -> Prop} (n : Nat) : (∀ j, j < n -> p j) ↔ upto p 0 n :=
 ⟨fun h => upto_of fun j _ h2 => h j (by omega), fun h j hj => of_upto h j (Nat.zero_le _) (by omega)⟩

structure Lb (α : Type) where
 s : Bool
 a : Option α
 b : Option α
def Lb.ok {α : Type} (l : Lb α) (x y : α) : Prop := (l.s = true -> x = y) /\ (∀ v, l.a = some v -> x = v) /\ ∀ v, l.b = some v -> y = v
def Lb.top {α : Type} : Lb α := ⟨false, none, none⟩
def Lb.cst {α : Type} (v : α) : Lb α := ⟨true, some v, some v⟩
theorem Lb.top_ok {α : Type} {x y : α} : (Lb.top : Lb α).ok x y := ⟨fun h => (by cases h), ⟨fun _ h => (by cases h), fun _ h => (by cases h)⟩⟩
theorem Lb.cst_ok {α : Type} {v : α} : (Lb.cst v).ok v v := ⟨fun _ => rfl, fun _ h => (by cases h; rfl), fun _ h => (by cases h; rfl)⟩

def Lb.nrm {α : Type} [DecidableEq α] (l : Lb α) : Lb α :=
 match l with
 | ⟨true, none, none⟩ => ⟨true, none, none⟩
 | ⟨true, some v, _⟩ => ⟨true, some v, some v⟩
 | ⟨true, none, some v⟩ => ⟨true, some v, some v⟩
 | ⟨false, some v, some w⟩ => ⟨decide (v = w), some v, some w⟩
 | ⟨false, none, none⟩ => ⟨false, none, none⟩
 | ⟨false, some v, none⟩ => ⟨false, some v, none⟩
 | ⟨false, none, some v⟩ => ⟨false, none, some v⟩
def joinO {α : Type} [DecidableEq α] (x y : Option α) : Option α :=
 match x, y with
 | some u, some v => if u = v then some u else none
 | _, _ => none
theorem joinO_l {α : Type} [DecidableEq α] {x y : Option α} {v : α} (h : joinO x y = some v) : x = some v /\ y = some v := by
 unfold joinO at h
 split at h
 ·split at h
  ·rename_i e; subst e; cases h; exact ⟨rfl, rfl⟩
  ·cases h
 ·cases h
def iteO {α : Type} [DecidableEq α] (c : Option Bool) (x y : Option α) : Option α :=
 match c with
 | some true => x
 | some false => y
 | none => joinO x y
theorem iteO_ok {α : Type} [DecidableEq α] {c : Option Bool} {x y : Option α} {c' : Bool} {x' y' : α} (hc : ∀ v, c = some v -> c' = v) (hx : ∀ v, x = some v -> x' = v) (hy : ∀ v, y = some v -> y' = v) :
  ∀ v, iteO c x y = some v -> (if c' then x' else y') = v := by
 intro v h
 unfold iteO at h
 split at h
 ·rw [hc true rfl]; exact hx v h
 ·rw [hc false rfl]; exact hy v h
 ·obtain ⟨h1, h2⟩ := joinO_l h
  cases c'
  ·exact hy v h2
  ·exact hx v h1
def iteL {α : Type} [DecidableEq α] (c : Lb Bool) (x y : Lb α) : Lb α :=
 Lb.nrm ⟨match c.a, c.b with
  | some true, some true => x.s
  | some false, some false => y.s
  | _, _ => c.s && x.s && y.s, iteO c.a x.a y.a, iteO c.b x.b y.b⟩
def op2 {α β γ : Type} (f : α -> β -> γ) : Option α -> Option β -> Option γ
 | some x, some y => some (f x y)
 | _, _ => none
theorem op2_ok {α β γ : Type} {f : α -> β -> γ} {x : Option α} {y : Option β} {x' : α} {y' : β} (hx : ∀ v, x = some v -> x' = v) (hy : ∀ v, y = some v -> y' = v) :
  ∀ v, op2 f x y = some v -> f x' y' = v := by
 intro v h
 unfold op2 at h
 split at h
 ·rw [hx _ rfl, hy _ rfl]; exact Option.some.inj h
 ·cases h
def op2L {α β γ : Type} [DecidableEq γ] (f : α -> β -> γ) (x : Lb α) (y : Lb β) : Lb γ := Lb.nrm ⟨x.s && y.s, op2 f x.a y.a, op2 f x.b y.b⟩
def op1L {α β : Type} (f : α -> β) (x : Lb α) : Lb β := ⟨x.s, x.a.map f, x.b.map f⟩
def same2 {α β γ : Type} (x : Lb α) (y : Lb β) : Lb γ := ⟨x.s && y.s, none, none⟩
def isZ : Option Int -> Bool
 | some (.ofNat 0) => true
 | _ => false
def arO (op : BinOp) (k : IntKind) (x y : Option Int) : Option Int :=
 match op with
 | .and => if isZ x || isZ y then some 0 else op2 (arI .and k) x y
 | .andNot => if isZ x then some 0 else op2 (arI .andNot k) x y
 | op => op2 (arI op k) x y
def arL (op : BinOp) (k : IntKind) (x y : Lb Int) : Lb Int := Lb.nrm ⟨x.s && y.s, arO op k x.a y.a, arO op k x.b y.b⟩
def andO : Option Bool -> Option Bool -> Option Bool
 | some false, _ => some false
 | some true, y => y
 | none, some false => some false
 | none, _ => none
def orO : Option Bool -> Option Bool -> Option Bool
 | some true, _ => some true
 | some false, y => y
 | none, some true => some true
 | none, _ => none
theorem andO_ok {x y : Option Bool} {x' y' : Bool} (hx : ∀ v, x = some v -> x' = v) (hy : ∀ v, y = some v -> y' = v) : ∀ v, andO x y = some v -> (x' && y') = v := by
 intro v h
 unfold andO at h
 split at h
 ·cases h; rw [hx _ rfl]; rfl
 ·rw [hx _ rfl, hy _ h]; simp
 ·cases h; rw [hy _ rfl]; simp
 ·cases h
theorem orO_ok {x y : Option Bool} {x' y' : Bool} (hx : ∀ v, x = some v -> x' = v) (hy : ∀ v, y = some v -> y' = v) : ∀ v, orO x y = some v -> (x' || y') = v := by
 intro v h
 unfold orO at h
 split at h
 ·cases h; rw [hx _ rfl]; rfl
 ·rw [hx _ rfl, hy _ h]; simp
 ·cases h; rw [hy _ rfl]; simp
 ·cases h
def andL (x y : Lb Bool) : Lb Bool := Lb.nrm ⟨x.s && y.s, andO x.a y.a, andO x.b y.b⟩
def orL (x y : Lb Bool) : Lb Bool := Lb.nrm ⟨x.s && y.s, orO x.a y.a, orO x.b y.b⟩
inductive Tr (α : Type) where
 | e
 | n (x : α) (l r : Tr α)
def Tr.get {α : Type} (d : α) : Tr α -> Nat -> α
 | .e, _ => d
 | .n x l r, i => match Nat.ble i 1 with
  | true => x
  | false => match Nat.beq (i % 2) 0 with
   | true => l.get d (i / 2)
   | false => r.get d (i / 2)
def Tr.set {α : Type} : Tr α -> Nat -> α -> Tr α
 | .e, i, x => match Nat.ble i 1 with
  | true => .n x .e .e
  | false => .e
 | .n y l r, i, x => match Nat.ble i 1 with
  | true => .n x l r
  | false => match Nat.beq (i % 2) 0 with
   | true => .n y (l.set (i / 2) x) r
   | false => .n y l (r.set (i / 2) x)
theorem Tr.get_set_ne {α : Type} {d x : α} : ∀ {t : Tr α} {i j : Nat}, 1 <= i -> 1 <= j -> i ≠ j -> (t.set i x).get d j = t.get d j
 | .e, i, j, hi, hj, hn => by
  unfold Tr.set
  split
  ·rename_i h
   rw [Nat.ble_eq] at h
   have : Nat.ble j 1 = false := by rw [<- Bool.not_eq_true, Nat.ble_eq]; omega
   unfold Tr.get
   simp only [this]
   split <;> unfold Tr.get <;> rfl
  ·rfl
 | .n y l r, i, j, hi, hj, hn => by
  unfold Tr.set
  split
  ·rename_i h
   rw [Nat.ble_eq] at h
   have : Nat.ble j 1 = false := by rw [<- Bool.not_eq_true, Nat.ble_eq]; omega
   unfold Tr.get
   simp only [this]
  ·rename_i h
   have h' : ¬ i <= 1 := by rw [<- Nat.ble_eq]; simp [h]
   split
   ·rename_i h2
    rw [Nat.beq_eq] at h2
    unfold Tr.get
    split
    ·rfl
    ·rename_i h3
     have h3' : ¬ j <= 1 := by rw [<- Nat.ble_eq]; simp [h3]
     split
     ·rename_i h4
      rw [Nat.beq_eq] at h4
      exact Tr.get_set_ne (by omega) (by omega) (by omega)
     ·rfl
   ·rename_i h2
    have h2' : ¬ i % 2 = 0 := by rw [<- Nat.beq_eq]; simp [h2]
    unfold Tr.get
    split
    ·rfl
    ·rename_i h3
     have h3' : ¬ j <= 1 := by rw [<- Nat.ble_eq]; simp [h3]
     split
     ·rfl
     ·rename_i h4
      have h4' : ¬ j % 2 = 0 := by rw [<- Nat.beq_eq]; simp [h4]
      exact Tr.get_set_ne (by omega) (by omega) (by omega)
theorem Tr.get_set_eq {α : Type} {d x : α} : ∀ {t : Tr α} {i : Nat}, (t.set i x).get d i = x \/ (t.set i x).get d i = d
 | .e, i => by
  unfold Tr.set
  split
  ·rename_i h
   left
   unfold Tr.get
   simp only [h]
  ·right; rfl
 | .n y l r, i => by
  unfold Tr.set
  split
  ·rename_i h
   left
   unfold Tr.get
   simp only [h]
  ·rename_i h
   split
   ·rename_i h2
    unfold Tr.get
    simp only [h, h2]
    exact Tr.get_set_eq
   ·rename_i h2
    unfold Tr.get
    simp only [h, h2]
    exact Tr.get_set_eq

structure PrS where
 ni : Nat
 nb : Nat
 ti : Tr (Lb Int)
 tb : Tr (Lb Bool)
def PrS.i (σ : PrS) (n : Nat) : Lb Int := σ.ti.get Lb.top (n + 1)
def PrS.b (σ : PrS) (n : Nat) : Lb Bool := σ.tb.get Lb.top (n + 1)
def Rl {α : Type} (d : α) (n : Nat) (f : Nat -> Lb α) (l m : List α) : Prop := l.length = n /\ m.length = n /\ ∀ j, j < n -> (f j).ok (l.getD j d) (m.getD j d)
def PrS.ok (σ : PrS) (is1 : List Int) (bs1 : List Bool) (is2 : List Int) (bs2 : List Bool) : Prop := Rl 0 σ.ni σ.i is1 is2 /\ Rl false σ.nb σ.b bs1 bs2
theorem Rl.get {α : Type} {d : α} {n : Nat} {f : Nat -> Lb α} {l m : List α} (h : Rl d n f l m) (hf : ∀ j, n <= j -> f j = Lb.top) (j : Nat) : (f j).ok (l.getD j d) (m.getD j d) := by
 by_cases hj : j < n
 ·exact h.2.2 j hj
 ·rw [hf j (by omega)]; exact Lb.top_ok
def AI (σ : PrS) : A -> Lb Int
 | .v n => match Nat.blt n σ.ni with
  | true => σ.i n
  | false => Lb.cst 0
 | .c k => Lb.cst k
def BI (σ : PrS) : B -> Lb Bool
 | .v n => match Nat.blt n σ.nb with
  | true => σ.b n
  | false => Lb.cst false
 | .c k => Lb.cst k
theorem getD_ge {α : Type} {d : α} {l : List α} {j : Nat} (h : l.length <= j) : l.getD j d = d := by
 rw [zGi, List.getElem?_eq_none h]; rfl
def RI.lb (σ : PrS) : RI -> Lb Int
 | .ar op k a b => arL op k (AI σ a) (AI σ b)
 | .cv k a => op1L (IntKind.wrap k) (AI σ a)
 | .ite c a b => iteL (BI σ c) (AI σ a) (AI σ b)
 | .mn a b => op2L (fun x y => if y < x then y else x) (AI σ a) (AI σ b)
 | .mx a b => op2L (fun x y => if y > x then y else x) (AI σ a) (AI σ b)
 | .tab l a => op1L (fun x : Int => l.getD x.toNat 0) (AI σ a)
 | .get q a s k => same2 (AI σ q) (AI σ a)
 | .lenq q s => ⟨(AI σ q).s, none, none⟩
 | .rep n s => ⟨(AI σ n).s, none, none⟩
 | .setq q a s k x => ⟨(AI σ q).s && (AI σ a).s && (AI σ x).s, none, none⟩
 | .cat p q => ⟨(AI σ p).s && (AI σ q).s, none, none⟩
 | .sub q a b s => ⟨(AI σ q).s && (AI σ a).s && (AI σ b).s, none, none⟩
 | .lst l => ⟨l.all fun a => (AI σ a).s, none, none⟩
 | .b2i b => ⟨(BI σ b).s, none, none⟩
def RB.lb (σ : PrS) : RB -> Lb Bool
 | .cm op a b => op2L (cmB op) (AI σ a) (AI σ b)
 | .not a => op1L (fun x => !x) (BI σ a)
 | .and a b => andL (BI σ a) (BI σ b)
 | .or a b => orL (BI σ a) (BI σ b)
 | .eqb a b => op2L (fun x y => x == y) (BI σ a) (BI σ b)
 | .ite c a b => iteL (BI σ c) (BI σ a) (BI σ b)
 | .getb q a s k => same2 (AI σ q) (AI σ a)
def PrS.pushI (σ : PrS) (x : Lb Int) : PrS := { σ with ni := σ.ni + 1, ti := σ.ti.set (σ.ni + 1) x }
def PrS.pushB (σ : PrS) (x : Lb Bool) : PrS := { σ with nb := σ.nb + 1, tb := σ.tb.set (σ.nb + 1) x }
theorem getD_snoc_lt {α : Type} {d x : α} {l : List α} {j : Nat} (h : j < l.length) : (l ++ [x]).getD j d = l.getD j d := getD_append_left _ _ _ _ h
theorem getD_snoc_eq {α : Type} {d x : α} {l : List α} : (l ++ [x]).getD l.length d = x := by simp
theorem Rl.push {α : Type} {d x y : α} {n : Nat} {t : Tr (Lb α)} {u : Lb α} {l m : List α} (h : Rl d n (fun j => t.get Lb.top (j + 1)) l m) (hu : u.ok x y) :
  Rl d (n + 1) (fun j => (t.set (n + 1) u).get Lb.top (j + 1)) (l ++ [x]) (m ++ [y]) := by
 obtain ⟨h1, h2, h3⟩ := h
 refine ⟨by simp [h1], by simp [h2], fun j hj => ?_⟩
 simp only
 by_cases e : j = n
 ·have e1 : (l ++ [x]).getD j d = x := by rw [e, <- h1]; exact getD_snoc_eq
  have e2 : (m ++ [y]).getD j d = y := by rw [e, <- h2]; exact getD_snoc_eq
  rw [e1, e2, e]
  rcases Tr.get_set_eq (d := Lb.top) (x := u) (t := t) (i := n + 1) with h | h
  ·rw [h]; exact hu
  ·rw [h]; exact Lb.top_ok
 ·rw [getD_snoc_lt (by omega), getD_snoc_lt (by omega), Tr.get_set_ne (by omega) (by omega) (by omega)]
  exact h3 j (by omega)
theorem PrS.pushI_ok {σ : PrS} {is1 : List Int} {bs1 : List Bool} {is2 : List Int} {bs2 : List Bool} {u : Lb Int} {x y : Int} (h : σ.ok is1 bs1 is2 bs2) (hu : u.ok x y) : (σ.pushI u).ok (is1 ++ [x]) bs1 (is2 ++ [y]) bs2 :=
 ⟨Rl.push h.1 hu, h.2⟩
theorem PrS.pushB_ok {σ : PrS} {is1 : List Int} {bs1 : List Bool} {is2 : List Int} {bs2 : List Bool} {u : Lb Bool} {x y : Bool} (h : σ.ok is1 bs1 is2 bs2) (hu : u.ok x y) : (σ.pushB u).ok is1 (bs1 ++ [x]) is2 (bs2 ++ [y]) :=
 ⟨h.1, Rl.push h.2 hu⟩
def PrS.pushIs (σ : PrS) : Nat -> List (Lb Int) -> PrS
 | 0, _ => σ
 | n + 1, [] => (σ.pushI Lb.top).pushIs n []
 | n + 1, x :: l => (σ.pushI x).pushIs n l
def PrS.pushBs (σ : PrS) : Nat -> List (Lb Bool) -> PrS
 | 0, _ => σ
 | n + 1, [] => (σ.pushB Lb.top).pushBs n []
 | n + 1, x :: l => (σ.pushB x).pushBs n l
def Pw {α : Type} (d : α) (ls : List (Lb α)) (l m : List α) : Prop := ∀ j, (ls.getD j Lb.top).ok (l.getD j d) (m.getD j d)
theorem Pw.nil {α : Type} {d : α} {l m : List α} : Pw d [] l m := fun j => by simpa using Lb.top_ok
theorem Pw.cons {α : Type} {d x y : α} {u : Lb α} {ls : List (Lb α)} {l m : List α} (hu : u.ok x y) (h : Pw d ls l m) : Pw d (u :: ls) (x :: l) (y :: m) := by
 intro j
 cases j with
 | zero => simpa using hu
 | succ j => simpa using h j
theorem Pw.tail {α : Type} {d : α} {ls : List (Lb α)} {l m : List α} (h : Pw d ls l m) : Pw d ls.tail l.tail m.tail := fun j => by
 have := h (j + 1)
 cases ls <;> cases l <;> cases m <;> simpa using this
theorem padTo_succ {α : Type} {d : α} {n : Nat} {l : List α} : padTo d (n + 1) l = l.getD 0 d :: padTo d n l.tail := by
 cases l <;> simp [padTo]
theorem PrS.pushIs_ok : ∀ {n : Nat} {σ : PrS} {is1 : List Int} {bs1 : List Bool} {is2 : List Int} {bs2 : List Bool} {ls : List (Lb Int)} {l m : List Int}, σ.ok is1 bs1 is2 bs2 -> Pw 0 ls l m ->
  (σ.pushIs n ls).ok (is1 ++ padTo 0 n l) bs1 (is2 ++ padTo 0 n m) bs2
 | 0, σ, is1, bs1, is2, bs2, ls, l, m, h, hp => by simpa [padTo, PrS.pushIs] using h
 | n + 1, σ, is1, bs1, is2, bs2, ls, l, m, h, hp => by
  rw [padTo_succ, padTo_succ, show is1 ++ l.getD 0 0 :: padTo 0 n l.tail = (is1 ++ [l.getD 0 0]) ++ padTo 0 n l.tail by simp, show is2 ++ m.getD 0 0 :: padTo 0 n m.tail = (is2 ++ [m.getD 0 0]) ++ padTo 0 n m.tail by simp]
  cases ls with
  | nil => exact PrS.pushIs_ok (PrS.pushI_ok h (hp 0)) hp.tail
  | cons u ls => exact PrS.pushIs_ok (PrS.pushI_ok h (hp 0)) hp.tail
theorem PrS.pushBs_ok : ∀ {n : Nat} {σ : PrS} {is1 : List Int} {bs1 : List Bool} {is2 : List Int} {bs2 : List Bool} {ls : List (Lb Bool)} {l m : List Bool}, σ.ok is1 bs1 is2 bs2 -> Pw false ls l m ->
  (σ.pushBs n ls).ok is1 (bs1 ++ padTo false n l) is2 (bs2 ++ padTo false n m)
 | 0, σ, is1, bs1, is2, bs2, ls, l, m, h, hp => by simpa [padTo, PrS.pushBs] using h
 | n + 1, σ, is1, bs1, is2, bs2, ls, l, m, h, hp => by
  rw [padTo_succ, padTo_succ, show bs1 ++ l.getD 0 false :: padTo false n l.tail = (bs1 ++ [l.getD 0 false]) ++ padTo false n l.tail by simp, show bs2 ++ m.getD 0 false :: padTo false n m.tail = (bs2 ++ [m.getD 0 false]) ++ padTo false n m.tail by simp]
  cases ls with
  | nil => exact PrS.pushBs_ok (PrS.pushB_ok h (hp 0)) hp.tail
  | cons u ls => exact PrS.pushBs_ok (PrS.pushB_ok h (hp 0)) hp.tail

abbrev PF := List (Lb Int) -> List (Lb Bool) -> List (Lb Int) × List (Lb Bool)
def POk (F : Fun) (p : PF) : Prop := ∀ li lb is1 bs1 is2 bs2, is1.length = li.length -> is2.length = li.length -> bs1.length = lb.length -> bs2.length = lb.length -> Pw 0 li is1 is2 -> Pw false lb bs1 bs2 -> Pw 0 (p li lb).1 (F is1 bs1).1 (F is2 bs2).1 /\ Pw false (p li lb).2 (F is1 bs1).2 (F is2 bs2).2
def prEm (T : Nat -> PF) : List Em -> PrS -> PrS
 | [], σ => σ
 | .di _ r :: l, σ => prEm T l (σ.pushI (r.lb σ))
 | .db _ r :: l, σ => prEm T l (σ.pushB (r.lb σ))
 | .call f ai ab _ ni _ nb :: l, σ =>
  match T f (ai.map (AI σ)) (ab.map (BI σ)) with
  | (oi, ob) => prEm T l ((σ.pushIs ni oi).pushBs nb ob)
 | .ob _ _ :: l, σ => prEm T l σ
theorem Pw.map {α β : Type} {d : α} {f : β -> Lb α} {g h : β -> α} : ∀ {l : List β}, (∀ x, (f x).ok (g x) (h x)) -> Pw d (l.map f) (l.map g) (l.map h)
 | [], _ => Pw.nil
 | x :: l, hx => Pw.cons (hx x) (Pw.map hx)
def PrS.of (li : List (Lb Int)) (lb : List (Lb Bool)) : PrS := (PrS.pushIs ⟨0, 0, .e, .e⟩ li.length li).pushBs lb.length lb
theorem PrS.of_ok {li : List (Lb Int)} {lb : List (Lb Bool)} {is1 is2 : List Int} {bs1 bs2 : List Bool} (hi : Pw 0 li is1 is2) (hb : Pw false lb bs1 bs2)
  (h1 : is1.length = li.length) (h2 : is2.length = li.length) (h3 : bs1.length = lb.length) (h4 : bs2.length = lb.length) : (PrS.of li lb).ok is1 bs1 is2 bs2 := by
 have e : ∀ {α : Type} (d : α) (l : List α), padTo d l.length l = l := by
  intro α d l
  induction l with
  | nil => rfl
  | cons x l ih => simp [padTo, ih]
 have h0 : (⟨0, 0, .e, .e⟩ : PrS).ok [] [] [] [] := ⟨⟨rfl, rfl, fun j hj => absurd hj (Nat.not_lt_zero j)⟩, rfl, rfl, fun j hj => absurd hj (Nat.not_lt_zero j)⟩
 have := PrS.pushBs_ok (n := lb.length) (PrS.pushIs_ok (n := li.length) h0 hi) hb
 rw [<- h1, e 0 is1, h1, <- h2, e 0 is2, h2, <- h3, e false bs1, h3, <- h4, e false bs2, h4] at this
 exact this
def PF.nil : PF := fun _ _ => ([], [])
theorem POk.nil {F : Fun} : POk F PF.nil := fun _ _ _ _ _ _ _ _ _ _ _ _ => ⟨Pw.nil, Pw.nil⟩
def Smry.pr (T : Nat -> PF) (pre : Bool) (S : Smry) : PF := fun li lb =>
 match prEm T S.em (PrS.of li lb) with
 | σ => (S.ri.map (AI σ), (if pre then [Lb.top] else []) ++ S.rb.map (BI σ))

structure VI where
 vs : Option (List Int)
 mm : Option Int
def VI.ok (l : VI) (x : Int) : Prop := (∀ L, l.vs = some L -> x ∈ L) /\ ∀ m, l.mm = some m -> arI .and .u8 x m = x
def VI.top : VI := ⟨none, none⟩
def VI.cst (v : Int) : VI := ⟨some [v], none⟩
def VI.of (L : List Int) : VI := ⟨some L, none⟩
def VI.msk (m : Int) : VI := ⟨none, some m⟩
abbrev VB := Option Bool
def VB.ok (l : VB) (x : Bool) : Prop := ∀ v, l = some v -> x = v
theorem VI.top_ok {x : Int} : VI.top.ok x := ⟨fun L h => (by cases h), fun m h => (by cases h)⟩
theorem VI.cst_ok {v : Int} : (VI.cst v).ok v := ⟨fun L h => (by cases h; simp), fun m h => (by cases h)⟩
theorem VI.of_ok {L : List Int} {x : Int} (h : x ∈ L) : (VI.of L).ok x := ⟨fun M e => (by cases e; exact h), fun m h => (by cases h)⟩
theorem VI.msk_ok {m x : Int} (h : arI .and .u8 x m = x) : (VI.msk m).ok x := ⟨fun M e => (by cases e), fun m h' => (by cases h'; exact h)⟩
theorem VB.none_ok {x : Bool} : VB.ok none x := fun v h => by cases h
theorem VB.some_ok {x : Bool} : VB.ok (some x) x := fun v h => by cases h; rfl

def dedI : List Int -> List Int -> List Int
 | [], acc => acc
 | x :: l, acc => if acc.any (fun y => decide (x = y)) then dedI l acc else dedI l (x :: acc)
theorem dedI_mem {x : Int} : ∀ {l acc : List Int}, x ∈ l \/ x ∈ acc -> x ∈ dedI l acc
 | [], acc, h => by rcases h with h | h; cases h; exact h
 | y :: l, acc, h => by
  unfold dedI
  split
  ·rename_i hc
   simp only [List.any_eq_true, decide_eq_true_eq] at hc
   obtain ⟨z, hz, rfl⟩ := hc
   refine dedI_mem ?_
   rcases h with h | h
   ·rcases List.mem_cons.1 h with rfl | h
    ·exact .inr hz
    ·exact .inl h
   ·exact .inr h
  ·refine dedI_mem ?_
   rcases h with h | h
   ·rcases List.mem_cons.1 h with rfl | h
    ·exact .inr (by simp)
    ·exact .inl h
   ·exact .inr (by simp [h])
def small (l : List Int) : Option (List Int) := if Nat.ble l.length 300 then some l else none
theorem small_l {l L : List Int} (h : small l = some L) : l = L := by
 unfold small at h
 split at h
 ·exact Option.some.inj h
 ·cases h
def map1 (f : Int -> Int) (x : Option (List Int)) : Option (List Int) :=
 match x with
 | some L => small (dedI (L.map f) [])
 | none => none
theorem map1_ok {f : Int -> Int} {x : Option (List Int)} {v : Int} (hx : ∀ L, x = some L -> v ∈ L) : ∀ L, map1 f x = some L -> f v ∈ L := by
 intro L h
 unfold map1 at h
 split at h
 ·rename_i M
  rw [<- small_l h]
  exact dedI_mem (.inl (List.mem_map.2 ⟨v, hx M rfl, rfl⟩))
 ·cases h
def map2 (f : Int -> Int -> Int) (x y : Option (List Int)) : Option (List Int) :=
 match x, y with
 | some L, some M => if Nat.ble (L.length * M.length) 100 then small (dedI (L.flatMap fun a => M.map fun b => f a b) []) else none
 | _, _ => none
theorem map2_ok {f : Int -> Int -> Int} {x y : Option (List Int)} {v w : Int} (hx : ∀ L, x = some L -> v ∈ L) (hy : ∀ L, y = some L -> w ∈ L) : ∀ L, map2 f x y = some L -> f v w ∈ L := by
 intro L h
 unfold map2 at h
 split at h
 ·rename_i M N
  split at h
  ·rw [<- small_l h]
   exact dedI_mem (.inl (List.mem_flatMap.2 ⟨v, hx M rfl, List.mem_map.2 ⟨w, hy N rfl, rfl⟩⟩))
  ·cases h
 ·cases h
def tru1 (f : Int -> Bool) (x : Option (List Int)) : VB :=
 match x with
 | some (a :: L) => match f a with
  | true => if L.all f then some true else none
  | false => if L.any f then none else some false
 | _ => none
def tru2 (f : Int -> Int -> Bool) (x y : Option (List Int)) : VB :=
 match x, y with
 | some (a :: L), some (b :: M) => if Nat.ble ((L.length + 1) * (M.length + 1)) 200 then
   match f a b with
   | true => if (a :: L).all (fun x => (b :: M).all (f x)) then some true else none
   | false => if (a :: L).any (fun x => (b :: M).any (f x)) then none else some false
  else none
 | _, _ => none
theorem tru2_ok {f : Int -> Int -> Bool} {x y : Option (List Int)} {v w : Int} (hx : ∀ L, x = some L -> v ∈ L) (hy : ∀ L, y = some L -> w ∈ L) : VB.ok (tru2 f x y) (f v w) := by
 intro b h
 unfold tru2 at h
 split at h
 ·rename_i a L c M
  have hm := hx _ rfl
  have hn := hy _ rfl
  split at h
  ·split at h
   ·split at h
    ·rename_i hl
     cases h
     exact List.all_eq_true.1 (List.all_eq_true.1 hl v hm) w hn
    ·cases h
   ·split at h
    ·cases h
    ·rename_i hl
     cases h
     cases e : f v w
     ·rfl
     ·exact absurd (List.any_eq_true.2 ⟨v, hm, List.any_eq_true.2 ⟨w, hn, e⟩⟩) hl
  ·cases h
 ·cases h

theorem and8_nat (x m : Int) : arI .and .u8 x m = ((BitVec.ofInt 8 x &&& BitVec.ofInt 8 m).toNat : Int) := by
 show IntKind.wrap .u8 ↑(BitVec.ofInt 8 x &&& BitVec.ofInt 8 m).toNat = _
 rw [wrap_u8]
 have := (BitVec.ofInt 8 x &&& BitVec.ofInt 8 m).isLt
 omega
theorem ofInt_nat8 (b : BitVec 8) : BitVec.ofInt 8 (b.toNat : Int) = b := by
 apply BitVec.eq_of_toNat_eq
 have := b.isLt
 simp
theorem or8_nat (x m : Int) : arI .or .u8 x m = ((BitVec.ofInt 8 x ||| BitVec.ofInt 8 m).toNat : Int) := by
 show IntKind.wrap .u8 ↑(BitVec.ofInt 8 x ||| BitVec.ofInt 8 m).toNat = _
 rw [wrap_u8]
 have := (BitVec.ofInt 8 x ||| BitVec.ofInt 8 m).isLt
 omega
theorem andNot8_nat (x m : Int) : arI .andNot .u8 x m = ((BitVec.ofInt 8 x &&& ~~~ BitVec.ofInt 8 m).toNat : Int) := by
 show IntKind.wrap .u8 ↑(BitVec.ofInt 8 x &&& ~~~ BitVec.ofInt 8 m).toNat = _
 rw [wrap_u8]
 have := (BitVec.ofInt 8 x &&& ~~~ BitVec.ofInt 8 m).isLt
 omega
theorem mk_iff {x m : Int} : arI .and .u8 x m = x ↔ ∃ b : BitVec 8, x = (b.toNat : Int) /\ b &&& BitVec.ofInt 8 m = b := by
 rw [and8_nat]
 constructor
 ·intro h
  refine ⟨BitVec.ofInt 8 x &&& BitVec.ofInt 8 m, h.symm, ?_⟩
  rw [BitVec.and_assoc, BitVec.and_self]
 ·rintro ⟨b, rfl, h⟩
  rw [ofInt_nat8, h]
theorem mk_and_l {x y m : Int} (h : arI .and .u8 x m = x) : arI .and .u8 (arI .and .u8 x y) m = arI .and .u8 x y := by
 obtain ⟨b, rfl, hb⟩ := mk_iff.1 h
 refine mk_iff.2 ⟨b &&& BitVec.ofInt 8 y, by rw [and8_nat, ofInt_nat8], ?_⟩
 rw [BitVec.and_assoc, BitVec.and_comm (BitVec.ofInt 8 y), <- BitVec.and_assoc, hb]
theorem mk_and_r {x y m : Int} (h : arI .and .u8 y m = y) : arI .and .u8 (arI .and .u8 x y) m = arI .and .u8 x y := by
 obtain ⟨b, rfl, hb⟩ := mk_iff.1 h
 refine mk_iff.2 ⟨BitVec.ofInt 8 x &&& b, by rw [and8_nat, ofInt_nat8], ?_⟩
 rw [BitVec.and_assoc, hb]
theorem mk_andNot {x y m : Int} (h : arI .and .u8 x m = x) : arI .and .u8 (arI .andNot .u8 x y) m = arI .andNot .u8 x y := by
 obtain ⟨b, rfl, hb⟩ := mk_iff.1 h
 refine mk_iff.2 ⟨b &&& ~~~ BitVec.ofInt 8 y, by rw [andNot8_nat, ofInt_nat8], ?_⟩
 rw [BitVec.and_assoc, BitVec.and_comm (~~~ BitVec.ofInt 8 y), <- BitVec.and_assoc, hb]
theorem mk_or {x y m : Int} (h : arI .and .u8 x m = x) (h' : arI .and .u8 y m = y) : arI .and .u8 (arI .or .u8 x y) m = arI .or .u8 x y := by
 obtain ⟨b, rfl, hb⟩ := mk_iff.1 h
 obtain ⟨c, rfl, hc⟩ := mk_iff.1 h'
 refine mk_iff.2 ⟨b ||| c, by rw [or8_nat, ofInt_nat8, ofInt_nat8], ?_⟩
 have : (b ||| c) &&& BitVec.ofInt 8 m = (b &&& BitVec.ofInt 8 m) ||| (c &&& BitVec.ofInt 8 m) := by
  rw [BitVec.and_comm, BitVec.and_or_distrib_left, BitVec.and_comm, BitVec.and_comm (BitVec.ofInt 8 m)]
 rw [this, hb, hc]
def VI.within (l : VI) (m : Int) : Bool := (match l.mm with
  | some k => decide (k = m)
  | none => false) || (match l.vs with
  | some L => L.all fun x => decide (arI .and .u8 x m = x)
  | none => false)
theorem VI.within_ok {l : VI} {m x : Int} (h : l.within m = true) (hx : l.ok x) : arI .and .u8 x m = x := by
 unfold VI.within at h
 simp only [Bool.or_eq_true] at h
 rcases h with h | h
 ·split at h
  ·rename_i k hk
   have := of_decide_eq_true h
   subst this
   exact hx.2 _ hk
  ·cases h
 ·split at h
  ·rename_i L hL
   exact of_decide_eq_true (List.all_eq_true.1 h x (hx.1 L hL))
  ·cases h
def isC : VI -> Option Int
 | ⟨some [c], _⟩ => some c
 | _ => none
theorem isC_ok {l : VI} {c x : Int} (h : isC l = some c) (hx : l.ok x) : x = c := by
 unfold isC at h
 split at h
 ·cases h
  simpa using hx.1 _ rfl
 ·cases h
def mkOf (op : BinOp) (k : IntKind) (x y : VI) : Option Int :=
 match op, k with
 | .and, .u8 => match x.mm, y.mm, isC x, isC y with
  | some m, _, _, _ => some m
  | none, some m, _, _ => some m
  | none, none, some c, _ => if decide (arI .and .u8 c c = c) then some c else none
  | none, none, none, some c => if decide (arI .and .u8 c c = c) then some c else none
  | none, none, none, none => none
 | .andNot, .u8 => x.mm
 | .or, .u8 => match x.mm, y.mm with
  | some m, _ => if y.within m then some m else none
  | none, some m => if x.within m then some m else none
  | none, none => none
 | _, _ => none
theorem mkOf_ok {op : BinOp} {k : IntKind} {x y : VI} {v w : Int} (hx : x.ok v) (hy : y.ok w) : ∀ m, mkOf op k x y = some m -> arI .and .u8 (arI op k v w) m = arI op k v w := by
 intro m h
 unfold mkOf at h
 split at h
 ·split at h
  ·rename_i e; cases h; exact mk_and_l (hx.2 _ e)
  ·rename_i e; cases h; exact mk_and_r (hy.2 _ e)
  ·rename_i e
   split at h
   ·rename_i hd; cases h
    have := isC_ok e hx
    subst this
    exact mk_and_l (of_decide_eq_true hd)
   ·cases h
  ·rename_i e
   split at h
   ·rename_i hd; cases h
    have := isC_ok e hy
    subst this
    exact mk_and_r (of_decide_eq_true hd)
   ·cases h
  ·cases h
 ·exact mk_andNot (hx.2 _ h)
 ·split at h
  ·rename_i e
   split at h
   ·rename_i hw; cases h
    exact mk_or (hx.2 _ e) (VI.within_ok hw hy)
   ·cases h
  ·rename_i e
   split at h
   ·rename_i hw; cases h
    exact mk_or (VI.within_ok hw hx) (hy.2 _ e)
   ·cases h
  ·cases h
 ·cases h

def arV (op : BinOp) (k : IntKind) (x y : VI) : VI := ⟨map2 (arI op k) x.vs y.vs, mkOf op k x y⟩
theorem arV_ok {op : BinOp} {k : IntKind} {x y : VI} {v w : Int} (hx : x.ok v) (hy : y.ok w) : (arV op k x y).ok (arI op k v w) := ⟨map2_ok hx.1 hy.1, mkOf_ok hx hy⟩
def op1V (f : Int -> Int) (x : VI) : VI := ⟨map1 f x.vs, none⟩
theorem op1V_ok {f : Int -> Int} {x : VI} {v : Int} (hx : x.ok v) : (op1V f x).ok (f v) := ⟨map1_ok hx.1, fun m h => by cases h⟩
def op2V (f : Int -> Int -> Int) (x y : VI) : VI := ⟨map2 f x.vs y.vs, none⟩
theorem op2V_ok {f : Int -> Int -> Int} {x y : VI} {v w : Int} (hx : x.ok v) (hy : y.ok w) : (op2V f x y).ok (f v w) := ⟨map2_ok hx.1 hy.1, fun m h => by cases h⟩
def uniO (x y : Option (List Int)) : Option (List Int) :=
 match x, y with
 | some L, some M => small (dedI L M)
 | _, _ => none
theorem uniO_ok {x y : Option (List Int)} {v : Int} (h : (∀ L, x = some L -> v ∈ L) \/ ∀ L, y = some L -> v ∈ L) : ∀ L, uniO x y = some L -> v ∈ L := by
 intro L e
 unfold uniO at e
 split at e
 ·rename_i M N
  rw [<- small_l e]
  refine dedI_mem ?_
  rcases h with h | h
  ·exact .inl (h M rfl)
  ·exact .inr (h N rfl)
 ·cases e
def VI.join (x y : VI) : VI := ⟨uniO x.vs y.vs, match x.mm, y.mm with
 | some m, _ => if y.within m then some m else none
 | none, some m => if x.within m then some m else none
 | none, none => none⟩
theorem VI.join_ok {x y : VI} {v : Int} (h : x.ok v \/ y.ok v) : (x.join y).ok v := by
 refine ⟨uniO_ok (h.imp (·.1) (·.1)), fun m e => ?_⟩
 simp only [VI.join] at e
 split at e
 ·rename_i k hk
  split at e
  ·rename_i hw; cases e
   rcases h with h | h
   ·exact h.2 _ hk
   ·exact VI.within_ok hw h
  ·cases e
 ·rename_i k _ hk
  split at e
  ·rename_i hw; cases e
   rcases h with h | h
   ·exact VI.within_ok hw h
   ·exact h.2 _ hk
  ·cases e
 ·cases e
def iteV (c : VB) (x y : VI) : VI := match c with
 | some true => x
 | some false => y
 | none => x.join y
theorem iteV_ok {c : VB} {x y : VI} {b : Bool} {v w : Int} (hc : c.ok b) (hx : x.ok v) (hy : y.ok w) : (iteV c x y).ok (if b then v else w) := by
 unfold iteV
 split
 ·rw [hc true rfl]; exact hx
 ·rw [hc false rfl]; exact hy
 ·cases b
  ·exact VI.join_ok (.inr hy)
  ·exact VI.join_ok (.inl hx)

structure VaS where
 ni : Nat
 nb : Nat
 ti : Tr VI
 tb : Tr VB
def VaS.i (σ : VaS) (n : Nat) : VI := σ.ti.get VI.top (n + 1)
def VaS.b (σ : VaS) (n : Nat) : VB := σ.tb.get none (n + 1)
def Vl {α β : Type} (ok : β -> α -> Prop) (d : α) (n : Nat) (f : Nat -> β) (l : List α) : Prop := l.length = n /\ ∀ j, j < n -> ok (f j) (l.getD j d)
def VaS.ok (σ : VaS) (is : List Int) (bs : List Bool) : Prop := Vl VI.ok 0 σ.ni σ.i is /\ Vl VB.ok false σ.nb σ.b bs
def AV (σ : VaS) : A -> VI
 | .v n => match Nat.blt n σ.ni with
  | true => σ.i n
  | false => VI.cst 0
 | .c k => VI.cst k
def BV (σ : VaS) : B -> VB
 | .v n => match Nat.blt n σ.nb with
  | true => σ.b n
  | false => some false
 | .c k => some k
theorem AV_ok {σ : VaS} {is : List Int} {bs : List Bool} (h : σ.ok is bs) (x : A) : (AV σ x).ok (x.d (envOf is bs)) := by
 cases x with
 | v n =>
  cases hn : Nat.blt n σ.ni with
  | true =>
   simp only [AV, hn]
   rw [Nat.blt_eq] at hn
   exact h.1.2 n hn
  | false =>
   simp only [AV, hn]
   have hn' : ¬ n < σ.ni := by rw [<- Nat.blt_eq]; simp [hn]
   show (VI.cst 0).ok (is.getD n 0)
   rw [getD_ge (by rw [h.1.1]; omega)]
   exact VI.cst_ok
 | c k => exact VI.cst_ok
theorem BV_ok {σ : VaS} {is : List Int} {bs : List Bool} (h : σ.ok is bs) (x : B) : VB.ok (BV σ x) (x.d (envOf is bs)) := by
 cases x with
 | v n =>
  cases hn : Nat.blt n σ.nb with
  | true =>
   simp only [BV, hn]
   rw [Nat.blt_eq] at hn
   exact h.2.2 n hn
  | false =>
   simp only [BV, hn]
   have hn' : ¬ n < σ.nb := by rw [<- Nat.blt_eq]; simp [hn]
   show VB.ok (some false) (bs.getD n false)
   rw [getD_ge (by rw [h.2.1]; omega)]
   exact VB.some_ok
 | c k => exact VB.some_ok
def cstV (v : VI) (f : Int -> VI) : VI := match v.vs with
 | some [c] => f c
 | _ => VI.top
theorem cstV_ok {v : VI} {x : Int} {f : Int -> VI} {y : Int} (h : v.ok x) (hf : (f x).ok y) : (cstV v f).ok y := by
 unfold cstV
 split
 ·rename_i c hc
  have := h.1 _ hc
  simp only [List.mem_singleton] at this
  rw [<- this]; exact hf
 ·exact VI.top_ok
def lstC (g : A -> VI) : List A -> Option (List Int)
 | [] => some []
 | a :: l => match (g a).vs, lstC g l with
  | some [c], some r => some (c :: r)
  | _, _ => none
def lstV (g : A -> VI) (l : List A) : VI := match lstC g l with
 | some r => VI.cst (enc r)
 | none => VI.top
theorem lstC_ok {g : A -> VI} {ρ : Env} (h : ∀ a, (g a).ok (a.d ρ)) : ∀ {l : List A} {r : List Int}, lstC g l = some r -> l.map (A.d ρ) = r
 | [], r, e => by simp only [lstC, zOi] at e; subst e; rfl
 | a :: l, r, e => by
  unfold lstC at e
  split at e
  ·rename_i c r' h1 h2
   simp only [zOi] at e
   subst e
   have := (h a).1 _ h1
   simp only [List.mem_singleton] at this
   rw [List.map_cons, this, lstC_ok h h2]
  ·cases e
theorem lstV_ok {g : A -> VI} {ρ : Env} (h : ∀ a, (g a).ok (a.d ρ)) (l : List A) : (lstV g l).ok (enc (l.map (A.d ρ))) := by
 unfold lstV
 split
 ·rename_i r hr
  rw [lstC_ok h hr]; exact VI.cst_ok
 ·exact VI.top_ok
def RI.va (σ : VaS) : RI -> VI
 | .ar op k a b => arV op k (AV σ a) (AV σ b)
 | .cv k a => op1V (IntKind.wrap k) (AV σ a)
 | .ite c a b => iteV (BV σ c) (AV σ a) (AV σ b)
 | .mn a b => op2V (fun x y => if y < x then y else x) (AV σ a) (AV σ b)
 | .mx a b => op2V (fun x y => if y > x then y else x) (AV σ a) (AV σ b)
 | .tab l a => op1V (fun x : Int => l.getD x.toNat 0) (AV σ a)
 | .get q a s k => op2V (fun q a => (dec q).getD (a.toNat * s + k) 0) (AV σ q) (AV σ a)
 | .lenq q s => op1V (fun q => ((dec q).length / s : Nat)) (AV σ q)
 | .b2i b => iteV (BV σ b) (AV σ (.c 1)) (AV σ (.c 0))
 | .rep n s => op1V (fun n => enc (List.replicate (n.toNat * s) 0)) (AV σ n)
 | .cat p q => op2V (fun p q => enc (dec p ++ dec q)) (AV σ p) (AV σ q)
 | .setq q a s k x => cstV (AV σ x) fun x => op2V (fun q a => enc ((dec q).set (a.toNat * s + k) x)) (AV σ q) (AV σ a)
 | .lst l => lstV (AV σ) l
 | _ => VI.top
def mapB (f : Bool -> Bool) (x : VB) : VB := x.map f
theorem mapB_ok {f : Bool -> Bool} {x : VB} {b : Bool} (h : x.ok b) : VB.ok (mapB f x) (f b) := fun v e => by
 simp only [mapB, Option.map_eq_some_iff] at e
 obtain ⟨u, h1, h2⟩ := e
 rw [h u h1]; exact h2
def RB.va (σ : VaS) : RB -> VB
 | .cm op a b => tru2 (cmB op) (AV σ a).vs (AV σ b).vs
 | .not a => mapB (fun x => !x) (BV σ a)
 | .and a b => andO (BV σ a) (BV σ b)
 | .or a b => orO (BV σ a) (BV σ b)
 | .eqb a b => op2 (fun x y : Bool => x == y) (BV σ a) (BV σ b)
 | .ite c a b => iteO (BV σ c) (BV σ a) (BV σ b)
 | .getb q a s k => tru2 (fun q a => (dec q).getD (a.toNat * s + k) 0 != 0) (AV σ q).vs (AV σ a).vs
theorem RI.va_ok {σ : VaS} {is : List Int} {bs : List Bool} (h : σ.ok is bs) (r : RI) : (r.va σ).ok (r.d (envOf is bs)) := by
 cases r with
 | ar op k a b => exact arV_ok (AV_ok h a) (AV_ok h b)
 | cv k a => exact op1V_ok (AV_ok h a)
 | ite c a b => exact iteV_ok (BV_ok h c) (AV_ok h a) (AV_ok h b)
 | mn a b => exact op2V_ok (f := fun x y => if y < x then y else x) (AV_ok h a) (AV_ok h b)
 | mx a b => exact op2V_ok (f := fun x y => if y > x then y else x) (AV_ok h a) (AV_ok h b)
 | tab l a => exact op1V_ok (f := fun x : Int => l.getD x.toNat 0) (AV_ok h a)
 | get q a s k => exact op2V_ok (f := fun q a => (dec q).getD (a.toNat * s + k) 0) (AV_ok h q) (AV_ok h a)
 | lenq q s => exact op1V_ok (f := fun q => ((dec q).length / s : Nat)) (AV_ok h q)
 | b2i b => exact iteV_ok (BV_ok h b) (AV_ok h (.c 1)) (AV_ok h (.c 0))
 | rep n s => exact op1V_ok (f := fun n => enc (List.replicate (n.toNat * s) 0)) (AV_ok h n)
 | cat p q => exact op2V_ok (f := fun p q => enc (dec p ++ dec q)) (AV_ok h p) (AV_ok h q)
 | setq q a s k x => exact cstV_ok (AV_ok h x) (op2V_ok (f := fun q a => enc ((dec q).set (a.toNat * s + k) (x.d (envOf is bs)))) (AV_ok h q) (AV_ok h a))
 | lst l => exact lstV_ok (AV_ok h) l
 | _ => exact VI.top_ok
theorem RB.va_ok {σ : VaS} {is : List Int} {bs : List Bool} (h : σ.ok is bs) (r : RB) : VB.ok (r.va σ) (r.d (envOf is bs)) := by
 cases r with
 | cm op a b => exact tru2_ok (AV_ok h a).1 (AV_ok h b).1
 | not a => exact mapB_ok (f := fun x => !x) (BV_ok h a)
 | and a b => exact andO_ok (BV_ok h a) (BV_ok h b)
 | or a b => exact orO_ok (BV_ok h a) (BV_ok h b)
 | eqb a b => exact op2_ok (f := fun x y : Bool => x == y) (BV_ok h a) (BV_ok h b)
 | ite c a b => exact iteO_ok (BV_ok h c) (BV_ok h a) (BV_ok h b)
 | getb q a s k => exact tru2_ok (f := fun q a => (dec q).getD (a.toNat * s + k) 0 != 0) (AV_ok h q).1 (AV_ok h a).1
def VaS.pushI (σ : VaS) (x : VI) : VaS := { σ with ni := σ.ni + 1, ti := σ.ti.set (σ.ni + 1) x }
def VaS.pushB (σ : VaS) (x : VB) : VaS := { σ with nb := σ.nb + 1, tb := σ.tb.set (σ.nb + 1) x }
theorem Vl.push {α β : Type} {ok : β -> α -> Prop} {d x : α} {n : Nat} {t : Tr β} {tp : β} (htp : ∀ x, ok tp x) {u : β} {l : List α} (h : Vl ok d n (fun j => t.get tp (j + 1)) l) (hu : ok u x) :
  Vl ok d (n + 1) (fun j => (t.set (n + 1) u).get tp (j + 1)) (l ++ [x]) := by
 obtain ⟨h1, h3⟩ := h
 refine ⟨by simp [h1], fun j hj => ?_⟩
 simp only
 by_cases e : j = n
 ·have e1 : (l ++ [x]).getD j d = x := by rw [e, <- h1]; exact getD_snoc_eq
  rw [e1, e]
  rcases Tr.get_set_eq (d := tp) (x := u) (t := t) (i := n + 1) with h | h
  ·rw [h]; exact hu
  ·rw [h]; exact htp x
 ·rw [getD_snoc_lt (by omega), Tr.get_set_ne (by omega) (by omega) (by omega)]
  exact h3 j (by omega)
theorem VaS.pushI_ok {σ : VaS} {is : List Int} {bs : List Bool} {u : VI} {x : Int} (h : σ.ok is bs) (hu : u.ok x) : (σ.pushI u).ok (is ++ [x]) bs := ⟨Vl.push (fun _ => VI.top_ok) h.1 hu, h.2⟩
theorem VaS.pushB_ok {σ : VaS} {is : List Int} {bs : List Bool} {u : VB} {x : Bool} (h : σ.ok is bs) (hu : u.ok x) : (σ.pushB u).ok is (bs ++ [x]) := ⟨h.1, Vl.push (fun _ => VB.none_ok) h.2 hu⟩
def VaS.pushIs (σ : VaS) : Nat -> List VI -> VaS
 | 0, _ => σ
 | n + 1, [] => (σ.pushI VI.top).pushIs n []
 | n + 1, x :: l => (σ.pushI x).pushIs n l
def VaS.pushBs (σ : VaS) : Nat -> List VB -> VaS
 | 0, _ => σ
 | n + 1, [] => (σ.pushB none).pushBs n []
 | n + 1, x :: l => (σ.pushB x).pushBs n l
def Vw {α β : Type} (ok : β -> α -> Prop) (tp : β) (d : α) (ls : List β) (l : List α) : Prop := ∀ j, ok (ls.getD j tp) (l.getD j d)
abbrev VwI := Vw VI.ok VI.top 0
abbrev VwB := Vw VB.ok none false
theorem VwI.nil {l : List Int} : VwI [] l := fun j => by simpa using VI.top_ok
theorem VwB.nil {l : List Bool} : VwB [] l := fun j => by simpa using VB.none_ok
theorem Vw.cons {α β : Type} {ok : β -> α -> Prop} {tp : β} {d x : α} {u : β} {ls : List β} {l : List α} (hu : ok u x) (h : Vw ok tp d ls l) : Vw ok tp d (u :: ls) (x :: l) := by
 intro j
 cases j with
 | zero => simpa using hu
 | succ j => simpa using h j
theorem Vw.tail {α β : Type} {ok : β -> α -> Prop} {tp : β} {d : α} {ls : List β} {l : List α} (h : Vw ok tp d ls l) : Vw ok tp d ls.tail l.tail := fun j => by
 have := h (j + 1)
 cases ls <;> cases l <;> simpa using this
theorem VaS.pushIs_ok : ∀ {n : Nat} {σ : VaS} {is : List Int} {bs : List Bool} {ls : List VI} {l : List Int}, σ.ok is bs -> VwI ls l -> (σ.pushIs n ls).ok (is ++ padTo 0 n l) bs
 | 0, σ, is, bs, ls, l, h, hp => by simpa [padTo, VaS.pushIs] using h
 | n + 1, σ, is, bs, ls, l, h, hp => by
  rw [padTo_succ, show is ++ l.getD 0 0 :: padTo 0 n l.tail = (is ++ [l.getD 0 0]) ++ padTo 0 n l.tail by simp]
  cases ls with
  | nil => exact VaS.pushIs_ok (VaS.pushI_ok h (hp 0)) hp.tail
  | cons u ls => exact VaS.pushIs_ok (VaS.pushI_ok h (hp 0)) hp.tail
theorem VaS.pushBs_ok : ∀ {n : Nat} {σ : VaS} {is : List Int} {bs : List Bool} {ls : List VB} {l : List Bool}, σ.ok is bs -> VwB ls l -> (σ.pushBs n ls).ok is (bs ++ padTo false n l)
 | 0, σ, is, bs, ls, l, h, hp => by simpa [padTo, VaS.pushBs] using h
 | n + 1, σ, is, bs, ls, l, h, hp => by
  rw [padTo_succ, show bs ++ l.getD 0 false :: padTo false n l.tail = (bs ++ [l.getD 0 false]) ++ padTo false n l.tail by simp]
  cases ls with
  | nil => exact VaS.pushBs_ok (VaS.pushB_ok h (hp 0)) hp.tail
  | cons u ls => exact VaS.pushBs_ok (VaS.pushB_ok h (hp 0)) hp.tail

abbrev VF := List VI -> List VB -> List VI × List VB
def VOk (F : Fun) (p : VF) : Prop := ∀ li lb is bs, is.length = li.length -> bs.length = lb.length -> VwI li is -> VwB lb bs -> VwI (p li lb).1 (F is bs).1 /\ VwB (p li lb).2 (F is bs).2
def VF.nil : VF := fun _ _ => ([], [])
theorem VOk.nil {F : Fun} : VOk F VF.nil := fun _ _ _ _ _ _ _ _ => ⟨VwI.nil, VwB.nil⟩
def vaEm (T : Nat -> VF) : List Em -> VaS -> VaS
 | [], σ => σ
 | .di _ r :: l, σ => vaEm T l (σ.pushI (r.va σ))
 | .db _ r :: l, σ => vaEm T l (σ.pushB (r.va σ))
 | .call f ai ab _ ni _ nb :: l, σ =>
  match T f (ai.map (AV σ)) (ab.map (BV σ)) with
  | (oi, ob) => vaEm T l ((σ.pushIs ni oi).pushBs nb ob)
 | .ob _ _ :: l, σ => vaEm T l σ
theorem VwI.map {β : Type} {f : β -> VI} {g : β -> Int} : ∀ {l : List β}, (∀ x, (f x).ok (g x)) -> VwI (l.map f) (l.map g)
 | [], _ => VwI.nil
 | x :: l, hx => Vw.cons (hx x) (VwI.map hx)
theorem VwB.map {β : Type} {f : β -> VB} {g : β -> Bool} : ∀ {l : List β}, (∀ x, VB.ok (f x) (g x)) -> VwB (l.map f) (l.map g)
 | [], _ => VwB.nil
 | x :: l, hx => Vw.cons (hx x) (VwB.map hx)
theorem vaEm_ok {Φ : Funs} {T : Nat -> VF} (hT : ∀ f, VOk (Φ f) (T f)) : ∀ {l : List Em} {σ : VaS} {is : List Int} {bs : List Bool}, σ.ok is bs -> (vaEm T l σ).ok (evEm Φ l is bs).1 (evEm Φ l is bs).2
 | [], σ, is, bs, h => h
 | .di _ r :: l, σ, is, bs, h => vaEm_ok hT (l := l) (VaS.pushI_ok h (r.va_ok h))
 | .db _ r :: l, σ, is, bs, h => vaEm_ok hT (l := l) (VaS.pushB_ok h (r.va_ok h))
 | .call f ai ab _ ni _ nb :: l, σ, is, bs, h => by
  have h1 := hT f (ai.map (AV σ)) (ab.map (BV σ)) (ai.map (A.d (envOf is bs))) (ab.map (B.d (envOf is bs))) (by simp) (by simp) (VwI.map (AV_ok h)) (VwB.map (BV_ok h))
  simp only [vaEm, evEm]
  exact vaEm_ok hT (VaS.pushBs_ok (VaS.pushIs_ok h h1.1) h1.2)
 | .ob _ _ :: l, σ, is, bs, h => vaEm_ok hT (l := l) h
def VaS.of (li : List VI) (lb : List VB) : VaS := (VaS.pushIs ⟨0, 0, .e, .e⟩ li.length li).pushBs lb.length lb
theorem padTo_self {α : Type} (d : α) : ∀ (l : List α), padTo d l.length l = l
 | [] => rfl
 | x :: l => by simp [padTo, padTo_self d l]
theorem VaS.of_ok {li : List VI} {lb : List VB} {is : List Int} {bs : List Bool} (hi : VwI li is) (hb : VwB lb bs) (h1 : is.length = li.length) (h3 : bs.length = lb.length) : (VaS.of li lb).ok is bs := by
 have h0 : (⟨0, 0, .e, .e⟩ : VaS).ok [] [] := ⟨⟨rfl, fun j hj => absurd hj (Nat.not_lt_zero j)⟩, rfl, fun j hj => absurd hj (Nat.not_lt_zero j)⟩
 have := VaS.pushBs_ok (n := lb.length) (VaS.pushIs_ok (n := li.length) h0 hi) hb
 rw [<- h1, padTo_self, h1, <- h3, padTo_self, h3] at this
 exact this
def obV (σ : VaS) (l : List Em) : Bool := l.all fun
 | .ob g b => g.any (fun p => match BV σ p.1 with
   | some v => v != p.2
   | none => false) || (match BV σ b with
   | some true => true
   | _ => false)
 | _ => true
theorem obV_ok {σ : VaS} {is : List Int} {bs : List Bool} (h : σ.ok is bs) {l : List Em} (ho : obV σ l = true) : obAll (envOf is bs) l = true := by
 unfold obAll
 unfold obV at ho
 rw [List.all_eq_true] at ho ⊢
 intro e he
 have := ho e he
 cases e with
 | ob g b =>
  simp only [Bool.or_eq_true] at this ⊢
  rcases this with h1 | h1
  ·left
   rw [List.any_eq_true] at h1
   obtain ⟨p, hp, h2⟩ := h1
   split at h2
   ·rename_i v hv
    have h3 := BV_ok h p.1 v hv
    simp only [bne_iff_ne, ne_eq] at h2
    simp only [Bool.not_eq_true']
    cases hg : Gd.d (envOf is bs) g
    ·rfl
    ·unfold Gd.d at hg
     rw [List.all_eq_true] at hg
     have := hg p hp
     simp only [beq_iff_eq] at this
     exact absurd (h3.symm.trans this) h2
   ·cases h2
  ·right
   split at h1
   ·rename_i hv
    exact BV_ok h b true hv
   ·cases h1
 | _ => rfl
def Smry.va (T : Nat -> VF) (pre : Bool) (S : Smry) : VF := fun li lb =>
 match vaEm T S.em (VaS.of li lb) with
 | σ => (S.ri.map (AV σ), (if pre then [if obV σ S.em then some true else none] else []) ++ S.rb.map (BV σ))
theorem Smry.va_ok {Φ : Funs} {T : Nat -> VF} (hT : ∀ f, VOk (Φ f) (T f)) {pre : Bool} {S : Smry} : VOk (S.run Φ pre) (S.va T pre) := by
 intro li lb is bs h1 h2 hi hb
 have h := vaEm_ok hT (l := S.em) (VaS.of_ok hi hb h1 h2)
 unfold Smry.va Smry.run
 simp only
 refine ⟨VwI.map (AV_ok h), ?_⟩
 cases pre
 ·simpa using VwB.map (BV_ok h)
 ·simp only [if_true, List.cons_append, List.nil_append]
  refine Vw.cons ?_ (VwB.map (BV_ok h))
  split
  ·rename_i ho
   rw [obV_ok h ho]; exact VB.some_ok
  ·exact VB.none_ok

def VI.le (x y : VI) : Bool := (match y.vs with
  | none => true
  | some M => match x.vs with
   | some L => L.all fun a => M.any fun b => decide (a = b)
   | none => false) && (match y.mm with
  | none => true
  | some m => x.within m)
theorem VI.le_ok {x y : VI} {v : Int} (h : x.le y = true) (hx : x.ok v) : y.ok v := by
 unfold VI.le at h
 simp only [zAi] at h
 refine ⟨fun M hM => ?_, fun m hm => ?_⟩
 ·have h1 := h.1
  rw [hM] at h1
  simp only at h1
  split at h1
  ·rename_i L hL
   have := List.all_eq_true.1 h1 v (hx.1 L hL)
   rw [List.any_eq_true] at this
   obtain ⟨b, hb, e⟩ := this
   rw [of_decide_eq_true e]; exact hb
  ·cases h1
 ·have h2 := h.2
  rw [hm] at h2
  exact VI.within_ok h2 hx
def VB.le (x y : VB) : Bool := match y with
 | none => true
 | some v => match x with
  | some u => u == v
  | none => false
theorem VB.le_ok {x y : VB} {v : Bool} (h : VB.le x y = true) (hx : VB.ok x v) : VB.ok y v := by
 intro u e
 subst e
 unfold VB.le at h
 simp only at h
 split at h
 ·rename_i w
  simp only [beq_iff_eq] at h
  subst h
  exact hx _ rfl
 ·cases h
def leI : List VI -> List VI -> Bool
 | [], [] => true
 | x :: l, y :: m => x.le y && leI l m
 | _, _ => false
theorem leI_ok : ∀ {l m : List VI} {is : List Int}, leI l m = true -> VwI l is -> VwI m is /\ l.length = m.length
 | [], [], is, _, h => ⟨h, rfl⟩
 | x :: l, y :: m, is, h, hw => by
  unfold leI at h
  simp only [zAi] at h
  have ih := leI_ok (is := is.tail) h.2 hw.tail
  refine ⟨fun j => ?_, by simp [ih.2]⟩
  cases j with
  | zero => exact VI.le_ok h.1 (hw 0)
  | succ j =>
   have := ih.1 j
   cases is <;> simpa using this
 | [], _ :: _, _, h, _ => by cases h
 | _ :: _, [], _, h, _ => by cases h
def joinIs : List VI -> List VI -> List VI
 | x :: l, y :: m => x.join y :: joinIs l m
 | _, _ => []
def joinBs : List VB -> List VB -> List VB
 | x :: l, y :: m => joinO x y :: joinBs l m
 | _, _ => []
theorem joinIs_l : ∀ {l m : List VI} {is : List Int}, VwI l is \/ VwI m is -> VwI (joinIs l m) is
 | [], m, is, h => by unfold joinIs; exact VwI.nil
 | _ :: _, [], is, h => by unfold joinIs; exact VwI.nil
 | x :: l, y :: m, is, h => by
  have ih := joinIs_l (l := l) (m := m) (is := is.tail) (h.imp Vw.tail Vw.tail)
  intro j
  cases j with
  | zero => exact VI.join_ok (h.imp (fun h => h 0) (fun h => h 0))
  | succ j =>
   have := ih j
   cases is <;> simpa [joinIs] using this
theorem joinO_ok {x y : VB} {v : Bool} (h : VB.ok x v \/ VB.ok y v) : VB.ok (joinO x y) v := by
 intro u e
 obtain ⟨h1, h2⟩ := joinO_l e
 rcases h with h | h
 ·exact h u h1
 ·exact h u h2
theorem joinBs_l : ∀ {l m : List VB} {is : List Bool}, VwB l is \/ VwB m is -> VwB (joinBs l m) is
 | [], m, is, h => by unfold joinBs; exact VwB.nil
 | _ :: _, [], is, h => by unfold joinBs; exact VwB.nil
 | x :: l, y :: m, is, h => by
  have ih := joinBs_l (l := l) (m := m) (is := is.tail) (h.imp Vw.tail Vw.tail)
  intro j
  cases j with
  | zero => exact joinO_ok (h.imp (fun h => h 0) (fun h => h 0))
  | succ j =>
   have := ih j
   cases is <;> simpa [joinBs] using this
def setV {α : Type} (x : α) : Nat -> List α -> List α
 | _, [] => []
 | 0, _ :: l => x :: l
 | n + 1, y :: l => y :: setV x n l
theorem setV_length {α : Type} {x : α} : ∀ {n : Nat} {l : List α}, (setV x n l).length = l.length
 | _, [] => by cases ‹Nat› <;> rfl
 | 0, _ :: l => rfl
 | n + 1, y :: l => by simp [setV, setV_length (n := n) (l := l)]
theorem setV_ok {x : VI} {v : Int} : ∀ {n : Nat} {l : List VI} {is : List Int}, VwI l is -> (is.getD n 0 = v) -> x.ok v -> VwI (setV x n l) is
 | n, [], is, h, _, _ => by cases n <;> exact h
 | 0, y :: l, is, h, e, hx => by
  intro j
  cases j with
  | zero => simp only [setV, zZi]; rw [e]; exact hx
  | succ j => have := h (j + 1); simpa [setV] using this
 | n + 1, y :: l, is, h, e, hx => by
  have ih := setV_ok (n := n) (l := l) (is := is.tail) (Vw.tail h) (by cases is <;> simpa using e) hx
  intro j
  cases j with
  | zero => exact h 0
  | succ j =>
   have := ih j
   cases is <;> simpa [setV] using this
def splitL (p : VF) (n : Nat) (li : List VI) (lb : List VB) : List Int -> List VI × List VB
 | [] => ([], [])
 | [v] => p (setV (VI.cst v) n li) lb
 | v :: L => match p (setV (VI.cst v) n li) lb, splitL p n li lb L with
  | o, r => (joinIs o.1 r.1, joinBs o.2 r.2)
theorem splitL_ok {F : Fun} {p : VF} (h : VOk F p) {n : Nat} {li : List VI} {lb : List VB} {is : List Int} {bs : List Bool} (h1 : is.length = li.length) (h2 : bs.length = lb.length) (hi : VwI li is) (hb : VwB lb bs) :
  ∀ {L : List Int}, is.getD n 0 ∈ L -> VwI (splitL p n li lb L).1 (F is bs).1 /\ VwB (splitL p n li lb L).2 (F is bs).2
 | [], hm => by cases hm
 | [v], hm => by
  simp only [List.mem_singleton] at hm
  exact h _ _ is bs (by rw [setV_length]; exact h1) h2 (setV_ok hi hm VI.cst_ok) hb
 | v :: w :: L, hm => by
  unfold splitL
  simp only
  by_cases e : is.getD n 0 = v
  ·have := h (setV (VI.cst v) n li) lb is bs (by rw [setV_length]; exact h1) h2 (setV_ok hi e VI.cst_ok) hb
   exact ⟨joinIs_l (.inl this.1), joinBs_l (.inl this.2)⟩
  ·have := splitL_ok h h1 h2 hi hb (L := w :: L) (by rcases List.mem_cons.1 hm with h | h; exact absurd h e; exact h)
   exact ⟨joinIs_l (.inr this.1), joinBs_l (.inr this.2)⟩
def VF.split (p : VF) (n : Nat) : VF := fun li lb => match (li.getD n VI.top).vs with
 | some L => splitL p n li lb L
 | none => p li lb
theorem VOk.split {F : Fun} {p : VF} (h : VOk F p) (n : Nat) : VOk F (p.split n) := by
 intro li lb is bs h1 h2 hi hb
 unfold VF.split
 split
 ·rename_i L hL
  exact splitL_ok h h1 h2 hi hb ((hi n).1 L hL)
 ·exact h li lb is bs h1 h2 hi hb
def tabV : List (Nat × VF) -> Nat -> VF
 | [], _ => VF.nil
 | (f, p) :: l, n => if Nat.beq n f then p else tabV l n
theorem tabV_nil : ∀ f, VOk (tabF [] f) (tabV [] f) := fun _ => VOk.nil
theorem tabV_cons {l : List (Nat × Sum × Fun)} {m : List (Nat × VF)} {f : Nat} {s : Sum} {F : Fun} {p : VF} (h : VOk F p) (ht : ∀ f, VOk (tabF l f) (tabV m f)) : ∀ g, VOk (tabF ((f, s, F) :: l) g) (tabV ((f, p) :: m) g) := by
 intro g
 unfold tabF tabV
 by_cases e : g = f
 ·rw [if_pos (by simpa using e), if_pos (by simpa using e)]; exact h
 ·rw [if_neg (by simpa using e), if_neg (by simpa using e)]; exact ht g

theorem getD_drop {α : Type} {d : α} : ∀ {n j : Nat} {l : List α}, (l.drop n).getD j d = l.getD (n + j) d
 | 0, j, l => by simp
 | n + 1, j, [] => by simp
 | n + 1, j, x :: l => by rw [Nat.succ_add]; simp
theorem getD_take {α : Type} {d : α} : ∀ {n j : Nat} {l : List α}, (l.take n).getD j d = if j < n then l.getD j d else d
 | 0, j, l => by simp
 | n + 1, j, [] => by simp
 | n + 1, 0, x :: l => by simp
 | n + 1, j + 1, x :: l => by simpa using getD_take (n := n) (j := j) (l := l)
theorem Vw.drop {α β : Type} {ok : β -> α -> Prop} {tp : β} {d : α} {ls : List β} {l : List α} (n : Nat) (h : Vw ok tp d ls l) : Vw ok tp d (ls.drop n) (l.drop n) := fun j => by
 rw [getD_drop, getD_drop]; exact h (n + j)
theorem Vw.take {α β : Type} {ok : β -> α -> Prop} {tp : β} {d : α} {ls : List β} {l : List α} (htp : ∀ x, ok tp x) (n : Nat) (h : Vw ok tp d ls l) : Vw ok tp d (ls.take n) (l.take n) := fun j => by
 rw [getD_take, getD_take]
 split
 ·exact h j
 ·exact htp _
def Smry.vaLoop (T : Nat -> VF) (S : Smry) (nI nB : Nat) : Nat -> VF
 | 0 => VF.nil
 | n + 1 => fun li lb => match S.va T true li lb with
  | (oi, some true :: some true :: ob) => S.vaLoop T nI nB n (oi.take nI) (ob.take nB)
  | (oi, some true :: some false :: ob) => (oi.drop nI, some true :: ob.drop nB)
  | _ => ([], [])
theorem Smry.vaLoop_run {Φ : Funs} {T : Nat -> VF} (hT : ∀ f, VOk (Φ f) (T f)) {S : Smry} {nI nB : Nat} : ∀ {n : Nat} {li : List VI} {lb : List VB} {is : List Int} {bs : List Bool}, is.length = li.length -> bs.length = lb.length -> VwI li is -> VwB lb bs ->
  S.vaLoop T nI nB n li lb = ([], []) \/ ∃ m o, LRun (S.run Φ true) nI nB m is bs o /\ VwI (S.vaLoop T nI nB n li lb).1 o.1 /\ VwB (S.vaLoop T nI nB n li lb).2 (true :: o.2)
 | 0, li, lb, is, bs, h1, h2, hi, hb => .inl rfl
 | n + 1, li, lb, is, bs, h1, h2, hi, hb => by
  have hv := Smry.va_ok hT (pre := true) (S := S) li lb is bs h1 h2 hi hb
  have e1 : (S.va T true li lb).1.length = (S.run Φ true is bs).1.length := by simp [Smry.va, Smry.run]
  have e2 : (S.va T true li lb).2.length = (S.run Φ true is bs).2.length := by simp [Smry.va, Smry.run]
  unfold Smry.vaLoop
  generalize S.va T true li lb = q at hv e1 e2 ⊢
  obtain ⟨oi, ob⟩ := q
  simp only at hv e1 e2 ⊢
  obtain ⟨hv1, hv2⟩ := hv
  cases hr : (S.run Φ true is bs).2 with
  | nil =>
   rw [hr] at e2
   have : ob = [] := List.eq_nil_of_length_eq_zero e2
   subst this
   exact .inl rfl
  | cons b0 rb0 =>
   cases rb0 with
   | nil =>
    rw [hr] at e2
    match ob, e2 with
    | [x], _ =>
     left
     split <;> simp_all
   | cons b1 rb =>
    rw [hr] at e2 hv2
    split
    ·rename_i x oi' ob' he
     simp only [zPi] at he
     obtain ⟨rfl, rfl⟩ := he
     have a0 := hv2 0 true rfl
     have a1 := hv2 1 true rfl
     simp only [zZi, zSi] at a0 a1
     subst a0; subst a1
     have hv3 : VwB ob' rb := (Vw.tail (Vw.tail hv2))
     simp only [List.length_cons, Nat.add_right_cancel_iff] at e2
     rcases Smry.vaLoop_run hT (S := S) (nI := nI) (nB := nB) (n := n) (li := oi.take nI) (lb := ob'.take nB) (is := (S.run Φ true is bs).1.take nI) (bs := rb.take nB)
      (by simp [e1]) (by simp [e2]) (Vw.take (fun _ => VI.top_ok) nI hv1) (Vw.take (fun _ => VB.none_ok) nB hv3) with h | ⟨m, o, hm, h3, h4⟩
     ·exact .inl h
     ·exact .inr ⟨m + 1, o, .turn hr hm, h3, h4⟩
    ·rename_i x oi' ob' he
     simp only [zPi] at he
     obtain ⟨rfl, rfl⟩ := he
     have a0 := hv2 0 true rfl
     have a1 := hv2 1 false rfl
     simp only [zZi, zSi] at a0 a1
     subst a0; subst a1
     have hv3 : VwB ob' rb := (Vw.tail (Vw.tail hv2))
     exact .inr ⟨1, _, .stop hr, Vw.drop nI hv1, Vw.cons VB.some_ok (Vw.drop nB hv3)⟩
    ·exact .inl rfl
theorem Smry.vaLoop_ok {Φ : Funs} {T : Nat -> VF} (hT : ∀ f, VOk (Φ f) (T f)) {S : Smry} {nI nB n : Nat} : VOk (loopF (S.run Φ true) nI nB) (S.vaLoop T nI nB n) := by
 intro li lb is bs h1 h2 hi hb
 rcases Smry.vaLoop_run hT (S := S) (nI := nI) (nB := nB) (n := n) h1 h2 hi hb with h | ⟨m, o, hm, h3, h4⟩
 ·rw [h]; exact ⟨VwI.nil, VwB.nil⟩
 ·rw [loopF_of hm]; exact ⟨h3, h4⟩
def lpV : List LAnn -> Nat -> (Nat -> VF) -> Nat -> VF
 | [], _, T => T
 | L :: l, k, T => fun n => if n == L.id then L.S.vaLoop (lpV l k T) L.nI L.nB k else lpV l k T n
theorem lpV_ok {Φ : Funs} {T : Nat -> VF} {k : Nat} (hT : ∀ f, VOk (Φ f) (T f)) : ∀ {l : List LAnn} (f : Nat), VOk (lpF l Φ f) (lpV l k T f)
 | [], f => hT f
 | L :: l, f => by
  unfold lpF lpV
  split
  ·exact Smry.vaLoop_ok (lpV_ok hT)
  ·exact lpV_ok hT f
def VF.at0 (F : Nat -> Fl) : VF := fun li _ => match li with
 | [⟨some [.ofNat v], _⟩] => ((F v).1.map VI.cst, (F v).2.map some)
 | _ => ([], [])
theorem VF.at0_ok {F : Nat -> Fl} : VOk (fun is _ => F (is.getD 0 0).toNat) (VF.at0 F) := by
 intro li lb is bs h1 h2 hi hb
 unfold VF.at0
 split
 ·rename_i v _
  have := (hi 0).1 _ rfl
  simp only [List.mem_singleton] at this
  simp only
  rw [this, show (Int.ofNat v).toNat = v from rfl]
  have e1 : ∀ (l : List Int), VwI (l.map VI.cst) l := fun l => by
   have := VwI.map (f := VI.cst) (g := id) (l := l) (fun x => VI.cst_ok)
   simpa using this
  have e2 : ∀ (l : List Bool), VwB (l.map some) l := fun l => by
   have := VwB.map (f := some) (g := id) (l := l) (fun x => VB.some_ok)
   simpa using this
  exact ⟨e1 _, e2 _⟩
 ·exact ⟨VwI.nil, VwB.nil⟩
end Go.Proofs.YtghlmhlamoagoaaGreat.Sx
namespace Go.Proofs.YtghlmhlamoagoaaGreat.Fl
open Go Go.Proofs Go.Proofs.YtghlmhlamoagoaaGreat.Sx

def most (n : Nat) : Int := if mdT.getD n 0 = 11 then cyT.getD n 0 + 2 else if crT.getD n false then cyT.getD n 0 + 1 else if mdT.getD n 0 = 20 then 2 else cyT.getD n 0
def tmay (op t : Int) : Bool := decide (0 <= t) && (decide (t <= 0) || decide (t < most op.toNat))
def may (p s op t intr pend : Int) : Bool := tmay op t && (decide (0 <= intr) && decide (intr <= 3)) && (decide (0 <= pend) && decide (pend <= 2)) && decide (arI .and .u8 p 207 = p) && decide (arI .and .u8 s 207 = s)
theorem f35 {Φ : Funs} (h : Φ 35 = F35) (i : Int) : Φ 35 [i] [] = dec i.toNat := by rw [h]; rfl
theorem cy_le (n : Nat) : 0 <= cyT.getD n 0 /\ cyT.getD n 0 <= 8 := by
 by_cases h : n < 256
 ·exact of_decide_eq_true (allR_spec (f := fun n => decide (0 <= cyT.getD n (0 : Int) /\ cyT.getD n (0 : Int) <= 8)) (k := 8) (lo := 0) (by kernel_rfl) n (Nat.zero_le _) (by omega))
 ·rw [getD_ge (by rw [show cyT.length = 256 by kernel_rfl]; omega)]; omega
theorem w21 (i0 i1 i2 i3 i4 i5 i6 i7 i8 i9 i10 i11 i12 : Int) (b0 b1 b2 b3 b4 b5 b6 b7 b8 b9 b10 b11 : Bool) : F21 [i0,i1,i2,i3,i4,i5,i6,i7,i8,i9,i10,i11,i12] [b0,b1,b2,b3,b4,b5,b6,b7,b8,b9,b10,b11] = ([if may i4 i5 i7 i8 i11 i12 then 0 else 1], []) := by
 unfold F21
 obtain ⟨ρ, e1, e2, e3, e4⟩ := Smry.run_spec (Φ := tabF T5) (S := S21) (is := [i0,i1,i2,i3,i4,i5,i6,i7,i8,i9,i10,i11,i12]) (bs := [b0,b1,b2,b3,b4,b5,b6,b7,b8,b9,b10,b11]) rfl
 rw [e1]
 simp only [S21, eqns, Em.eqn, headsI, headsB, RI.d, RB.d, A.d, B.d, cm_eql, cm_neq, cm_lss, cm_leq, cm_gtr, cm_geq, List.map_cons, List.map_nil, and_true, Nat.zero_add, Nat.reduceAdd, ltn, upto, true_and, Nat.add_zero, zZi, zSi] at e2 e3 e4 ⊢
 simp only [e2, e3] at e4 ⊢
 rw [f35 (Φ := tabF T5) rfl] at e4
 simp only [dec, eqns, Em.eqn, headsI, headsB, RI.d, RB.d, A.d, B.d, cm_eql, cm_neq, cm_lss, cm_leq, cm_gtr, cm_geq, List.map_cons, List.map_nil, and_true, Nat.zero_add, Nat.reduceAdd, ltn, upto, true_and, Nat.add_zero, zZi, zSi] at e4
 unfold may tmay most
 generalize nmT.getD i7.toNat 0 = nm at e4 ⊢
 generalize mdT.getD i7.toNat 0 = md at e4 ⊢
 generalize usT.getD i7.toNat 0 = us at e4 ⊢
 generalize hcy : cyT.getD i7.toNat 0 = cy at e4 ⊢
 generalize crT.getD i7.toNat false = cr at e4 ⊢
 generalize gdT.getD i7.toNat false = gd at e4 ⊢
 generalize arI .and .u8 i4 207 = p' at e4 ⊢
 generalize arI .and .u8 i5 207 = s' at e4 ⊢
 have hc := cy_le i7.toNat
 rw [hcy] at hc
 obtain ⟨⟨⟨a1, a2, a3, a4⟩, a5, a6⟩, a7, a8, a9, a10, a11, a12, a13, a14, a15, a16, a17, a18, a19, a20, a21, a22, a23, a24, a25, a26, a27, a28, a29, a30, a31, a32, a33, a34, a35⟩ := e4
 rw [a2] at a7 a10
 rw [a4, show arI .add .i64 cy 2 = cy + 2 from wrap_i64_in (by omega) (by omega)] at a8
 rw [a4, show arI .add .i64 cy 1 = cy + 1 from wrap_i64_in (by omega) (by omega)] at a9
 have key : ρ.i 21 = if md = 11 then cy + 2 else if cr = true then cy + 1 else if md = 20 then 2 else cy := by
  simp only [a13, a12, a11, a10, a9, a8, a7, a5, a4, beq_iff_eq]
 rw [<- key]
 generalize ρ.i 21 = mo at a16 ⊢
 simp only [a35, a34, a33, a32, a31, a30, a29, a28, a27, a26, a25, a24, a23, a22, a21, a20, a19, a18, a17, a16, a15, a14]
 congr 2
 have : (!(decide (i8 < 0) || decide (0 < i8) && decide (mo <= i8) || decide (i11 < 0) || decide (3 < i11) || decide (i12 < 0) || decide (2 < i12) || !(p' == i4 && s' == i5))) =
  ((decide (0 <= i8) && (decide (i8 <= 0) || decide (i8 < mo))) && (decide (0 <= i11) && decide (i11 <= 3)) && (decide (0 <= i12) && decide (i12 <= 2)) && decide (p' = i4) && decide (s' = i5)) := by
  rw [Bool.eq_iff_iff]
  simp only [Bool.not_eq_true', Bool.or_eq_false_iff, Bool.and_eq_false_iff, zAi, Bool.or_eq_true, decide_eq_true_eq, decide_eq_false_iff_not, Bool.not_eq_false', beq_iff_eq]
  omega
 simp only [this]

abbrev VC (T : List (Nat × Sum × Fun)) := { l : List (Nat × VF) // ∀ f, VOk (tabF T f) (tabV l f) }
noncomputable def vd {T : List (Nat × Sum × Fun)} (p : VC T) (f : Nat) (s : Sum) {F : Fun} {V : VF} (h : VOk F V) : VC ((f, s, F) :: T) := ⟨(f, V) :: p.1, tabV_cons h p.2⟩
noncomputable def vc {T : List (Nat × Sum × Fun)} (p : VC T) (f : Nat) (s : Sum) (S : Smry) (b : Bool) : VC ((f, s, S.run (tabF T) b) :: T) := vd p f s (Smry.va_ok (S := S) (pre := b) p.2)
noncomputable def P0 : VC T0 := ⟨[], tabV_nil⟩
noncomputable def P1 : VC T1 := vc P0 49 s49 S49 false
noncomputable def P2 : VC T2 := vc P1 29 s29 S29 false
noncomputable def V16 : VF := S16.va (tabV P2.1) false
theorem v16 : VOk F16 V16 := Smry.va_ok P2.2
noncomputable def P3 : VC T3 := vd P2 16 s16 v16
noncomputable def V35 : VF := (VF.at0 dec).split 0
theorem v35 : VOk F35 V35 := VF.at0_ok.split 0
noncomputable def P4 : VC T4 := vd P3 35 s35 v35
noncomputable def P5 : VC T5 := vc P4 36 s36 S36 false
theorem eta {α : Type} (d : α) {n : Nat} {l : List α} (h : l.length = n) : l = (List.range n).map fun j => l.getD j d := by
 apply List.ext_getElem
 ·simp [h]
 ·intro j h1 h2
  simp [h1]
def sig15 : List VI := [VI.top, VI.top, VI.top, VI.top, VI.msk 207, VI.msk 207, VI.top, VI.top, VI.top, VI.top, VI.top, VI.of [0, 1, 2, 3], VI.of [0, 1, 2]]
def okC (li : List VI) : Bool := leI li sig15 && (match (li.getD 7 VI.top).vs, (li.getD 8 VI.top).vs with
 | some O, some T => O.all fun o => T.all fun t => tmay o t
 | _, _ => false)
theorem okC_ok {li : List VI} {is : List Int} (h : okC li = true) (hi : VwI li is) : li.length = 13 /\ may (is.getD 4 0) (is.getD 5 0) (is.getD 7 0) (is.getD 8 0) (is.getD 11 0) (is.getD 12 0) = true := by
 unfold okC at h
 simp only [zAi] at h
 obtain ⟨hs, hp⟩ := h
 obtain ⟨hw, hlen⟩ := leI_ok hs hi
 refine ⟨hlen.trans rfl, ?_⟩
 have m4 : arI .and .u8 (is.getD 4 0) 207 = is.getD 4 0 := (hw 4).2 207 rfl
 have m5 : arI .and .u8 (is.getD 5 0) 207 = is.getD 5 0 := (hw 5).2 207 rfl
 have a11 : is.getD 11 0 ∈ [(0 : Int), 1, 2, 3] := (hw 11).1 _ rfl
 have a12 : is.getD 12 0 ∈ [(0 : Int), 1, 2] := (hw 12).1 _ rfl
 unfold may
 simp only [zAi, decide_eq_true_eq]
 simp only [List.mem_cons, List.not_mem_nil, or_false] at a11 a12
 refine ⟨⟨⟨⟨?_, by omega⟩, by omega⟩, m4⟩, m5⟩
 split at hp
 ·rename_i O T hO hT
  exact List.all_eq_true.1 (List.all_eq_true.1 hp _ ((hi 7).1 O hO)) _ ((hi 8).1 T hT)
 ·cases hp
noncomputable def V21 : VF := fun li lb => if okC li && Nat.beq lb.length 12 then ([VI.cst 0], []) else S21.va (tabV P5.1) false li lb
theorem v21 : VOk F21 V21 := by
 intro li lb is bs h1 h2 hi hb
 unfold V21
 split
 ·rename_i h
  simp only [zAi, Nat.beq_eq] at h
  obtain ⟨hl, hm⟩ := okC_ok h.1 hi
  rw [eta 0 (h1.trans hl), eta false (h2.trans h.2)]
  show VwI [VI.cst 0] (F21 [is.getD 0 0, is.getD 1 0, is.getD 2 0, is.getD 3 0, is.getD 4 0, is.getD 5 0, is.getD 6 0, is.getD 7 0, is.getD 8 0, is.getD 9 0, is.getD 10 0, is.getD 11 0, is.getD 12 0]
   [bs.getD 0 false, bs.getD 1 false, bs.getD 2 false, bs.getD 3 false, bs.getD 4 false, bs.getD 5 false, bs.getD 6 false, bs.getD 7 false, bs.getD 8 false, bs.getD 9 false, bs.getD 10 false, bs.getD 11 false]).1 /\ _
  rw [w21, if_pos hm]
  exact ⟨Vw.cons VI.cst_ok VwI.nil, VwB.nil⟩
 ·exact Smry.va_ok P5.2 li lb is bs h1 h2 hi hb
noncomputable def P6 : VC T6 := vd P5 21 s21 v21
noncomputable def P7 : VC T7 := vc P6 69 s69 S69 false
noncomputable def P8 : VC T8 := vc P7 40 s40 S40 false
noncomputable def P9 : VC T9 := vc P8 70 s70 S70 false
noncomputable def P10 : VC T10 := vc P9 42 s42 S42 false
noncomputable def P11 : VC T11 := vc P10 43 s43 S43 true
noncomputable def P12 : VC T12 := vc P11 71 s71 S71 true
noncomputable def P13 : VC T13 := vc P12 100 s100 S100 false
noncomputable def V72 : VF := (S72.va (tabV P13.1) true).split 13
theorem v72 : VOk F72 V72 := VOk.split (Smry.va_ok P13.2) 13
noncomputable def P14 : VC T14 := vd P13 72 s72 v72
noncomputable def P15 : VC T15 := vc P14 134 s134 S134 false
noncomputable def P16 : VC T16 := vc P15 171 s171 S171 false
noncomputable def P17 : VC T17 := vc P16 136 s136 S136 false
noncomputable def P18 : VC T18 := vc P17 133 s133 S133 false
noncomputable def P19 : VC T19 := vc P18 101 s101 S101 false
noncomputable def P20 : VC T20 := vc P19 102 s102 S102 false
noncomputable def P21 : VC T21 := vc P20 135 s135 S135 false
noncomputable def P22 : VC T22 := vc P21 103 s103 S103 false
noncomputable def P23 : VC T23 := vc P22 104 s104 S104 false
noncomputable def P24 : VC T24 := vc P23 138 s138 S138 false
noncomputable def P25 : VC T25 := vc P24 107 s107 S107 false
noncomputable def P26 : VC T26 := vc P25 108 s108 S108 false
noncomputable def P27 : VC T27 := vc P26 139 s139 S139 false
noncomputable def P28 : VC T28 := vc P27 109 s109 S109 false
noncomputable def P29 : VC T29 := vc P28 140 s140 S140 false
noncomputable def P30 : VC T30 := vc P29 110 s110 S110 false
noncomputable def P31 : VC T31 := vc P30 173 s173 S173 false
noncomputable def P32 : VC T32 := vc P31 141 s141 S141 false
noncomputable def P33 : VC T33 := vc P32 111 s111 S111 false
noncomputable def P34 : VC T34 := vc P33 142 s142 S142 false
noncomputable def P35 : VC T35 := vc P34 112 s112 S112 false
noncomputable def V73 : VF := (S73.va (tabV P35.1) true).split 13
theorem v73 : VOk F73 V73 := VOk.split (Smry.va_ok P35.2) 13
noncomputable def P36 : VC T36 := vd P35 73 s73 v73
noncomputable def P37 : VC T37 := vc P36 44 s44 S44 true
noncomputable def V25 : VF := S25.va (tabV P37.1) true
theorem v25 : VOk F25 V25 := Smry.va_ok P37.2
noncomputable def P38 : VC T38 := vd P37 25 s25 v25
noncomputable def P39 : VC T39 := vc P38 74 s74 S74 false
noncomputable def P40 : VC T40 := vc P39 143 s143 S143 false
noncomputable def P41 : VC T41 := vc P40 114 s114 S114 false
noncomputable def P42 : VC T42 := vc P41 144 s144 S144 false
noncomputable def P43 : VC T43 := vc P42 145 s145 S145 false
noncomputable def P44 : VC T44 := vc P43 175 s175 S175 false
noncomputable def P45 : VC T45 := vc P44 146 s146 S146 false
noncomputable def P46 : VC T46 := vc P45 147 s147 S147 false
noncomputable def P47 : VC T47 := vc P46 148 s148 S148 false
noncomputable def P48 : VC T48 := vc P47 149 s149 S149 false
noncomputable def P49 : VC T49 := vc P48 150 s150 S150 false
noncomputable def P50 : VC T50 := vc P49 151 s151 S151 false
noncomputable def P51 : VC T51 := vc P50 152 s152 S152 false
noncomputable def P52 : VC T52 := vc P51 153 s153 S153 false
noncomputable def P53 : VC T53 := vc P52 176 s176 S176 false
noncomputable def P54 : VC T54 := vc P53 154 s154 S154 false
noncomputable def P55 : VC T55 := vc P54 155 s155 S155 false
noncomputable def P56 : VC T56 := vc P55 156 s156 S156 false
noncomputable def P57 : VC T57 := vc P56 157 s157 S157 false
noncomputable def V115 : VF := (S115.va (tabV P57.1) true).split 13
theorem v115 : VOk F115 V115 := VOk.split (Smry.va_ok P57.2) 13
noncomputable def P58 : VC T58 := vd P57 115 s115 v115
noncomputable def P59 : VC T59 := vc P58 158 s158 S158 true
noncomputable def P60 : VC T60 := vc P59 116 s116 S116 true
noncomputable def P61 : VC T61 := vc P60 160 s160 S160 false
noncomputable def P62 : VC T62 := vc P61 117 s117 S117 false
noncomputable def P63 : VC T63 := vc P62 118 s118 S118 false
noncomputable def P64 : VC T64 := vc P63 181 s181 S181 false
noncomputable def P65 : VC T65 := vc P64 177 s177 S177 false
noncomputable def P66 : VC T66 := vc P65 178 s178 S178 false
noncomputable def P67 : VC T67 := vc P66 179 s179 S179 false
noncomputable def P68 : VC T68 := vc P67 161 s161 S161 false
noncomputable def P69 : VC T69 := vc P68 119 s119 S119 true
noncomputable def P70 : VC T70 := vc P69 162 s162 S162 false
noncomputable def P71 : VC T71 := vc P70 163 s163 S163 false
noncomputable def P72 : VC T72 := vc P71 164 s164 S164 false
noncomputable def P73 : VC T73 := vc P72 165 s165 S165 false
noncomputable def P74 : VC T74 := vc P73 166 s166 S166 false
noncomputable def P75 : VC T75 := vc P74 120 s120 S120 false
noncomputable def P76 : VC T76 := vc P75 75 s75 S75 true
noncomputable def P77 : VC T77 := vc P76 76 s76 S76 false
noncomputable def V47 : VF := S47.va (tabV P77.1) true
theorem v47 : VOk F47 V47 := Smry.va_ok P77.2
noncomputable def P78 : VC T78 := vd P77 47 s47 v47
def stI (O T : List Int) : List VI := [VI.top, VI.top, VI.top, VI.top, VI.msk 207, VI.msk 207, VI.top, VI.of O, VI.of T, VI.top, VI.top, VI.of [0, 1, 2, 3], VI.of [0, 1, 2]]
def outOk (o : List VI) : Bool := okC (o.take 13) && (match (o.getD 13 VI.top).vs with
 | some [.ofNat 0] => true
 | _ => false)
noncomputable def chkT (O : List Int) (v : VI) (t : Int) : Bool := match V47 (stI O [t] ++ [v]) (List.replicate 16 none) with
 | (oi, some true :: _) => outOk oi
 | _ => false
noncomputable def chkW (O : List Int) (t : Int) : Bool := match V25 (stI O [t]) (List.replicate 12 none) with
 | (_, some true :: _) => true
 | _ => false
def all256 : List Int := (List.range 256).map Int.ofNat
theorem w_0 : chkW all256 0 = true := by kernel_rfl
theorem t_0 : chkT all256 (VI.of all256) 0 = true := by kernel_rfl
def ctlB (n : Nat) : List VB := List.replicate 10 none ++ [some true] ++ List.replicate n none
noncomputable def chkC : Bool := match (V47 (List.replicate 14 VI.top) (ctlB 5)).2 with
 | _ :: b => (match b.getD 10 none with
  | some true => true
  | _ => false)
 | _ => false
theorem ctl_t : chkC = true := by kernel_rfl
end Go.Proofs.YtghlmhlamoagoaaGreat.Fl
