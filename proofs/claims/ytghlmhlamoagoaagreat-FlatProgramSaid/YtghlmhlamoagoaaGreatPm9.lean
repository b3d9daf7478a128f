/-
  Flat's laws, and what they stand on (merged by wip/gen2/mini.py): part Pm9. No condition.
-/
import Derived.Test.YtghlmhlamoagoaaGreatPm8
set_option linter.unusedVariables false
set_option linter.unusedSimpArgs false
namespace Go.Proofs.YtghlmhlamoagoaaGreat.Fl
open Go Go.Proofs Go.Proofs.YtghlmhlamoagoaaGreat.Sx
def o0 : List Int := [24, 26, 56, 58, 88, 90, 120, 122, 136, 138, 152, 154, 168, 170, 184, 186, 200, 202, 216, 218, 232, 234, 248, 250]
theorem t0_1 : chkT o0 VI.top 1 = true := by kernel_rfl
def o1 : List Int := [10, 42, 74, 106]
theorem t1_1 : chkT o1 VI.top 1 = true := by kernel_rfl
def o2 : List Int := [9, 11, 41, 43, 73, 75, 105, 107, 128, 130, 137, 139, 160, 162, 169, 171, 192, 194, 201, 203, 224, 226, 233, 235]
theorem t2_1 : chkT o2 VI.top 1 = true := by kernel_rfl
def o3 : List Int := [4, 5, 36, 37, 68, 69, 100, 101, 164, 165, 166, 167, 196, 197, 228, 229]
theorem t3_1 : chkT o3 VI.top 1 = true := by kernel_rfl
theorem t3_2 : chkT o3 VI.top 2 = true := by kernel_rfl
def o4 : List Int := [132, 133, 134, 135]
theorem t4_1 : chkT o4 VI.top 1 = true := by kernel_rfl
theorem t4_2 : chkT o4 VI.top 2 = true := by kernel_rfl
def o5 : List Int := [6, 7, 38, 39, 70, 71, 102, 103, 198, 199, 230, 231]
theorem t5_1 : chkT o5 VI.top 1 = true := by kernel_rfl
theorem t5_2 : chkT o5 VI.top 2 = true := by kernel_rfl
theorem t5_3 : chkT o5 VI.top 3 = true := by kernel_rfl
theorem t5_4 : chkT o5 VI.top 4 = true := by kernel_rfl
def o6 : List Int := [20, 21, 52, 53, 84, 85, 116, 117, 180, 181, 212, 213, 244, 245]
theorem t6_1 : chkT o6 VI.top 1 = true := by kernel_rfl
theorem t6_2 : chkT o6 VI.top 2 = true := by kernel_rfl
theorem t6_3 : chkT o6 VI.top 3 = true := by kernel_rfl
def o7 : List Int := [148, 149]
theorem t7_1 : chkT o7 VI.top 1 = true := by kernel_rfl
theorem t7_2 : chkT o7 VI.top 2 = true := by kernel_rfl
theorem t7_3 : chkT o7 VI.top 3 = true := by kernel_rfl
def o8 : List Int := [22, 23, 54, 55, 86, 87, 118, 119, 214, 215, 246, 247]
theorem t8_1 : chkT o8 VI.top 1 = true := by kernel_rfl
theorem t8_2 : chkT o8 VI.top 2 = true := by kernel_rfl
theorem t8_3 : chkT o8 VI.top 3 = true := by kernel_rfl
theorem t8_4 : chkT o8 VI.top 4 = true := by kernel_rfl
theorem t8_5 : chkT o8 VI.top 5 = true := by kernel_rfl
def o9 : List Int := [182, 183]
theorem t9_1 : chkT o9 VI.top 1 = true := by kernel_rfl
theorem t9_2 : chkT o9 VI.top 2 = true := by kernel_rfl
theorem t9_3 : chkT o9 VI.top 3 = true := by kernel_rfl
def o10 : List Int := [150, 151]
theorem t10_1 : chkT o10 VI.top 1 = true := by kernel_rfl
theorem t10_2 : chkT o10 VI.top 2 = true := by kernel_rfl
theorem t10_3 : chkT o10 VI.top 3 = true := by kernel_rfl
def o11 : List Int := [12, 13, 44, 45, 77, 109, 172, 173, 174, 175, 204, 205, 236, 237]
theorem t11_1 : chkT o11 VI.top 1 = true := by kernel_rfl
theorem t11_2 : chkT o11 VI.top 2 = true := by kernel_rfl
theorem t11_3 : chkT o11 VI.top 3 = true := by kernel_rfl
def o12 : List Int := [140, 141, 142, 143]
theorem t12_1 : chkT o12 VI.top 1 = true := by kernel_rfl
theorem t12_2 : chkT o12 VI.top 2 = true := by kernel_rfl
theorem t12_3 : chkT o12 VI.top 3 = true := by kernel_rfl
def o13 : List Int := [14, 15, 46, 47, 78, 79, 110, 111, 206, 207, 238, 239]
theorem t13_1 : chkT o13 VI.top 1 = true := by kernel_rfl
theorem t13_2 : chkT o13 VI.top 2 = true := by kernel_rfl
theorem t13_3 : chkT o13 VI.top 3 = true := by kernel_rfl
theorem t13_4 : chkT o13 VI.top 4 = true := by kernel_rfl
theorem t13_5 : chkT o13 VI.top 5 = true := by kernel_rfl
def o14 : List Int := [28, 29, 60, 61, 92, 93, 124, 125, 188, 189, 220, 221, 252, 253]
theorem t14_1 : chkT o14 VI.top 1 = true := by kernel_rfl
theorem t14_2 : chkT o14 VI.top 2 = true := by kernel_rfl
theorem t14_3 : chkT o14 VI.top 3 = true := by kernel_rfl
theorem t14_4 : chkT o14 VI.top 4 = true := by kernel_rfl
def o15 : List Int := [156, 157]
theorem t15_1 : chkT o15 VI.top 1 = true := by kernel_rfl
theorem t15_2 : chkT o15 VI.top 2 = true := by kernel_rfl
theorem t15_3 : chkT o15 VI.top 3 = true := by kernel_rfl
theorem t15_4 : chkT o15 VI.top 4 = true := by kernel_rfl
def o16 : List Int := [30, 31, 62, 63, 94, 95, 126, 127, 222, 223, 254, 255]
theorem t16_1 : chkT o16 VI.top 1 = true := by kernel_rfl
theorem t16_2 : chkT o16 VI.top 2 = true := by kernel_rfl
theorem t16_3 : chkT o16 VI.top 3 = true := by kernel_rfl
theorem t16_4 : chkT o16 VI.top 4 = true := by kernel_rfl
theorem t16_5 : chkT o16 VI.top 5 = true := by kernel_rfl
theorem t16_6 : chkT o16 VI.top 6 = true := by kernel_rfl
def o17 : List Int := [25, 57, 89, 121, 185, 187, 190, 191, 217, 249]
theorem t17_1 : chkT o17 VI.top 1 = true := by kernel_rfl
theorem t17_2 : chkT o17 VI.top 2 = true := by kernel_rfl
theorem t17_3 : chkT o17 VI.top 3 = true := by kernel_rfl
theorem t17_4 : chkT o17 VI.top 4 = true := by kernel_rfl
def o18 : List Int := [153, 155, 158, 159]
theorem t18_1 : chkT o18 VI.top 1 = true := by kernel_rfl
theorem t18_2 : chkT o18 VI.top 2 = true := by kernel_rfl
theorem t18_3 : chkT o18 VI.top 3 = true := by kernel_rfl
theorem t18_4 : chkT o18 VI.top 4 = true := by kernel_rfl
def o19 : List Int := [27, 59, 91, 123, 219, 251]
theorem t19_1 : chkT o19 VI.top 1 = true := by kernel_rfl
theorem t19_2 : chkT o19 VI.top 2 = true := by kernel_rfl
theorem t19_3 : chkT o19 VI.top 3 = true := by kernel_rfl
theorem t19_4 : chkT o19 VI.top 4 = true := by kernel_rfl
theorem t19_5 : chkT o19 VI.top 5 = true := by kernel_rfl
theorem t19_6 : chkT o19 VI.top 6 = true := by kernel_rfl
def o20 : List Int := [1, 33, 65, 97, 161, 163, 193, 225]
theorem t20_1 : chkT o20 VI.top 1 = true := by kernel_rfl
theorem t20_2 : chkT o20 VI.top 2 = true := by kernel_rfl
theorem t20_3 : chkT o20 VI.top 3 = true := by kernel_rfl
theorem t20_4 : chkT o20 VI.top 4 = true := by kernel_rfl
theorem t20_5 : chkT o20 VI.top 5 = true := by kernel_rfl
def o21 : List Int := [129, 131]
theorem t21_1 : chkT o21 VI.top 1 = true := by kernel_rfl
theorem t21_2 : chkT o21 VI.top 2 = true := by kernel_rfl
theorem t21_3 : chkT o21 VI.top 3 = true := by kernel_rfl
theorem t21_4 : chkT o21 VI.top 4 = true := by kernel_rfl
theorem t21_5 : chkT o21 VI.top 5 = true := by kernel_rfl
def o22 : List Int := [3, 35, 67, 99, 195, 227]
theorem t22_1 : chkT o22 VI.top 1 = true := by kernel_rfl
theorem t22_2 : chkT o22 VI.top 2 = true := by kernel_rfl
theorem t22_3 : chkT o22 VI.top 3 = true := by kernel_rfl
theorem t22_4 : chkT o22 VI.top 4 = true := by kernel_rfl
theorem t22_5 : chkT o22 VI.top 5 = true := by kernel_rfl
theorem t22_6 : chkT o22 VI.top 6 = true := by kernel_rfl
theorem t22_7 : chkT o22 VI.top 7 = true := by kernel_rfl
def o23 : List Int := [17, 49, 81, 113, 177, 179, 209, 241]
theorem t23_1 : chkT o23 VI.top 1 = true := by kernel_rfl
theorem t23_2 : chkT o23 VI.top 2 = true := by kernel_rfl
theorem t23_3 : chkT o23 VI.top 3 = true := by kernel_rfl
theorem t23_4 : chkT o23 VI.top 4 = true := by kernel_rfl
theorem t23_5 : chkT o23 VI.top 5 = true := by kernel_rfl
def o24 : List Int := [145, 147]
theorem t24_1 : chkT o24 VI.top 1 = true := by kernel_rfl
theorem t24_2 : chkT o24 VI.top 2 = true := by kernel_rfl
theorem t24_3 : chkT o24 VI.top 3 = true := by kernel_rfl
theorem t24_4 : chkT o24 VI.top 4 = true := by kernel_rfl
theorem t24_5 : chkT o24 VI.top 5 = true := by kernel_rfl
def o25 : List Int := [19, 51, 83, 115, 211, 243]
theorem t25_1 : chkT o25 VI.top 1 = true := by kernel_rfl
theorem t25_2 : chkT o25 VI.top 2 = true := by kernel_rfl
theorem t25_3 : chkT o25 VI.top 3 = true := by kernel_rfl
theorem t25_4 : chkT o25 VI.top 4 = true := by kernel_rfl
theorem t25_5 : chkT o25 VI.top 5 = true := by kernel_rfl
theorem t25_6 : chkT o25 VI.top 6 = true := by kernel_rfl
theorem t25_7 : chkT o25 VI.top 7 = true := by kernel_rfl
def o26 : List Int := [16, 48, 80, 112, 144, 176, 208, 240]
theorem t26_1 : chkT o26 VI.top 1 = true := by kernel_rfl
theorem t26_2 : chkT o26 VI.top 2 = true := by kernel_rfl
theorem t26_3 : chkT o26 VI.top 3 = true := by kernel_rfl
def o27 : List Int := [108]
theorem t27_1 : chkT o27 VI.top 1 = true := by kernel_rfl
theorem t27_2 : chkT o27 VI.top 2 = true := by kernel_rfl
theorem t27_3 : chkT o27 VI.top 3 = true := by kernel_rfl
theorem t27_4 : chkT o27 VI.top 4 = true := by kernel_rfl
def o28 : List Int := [76]
theorem t28_1 : chkT o28 VI.top 1 = true := by kernel_rfl
theorem t28_2 : chkT o28 VI.top 2 = true := by kernel_rfl
def o29 : List Int := [32]
theorem t29_1 : chkT o29 VI.top 1 = true := by kernel_rfl
theorem t29_2 : chkT o29 VI.top 2 = true := by kernel_rfl
theorem t29_3 : chkT o29 VI.top 3 = true := by kernel_rfl
theorem t29_4 : chkT o29 VI.top 4 = true := by kernel_rfl
theorem t29_5 : chkT o29 VI.top 5 = true := by kernel_rfl
def o30 : List Int := [96]
theorem t30_1 : chkT o30 VI.top 1 = true := by kernel_rfl
theorem t30_2 : chkT o30 VI.top 2 = true := by kernel_rfl
theorem t30_3 : chkT o30 VI.top 3 = true := by kernel_rfl
theorem t30_4 : chkT o30 VI.top 4 = true := by kernel_rfl
theorem t30_5 : chkT o30 VI.top 5 = true := by kernel_rfl
def o31 : List Int := [64]
theorem t31_1 : chkT o31 VI.top 1 = true := by kernel_rfl
theorem t31_2 : chkT o31 VI.top 2 = true := by kernel_rfl
theorem t31_3 : chkT o31 VI.top 3 = true := by kernel_rfl
theorem t31_4 : chkT o31 VI.top 4 = true := by kernel_rfl
theorem t31_5 : chkT o31 VI.top 5 = true := by kernel_rfl
def o32 : List Int := [0]
theorem t32_1 : chkT o32 VI.top 1 = true := by kernel_rfl
theorem t32_2 : chkT o32 VI.top 2 = true := by kernel_rfl
theorem t32_3 : chkT o32 VI.top 3 = true := by kernel_rfl
theorem t32_4 : chkT o32 VI.top 4 = true := by kernel_rfl
theorem t32_5 : chkT o32 VI.top 5 = true := by kernel_rfl
theorem t32_6 : chkT o32 VI.top 6 = true := by kernel_rfl
def o33 : List Int := [8, 72]
theorem t33_1 : chkT o33 VI.top 1 = true := by kernel_rfl
theorem t33_2 : chkT o33 VI.top 2 = true := by kernel_rfl
def o34 : List Int := [40, 104]
theorem t34_1 : chkT o34 VI.top 1 = true := by kernel_rfl
theorem t34_2 : chkT o34 VI.top 2 = true := by kernel_rfl
theorem t34_3 : chkT o34 VI.top 3 = true := by kernel_rfl
def o35 : List Int := [2, 18, 34, 50, 66, 82, 98, 114, 146, 178, 210, 242]
theorem t35_1 : chkT o35 VI.top 1 = true := by kernel_rfl
end Go.Proofs.YtghlmhlamoagoaaGreat.Fl
