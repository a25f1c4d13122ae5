/- The texts of functions, as the framework reads them off the translation. -/
import Derived.Test.YtchlihfnolnjpaaDoorCodeA
open Go Go.Abs
set_option linter.unusedVariables false
namespace Go.Proofs.Tryd

noncomputable def cc_slices_partitionOrdered_int_k0 : CC :=
  (.seq (.region <| o1 167 (.mv (.t 11)) <|
    o1 8 (.mv (.t 167)) <|
    o1 9 (.mv (.c (.bool false))) <|
    .done)
  .ret)
noncomputable def cc_slices_partitionOrdered_int_k1 : CC :=
  (.seq (.region <| o1 153 (.mv (.t 0)) <|
    o1 154 (.mv (.t 11)) <|
    o1 155 (.mv (.t 0)) <|
    o1 156 (.mv (.t 1)) <|
    o1 157 (.mv (.t 0)) <|
    o1 158 (.mv (.t 1)) <|
    o1 159 (.iaddr 1 (.t 157) (.t 158)) <|
    o1 160 (.load1 (.t 159)) <|
    o1 161 (.mv (.t 0)) <|
    o1 162 (.mv (.t 11)) <|
    o1 163 (.iaddr 1 (.t 161) (.t 162)) <|
    o1 164 (.load1 (.t 163)) <|
    o1 165 (.iaddr 1 (.t 153) (.t 154)) <|
    .op ⟨none, none, .prim (.store 1 (.t 165) (.t 160))⟩ [] <|
    o1 166 (.iaddr 1 (.t 155) (.t 156)) <|
    .op ⟨none, none, .prim (.store 1 (.t 166) (.t 164))⟩ [] <|
    .done)
  cc_slices_partitionOrdered_int_k0)
noncomputable def cc_slices_partitionOrdered_int_k2 : CC :=
  (.region <| o1 151 (.mv (.t 11)) <|
    o1 152 (.bin .sub (.t 151) (.c (.int .i64 1))) <|
    o1 11 (.mv (.t 152)) <|
    .done)
noncomputable def cc_slices_partitionOrdered_int_k3 : CC :=
  (.seq (.region <| o1 149 (.mv (.t 10)) <|
    o1 150 (.bin .add (.t 149) (.c (.int .i64 1))) <|
    o1 10 (.mv (.t 150)) <|
    .done)
  cc_slices_partitionOrdered_int_k2)
noncomputable def cc_slices_partitionOrdered_int_k4 : CC :=
  (.seq (.region <| o1 135 (.mv (.t 0)) <|
    o1 136 (.mv (.t 10)) <|
    o1 137 (.mv (.t 0)) <|
    o1 138 (.mv (.t 11)) <|
    o1 139 (.mv (.t 0)) <|
    o1 140 (.mv (.t 11)) <|
    o1 141 (.iaddr 1 (.t 139) (.t 140)) <|
    o1 142 (.load1 (.t 141)) <|
    o1 143 (.mv (.t 0)) <|
    o1 144 (.mv (.t 10)) <|
    o1 145 (.iaddr 1 (.t 143) (.t 144)) <|
    o1 146 (.load1 (.t 145)) <|
    o1 147 (.iaddr 1 (.t 135) (.t 136)) <|
    .op ⟨none, none, .prim (.store 1 (.t 147) (.t 142))⟩ [] <|
    o1 148 (.iaddr 1 (.t 137) (.t 138)) <|
    .op ⟨none, none, .prim (.store 1 (.t 148) (.t 146))⟩ [] <|
    .done)
  cc_slices_partitionOrdered_int_k3)
noncomputable def cc_slices_partitionOrdered_int_k5 : CC :=
  (.cond (.t 134) (.exit 4) .skip)
noncomputable def cc_slices_partitionOrdered_int_k6 : CC :=
  (.seq (.seq (.region <| o1 132 (.mv (.t 10)) <|
    o1 133 (.mv (.t 11)) <|
    o1 134 (.bin .gtr (.t 132) (.t 133)) <|
    .done)
  cc_slices_partitionOrdered_int_k5)
  cc_slices_partitionOrdered_int_k4)
noncomputable def cc_slices_partitionOrdered_int_k7 : CC :=
  (.block 9 (.region <| o1 130 (.mv (.t 11)) <|
    o1 131 (.bin .sub (.t 130) (.c (.int .i64 1))) <|
    o1 11 (.mv (.t 131)) <|
    .done))
noncomputable def cc_slices_partitionOrdered_int_k8 : CC :=
  (.cond (.t 129) .skip (.exit 8))
noncomputable def cc_slices_partitionOrdered_int_l9 : CC :=
  (.seq (.seq (.region <| o1 115 (.mv (.t 10)) <|
    o1 116 (.mv (.t 11)) <|
    o1 117 (.bin .leq (.t 115) (.t 116)) <|
    o1 118 (.mv (.t 117)) <|
    .op ⟨some 119, some (118, true), .prim (.mv (.t 0))⟩ [] <|
    .op ⟨some 120, some (118, true), .prim (.mv (.t 11))⟩ [] <|
    .op ⟨some 121, some (118, true), .prim (.iaddr 1 (.t 119) (.t 120))⟩ [] <|
    .op ⟨some 122, some (118, true), .prim (.load1 (.t 121))⟩ [] <|
    .op ⟨some 123, some (118, true), .prim (.mv (.t 0))⟩ [] <|
    .op ⟨some 124, some (118, true), .prim (.mv (.t 1))⟩ [] <|
    .op ⟨some 125, some (118, true), .prim (.iaddr 1 (.t 123) (.t 124))⟩ [] <|
    .op ⟨some 126, some (118, true), .prim (.load1 (.t 125))⟩ [] <|
    .op ⟨some 127, some (118, true), .call F.cmp_Less_int [(.t 122), (.t 126)]⟩ [] <|
    .op ⟨some 128, some (118, true), .prim (.not (.t 127))⟩ [] <|
    o1 129 (.pick (.t 118) (.t 128) (.c (.bool false))) <|
    .done)
  cc_slices_partitionOrdered_int_k8)
  cc_slices_partitionOrdered_int_k7)
noncomputable def cc_slices_partitionOrdered_int_k10 : CC :=
  (.seq (.block 8 (.loop cc_slices_partitionOrdered_int_l9))
  cc_slices_partitionOrdered_int_k6)
noncomputable def cc_slices_partitionOrdered_int_k11 : CC :=
  (.block 7 (.region <| o1 113 (.mv (.t 10)) <|
    o1 114 (.bin .add (.t 113) (.c (.int .i64 1))) <|
    o1 10 (.mv (.t 114)) <|
    .done))
noncomputable def cc_slices_partitionOrdered_int_k12 : CC :=
  (.cond (.t 112) .skip (.exit 6))
noncomputable def cc_slices_partitionOrdered_int_l13 : CC :=
  (.seq (.seq (.region <| o1 99 (.mv (.t 10)) <|
    o1 100 (.mv (.t 11)) <|
    o1 101 (.bin .leq (.t 99) (.t 100)) <|
    o1 102 (.mv (.t 101)) <|
    .op ⟨some 103, some (102, true), .prim (.mv (.t 0))⟩ [] <|
    .op ⟨some 104, some (102, true), .prim (.mv (.t 10))⟩ [] <|
    .op ⟨some 105, some (102, true), .prim (.iaddr 1 (.t 103) (.t 104))⟩ [] <|
    .op ⟨some 106, some (102, true), .prim (.load1 (.t 105))⟩ [] <|
    .op ⟨some 107, some (102, true), .prim (.mv (.t 0))⟩ [] <|
    .op ⟨some 108, some (102, true), .prim (.mv (.t 1))⟩ [] <|
    .op ⟨some 109, some (102, true), .prim (.iaddr 1 (.t 107) (.t 108))⟩ [] <|
    .op ⟨some 110, some (102, true), .prim (.load1 (.t 109))⟩ [] <|
    .op ⟨some 111, some (102, true), .call F.cmp_Less_int [(.t 106), (.t 110)]⟩ [] <|
    o1 112 (.pick (.t 102) (.t 111) (.c (.bool false))) <|
    .done)
  cc_slices_partitionOrdered_int_k12)
  cc_slices_partitionOrdered_int_k11)
noncomputable def cc_slices_partitionOrdered_int_l14 : CC :=
  (.block 5 (.seq (.block 6 (.loop cc_slices_partitionOrdered_int_l13))
  cc_slices_partitionOrdered_int_k10))
noncomputable def cc_slices_partitionOrdered_int_k15 : CC :=
  (.seq (.block 4 (.loop cc_slices_partitionOrdered_int_l14))
  cc_slices_partitionOrdered_int_k1)
noncomputable def cc_slices_partitionOrdered_int_k16 : CC :=
  (.seq (.region <| o1 97 (.mv (.t 11)) <|
    o1 98 (.bin .sub (.t 97) (.c (.int .i64 1))) <|
    o1 11 (.mv (.t 98)) <|
    .done)
  cc_slices_partitionOrdered_int_k15)
noncomputable def cc_slices_partitionOrdered_int_k17 : CC :=
  (.seq (.region <| o1 95 (.mv (.t 10)) <|
    o1 96 (.bin .add (.t 95) (.c (.int .i64 1))) <|
    o1 10 (.mv (.t 96)) <|
    .done)
  cc_slices_partitionOrdered_int_k16)
noncomputable def cc_slices_partitionOrdered_int_k18 : CC :=
  (.seq (.region <| o1 81 (.mv (.t 0)) <|
    o1 82 (.mv (.t 10)) <|
    o1 83 (.mv (.t 0)) <|
    o1 84 (.mv (.t 11)) <|
    o1 85 (.mv (.t 0)) <|
    o1 86 (.mv (.t 11)) <|
    o1 87 (.iaddr 1 (.t 85) (.t 86)) <|
    o1 88 (.load1 (.t 87)) <|
    o1 89 (.mv (.t 0)) <|
    o1 90 (.mv (.t 10)) <|
    o1 91 (.iaddr 1 (.t 89) (.t 90)) <|
    o1 92 (.load1 (.t 91)) <|
    o1 93 (.iaddr 1 (.t 81) (.t 82)) <|
    .op ⟨none, none, .prim (.store 1 (.t 93) (.t 88))⟩ [] <|
    o1 94 (.iaddr 1 (.t 83) (.t 84)) <|
    .op ⟨none, none, .prim (.store 1 (.t 94) (.t 92))⟩ [] <|
    .done)
  cc_slices_partitionOrdered_int_k17)
noncomputable def cc_slices_partitionOrdered_int_k19 : CC :=
  (.seq (.region <| o1 80 (.mv (.t 11)) <|
    o1 8 (.mv (.t 80)) <|
    o1 9 (.mv (.c (.bool true))) <|
    .done)
  .ret)
noncomputable def cc_slices_partitionOrdered_int_c20 : CC :=
  (.seq (.region <| o1 66 (.mv (.t 0)) <|
    o1 67 (.mv (.t 11)) <|
    o1 68 (.mv (.t 0)) <|
    o1 69 (.mv (.t 1)) <|
    o1 70 (.mv (.t 0)) <|
    o1 71 (.mv (.t 1)) <|
    o1 72 (.iaddr 1 (.t 70) (.t 71)) <|
    o1 73 (.load1 (.t 72)) <|
    o1 74 (.mv (.t 0)) <|
    o1 75 (.mv (.t 11)) <|
    o1 76 (.iaddr 1 (.t 74) (.t 75)) <|
    o1 77 (.load1 (.t 76)) <|
    o1 78 (.iaddr 1 (.t 66) (.t 67)) <|
    .op ⟨none, none, .prim (.store 1 (.t 78) (.t 73))⟩ [] <|
    o1 79 (.iaddr 1 (.t 68) (.t 69)) <|
    .op ⟨none, none, .prim (.store 1 (.t 79) (.t 77))⟩ [] <|
    .done)
  cc_slices_partitionOrdered_int_k19)
noncomputable def cc_slices_partitionOrdered_int_k21 : CC :=
  (.cond (.t 65) cc_slices_partitionOrdered_int_c20 .skip)
noncomputable def cc_slices_partitionOrdered_int_k22 : CC :=
  (.seq (.seq (.region <| o1 63 (.mv (.t 10)) <|
    o1 64 (.mv (.t 11)) <|
    o1 65 (.bin .gtr (.t 63) (.t 64)) <|
    .done)
  cc_slices_partitionOrdered_int_k21)
  cc_slices_partitionOrdered_int_k18)
noncomputable def cc_slices_partitionOrdered_int_k23 : CC :=
  (.block 3 (.region <| o1 61 (.mv (.t 11)) <|
    o1 62 (.bin .sub (.t 61) (.c (.int .i64 1))) <|
    o1 11 (.mv (.t 62)) <|
    .done))
noncomputable def cc_slices_partitionOrdered_int_k24 : CC :=
  (.cond (.t 60) .skip (.exit 2))
noncomputable def cc_slices_partitionOrdered_int_l25 : CC :=
  (.seq (.seq (.region <| o1 46 (.mv (.t 10)) <|
    o1 47 (.mv (.t 11)) <|
    o1 48 (.bin .leq (.t 46) (.t 47)) <|
    o1 49 (.mv (.t 48)) <|
    .op ⟨some 50, some (49, true), .prim (.mv (.t 0))⟩ [] <|
    .op ⟨some 51, some (49, true), .prim (.mv (.t 11))⟩ [] <|
    .op ⟨some 52, some (49, true), .prim (.iaddr 1 (.t 50) (.t 51))⟩ [] <|
    .op ⟨some 53, some (49, true), .prim (.load1 (.t 52))⟩ [] <|
    .op ⟨some 54, some (49, true), .prim (.mv (.t 0))⟩ [] <|
    .op ⟨some 55, some (49, true), .prim (.mv (.t 1))⟩ [] <|
    .op ⟨some 56, some (49, true), .prim (.iaddr 1 (.t 54) (.t 55))⟩ [] <|
    .op ⟨some 57, some (49, true), .prim (.load1 (.t 56))⟩ [] <|
    .op ⟨some 58, some (49, true), .call F.cmp_Less_int [(.t 53), (.t 57)]⟩ [] <|
    .op ⟨some 59, some (49, true), .prim (.not (.t 58))⟩ [] <|
    o1 60 (.pick (.t 49) (.t 59) (.c (.bool false))) <|
    .done)
  cc_slices_partitionOrdered_int_k24)
  cc_slices_partitionOrdered_int_k23)
noncomputable def cc_slices_partitionOrdered_int_k26 : CC :=
  (.seq (.block 2 (.loop cc_slices_partitionOrdered_int_l25))
  cc_slices_partitionOrdered_int_k22)
noncomputable def cc_slices_partitionOrdered_int_k27 : CC :=
  (.block 1 (.region <| o1 44 (.mv (.t 10)) <|
    o1 45 (.bin .add (.t 44) (.c (.int .i64 1))) <|
    o1 10 (.mv (.t 45)) <|
    .done))
noncomputable def cc_slices_partitionOrdered_int_k28 : CC :=
  (.cond (.t 43) .skip (.exit 0))
noncomputable def cc_slices_partitionOrdered_int_l29 : CC :=
  (.seq (.seq (.region <| o1 30 (.mv (.t 10)) <|
    o1 31 (.mv (.t 11)) <|
    o1 32 (.bin .leq (.t 30) (.t 31)) <|
    o1 33 (.mv (.t 32)) <|
    .op ⟨some 34, some (33, true), .prim (.mv (.t 0))⟩ [] <|
    .op ⟨some 35, some (33, true), .prim (.mv (.t 10))⟩ [] <|
    .op ⟨some 36, some (33, true), .prim (.iaddr 1 (.t 34) (.t 35))⟩ [] <|
    .op ⟨some 37, some (33, true), .prim (.load1 (.t 36))⟩ [] <|
    .op ⟨some 38, some (33, true), .prim (.mv (.t 0))⟩ [] <|
    .op ⟨some 39, some (33, true), .prim (.mv (.t 1))⟩ [] <|
    .op ⟨some 40, some (33, true), .prim (.iaddr 1 (.t 38) (.t 39))⟩ [] <|
    .op ⟨some 41, some (33, true), .prim (.load1 (.t 40))⟩ [] <|
    .op ⟨some 42, some (33, true), .call F.cmp_Less_int [(.t 37), (.t 41)]⟩ [] <|
    o1 43 (.pick (.t 33) (.t 42) (.c (.bool false))) <|
    .done)
  cc_slices_partitionOrdered_int_k28)
  cc_slices_partitionOrdered_int_k27)
noncomputable def cc_slices_partitionOrdered_int_k30 : CC :=
  (.seq (.block 0 (.loop cc_slices_partitionOrdered_int_l29))
  cc_slices_partitionOrdered_int_k26)
noncomputable def cc_slices_partitionOrdered_int_k31 : CC :=
  (.seq (.region <| o1 26 (.mv (.t 1)) <|
    o1 27 (.bin .add (.t 26) (.c (.int .i64 1))) <|
    o1 28 (.mv (.t 2)) <|
    o1 29 (.bin .sub (.t 28) (.c (.int .i64 1))) <|
    o1 10 (.mv (.t 27)) <|
    o1 11 (.mv (.t 29)) <|
    .done)
  cc_slices_partitionOrdered_int_k30)
noncomputable def cc_slices_partitionOrdered_int_k32 : CC :=
  (.seq (.region <| o1 12 (.mv (.t 0)) <|
    o1 13 (.mv (.t 1)) <|
    o1 14 (.mv (.t 0)) <|
    o1 15 (.mv (.t 3)) <|
    o1 16 (.mv (.t 0)) <|
    o1 17 (.mv (.t 3)) <|
    o1 18 (.iaddr 1 (.t 16) (.t 17)) <|
    o1 19 (.load1 (.t 18)) <|
    o1 20 (.mv (.t 0)) <|
    o1 21 (.mv (.t 1)) <|
    o1 22 (.iaddr 1 (.t 20) (.t 21)) <|
    o1 23 (.load1 (.t 22)) <|
    o1 24 (.iaddr 1 (.t 12) (.t 13)) <|
    .op ⟨none, none, .prim (.store 1 (.t 24) (.t 19))⟩ [] <|
    o1 25 (.iaddr 1 (.t 14) (.t 15)) <|
    .op ⟨none, none, .prim (.store 1 (.t 25) (.t 23))⟩ [] <|
    .done)
  cc_slices_partitionOrdered_int_k31)
noncomputable def cc_slices_partitionOrdered_int : CC :=
  (.seq (.region <| o1 8 (.mv (.c (.int .i64 0))) <|
    o1 9 (.mv (.c (.bool false))) <|
    .done)
  cc_slices_partitionOrdered_int_k32)
noncomputable def fe_slices_partitionOrdered_int : FE := ⟨168, [.tmp 8, .tmp 9], cc_slices_partitionOrdered_int⟩
theorem e_slices_partitionOrdered_int : compF prog F.slices_partitionOrdered_int = some fe_slices_partitionOrdered_int := by kernel_rfl

noncomputable def cc_slices_IndexFunc_Lint_int_k0 : CC :=
  (.region <| o1 18 (.bin .add (.t 8) (.c (.int .i64 1))) <|
    o1 8 (.mv (.t 18)) <|
    .done)
noncomputable def cc_slices_IndexFunc_Lint_int_k1 : CC :=
  (.cond (.t 16) (.seq (.region <| o1 17 (.mv (.t 5)) <|
    o1 4 (.mv (.t 17)) <|
    .done)
  .ret) .skip)
noncomputable def cc_slices_IndexFunc_Lint_int_k2 : CC :=
  (.seq (.region <| o1 11 (.mv (.t 1)) <|
    o1 12 (.mv (.t 0)) <|
    o1 13 (.mv (.t 5)) <|
    o1 14 (.iaddr 1 (.t 12) (.t 13)) <|
    o1 15 (.load1 (.t 14)) <|
    .op ⟨some 16, none, .dcall (.t 11) [(.t 15)]⟩ [] <|
    .done)
  cc_slices_IndexFunc_Lint_int_k1)
noncomputable def cc_slices_IndexFunc_Lint_int_k3 : CC :=
  (.seq (.block 1 (.seq (.region <| o1 10 (.mv (.t 8)) <|
    o1 5 (.mv (.t 10)) <|
    .done)
  cc_slices_IndexFunc_Lint_int_k2))
  cc_slices_IndexFunc_Lint_int_k0)
noncomputable def cc_slices_IndexFunc_Lint_int_k4 : CC :=
  (.seq (.cond (.t 9) .skip (.exit 0))
  cc_slices_IndexFunc_Lint_int_k3)
noncomputable def cc_slices_IndexFunc_Lint_int_l5 : CC :=
  (.seq (.region <| o1 9 (.bin .lss (.t 8) (.t 7)) <|
    .done)
  cc_slices_IndexFunc_Lint_int_k4)
noncomputable def cc_slices_IndexFunc_Lint_int_k6 : CC :=
  (.block 0 (.loop cc_slices_IndexFunc_Lint_int_l5))
noncomputable def cc_slices_IndexFunc_Lint_int_k7 : CC :=
  (.seq (.seq (.region <| o1 6 (.mv (.t 0)) <|
    o1 7 (.lenL (.t 6)) <|
    o1 8 (.mv (.c (.int .i64 0))) <|
    .done)
  cc_slices_IndexFunc_Lint_int_k6)
  (.seq (.region <| o1 4 (.mv (.c (.int .i64 (-1)))) <|
    .done)
  .ret))
noncomputable def cc_slices_IndexFunc_Lint_int : CC :=
  (.seq (.region <| o1 4 (.mv (.c (.int .i64 0))) <|
    .done)
  cc_slices_IndexFunc_Lint_int_k7)
noncomputable def fe_slices_IndexFunc_Lint_int : FE := ⟨19, [.tmp 4], cc_slices_IndexFunc_Lint_int⟩
theorem e_slices_IndexFunc_Lint_int : compF prog F.slices_IndexFunc_Lint_int = some fe_slices_IndexFunc_Lint_int := by kernel_rfl

noncomputable def cc_internal_strconv_log10Pow2_k0 : CC :=
  (.seq (.region <| o1 3 (.mv (.t 0)) <|
    o1 4 (.bin .mul (.t 3) (.c (.int .i64 78913))) <|
    o1 5 (.bin .shr (.t 4) (.c (.int .u64 18))) <|
    o1 2 (.mv (.t 5)) <|
    .done)
  .ret)
noncomputable def cc_internal_strconv_log10Pow2 : CC :=
  (.seq (.region <| o1 2 (.mv (.c (.int .i64 0))) <|
    .done)
  cc_internal_strconv_log10Pow2_k0)
noncomputable def fe_internal_strconv_log10Pow2 : FE := ⟨6, [.tmp 2], cc_internal_strconv_log10Pow2⟩
theorem e_internal_strconv_log10Pow2 : compF prog F.internal_strconv_log10Pow2 = some fe_internal_strconv_log10Pow2 := by kernel_rfl

noncomputable def cc_internal_strconv_bool2_int_k0 : CC :=
  (.cond (.t 3) (.seq (.region <| o1 2 (.mv (.c (.int .i64 1))) <|
    .done)
  .ret) .skip)
noncomputable def cc_internal_strconv_bool2_int_k1 : CC :=
  (.seq (.seq (.region <| o1 3 (.mv (.t 0)) <|
    .done)
  cc_internal_strconv_bool2_int_k0)
  (.seq (.region <| o1 2 (.mv (.c (.int .i64 0))) <|
    .done)
  .ret))
noncomputable def cc_internal_strconv_bool2_int : CC :=
  (.seq (.region <| o1 2 (.mv (.c (.int .i64 0))) <|
    .done)
  cc_internal_strconv_bool2_int_k1)
noncomputable def fe_internal_strconv_bool2_int : FE := ⟨4, [.tmp 2], cc_internal_strconv_bool2_int⟩
theorem e_internal_strconv_bool2_int : compF prog F.internal_strconv_bool2_int = some fe_internal_strconv_bool2_int := by kernel_rfl

noncomputable def cc_internal_strconv_isPowerOfTwo_k0 : CC :=
  (.seq (.region <| o1 3 (.mv (.t 0)) <|
    o1 4 (.mv (.t 0)) <|
    o1 5 (.bin .sub (.t 4) (.c (.int .i64 1))) <|
    o1 6 (.bin .and (.t 3) (.t 5)) <|
    o1 7 (.bin .eql (.t 6) (.c (.int .i64 0))) <|
    o1 2 (.mv (.t 7)) <|
    .done)
  .ret)
noncomputable def cc_internal_strconv_isPowerOfTwo : CC :=
  (.seq (.region <| o1 2 (.mv (.c (.bool false))) <|
    .done)
  cc_internal_strconv_isPowerOfTwo_k0)
noncomputable def fe_internal_strconv_isPowerOfTwo : FE := ⟨8, [.tmp 2], cc_internal_strconv_isPowerOfTwo⟩
theorem e_internal_strconv_isPowerOfTwo : compF prog F.internal_strconv_isPowerOfTwo = some fe_internal_strconv_isPowerOfTwo := by kernel_rfl

noncomputable def cc_math_bits_TrailingZeros_k0 : CC :=
  (.seq (.region <| o1 6 (.mv (.t 0)) <|
    .op ⟨some 7, none, .call F.math_bits_TrailingZeros64 [(.t 6)]⟩ [] <|
    o1 2 (.mv (.t 7)) <|
    .done)
  .ret)
noncomputable def cc_math_bits_TrailingZeros_c1 : CC :=
  (.seq (.region <| o1 3 (.mv (.t 0)) <|
    o1 4 (.convI .u32 (.t 3)) <|
    .op ⟨some 5, none, .call F.math_bits_TrailingZeros32 [(.t 4)]⟩ [] <|
    o1 2 (.mv (.t 5)) <|
    .done)
  .ret)
noncomputable def cc_math_bits_TrailingZeros_k2 : CC :=
  (.seq (.cond (.c (.bool false)) cc_math_bits_TrailingZeros_c1 .skip)
  cc_math_bits_TrailingZeros_k0)
noncomputable def cc_math_bits_TrailingZeros : CC :=
  (.seq (.region <| o1 2 (.mv (.c (.int .i64 0))) <|
    .done)
  cc_math_bits_TrailingZeros_k2)
noncomputable def fe_math_bits_TrailingZeros : FE := ⟨8, [.tmp 2], cc_math_bits_TrailingZeros⟩
theorem e_math_bits_TrailingZeros : compF prog F.math_bits_TrailingZeros = some fe_math_bits_TrailingZeros := by kernel_rfl

noncomputable def cc_slices_order2CmpFunc_string_k0 : CC :=
  (.seq (.region <| o1 30 (.mv (.t 1)) <|
    o1 31 (.mv (.t 2)) <|
    o1 10 (.mv (.t 30)) <|
    o1 11 (.mv (.t 31)) <|
    .done)
  .ret)
noncomputable def cc_slices_order2CmpFunc_string_k1 : CC :=
  (.seq (.region <| o1 28 (.mv (.t 2)) <|
    o1 29 (.mv (.t 1)) <|
    o1 10 (.mv (.t 28)) <|
    o1 11 (.mv (.t 29)) <|
    .done)
  .ret)
noncomputable def cc_slices_order2CmpFunc_string_c2 : CC :=
  (.seq (.region <| o1 23 (.mv (.t 3)) <|
    o1 24 (.nilc (.t 23)) <|
    o1 25 (.load1 (.t 24)) <|
    o1 26 (.bin .add (.t 25) (.c (.int .i64 1))) <|
    o1 27 (.nilc (.t 23)) <|
    .op ⟨none, none, .prim (.store 1 (.t 27) (.t 26))⟩ [] <|
    .done)
  cc_slices_order2CmpFunc_string_k1)
noncomputable def cc_slices_order2CmpFunc_string_k3 : CC :=
  (.cond (.t 22) cc_slices_order2CmpFunc_string_c2 .skip)
noncomputable def cc_slices_order2CmpFunc_string_k4 : CC :=
  (.seq (.seq (.region <| o1 12 (.mv (.t 4)) <|
    o1 13 (.mv (.t 0)) <|
    o1 14 (.mv (.t 2)) <|
    o1 15 (.iaddr 1 (.t 13) (.t 14)) <|
    o1 16 (.load1 (.t 15)) <|
    o1 17 (.mv (.t 0)) <|
    o1 18 (.mv (.t 1)) <|
    o1 19 (.iaddr 1 (.t 17) (.t 18)) <|
    o1 20 (.load1 (.t 19)) <|
    .op ⟨some 21, none, .dcall (.t 12) [(.t 16), (.t 20)]⟩ [] <|
    o1 22 (.bin .lss (.t 21) (.c (.int .i64 0))) <|
    .done)
  cc_slices_order2CmpFunc_string_k3)
  cc_slices_order2CmpFunc_string_k0)
noncomputable def cc_slices_order2CmpFunc_string : CC :=
  (.seq (.region <| o1 10 (.mv (.c (.int .i64 0))) <|
    o1 11 (.mv (.c (.int .i64 0))) <|
    .done)
  cc_slices_order2CmpFunc_string_k4)
noncomputable def fe_slices_order2CmpFunc_string : FE := ⟨32, [.tmp 10, .tmp 11], cc_slices_order2CmpFunc_string⟩
theorem e_slices_order2CmpFunc_string : compF prog F.slices_order2CmpFunc_string = some fe_slices_order2CmpFunc_string := by kernel_rfl

noncomputable def cc_slices_siftDownOrdered_int_k0 : CC :=
  (.region <| o1 75 (.mv (.t 9)) <|
    o1 8 (.mv (.t 75)) <|
    .done)
noncomputable def cc_slices_siftDownOrdered_int_k1 : CC :=
  (.seq (.region <| o1 53 (.mv (.t 0)) <|
    o1 54 (.mv (.t 3)) <|
    o1 55 (.mv (.t 8)) <|
    o1 56 (.bin .add (.t 54) (.t 55)) <|
    o1 57 (.mv (.t 0)) <|
    o1 58 (.mv (.t 3)) <|
    o1 59 (.mv (.t 9)) <|
    o1 60 (.bin .add (.t 58) (.t 59)) <|
    o1 61 (.mv (.t 0)) <|
    o1 62 (.mv (.t 3)) <|
    o1 63 (.mv (.t 9)) <|
    o1 64 (.bin .add (.t 62) (.t 63)) <|
    o1 65 (.iaddr 1 (.t 61) (.t 64)) <|
    o1 66 (.load1 (.t 65)) <|
    o1 67 (.mv (.t 0)) <|
    o1 68 (.mv (.t 3)) <|
    o1 69 (.mv (.t 8)) <|
    o1 70 (.bin .add (.t 68) (.t 69)) <|
    o1 71 (.iaddr 1 (.t 67) (.t 70)) <|
    o1 72 (.load1 (.t 71)) <|
    o1 73 (.iaddr 1 (.t 53) (.t 56)) <|
    .op ⟨none, none, .prim (.store 1 (.t 73) (.t 66))⟩ [] <|
    o1 74 (.iaddr 1 (.t 57) (.t 60)) <|
    .op ⟨none, none, .prim (.store 1 (.t 74) (.t 72))⟩ [] <|
    .done)
  cc_slices_siftDownOrdered_int_k0)
noncomputable def cc_slices_siftDownOrdered_int_k2 : CC :=
  (.cond (.t 52) .ret .skip)
noncomputable def cc_slices_siftDownOrdered_int_k3 : CC :=
  (.seq (.seq (.region <| o1 39 (.mv (.t 0)) <|
    o1 40 (.mv (.t 3)) <|
    o1 41 (.mv (.t 8)) <|
    o1 42 (.bin .add (.t 40) (.t 41)) <|
    o1 43 (.iaddr 1 (.t 39) (.t 42)) <|
    o1 44 (.load1 (.t 43)) <|
    o1 45 (.mv (.t 0)) <|
    o1 46 (.mv (.t 3)) <|
    o1 47 (.mv (.t 9)) <|
    o1 48 (.bin .add (.t 46) (.t 47)) <|
    o1 49 (.iaddr 1 (.t 45) (.t 48)) <|
    o1 50 (.load1 (.t 49)) <|
    .op ⟨some 51, none, .call F.cmp_Less_int [(.t 44), (.t 50)]⟩ [] <|
    o1 52 (.not (.t 51)) <|
    .done)
  cc_slices_siftDownOrdered_int_k2)
  cc_slices_siftDownOrdered_int_k1)
noncomputable def cc_slices_siftDownOrdered_int_c4 : CC :=
  (.region <| o1 37 (.mv (.t 9)) <|
    o1 38 (.bin .add (.t 37) (.c (.int .i64 1))) <|
    o1 9 (.mv (.t 38)) <|
    .done)
noncomputable def cc_slices_siftDownOrdered_int_k5 : CC :=
  (.cond (.t 36) cc_slices_siftDownOrdered_int_c4 .skip)
noncomputable def cc_slices_siftDownOrdered_int_k6 : CC :=
  (.seq (.seq (.region <| o1 17 (.mv (.t 9)) <|
    o1 18 (.bin .add (.t 17) (.c (.int .i64 1))) <|
    o1 19 (.mv (.t 2)) <|
    o1 20 (.bin .lss (.t 18) (.t 19)) <|
    o1 21 (.mv (.t 20)) <|
    .op ⟨some 22, some (21, true), .prim (.mv (.t 0))⟩ [] <|
    .op ⟨some 23, some (21, true), .prim (.mv (.t 3))⟩ [] <|
    .op ⟨some 24, some (21, true), .prim (.mv (.t 9))⟩ [] <|
    .op ⟨some 25, some (21, true), .prim (.bin .add (.t 23) (.t 24))⟩ [] <|
    .op ⟨some 26, some (21, true), .prim (.iaddr 1 (.t 22) (.t 25))⟩ [] <|
    .op ⟨some 27, some (21, true), .prim (.load1 (.t 26))⟩ [] <|
    .op ⟨some 28, some (21, true), .prim (.mv (.t 0))⟩ [] <|
    .op ⟨some 29, some (21, true), .prim (.mv (.t 3))⟩ [] <|
    .op ⟨some 30, some (21, true), .prim (.mv (.t 9))⟩ [] <|
    .op ⟨some 31, some (21, true), .prim (.bin .add (.t 29) (.t 30))⟩ [] <|
    .op ⟨some 32, some (21, true), .prim (.bin .add (.t 31) (.c (.int .i64 1)))⟩ [] <|
    .op ⟨some 33, some (21, true), .prim (.iaddr 1 (.t 28) (.t 32))⟩ [] <|
    .op ⟨some 34, some (21, true), .prim (.load1 (.t 33))⟩ [] <|
    .op ⟨some 35, some (21, true), .call F.cmp_Less_int [(.t 27), (.t 34)]⟩ [] <|
    o1 36 (.pick (.t 21) (.t 35) (.c (.bool false))) <|
    .done)
  cc_slices_siftDownOrdered_int_k5)
  cc_slices_siftDownOrdered_int_k3)
noncomputable def cc_slices_siftDownOrdered_int_k7 : CC :=
  (.cond (.t 16) (.exit 0) .skip)
noncomputable def cc_slices_siftDownOrdered_int_k8 : CC :=
  (.seq (.seq (.region <| o1 14 (.mv (.t 9)) <|
    o1 15 (.mv (.t 2)) <|
    o1 16 (.bin .geq (.t 14) (.t 15)) <|
    .done)
  cc_slices_siftDownOrdered_int_k7)
  cc_slices_siftDownOrdered_int_k6)
noncomputable def cc_slices_siftDownOrdered_int_l9 : CC :=
  (.block 1 (.seq (.region <| o1 11 (.mv (.t 8)) <|
    o1 12 (.bin .mul (.c (.int .i64 2)) (.t 11)) <|
    o1 13 (.bin .add (.t 12) (.c (.int .i64 1))) <|
    o1 9 (.mv (.t 13)) <|
    .done)
  cc_slices_siftDownOrdered_int_k8))
noncomputable def cc_slices_siftDownOrdered_int_k10 : CC :=
  (.block 0 (.loop cc_slices_siftDownOrdered_int_l9))
noncomputable def cc_slices_siftDownOrdered_int : CC :=
  (.seq (.region <| o1 10 (.mv (.t 1)) <|
    o1 8 (.mv (.t 10)) <|
    .done)
  cc_slices_siftDownOrdered_int_k10)
noncomputable def fe_slices_siftDownOrdered_int : FE := ⟨76, [], cc_slices_siftDownOrdered_int⟩
theorem e_slices_siftDownOrdered_int : compF prog F.slices_siftDownOrdered_int = some fe_slices_siftDownOrdered_int := by kernel_rfl

noncomputable def cc_slices_medianAdjacentOrdered_int_k0 : CC :=
  (.seq (.region <| o1 7 (.mv (.t 0)) <|
    o1 8 (.mv (.t 1)) <|
    o1 9 (.bin .sub (.t 8) (.c (.int .i64 1))) <|
    o1 10 (.mv (.t 1)) <|
    o1 11 (.mv (.t 1)) <|
    o1 12 (.bin .add (.t 11) (.c (.int .i64 1))) <|
    o1 13 (.mv (.t 2)) <|
    .op ⟨some 14, none, .call F.slices_medianOrdered_int [(.t 7), (.t 9), (.t 10), (.t 12), (.t 13)]⟩ [] <|
    o1 6 (.mv (.t 14)) <|
    .done)
  .ret)
noncomputable def cc_slices_medianAdjacentOrdered_int : CC :=
  (.seq (.region <| o1 6 (.mv (.c (.int .i64 0))) <|
    .done)
  cc_slices_medianAdjacentOrdered_int_k0)
noncomputable def fe_slices_medianAdjacentOrdered_int : FE := ⟨15, [.tmp 6], cc_slices_medianAdjacentOrdered_int⟩
theorem e_slices_medianAdjacentOrdered_int : compF prog F.slices_medianAdjacentOrdered_int = some fe_slices_medianAdjacentOrdered_int := by kernel_rfl

noncomputable def cc_slices_medianOrdered_int_k0 : CC :=
  (.seq (.region <| o1 28 (.mv (.t 0)) <|
    o1 29 (.mv (.t 1)) <|
    o1 30 (.mv (.t 2)) <|
    o1 31 (.mv (.t 4)) <|
    .op ⟨some 32, none, .call F.slices_order2Ordered_int [(.t 28), (.t 29), (.t 30), (.t 31)]⟩ [] <|
    o1 27 (.mv (.t 32)) <|
    o1 33 (.extr (.t 27) 0) <|
    o1 34 (.extr (.t 27) 1) <|
    o1 1 (.mv (.t 33)) <|
    o1 2 (.mv (.t 34)) <|
    .done)
  (.seq (.region <| o1 35 (.mv (.t 2)) <|
    o1 10 (.mv (.t 35)) <|
    .done)
  .ret))
noncomputable def cc_slices_medianOrdered_int_k1 : CC :=
  (.seq (.region <| o1 20 (.mv (.t 0)) <|
    o1 21 (.mv (.t 2)) <|
    o1 22 (.mv (.t 3)) <|
    o1 23 (.mv (.t 4)) <|
    .op ⟨some 24, none, .call F.slices_order2Ordered_int [(.t 20), (.t 21), (.t 22), (.t 23)]⟩ [] <|
    o1 19 (.mv (.t 24)) <|
    o1 25 (.extr (.t 19) 0) <|
    o1 26 (.extr (.t 19) 1) <|
    o1 2 (.mv (.t 25)) <|
    o1 3 (.mv (.t 26)) <|
    .done)
  cc_slices_medianOrdered_int_k0)
noncomputable def cc_slices_medianOrdered_int_k2 : CC :=
  (.seq (.region <| o1 12 (.mv (.t 0)) <|
    o1 13 (.mv (.t 1)) <|
    o1 14 (.mv (.t 2)) <|
    o1 15 (.mv (.t 4)) <|
    .op ⟨some 16, none, .call F.slices_order2Ordered_int [(.t 12), (.t 13), (.t 14), (.t 15)]⟩ [] <|
    o1 11 (.mv (.t 16)) <|
    o1 17 (.extr (.t 11) 0) <|
    o1 18 (.extr (.t 11) 1) <|
    o1 1 (.mv (.t 17)) <|
    o1 2 (.mv (.t 18)) <|
    .done)
  cc_slices_medianOrdered_int_k1)
noncomputable def cc_slices_medianOrdered_int : CC :=
  (.seq (.region <| o1 10 (.mv (.c (.int .i64 0))) <|
    .done)
  cc_slices_medianOrdered_int_k2)
noncomputable def fe_slices_medianOrdered_int : FE := ⟨36, [.tmp 10], cc_slices_medianOrdered_int⟩
theorem e_slices_medianOrdered_int : compF prog F.slices_medianOrdered_int = some fe_slices_medianOrdered_int := by kernel_rfl

noncomputable def cc_slices_order2Ordered_int_k0 : CC :=
  (.seq (.region <| o1 26 (.mv (.t 1)) <|
    o1 27 (.mv (.t 2)) <|
    o1 8 (.mv (.t 26)) <|
    o1 9 (.mv (.t 27)) <|
    .done)
  .ret)
noncomputable def cc_slices_order2Ordered_int_k1 : CC :=
  (.seq (.region <| o1 24 (.mv (.t 2)) <|
    o1 25 (.mv (.t 1)) <|
    o1 8 (.mv (.t 24)) <|
    o1 9 (.mv (.t 25)) <|
    .done)
  .ret)
noncomputable def cc_slices_order2Ordered_int_c2 : CC :=
  (.seq (.region <| o1 19 (.mv (.t 3)) <|
    o1 20 (.nilc (.t 19)) <|
    o1 21 (.load1 (.t 20)) <|
    o1 22 (.bin .add (.t 21) (.c (.int .i64 1))) <|
    o1 23 (.nilc (.t 19)) <|
    .op ⟨none, none, .prim (.store 1 (.t 23) (.t 22))⟩ [] <|
    .done)
  cc_slices_order2Ordered_int_k1)
noncomputable def cc_slices_order2Ordered_int_k3 : CC :=
  (.cond (.t 18) cc_slices_order2Ordered_int_c2 .skip)
noncomputable def cc_slices_order2Ordered_int_k4 : CC :=
  (.seq (.seq (.region <| o1 10 (.mv (.t 0)) <|
    o1 11 (.mv (.t 2)) <|
    o1 12 (.iaddr 1 (.t 10) (.t 11)) <|
    o1 13 (.load1 (.t 12)) <|
    o1 14 (.mv (.t 0)) <|
    o1 15 (.mv (.t 1)) <|
    o1 16 (.iaddr 1 (.t 14) (.t 15)) <|
    o1 17 (.load1 (.t 16)) <|
    .op ⟨some 18, none, .call F.cmp_Less_int [(.t 13), (.t 17)]⟩ [] <|
    .done)
  cc_slices_order2Ordered_int_k3)
  cc_slices_order2Ordered_int_k0)
noncomputable def cc_slices_order2Ordered_int : CC :=
  (.seq (.region <| o1 8 (.mv (.c (.int .i64 0))) <|
    o1 9 (.mv (.c (.int .i64 0))) <|
    .done)
  cc_slices_order2Ordered_int_k4)
noncomputable def fe_slices_order2Ordered_int : FE := ⟨28, [.tmp 8, .tmp 9], cc_slices_order2Ordered_int⟩
theorem e_slices_order2Ordered_int : compF prog F.slices_order2Ordered_int = some fe_slices_order2Ordered_int := by kernel_rfl
end Go.Proofs.Tryd
