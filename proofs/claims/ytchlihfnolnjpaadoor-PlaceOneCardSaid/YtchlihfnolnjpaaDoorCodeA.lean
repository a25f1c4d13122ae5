/- The texts of functions, as the framework reads them off the translation. -/
import Derived.Test.YtchlihfnolnjpaaDoorFwC
import Derived.Test.YtchlihfnolnjpaaDoorProg
import Derived.KernelRfl
open Go Go.Abs
set_option linter.unusedVariables false
namespace Go.Proofs.Tryd
abbrev F.cmp_Compare_int : FuncId := 42
abbrev F.cmp_Less_int : FuncId := 89
abbrev F.cmp_Or_int : FuncId := 41
abbrev F.cmp_isNaN_int : FuncId := 64
abbrev F.gemotlaw14_PlaceDuties : FuncId := 4
abbrev F.gemotlaw14_PlaceMeet : FuncId := 5
abbrev F.gemotlaw14_PlaceOne : FuncId := 3
abbrev F.gemotlaw14_made : FuncId := 16
abbrev F.gemotlaw14_pick : FuncId := 7
abbrev F.gemotlaw14_same : FuncId := 9
abbrev F.gemotlaw14_shown : FuncId := 6
abbrev F.gemotref10_Has : FuncId := 20
abbrev F.internal_bytealg_CompareString : FuncId := 65
abbrev F.internal_strconv_FormatInt : FuncId := 53
abbrev F.internal_strconv_Itoa : FuncId := 36
abbrev F.internal_strconv_bool2_int : FuncId := 94
abbrev F.internal_strconv_formatBase10 : FuncId := 74
abbrev F.internal_strconv_isPowerOfTwo : FuncId := 95
abbrev F.internal_strconv_log10Pow2 : FuncId := 93
abbrev F.internal_strconv_small : FuncId := 72
abbrev F.internal_stringslite_HasPrefix : FuncId := 82
abbrev F.math_bits_Len : FuncId := 40
abbrev F.math_bits_Len32 : FuncId := 62
abbrev F.math_bits_Len64 : FuncId := 63
abbrev F.math_bits_TrailingZeros : FuncId := 96
abbrev F.math_bits_TrailingZeros32 : FuncId := 101
abbrev F.math_bits_TrailingZeros64 : FuncId := 102
abbrev F.place_At : FuncId := 19
abbrev F.place_Beside : FuncId := 18
abbrev F.place_Co : FuncId := 15
abbrev F.place_Duties : FuncId := 12
abbrev F.place_Nodes : FuncId := 10
abbrev F.place_Path : FuncId := 11
abbrev F.place_Sponsor : FuncId := 13
abbrev F.place_below : FuncId := 23
abbrev F.place_below__1 : FuncId := 37
abbrev F.place_halves : FuncId := 38
abbrev F.place_shorter : FuncId := 25
abbrev F.slices_Clone_Lint_int : FuncId := 70
abbrev F.slices_Contains_Lint_int : FuncId := 46
abbrev F.slices_DeleteFunc_Lint_int : FuncId := 69
abbrev F.slices_IndexFunc_Lint_int : FuncId := 92
abbrev F.slices_Index_Lint_int : FuncId := 67
abbrev F.slices_SortFunc_Lstring_string : FuncId := 24
abbrev F.slices_Sort_Lint_int : FuncId := 48
abbrev F.slices_breakPatternsCmpFunc_string : FuncId := 56
abbrev F.slices_breakPatternsOrdered_int : FuncId := 85
abbrev F.slices_choosePivotCmpFunc_string : FuncId := 57
abbrev F.slices_choosePivotOrdered_int : FuncId := 86
abbrev F.slices_heapSortCmpFunc_string : FuncId := 55
abbrev F.slices_heapSortOrdered_int : FuncId := 84
abbrev F.slices_insertionSortCmpFunc_string : FuncId := 54
abbrev F.slices_insertionSortOrdered_int : FuncId := 83
abbrev F.slices_medianAdjacentCmpFunc_string : FuncId := 79
abbrev F.slices_medianAdjacentOrdered_int : FuncId := 99
abbrev F.slices_medianCmpFunc_string : FuncId := 80
abbrev F.slices_medianOrdered_int : FuncId := 100
abbrev F.slices_nextPowerOfTwo : FuncId := 77
abbrev F.slices_order2CmpFunc_string : FuncId := 97
abbrev F.slices_order2Ordered_int : FuncId := 103
abbrev F.slices_partialInsertionSortCmpFunc_string : FuncId := 59
abbrev F.slices_partialInsertionSortOrdered_int : FuncId := 88
abbrev F.slices_partitionCmpFunc_string : FuncId := 61
abbrev F.slices_partitionEqualCmpFunc_string : FuncId := 60
abbrev F.slices_partitionEqualOrdered_int : FuncId := 90
abbrev F.slices_partitionOrdered_int : FuncId := 91
abbrev F.slices_pdqsortCmpFunc_string : FuncId := 39
abbrev F.slices_pdqsortOrdered_int : FuncId := 68
abbrev F.slices_reverseRangeCmpFunc_string : FuncId := 58
abbrev F.slices_reverseRangeOrdered_int : FuncId := 87
abbrev F.slices_siftDownCmpFunc_string : FuncId := 76
abbrev F.slices_siftDownOrdered_int : FuncId := 98
abbrev F.slices_xorshift_Next : FuncId := 78
abbrev F.strconv_Itoa : FuncId := 21
abbrev F.strings_Compare : FuncId := 43
abbrev F.strings_HasPrefix : FuncId := 66
abbrev F.tree_Join : FuncId := 14
abbrev F.tree_Join__1 : FuncId := 30
abbrev F.tree_Leaf : FuncId := 8
abbrev F.tree_Leave : FuncId := 34
abbrev F.tree_Leave__1 : FuncId := 50
abbrev F.tree_Members : FuncId := 17
abbrev F.tree_Merge : FuncId := 35
abbrev F.tree_Right : FuncId := 22
abbrev F.tree_node_depth : FuncId := 32
abbrev F.tree_node_each : FuncId := 29
abbrev F.tree_node_each__1 : FuncId := 49
abbrev F.tree_node_full : FuncId := 31
abbrev F.tree_node_greater : FuncId := 52
abbrev F.tree_node_members : FuncId := 28
abbrev F.tree_node_members__1 : FuncId := 47
abbrev F.tree_node_text : FuncId := 33
abbrev F.tree_of : FuncId := 26
abbrev F.tree_read : FuncId := 44
abbrev F.view_Both : FuncId := 51
abbrev F.view_Both__1 : FuncId := 71
abbrev F.view_Has : FuncId := 27
abbrev F.view_Row : FuncId := 45
noncomputable def cc_gemotlaw14_PlaceOne_k0 : CC :=
  (.seq (.region <| o1 66 (.mv (.t 9)) <|
    o1 67 (.bin .eql (.t 66) (.c (.int .i64 0))) <|
    o1 68 (.mv (.t 67)) <|
    .op ⟨some 69, some (68, true), .prim (.mv (.t 6))⟩ [] <|
    .op ⟨some 70, some (68, true), .prim (.mv (.t 1))⟩ [] <|
    .op ⟨some 71, some (68, true), .call F.place_Path [(.t 69), (.t 70)]⟩ [] <|
    .op ⟨some 72, some (68, true), .prim (.lenL (.t 71))⟩ [] <|
    .op ⟨some 73, some (68, true), .prim (.bin .eql (.t 72) (.c (.int .i64 0)))⟩ [] <|
    o1 74 (.pick (.t 68) (.t 73) (.c (.bool false))) <|
    o1 75 (.mv (.t 74)) <|
    .op ⟨some 76, some (75, true), .prim (.mv (.t 8))⟩ [] <|
    .op ⟨some 77, some (75, true), .call F.place_Nodes [(.t 76)]⟩ [] <|
    .op ⟨some 78, some (75, true), .prim (.bslice 9 [(.str [])] 1 3 [(0, (.c (.str []))), (1, (.c (.str [108]))), (2, (.c (.str [114])))])⟩ [] <|
    .op ⟨some 79, some (75, true), .call F.gemotlaw14_same [(.t 77), (.t 78)]⟩ [] <|
    o1 80 (.pick (.t 75) (.t 79) (.c (.bool false))) <|
    o1 81 (.mv (.t 80)) <|
    .op ⟨some 82, some (81, true), .prim (.mv (.t 8))⟩ [] <|
    .op ⟨some 83, some (81, true), .prim (.mv (.t 0))⟩ [] <|
    .op ⟨some 84, some (81, true), .call F.place_Path [(.t 82), (.t 83)]⟩ [] <|
    .op ⟨some 85, some (81, true), .prim (.bslice 9 [(.str [])] 1 2 [(0, (.c (.str [108]))), (1, (.c (.str [])))])⟩ [] <|
    .op ⟨some 86, some (81, true), .call F.gemotlaw14_same [(.t 84), (.t 85)]⟩ [] <|
    o1 87 (.pick (.t 81) (.t 86) (.c (.bool false))) <|
    o1 88 (.mv (.t 87)) <|
    .op ⟨some 89, some (88, true), .prim (.mv (.t 8))⟩ [] <|
    .op ⟨some 90, some (88, true), .prim (.mv (.t 1))⟩ [] <|
    .op ⟨some 91, some (88, true), .call F.place_Path [(.t 89), (.t 90)]⟩ [] <|
    .op ⟨some 92, some (88, true), .prim (.bslice 9 [(.str [])] 1 2 [(0, (.c (.str [114]))), (1, (.c (.str [])))])⟩ [] <|
    .op ⟨some 93, some (88, true), .call F.gemotlaw14_same [(.t 91), (.t 92)]⟩ [] <|
    o1 94 (.pick (.t 88) (.t 93) (.c (.bool false))) <|
    o1 95 (.mv (.t 94)) <|
    .op ⟨some 96, some (95, true), .prim (.mv (.t 8))⟩ [] <|
    .op ⟨some 97, some (95, true), .prim (.mv (.t 0))⟩ [] <|
    .op ⟨some 98, some (95, true), .call F.place_Duties [(.t 96), (.t 97)]⟩ [] <|
    .op ⟨some 99, some (95, true), .prim (.bslice 9 [(.str [])] 1 1 [(0, (.c (.str [108])))])⟩ [] <|
    .op ⟨some 100, some (95, true), .call F.gemotlaw14_same [(.t 98), (.t 99)]⟩ [] <|
    o1 101 (.pick (.t 95) (.t 100) (.c (.bool false))) <|
    o1 102 (.mv (.t 101)) <|
    .op ⟨some 103, some (102, true), .prim (.mv (.t 8))⟩ [] <|
    .op ⟨some 104, some (102, true), .prim (.mv (.t 1))⟩ [] <|
    .op ⟨some 105, some (102, true), .call F.place_Duties [(.t 103), (.t 104)]⟩ [] <|
    .op ⟨some 106, some (102, true), .prim (.bslice 9 [(.str [])] 1 1 [(0, (.c (.str [114])))])⟩ [] <|
    .op ⟨some 107, some (102, true), .call F.gemotlaw14_same [(.t 105), (.t 106)]⟩ [] <|
    o1 108 (.pick (.t 102) (.t 107) (.c (.bool false))) <|
    o1 109 (.mv (.t 108)) <|
    .op ⟨some 110, some (109, true), .prim (.mv (.t 8))⟩ [] <|
    .op ⟨some 111, some (109, true), .prim (.mv (.t 0))⟩ [] <|
    .op ⟨some 112, some (109, true), .call F.place_Co [(.t 110), (.t 111)]⟩ [] <|
    .op ⟨some 113, some (109, true), .prim (.bslice 9 [(.str [])] 1 1 [(0, (.c (.str [114])))])⟩ [] <|
    .op ⟨some 114, some (109, true), .call F.gemotlaw14_same [(.t 112), (.t 113)]⟩ [] <|
    o1 115 (.pick (.t 109) (.t 114) (.c (.bool false))) <|
    o1 116 (.mv (.t 115)) <|
    .op ⟨some 117, some (116, true), .prim (.mv (.t 8))⟩ [] <|
    .op ⟨some 118, some (116, true), .call F.place_Sponsor [(.t 117), (.c (.str []))]⟩ [] <|
    .op ⟨some 119, some (116, true), .prim (.mv (.t 0))⟩ [] <|
    .op ⟨some 120, some (116, true), .prim (.mv (.t 1))⟩ [] <|
    .op ⟨some 121, some (116, true), .prim (.min (.t 119) (.t 120))⟩ [] <|
    .op ⟨some 122, some (116, true), .prim (.bin .eql (.t 118) (.t 121))⟩ [] <|
    o1 123 (.pick (.t 116) (.t 122) (.c (.bool false))) <|
    o1 4 (.mv (.t 123)) <|
    .done)
  .ret)
noncomputable def cc_gemotlaw14_PlaceOne_k1 : CC :=
  (.seq (.region <| o1 61 (.mv (.t 6)) <|
    o1 62 (.mv (.t 1)) <|
    .op ⟨some 63, none, .call F.tree_Join [(.t 61), (.t 62)]⟩ [] <|
    o1 60 (.mv (.t 63)) <|
    o1 64 (.extr (.t 60) 0) <|
    o1 65 (.extr (.t 60) 1) <|
    o1 8 (.mv (.t 64)) <|
    o1 9 (.mv (.t 65)) <|
    .done)
  cc_gemotlaw14_PlaceOne_k0)
noncomputable def cc_gemotlaw14_PlaceOne_c2 : CC :=
  (.seq (.region <| o1 55 (.mv (.t 6)) <|
    o1 56 (.mv (.t 1)) <|
    .op ⟨some 57, none, .call F.place_Path [(.t 55), (.t 56)]⟩ [] <|
    o1 58 (.lenL (.t 57)) <|
    o1 59 (.bin .eql (.t 58) (.c (.int .i64 1))) <|
    o1 4 (.mv (.t 59)) <|
    .done)
  .ret)
noncomputable def cc_gemotlaw14_PlaceOne_k3 : CC :=
  (.cond (.t 54) cc_gemotlaw14_PlaceOne_c2 .skip)
noncomputable def cc_gemotlaw14_PlaceOne_k4 : CC :=
  (.seq (.seq (.region <| o1 52 (.mv (.t 0)) <|
    o1 53 (.mv (.t 1)) <|
    o1 54 (.bin .eql (.t 52) (.t 53)) <|
    .done)
  cc_gemotlaw14_PlaceOne_k3)
  cc_gemotlaw14_PlaceOne_k1)
noncomputable def cc_gemotlaw14_PlaceOne_k5 : CC :=
  (.cond (.t 51) (.seq (.region <| o1 4 (.mv (.c (.bool false))) <|
    .done)
  .ret) .skip)
noncomputable def cc_gemotlaw14_PlaceOne_k6 : CC :=
  (.seq (.seq (.region <| o1 22 (.mv (.t 5)) <|
    o1 23 (.not (.t 22)) <|
    o1 24 (.mv (.t 23)) <|
    .op ⟨some 25, some (24, false), .prim (.mv (.t 6))⟩ [] <|
    .op ⟨some 26, some (24, false), .call F.place_Nodes [(.t 25)]⟩ [] <|
    .op ⟨some 27, some (24, false), .prim (.bslice 9 [(.str [])] 1 1 [(0, (.c (.str [])))])⟩ [] <|
    .op ⟨some 28, some (24, false), .call F.gemotlaw14_same [(.t 26), (.t 27)]⟩ [] <|
    .op ⟨some 29, some (24, false), .prim (.not (.t 28))⟩ [] <|
    o1 30 (.pick (.t 24) (.c (.bool true)) (.t 29)) <|
    o1 31 (.mv (.t 30)) <|
    .op ⟨some 32, some (31, false), .prim (.mv (.t 6))⟩ [] <|
    .op ⟨some 33, some (31, false), .prim (.mv (.t 0))⟩ [] <|
    .op ⟨some 34, some (31, false), .call F.place_Path [(.t 32), (.t 33)]⟩ [] <|
    .op ⟨some 35, some (31, false), .prim (.bslice 9 [(.str [])] 1 1 [(0, (.c (.str [])))])⟩ [] <|
    .op ⟨some 36, some (31, false), .call F.gemotlaw14_same [(.t 34), (.t 35)]⟩ [] <|
    .op ⟨some 37, some (31, false), .prim (.not (.t 36))⟩ [] <|
    o1 38 (.pick (.t 31) (.c (.bool true)) (.t 37)) <|
    o1 39 (.mv (.t 38)) <|
    .op ⟨some 40, some (39, false), .prim (.mv (.t 6))⟩ [] <|
    .op ⟨some 41, some (39, false), .prim (.mv (.t 0))⟩ [] <|
    .op ⟨some 42, some (39, false), .call F.place_Duties [(.t 40), (.t 41)]⟩ [] <|
    .op ⟨some 43, some (39, false), .prim (.lenL (.t 42))⟩ [] <|
    .op ⟨some 44, some (39, false), .prim (.bin .neq (.t 43) (.c (.int .i64 0)))⟩ [] <|
    o1 45 (.pick (.t 39) (.c (.bool true)) (.t 44)) <|
    o1 46 (.mv (.t 45)) <|
    .op ⟨some 47, some (46, false), .prim (.mv (.t 6))⟩ [] <|
    .op ⟨some 48, some (46, false), .call F.place_Sponsor [(.t 47), (.c (.str []))]⟩ [] <|
    .op ⟨some 49, some (46, false), .prim (.mv (.t 0))⟩ [] <|
    .op ⟨some 50, some (46, false), .prim (.bin .neq (.t 48) (.t 49))⟩ [] <|
    o1 51 (.pick (.t 46) (.c (.bool true)) (.t 50)) <|
    .done)
  cc_gemotlaw14_PlaceOne_k5)
  cc_gemotlaw14_PlaceOne_k4)
noncomputable def cc_gemotlaw14_PlaceOne_k7 : CC :=
  (.seq (.region <| o1 18 (.mv (.t 0)) <|
    .op ⟨some 19, none, .call F.tree_Leaf [(.t 18)]⟩ [] <|
    o1 17 (.mv (.t 19)) <|
    o1 20 (.extr (.t 17) 0) <|
    o1 21 (.extr (.t 17) 1) <|
    o1 6 (.mv (.t 20)) <|
    o1 7 (.mv (.t 21)) <|
    .done)
  cc_gemotlaw14_PlaceOne_k6)
noncomputable def cc_gemotlaw14_PlaceOne_k8 : CC :=
  (.seq (.region <| o1 14 (.mv (.t 1)) <|
    .op ⟨some 15, none, .call F.gemotlaw14_pick [(.t 14), (.c (.int .i64 8))]⟩ [] <|
    o1 16 (.bin .add (.c (.int .i64 1)) (.t 15)) <|
    o1 1 (.mv (.t 16)) <|
    .done)
  cc_gemotlaw14_PlaceOne_k7)
noncomputable def cc_gemotlaw14_PlaceOne_k9 : CC :=
  (.seq (.region <| o1 11 (.mv (.t 0)) <|
    .op ⟨some 12, none, .call F.gemotlaw14_pick [(.t 11), (.c (.int .i64 8))]⟩ [] <|
    o1 13 (.bin .add (.c (.int .i64 1)) (.t 12)) <|
    o1 0 (.mv (.t 13)) <|
    .done)
  cc_gemotlaw14_PlaceOne_k8)
noncomputable def cc_gemotlaw14_PlaceOne_k10 : CC :=
  (.seq (.region <| .op ⟨some 10, none, .call F.gemotlaw14_shown []⟩ [] <|
    o1 5 (.mv (.t 10)) <|
    .done)
  cc_gemotlaw14_PlaceOne_k9)
noncomputable def cc_gemotlaw14_PlaceOne : CC :=
  (.seq (.region <| o1 4 (.mv (.c (.bool false))) <|
    .done)
  cc_gemotlaw14_PlaceOne_k10)
noncomputable def fe_gemotlaw14_PlaceOne : FE := ⟨124, [.tmp 4], cc_gemotlaw14_PlaceOne⟩
theorem e_gemotlaw14_PlaceOne : compF prog F.gemotlaw14_PlaceOne = some fe_gemotlaw14_PlaceOne := by kernel_rfl

noncomputable def cc_gemotlaw14_PlaceDuties_k0 : CC :=
  (.seq (.region <| o1 96 (.mv (.t 5)) <|
    o1 97 (.lenL (.t 96)) <|
    o1 98 (.mv (.t 6)) <|
    o1 99 (.lenL (.t 98)) <|
    o1 100 (.bin .mul (.c (.int .i64 2)) (.t 99)) <|
    o1 101 (.bin .sub (.t 100) (.c (.int .i64 1))) <|
    o1 102 (.bin .eql (.t 97) (.t 101)) <|
    o1 2 (.mv (.t 102)) <|
    .done)
  .ret)
noncomputable def cc_gemotlaw14_PlaceDuties_k1 : CC :=
  (.region <| o1 27 (.mv (.t 7)) <|
    o1 28 (.bin .add (.t 27) (.c (.int .i64 1))) <|
    o1 7 (.mv (.t 28)) <|
    .done)
noncomputable def cc_gemotlaw14_PlaceDuties_k2 : CC :=
  (.cond (.t 95) (.seq (.region <| o1 2 (.mv (.c (.bool false))) <|
    .done)
  .ret) .skip)
noncomputable def cc_gemotlaw14_PlaceDuties_k3 : CC :=
  (.seq (.region <| o1 93 (.mv (.t 8)) <|
    o1 94 (.mv (.t 13)) <|
    o1 95 (.bin .neq (.t 93) (.t 94)) <|
    .done)
  cc_gemotlaw14_PlaceDuties_k2)
noncomputable def cc_gemotlaw14_PlaceDuties_k4 : CC :=
  (.cond (.t 92) (.region <| o1 13 (.mv (.c (.int .i64 0))) <|
    .done) .skip)
noncomputable def cc_gemotlaw14_PlaceDuties_k5 : CC :=
  (.seq (.seq (.region <| o1 88 (.mv (.t 5)) <|
    o1 89 (.mv (.t 7)) <|
    o1 90 (.iaddr 1 (.t 88) (.t 89)) <|
    o1 91 (.load1 (.t 90)) <|
    o1 92 (.bin .eql (.t 91) (.c (.str []))) <|
    .done)
  cc_gemotlaw14_PlaceDuties_k4)
  cc_gemotlaw14_PlaceDuties_k3)
noncomputable def cc_gemotlaw14_PlaceDuties_k6 : CC :=
  (.seq (.region <| o1 13 (.mv (.c (.int .i64 1))) <|
    .done)
  cc_gemotlaw14_PlaceDuties_k5)
noncomputable def cc_gemotlaw14_PlaceDuties_k7 : CC :=
  (.region <| o1 33 (.mv (.t 9)) <|
    o1 34 (.bin .add (.t 33) (.c (.int .i64 1))) <|
    o1 9 (.mv (.t 34)) <|
    .done)
noncomputable def cc_gemotlaw14_PlaceDuties_k8 : CC :=
  (.cond (.t 87) (.seq (.region <| o1 2 (.mv (.c (.bool false))) <|
    .done)
  .ret) .skip)
noncomputable def cc_gemotlaw14_PlaceDuties_k9 : CC :=
  (.seq (.region <| o1 64 (.mv (.t 10)) <|
    o1 65 (.lenL (.t 64)) <|
    o1 66 (.mv (.t 12)) <|
    o1 67 (.lenL (.t 66)) <|
    o1 68 (.bin .geq (.t 65) (.t 67)) <|
    o1 69 (.mv (.t 68)) <|
    .op ⟨some 70, some (69, false), .prim (.mv (.t 10))⟩ [] <|
    .op ⟨some 71, some (69, false), .prim (.mv (.t 12))⟩ [] <|
    .op ⟨some 72, some (69, false), .prim (.mv (.t 10))⟩ [] <|
    .op ⟨some 73, some (69, false), .prim (.lenL (.t 72))⟩ [] <|
    .op ⟨some 74, some (69, false), .prim (.slsl 1 (.t 71) none (some (.t 73)))⟩ [] <|
    .op ⟨some 75, some (69, false), .call F.gemotlaw14_same [(.t 70), (.t 74)]⟩ [] <|
    .op ⟨some 76, some (69, false), .prim (.not (.t 75))⟩ [] <|
    o1 77 (.pick (.t 69) (.c (.bool true)) (.t 76)) <|
    o1 78 (.mv (.t 77)) <|
    .op ⟨some 79, some (78, false), .prim (.mv (.t 6))⟩ [] <|
    .op ⟨some 80, some (78, false), .prim (.lenL (.t 79))⟩ [] <|
    .op ⟨some 81, some (78, false), .prim (.bin .gtr (.t 80) (.c (.int .i64 1)))⟩ [] <|
    .op ⟨some 82, some (78, false), .prim (.mv (.t 81))⟩ [] <|
    .op ⟨some 83, some (82, true), .prim (.mv (.t 10))⟩ [] <|
    .op ⟨some 84, some (82, true), .prim (.lenL (.t 83))⟩ [] <|
    .op ⟨some 85, some (82, true), .prim (.bin .eql (.t 84) (.c (.int .i64 0)))⟩ [] <|
    .op ⟨some 86, some (78, false), .prim (.pick (.t 82) (.t 85) (.c (.bool false)))⟩ [] <|
    o1 87 (.pick (.t 78) (.c (.bool true)) (.t 86)) <|
    .done)
  cc_gemotlaw14_PlaceDuties_k8)
noncomputable def cc_gemotlaw14_PlaceDuties_k10 : CC :=
  (.seq (.region <| o1 58 (.mv (.t 4)) <|
    o1 59 (.mv (.t 6)) <|
    o1 60 (.mv (.t 9)) <|
    o1 61 (.iaddr 1 (.t 59) (.t 60)) <|
    o1 62 (.load1 (.t 61)) <|
    .op ⟨some 63, none, .call F.place_Path [(.t 58), (.t 62)]⟩ [] <|
    o1 12 (.mv (.t 63)) <|
    .done)
  cc_gemotlaw14_PlaceDuties_k9)
noncomputable def cc_gemotlaw14_PlaceDuties_k11 : CC :=
  (.region <| o1 45 (.mv (.t 11)) <|
    o1 46 (.bin .add (.t 45) (.c (.int .i64 1))) <|
    o1 11 (.mv (.t 46)) <|
    .done)
noncomputable def cc_gemotlaw14_PlaceDuties_c12 : CC :=
  (.region <| o1 56 (.mv (.t 8)) <|
    o1 57 (.bin .add (.t 56) (.c (.int .i64 1))) <|
    o1 8 (.mv (.t 57)) <|
    .done)
noncomputable def cc_gemotlaw14_PlaceDuties_k13 : CC :=
  (.cond (.t 55) cc_gemotlaw14_PlaceDuties_c12 .skip)
noncomputable def cc_gemotlaw14_PlaceDuties_k14 : CC :=
  (.seq (.block 5 (.seq (.region <| o1 47 (.mv (.t 10)) <|
    o1 48 (.mv (.t 11)) <|
    o1 49 (.iaddr 1 (.t 47) (.t 48)) <|
    o1 50 (.load1 (.t 49)) <|
    o1 51 (.mv (.t 5)) <|
    o1 52 (.mv (.t 7)) <|
    o1 53 (.iaddr 1 (.t 51) (.t 52)) <|
    o1 54 (.load1 (.t 53)) <|
    o1 55 (.bin .eql (.t 50) (.t 54)) <|
    .done)
  cc_gemotlaw14_PlaceDuties_k13))
  cc_gemotlaw14_PlaceDuties_k11)
noncomputable def cc_gemotlaw14_PlaceDuties_k15 : CC :=
  (.cond (.t 44) .skip (.exit 4))
noncomputable def cc_gemotlaw14_PlaceDuties_l16 : CC :=
  (.seq (.seq (.region <| o1 41 (.mv (.t 11)) <|
    o1 42 (.mv (.t 10)) <|
    o1 43 (.lenL (.t 42)) <|
    o1 44 (.bin .lss (.t 41) (.t 43)) <|
    .done)
  cc_gemotlaw14_PlaceDuties_k15)
  cc_gemotlaw14_PlaceDuties_k14)
noncomputable def cc_gemotlaw14_PlaceDuties_k17 : CC :=
  (.block 4 (.loop cc_gemotlaw14_PlaceDuties_l16))
noncomputable def cc_gemotlaw14_PlaceDuties_k18 : CC :=
  (.seq (.seq (.region <| o1 11 (.mv (.c (.int .i64 0))) <|
    .done)
  cc_gemotlaw14_PlaceDuties_k17)
  cc_gemotlaw14_PlaceDuties_k10)
noncomputable def cc_gemotlaw14_PlaceDuties_k19 : CC :=
  (.seq (.block 3 (.seq (.region <| o1 35 (.mv (.t 4)) <|
    o1 36 (.mv (.t 6)) <|
    o1 37 (.mv (.t 9)) <|
    o1 38 (.iaddr 1 (.t 36) (.t 37)) <|
    o1 39 (.load1 (.t 38)) <|
    .op ⟨some 40, none, .call F.place_Duties [(.t 35), (.t 39)]⟩ [] <|
    o1 10 (.mv (.t 40)) <|
    .done)
  cc_gemotlaw14_PlaceDuties_k18))
  cc_gemotlaw14_PlaceDuties_k7)
noncomputable def cc_gemotlaw14_PlaceDuties_k20 : CC :=
  (.cond (.t 32) .skip (.exit 2))
noncomputable def cc_gemotlaw14_PlaceDuties_l21 : CC :=
  (.seq (.seq (.region <| o1 29 (.mv (.t 9)) <|
    o1 30 (.mv (.t 6)) <|
    o1 31 (.lenL (.t 30)) <|
    o1 32 (.bin .lss (.t 29) (.t 31)) <|
    .done)
  cc_gemotlaw14_PlaceDuties_k20)
  cc_gemotlaw14_PlaceDuties_k19)
noncomputable def cc_gemotlaw14_PlaceDuties_k22 : CC :=
  (.block 2 (.loop cc_gemotlaw14_PlaceDuties_l21))
noncomputable def cc_gemotlaw14_PlaceDuties_k23 : CC :=
  (.seq (.seq (.region <| o1 9 (.mv (.c (.int .i64 0))) <|
    .done)
  cc_gemotlaw14_PlaceDuties_k22)
  cc_gemotlaw14_PlaceDuties_k6)
noncomputable def cc_gemotlaw14_PlaceDuties_k24 : CC :=
  (.seq (.block 1 (.seq (.region <| o1 8 (.mv (.c (.int .i64 0))) <|
    .done)
  cc_gemotlaw14_PlaceDuties_k23))
  cc_gemotlaw14_PlaceDuties_k1)
noncomputable def cc_gemotlaw14_PlaceDuties_k25 : CC :=
  (.cond (.t 26) .skip (.exit 0))
noncomputable def cc_gemotlaw14_PlaceDuties_l26 : CC :=
  (.seq (.seq (.region <| o1 23 (.mv (.t 7)) <|
    o1 24 (.mv (.t 5)) <|
    o1 25 (.lenL (.t 24)) <|
    o1 26 (.bin .lss (.t 23) (.t 25)) <|
    .done)
  cc_gemotlaw14_PlaceDuties_k25)
  cc_gemotlaw14_PlaceDuties_k24)
noncomputable def cc_gemotlaw14_PlaceDuties_k27 : CC :=
  (.block 0 (.loop cc_gemotlaw14_PlaceDuties_l26))
noncomputable def cc_gemotlaw14_PlaceDuties_k28 : CC :=
  (.seq (.seq (.region <| o1 7 (.mv (.c (.int .i64 0))) <|
    .done)
  cc_gemotlaw14_PlaceDuties_k27)
  cc_gemotlaw14_PlaceDuties_k0)
noncomputable def cc_gemotlaw14_PlaceDuties_k29 : CC :=
  (.seq (.region <| o1 21 (.mv (.t 4)) <|
    .op ⟨some 22, none, .call F.tree_Members [(.t 21)]⟩ [] <|
    o1 6 (.mv (.t 22)) <|
    .done)
  cc_gemotlaw14_PlaceDuties_k28)
noncomputable def cc_gemotlaw14_PlaceDuties_k30 : CC :=
  (.seq (.region <| o1 19 (.mv (.t 4)) <|
    .op ⟨some 20, none, .call F.place_Nodes [(.t 19)]⟩ [] <|
    o1 5 (.mv (.t 20)) <|
    .done)
  cc_gemotlaw14_PlaceDuties_k29)
noncomputable def cc_gemotlaw14_PlaceDuties_k31 : CC :=
  (.seq (.region <| o1 17 (.mv (.t 0)) <|
    .op ⟨some 18, none, .call F.gemotlaw14_made [(.t 17)]⟩ [] <|
    o1 4 (.mv (.t 18)) <|
    .done)
  cc_gemotlaw14_PlaceDuties_k30)
noncomputable def cc_gemotlaw14_PlaceDuties_k32 : CC :=
  (.cond (.t 16) (.seq (.region <| o1 2 (.mv (.c (.bool false))) <|
    .done)
  .ret) .skip)
noncomputable def cc_gemotlaw14_PlaceDuties_k33 : CC :=
  (.seq (.seq (.region <| o1 15 (.mv (.t 3)) <|
    o1 16 (.not (.t 15)) <|
    .done)
  cc_gemotlaw14_PlaceDuties_k32)
  cc_gemotlaw14_PlaceDuties_k31)
noncomputable def cc_gemotlaw14_PlaceDuties_k34 : CC :=
  (.seq (.region <| .op ⟨some 14, none, .call F.gemotlaw14_shown []⟩ [] <|
    o1 3 (.mv (.t 14)) <|
    .done)
  cc_gemotlaw14_PlaceDuties_k33)
noncomputable def cc_gemotlaw14_PlaceDuties : CC :=
  (.seq (.region <| o1 2 (.mv (.c (.bool false))) <|
    .done)
  cc_gemotlaw14_PlaceDuties_k34)
noncomputable def fe_gemotlaw14_PlaceDuties : FE := ⟨103, [.tmp 2], cc_gemotlaw14_PlaceDuties⟩
theorem e_gemotlaw14_PlaceDuties : compF prog F.gemotlaw14_PlaceDuties = some fe_gemotlaw14_PlaceDuties := by kernel_rfl

noncomputable def cc_gemotlaw14_PlaceMeet_k0 : CC :=
  (.region <| o1 123 (.mv (.t 17)) <|
    o1 124 (.bin .add (.t 123) (.c (.int .i64 1))) <|
    o1 17 (.mv (.t 124)) <|
    .done)
noncomputable def cc_gemotlaw14_PlaceMeet_k1 : CC :=
  (.cond (.t 158) (.seq (.region <| o1 6 (.mv (.c (.bool false))) <|
    .done)
  .ret) .skip)
noncomputable def cc_gemotlaw14_PlaceMeet_k2 : CC :=
  (.seq (.region <| o1 136 (.mv (.t 20)) <|
    o1 137 (.lenL (.t 136)) <|
    o1 138 (.bin .eql (.t 137) (.c (.int .i64 0))) <|
    o1 139 (.mv (.t 138)) <|
    .op ⟨some 140, some (139, false), .prim (.mv (.t 8))⟩ [] <|
    .op ⟨some 141, some (139, false), .prim (.mv (.t 16))⟩ [] <|
    .op ⟨some 142, some (139, false), .prim (.mv (.t 17))⟩ [] <|
    .op ⟨some 143, some (139, false), .prim (.iaddr 1 (.t 141) (.t 142))⟩ [] <|
    .op ⟨some 144, some (139, false), .prim (.load1 (.t 143))⟩ [] <|
    .op ⟨some 146, some (139, false), .prim (.mv (.t 20))⟩ [] <|
    .op ⟨some 147, some (139, false), .prim (.iaddr 1 (.t 146) (.c (.int .i64 0)))⟩ [] <|
    .op ⟨some 148, some (139, false), .prim (.load1 (.t 147))⟩ [] <|
    .op ⟨some 145, some (139, false), .call F.place_Sponsor [(.t 140), (.t 144)]⟩ [⟨some 148, some (139, false), .prim (.load1 (.t 147))⟩] <|
    .op ⟨some 149, some (139, false), .prim (.bin .neq (.t 145) (.t 148))⟩ [] <|
    o1 150 (.pick (.t 139) (.c (.bool true)) (.t 149)) <|
    o1 151 (.mv (.t 150)) <|
    .op ⟨some 152, some (151, false), .prim (.mv (.t 9))⟩ [] <|
    .op ⟨some 153, some (151, false), .prim (.mv (.t 20))⟩ [] <|
    .op ⟨some 154, some (151, false), .prim (.iaddr 1 (.t 153) (.c (.int .i64 0)))⟩ [] <|
    .op ⟨some 155, some (151, false), .prim (.load1 (.t 154))⟩ [] <|
    .op ⟨some 156, some (151, false), .call F.gemotref10_Has [(.t 152), (.t 155)]⟩ [] <|
    .op ⟨some 157, some (151, false), .prim (.not (.t 156))⟩ [] <|
    o1 158 (.pick (.t 151) (.c (.bool true)) (.t 157)) <|
    .done)
  cc_gemotlaw14_PlaceMeet_k1)
noncomputable def cc_gemotlaw14_PlaceMeet_k3 : CC :=
  (.seq (.region <| o1 134 (.mv (.t 18)) <|
    .op ⟨some 135, none, .call F.tree_Members [(.t 134)]⟩ [] <|
    o1 20 (.mv (.t 135)) <|
    .done)
  cc_gemotlaw14_PlaceMeet_k2)
noncomputable def cc_gemotlaw14_PlaceMeet_k4 : CC :=
  (.seq (.block 7 (.seq (.region <| o1 126 (.mv (.t 8)) <|
    o1 127 (.mv (.t 16)) <|
    o1 128 (.mv (.t 17)) <|
    o1 129 (.iaddr 1 (.t 127) (.t 128)) <|
    o1 130 (.load1 (.t 129)) <|
    .op ⟨some 131, none, .call F.place_At [(.t 126), (.t 130)]⟩ [] <|
    o1 125 (.mv (.t 131)) <|
    o1 132 (.extr (.t 125) 0) <|
    o1 133 (.extr (.t 125) 1) <|
    o1 18 (.mv (.t 132)) <|
    o1 19 (.mv (.t 133)) <|
    .done)
  cc_gemotlaw14_PlaceMeet_k3))
  cc_gemotlaw14_PlaceMeet_k0)
noncomputable def cc_gemotlaw14_PlaceMeet_k5 : CC :=
  (.cond (.t 122) .skip (.exit 6))
noncomputable def cc_gemotlaw14_PlaceMeet_l6 : CC :=
  (.seq (.seq (.region <| o1 119 (.mv (.t 17)) <|
    o1 120 (.mv (.t 16)) <|
    o1 121 (.lenL (.t 120)) <|
    o1 122 (.bin .lss (.t 119) (.t 121)) <|
    .done)
  cc_gemotlaw14_PlaceMeet_k5)
  cc_gemotlaw14_PlaceMeet_k4)
noncomputable def cc_gemotlaw14_PlaceMeet_k7 : CC :=
  (.block 6 (.loop cc_gemotlaw14_PlaceMeet_l6))
noncomputable def cc_gemotlaw14_PlaceMeet_k8 : CC :=
  (.seq (.seq (.region <| o1 17 (.mv (.c (.int .i64 0))) <|
    .done)
  cc_gemotlaw14_PlaceMeet_k7)
  (.seq (.region <| o1 6 (.mv (.c (.bool true))) <|
    .done)
  .ret))
noncomputable def cc_gemotlaw14_PlaceMeet_k9 : CC :=
  (.seq (.region <| o1 117 (.mv (.t 8)) <|
    .op ⟨some 118, none, .call F.place_Nodes [(.t 117)]⟩ [] <|
    o1 16 (.mv (.t 118)) <|
    .done)
  cc_gemotlaw14_PlaceMeet_k8)
noncomputable def cc_gemotlaw14_PlaceMeet_k10 : CC :=
  (.cond (.t 116) (.seq (.region <| o1 6 (.mv (.c (.bool false))) <|
    .done)
  .ret) .skip)
noncomputable def cc_gemotlaw14_PlaceMeet_k11 : CC :=
  (.seq (.seq (.region <| o1 92 (.mv (.t 12)) <|
    o1 93 (.bin .geq (.t 92) (.c (.int .i64 0))) <|
    o1 94 (.mv (.t 93)) <|
    .op ⟨some 95, some (94, true), .prim (.mv (.t 13))⟩ [] <|
    .op ⟨some 96, some (94, true), .prim (.bin .geq (.t 95) (.c (.int .i64 0)))⟩ [] <|
    o1 97 (.pick (.t 94) (.t 96) (.c (.bool false))) <|
    o1 98 (.mv (.t 97)) <|
    .op ⟨some 99, some (98, true), .prim (.mv (.t 10))⟩ [] <|
    .op ⟨some 100, some (98, true), .prim (.mv (.t 12))⟩ [] <|
    .op ⟨some 101, some (98, true), .prim (.iaddr 1 (.t 99) (.t 100))⟩ [] <|
    .op ⟨some 102, some (98, true), .prim (.load1 (.t 101))⟩ [] <|
    .op ⟨some 104, some (98, true), .prim (.mv (.t 11))⟩ [] <|
    .op ⟨some 105, some (98, true), .prim (.mv (.t 13))⟩ [] <|
    .op ⟨some 106, some (98, true), .prim (.iaddr 1 (.t 104) (.t 105))⟩ [] <|
    .op ⟨some 107, some (98, true), .prim (.load1 (.t 106))⟩ [] <|
    .op ⟨some 103, some (98, true), .call F.place_Beside [(.t 102)]⟩ [⟨some 107, some (98, true), .prim (.load1 (.t 106))⟩] <|
    .op ⟨some 108, some (98, true), .prim (.bin .neq (.t 103) (.t 107))⟩ [] <|
    o1 109 (.pick (.t 98) (.t 108) (.c (.bool false))) <|
    o1 110 (.mv (.t 109)) <|
    .op ⟨some 111, some (110, false), .prim (.mv (.t 12))⟩ [] <|
    .op ⟨some 112, some (110, false), .prim (.bin .lss (.t 111) (.c (.int .i64 0)))⟩ [] <|
    .op ⟨some 113, some (110, false), .prim (.mv (.t 13))⟩ [] <|
    .op ⟨some 114, some (110, false), .prim (.bin .lss (.t 113) (.c (.int .i64 0)))⟩ [] <|
    .op ⟨some 115, some (110, false), .prim (.eq2 0 true (.t 112) (.t 114))⟩ [] <|
    o1 116 (.pick (.t 110) (.c (.bool true)) (.t 115)) <|
    .done)
  cc_gemotlaw14_PlaceMeet_k10)
  cc_gemotlaw14_PlaceMeet_k9)
noncomputable def cc_gemotlaw14_PlaceMeet_k12 : CC :=
  (.region <| o1 76 (.mv (.t 14)) <|
    o1 77 (.bin .add (.t 76) (.c (.int .i64 1))) <|
    o1 14 (.mv (.t 77)) <|
    .done)
noncomputable def cc_gemotlaw14_PlaceMeet_k13 : CC :=
  (.region <| o1 81 (.mv (.t 15)) <|
    o1 82 (.bin .add (.t 81) (.c (.int .i64 1))) <|
    o1 15 (.mv (.t 82)) <|
    .done)
noncomputable def cc_gemotlaw14_PlaceMeet_k14 : CC :=
  (.cond (.t 91) (.seq (.region <| o1 6 (.mv (.c (.bool false))) <|
    .done)
  .ret) .skip)
noncomputable def cc_gemotlaw14_PlaceMeet_k15 : CC :=
  (.seq (.block 5 (.seq (.region <| o1 83 (.mv (.t 10)) <|
    o1 84 (.mv (.t 14)) <|
    o1 85 (.iaddr 1 (.t 83) (.t 84)) <|
    o1 86 (.load1 (.t 85)) <|
    o1 87 (.mv (.t 11)) <|
    o1 88 (.mv (.t 15)) <|
    o1 89 (.iaddr 1 (.t 87) (.t 88)) <|
    o1 90 (.load1 (.t 89)) <|
    o1 91 (.bin .eql (.t 86) (.t 90)) <|
    .done)
  cc_gemotlaw14_PlaceMeet_k14))
  cc_gemotlaw14_PlaceMeet_k13)
noncomputable def cc_gemotlaw14_PlaceMeet_k16 : CC :=
  (.cond (.t 80) .skip (.exit 4))
noncomputable def cc_gemotlaw14_PlaceMeet_l17 : CC :=
  (.seq (.seq (.region <| o1 78 (.mv (.t 15)) <|
    o1 79 (.mv (.t 13)) <|
    o1 80 (.bin .leq (.t 78) (.t 79)) <|
    .done)
  cc_gemotlaw14_PlaceMeet_k16)
  cc_gemotlaw14_PlaceMeet_k15)
noncomputable def cc_gemotlaw14_PlaceMeet_k18 : CC :=
  (.block 4 (.loop cc_gemotlaw14_PlaceMeet_l17))
noncomputable def cc_gemotlaw14_PlaceMeet_k19 : CC :=
  (.seq (.block 3 (.seq (.region <| o1 15 (.mv (.c (.int .i64 0))) <|
    .done)
  cc_gemotlaw14_PlaceMeet_k18))
  cc_gemotlaw14_PlaceMeet_k12)
noncomputable def cc_gemotlaw14_PlaceMeet_k20 : CC :=
  (.cond (.t 75) .skip (.exit 2))
noncomputable def cc_gemotlaw14_PlaceMeet_l21 : CC :=
  (.seq (.seq (.region <| o1 73 (.mv (.t 14)) <|
    o1 74 (.mv (.t 12)) <|
    o1 75 (.bin .leq (.t 73) (.t 74)) <|
    .done)
  cc_gemotlaw14_PlaceMeet_k20)
  cc_gemotlaw14_PlaceMeet_k19)
noncomputable def cc_gemotlaw14_PlaceMeet_k22 : CC :=
  (.block 2 (.loop cc_gemotlaw14_PlaceMeet_l21))
noncomputable def cc_gemotlaw14_PlaceMeet_k23 : CC :=
  (.seq (.seq (.region <| o1 14 (.mv (.c (.int .i64 0))) <|
    .done)
  cc_gemotlaw14_PlaceMeet_k22)
  cc_gemotlaw14_PlaceMeet_k11)
noncomputable def cc_gemotlaw14_PlaceMeet_k24 : CC :=
  (.region <| o1 71 (.mv (.t 13)) <|
    o1 72 (.bin .sub (.t 71) (.c (.int .i64 1))) <|
    o1 13 (.mv (.t 72)) <|
    .done)
noncomputable def cc_gemotlaw14_PlaceMeet_k25 : CC :=
  (.block 1 (.seq (.region <| o1 69 (.mv (.t 12)) <|
    o1 70 (.bin .sub (.t 69) (.c (.int .i64 1))) <|
    o1 12 (.mv (.t 70)) <|
    .done)
  cc_gemotlaw14_PlaceMeet_k24))
noncomputable def cc_gemotlaw14_PlaceMeet_k26 : CC :=
  (.cond (.t 68) .skip (.exit 0))
noncomputable def cc_gemotlaw14_PlaceMeet_l27 : CC :=
  (.seq (.seq (.region <| o1 52 (.mv (.t 12)) <|
    o1 53 (.bin .geq (.t 52) (.c (.int .i64 0))) <|
    o1 54 (.mv (.t 53)) <|
    .op ⟨some 55, some (54, true), .prim (.mv (.t 13))⟩ [] <|
    .op ⟨some 56, some (54, true), .prim (.bin .geq (.t 55) (.c (.int .i64 0)))⟩ [] <|
    o1 57 (.pick (.t 54) (.t 56) (.c (.bool false))) <|
    o1 58 (.mv (.t 57)) <|
    .op ⟨some 59, some (58, true), .prim (.mv (.t 10))⟩ [] <|
    .op ⟨some 60, some (58, true), .prim (.mv (.t 12))⟩ [] <|
    .op ⟨some 61, some (58, true), .prim (.iaddr 1 (.t 59) (.t 60))⟩ [] <|
    .op ⟨some 62, some (58, true), .prim (.load1 (.t 61))⟩ [] <|
    .op ⟨some 63, some (58, true), .prim (.mv (.t 11))⟩ [] <|
    .op ⟨some 64, some (58, true), .prim (.mv (.t 13))⟩ [] <|
    .op ⟨some 65, some (58, true), .prim (.iaddr 1 (.t 63) (.t 64))⟩ [] <|
    .op ⟨some 66, some (58, true), .prim (.load1 (.t 65))⟩ [] <|
    .op ⟨some 67, some (58, true), .prim (.bin .eql (.t 62) (.t 66))⟩ [] <|
    o1 68 (.pick (.t 58) (.t 67) (.c (.bool false))) <|
    .done)
  cc_gemotlaw14_PlaceMeet_k26)
  cc_gemotlaw14_PlaceMeet_k25)
noncomputable def cc_gemotlaw14_PlaceMeet_k28 : CC :=
  (.seq (.block 0 (.loop cc_gemotlaw14_PlaceMeet_l27))
  cc_gemotlaw14_PlaceMeet_k23)
noncomputable def cc_gemotlaw14_PlaceMeet_k29 : CC :=
  (.seq (.region <| o1 49 (.mv (.t 11)) <|
    o1 50 (.lenL (.t 49)) <|
    o1 51 (.bin .sub (.t 50) (.c (.int .i64 1))) <|
    o1 13 (.mv (.t 51)) <|
    .done)
  cc_gemotlaw14_PlaceMeet_k28)
noncomputable def cc_gemotlaw14_PlaceMeet_k30 : CC :=
  (.seq (.region <| o1 46 (.mv (.t 10)) <|
    o1 47 (.lenL (.t 46)) <|
    o1 48 (.bin .sub (.t 47) (.c (.int .i64 1))) <|
    o1 12 (.mv (.t 48)) <|
    .done)
  cc_gemotlaw14_PlaceMeet_k29)
noncomputable def cc_gemotlaw14_PlaceMeet_k31 : CC :=
  (.seq (.region <| o1 37 (.mv (.t 8)) <|
    o1 38 (.mv (.t 9)) <|
    o1 39 (.mv (.t 2)) <|
    o1 40 (.mv (.t 9)) <|
    o1 41 (.lenL (.t 40)) <|
    .op ⟨some 42, none, .call F.gemotlaw14_pick [(.t 39), (.t 41)]⟩ [] <|
    o1 43 (.iaddr 1 (.t 38) (.t 42)) <|
    o1 44 (.load1 (.t 43)) <|
    .op ⟨some 45, none, .call F.place_Path [(.t 37), (.t 44)]⟩ [] <|
    o1 11 (.mv (.t 45)) <|
    .done)
  cc_gemotlaw14_PlaceMeet_k30)
noncomputable def cc_gemotlaw14_PlaceMeet_k32 : CC :=
  (.seq (.region <| o1 28 (.mv (.t 8)) <|
    o1 29 (.mv (.t 9)) <|
    o1 30 (.mv (.t 1)) <|
    o1 31 (.mv (.t 9)) <|
    o1 32 (.lenL (.t 31)) <|
    .op ⟨some 33, none, .call F.gemotlaw14_pick [(.t 30), (.t 32)]⟩ [] <|
    o1 34 (.iaddr 1 (.t 29) (.t 33)) <|
    o1 35 (.load1 (.t 34)) <|
    .op ⟨some 36, none, .call F.place_Path [(.t 28), (.t 35)]⟩ [] <|
    o1 10 (.mv (.t 36)) <|
    .done)
  cc_gemotlaw14_PlaceMeet_k31)
noncomputable def cc_gemotlaw14_PlaceMeet_k33 : CC :=
  (.seq (.region <| o1 26 (.mv (.t 8)) <|
    .op ⟨some 27, none, .call F.tree_Members [(.t 26)]⟩ [] <|
    o1 9 (.mv (.t 27)) <|
    .done)
  cc_gemotlaw14_PlaceMeet_k32)
noncomputable def cc_gemotlaw14_PlaceMeet_k34 : CC :=
  (.seq (.region <| o1 24 (.mv (.t 0)) <|
    .op ⟨some 25, none, .call F.gemotlaw14_made [(.t 24)]⟩ [] <|
    o1 8 (.mv (.t 25)) <|
    .done)
  cc_gemotlaw14_PlaceMeet_k33)
noncomputable def cc_gemotlaw14_PlaceMeet_k35 : CC :=
  (.cond (.t 23) (.seq (.region <| o1 6 (.mv (.c (.bool false))) <|
    .done)
  .ret) .skip)
noncomputable def cc_gemotlaw14_PlaceMeet_k36 : CC :=
  (.seq (.seq (.region <| o1 22 (.mv (.t 7)) <|
    o1 23 (.not (.t 22)) <|
    .done)
  cc_gemotlaw14_PlaceMeet_k35)
  cc_gemotlaw14_PlaceMeet_k34)
noncomputable def cc_gemotlaw14_PlaceMeet_k37 : CC :=
  (.seq (.region <| .op ⟨some 21, none, .call F.gemotlaw14_shown []⟩ [] <|
    o1 7 (.mv (.t 21)) <|
    .done)
  cc_gemotlaw14_PlaceMeet_k36)
noncomputable def cc_gemotlaw14_PlaceMeet : CC :=
  (.seq (.region <| o1 6 (.mv (.c (.bool false))) <|
    .done)
  cc_gemotlaw14_PlaceMeet_k37)
noncomputable def fe_gemotlaw14_PlaceMeet : FE := ⟨159, [.tmp 6], cc_gemotlaw14_PlaceMeet⟩
theorem e_gemotlaw14_PlaceMeet : compF prog F.gemotlaw14_PlaceMeet = some fe_gemotlaw14_PlaceMeet := by kernel_rfl

noncomputable def cc_gemotlaw14_shown_k0 : CC :=
  (.seq (.region <| .op ⟨some 1, none, .call F.place_Path [(.c (.str [40, 40, 49, 50, 41, 51, 41])), (.c (.int .i64 2))]⟩ [] <|
    o1 2 (.bslice 9 [(.str [])] 1 3 [(0, (.c (.str [108, 114]))), (1, (.c (.str [108]))), (2, (.c (.str [])))]) <|
    .op ⟨some 3, none, .call F.gemotlaw14_same [(.t 1), (.t 2)]⟩ [] <|
    o1 4 (.mv (.t 3)) <|
    .op ⟨some 5, some (4, true), .call F.place_Co [(.c (.str [40, 40, 49, 50, 41, 51, 41])), (.c (.int .i64 2))]⟩ [] <|
    .op ⟨some 6, some (4, true), .prim (.bslice 9 [(.str [])] 1 2 [(0, (.c (.str [108, 108]))), (1, (.c (.str [114])))])⟩ [] <|
    .op ⟨some 7, some (4, true), .call F.gemotlaw14_same [(.t 5), (.t 6)]⟩ [] <|
    o1 8 (.pick (.t 4) (.t 7) (.c (.bool false))) <|
    o1 9 (.mv (.t 8)) <|
    .op ⟨some 10, some (9, true), .call F.place_Duties [(.c (.str [40, 40, 49, 50, 41, 51, 41])), (.c (.int .i64 1))]⟩ [] <|
    .op ⟨some 11, some (9, true), .prim (.bslice 9 [(.str [])] 1 2 [(0, (.c (.str [108, 108]))), (1, (.c (.str [108])))])⟩ [] <|
    .op ⟨some 12, some (9, true), .call F.gemotlaw14_same [(.t 10), (.t 11)]⟩ [] <|
    o1 13 (.pick (.t 9) (.t 12) (.c (.bool false))) <|
    o1 0 (.mv (.t 13)) <|
    .done)
  .ret)
noncomputable def cc_gemotlaw14_shown : CC :=
  (.seq (.region <| o1 0 (.mv (.c (.bool false))) <|
    .done)
  cc_gemotlaw14_shown_k0)
noncomputable def fe_gemotlaw14_shown : FE := ⟨14, [.tmp 0], cc_gemotlaw14_shown⟩
theorem e_gemotlaw14_shown : compF prog F.gemotlaw14_shown = some fe_gemotlaw14_shown := by kernel_rfl

noncomputable def cc_gemotlaw14_pick_k0 : CC :=
  (.seq (.region <| o1 10 (.mv (.t 0)) <|
    o1 11 (.mv (.t 1)) <|
    o1 12 (.bin .rem (.t 10) (.t 11)) <|
    o1 4 (.mv (.t 12)) <|
    .done)
  .ret)
noncomputable def cc_gemotlaw14_pick_c1 : CC :=
  (.region <| o1 7 (.mv (.t 0)) <|
    o1 8 (.bin .add (.t 7) (.c (.int .i64 1))) <|
    o1 9 (.neg (.t 8)) <|
    o1 0 (.mv (.t 9)) <|
    .done)
noncomputable def cc_gemotlaw14_pick_k2 : CC :=
  (.cond (.t 6) cc_gemotlaw14_pick_c1 .skip)
noncomputable def cc_gemotlaw14_pick_k3 : CC :=
  (.seq (.seq (.region <| o1 5 (.mv (.t 0)) <|
    o1 6 (.bin .lss (.t 5) (.c (.int .i64 0))) <|
    .done)
  cc_gemotlaw14_pick_k2)
  cc_gemotlaw14_pick_k0)
noncomputable def cc_gemotlaw14_pick : CC :=
  (.seq (.region <| o1 4 (.mv (.c (.int .i64 0))) <|
    .done)
  cc_gemotlaw14_pick_k3)
noncomputable def fe_gemotlaw14_pick : FE := ⟨13, [.tmp 4], cc_gemotlaw14_pick⟩
theorem e_gemotlaw14_pick : compF prog F.gemotlaw14_pick = some fe_gemotlaw14_pick := by kernel_rfl

noncomputable def cc_tree_Leaf_k0 : CC :=
  (.seq (.region <| o1 10 (.mv (.t 0)) <|
    .op ⟨some 11, none, .call F.strconv_Itoa [(.t 10)]⟩ [] <|
    o1 2 (.mv (.t 11)) <|
    o1 3 (.mv (.c (.int .i64 0))) <|
    .done)
  .ret)
noncomputable def cc_tree_Leaf_k1 : CC :=
  (.cond (.t 9) (.seq (.region <| o1 2 (.mv (.c (.str []))) <|
    o1 3 (.mv (.c (.int .i64 1))) <|
    .done)
  .ret) .skip)
noncomputable def cc_tree_Leaf_k2 : CC :=
  (.seq (.seq (.region <| o1 4 (.mv (.t 0)) <|
    o1 5 (.bin .lss (.t 4) (.c (.int .i64 1))) <|
    o1 6 (.mv (.t 5)) <|
    .op ⟨some 7, some (6, false), .prim (.mv (.t 0))⟩ [] <|
    .op ⟨some 8, some (6, false), .prim (.bin .gtr (.t 7) (.c (.int .i64 8)))⟩ [] <|
    o1 9 (.pick (.t 6) (.c (.bool true)) (.t 8)) <|
    .done)
  cc_tree_Leaf_k1)
  cc_tree_Leaf_k0)
noncomputable def cc_tree_Leaf : CC :=
  (.seq (.region <| o1 2 (.mv (.c (.str []))) <|
    o1 3 (.mv (.c (.int .i64 0))) <|
    .done)
  cc_tree_Leaf_k2)
noncomputable def fe_tree_Leaf : FE := ⟨12, [.tmp 2, .tmp 3], cc_tree_Leaf⟩
theorem e_tree_Leaf : compF prog F.tree_Leaf = some fe_tree_Leaf := by kernel_rfl

noncomputable def cc_gemotlaw14_same_k0 : CC :=
  (.region <| o1 15 (.mv (.t 5)) <|
    o1 16 (.bin .add (.t 15) (.c (.int .i64 1))) <|
    o1 5 (.mv (.t 16)) <|
    .done)
noncomputable def cc_gemotlaw14_same_k1 : CC :=
  (.cond (.t 25) (.seq (.region <| o1 4 (.mv (.c (.bool false))) <|
    .done)
  .ret) .skip)
noncomputable def cc_gemotlaw14_same_k2 : CC :=
  (.seq (.block 1 (.seq (.region <| o1 17 (.mv (.t 0)) <|
    o1 18 (.mv (.t 5)) <|
    o1 19 (.iaddr 1 (.t 17) (.t 18)) <|
    o1 20 (.load1 (.t 19)) <|
    o1 21 (.mv (.t 1)) <|
    o1 22 (.mv (.t 5)) <|
    o1 23 (.iaddr 1 (.t 21) (.t 22)) <|
    o1 24 (.load1 (.t 23)) <|
    o1 25 (.bin .neq (.t 20) (.t 24)) <|
    .done)
  cc_gemotlaw14_same_k1))
  cc_gemotlaw14_same_k0)
noncomputable def cc_gemotlaw14_same_k3 : CC :=
  (.cond (.t 14) .skip (.exit 0))
noncomputable def cc_gemotlaw14_same_l4 : CC :=
  (.seq (.seq (.region <| o1 11 (.mv (.t 5)) <|
    o1 12 (.mv (.t 0)) <|
    o1 13 (.lenL (.t 12)) <|
    o1 14 (.bin .lss (.t 11) (.t 13)) <|
    .done)
  cc_gemotlaw14_same_k3)
  cc_gemotlaw14_same_k2)
noncomputable def cc_gemotlaw14_same_k5 : CC :=
  (.block 0 (.loop cc_gemotlaw14_same_l4))
noncomputable def cc_gemotlaw14_same_k6 : CC :=
  (.seq (.seq (.region <| o1 5 (.mv (.c (.int .i64 0))) <|
    .done)
  cc_gemotlaw14_same_k5)
  (.seq (.region <| o1 4 (.mv (.c (.bool true))) <|
    .done)
  .ret))
noncomputable def cc_gemotlaw14_same_k7 : CC :=
  (.cond (.t 10) (.seq (.region <| o1 4 (.mv (.c (.bool false))) <|
    .done)
  .ret) .skip)
noncomputable def cc_gemotlaw14_same_k8 : CC :=
  (.seq (.seq (.region <| o1 6 (.mv (.t 0)) <|
    o1 7 (.lenL (.t 6)) <|
    o1 8 (.mv (.t 1)) <|
    o1 9 (.lenL (.t 8)) <|
    o1 10 (.bin .neq (.t 7) (.t 9)) <|
    .done)
  cc_gemotlaw14_same_k7)
  cc_gemotlaw14_same_k6)
noncomputable def cc_gemotlaw14_same : CC :=
  (.seq (.region <| o1 4 (.mv (.c (.bool false))) <|
    .done)
  cc_gemotlaw14_same_k8)
noncomputable def fe_gemotlaw14_same : FE := ⟨26, [.tmp 4], cc_gemotlaw14_same⟩
theorem e_gemotlaw14_same : compF prog F.gemotlaw14_same = some fe_gemotlaw14_same := by kernel_rfl
noncomputable def cc_place_Nodes_r1_g : Array Tmp × Code × Code := rfOf prog 10 0
noncomputable abbrev cc_place_Nodes_r1_p := cc_place_Nodes_r1_g.1
noncomputable abbrev cc_place_Nodes_r1_x := cc_place_Nodes_r1_g.2.1
noncomputable abbrev cc_place_Nodes_r1_y := cc_place_Nodes_r1_g.2.2

noncomputable def cc_place_Nodes_k0 : CC :=
  (.seq (.region <| o1 16 (.load1 (.t 3)) <|
    .op ⟨some 17, none, .call F.slices_SortFunc_Lstring_string [(.t 16), (.f F.place_shorter)]⟩ [] <|
    .done)
  (.seq (.region <| o1 18 (.load1 (.t 3)) <|
    o1 2 (.mv (.t 18)) <|
    .done)
  .ret))
noncomputable def cc_place_Nodes_r1_a : CC :=
  (.region <| o1 4 (.mv (.t 10)) <|
    .done)
noncomputable def cc_place_Nodes_r1_b : CC :=
  (.block 1 (.region <| o1 12 (.load1 (.t 3)) <|
    o1 13 (.mv (.t 4)) <|
    o1 14 (.bslice 9 [(.str [])] 1 1 [(0, (.t 13))]) <|
    o1 15 (.app 1 (.t 12) (.t 14)) <|
    .op ⟨none, none, .prim (.store 1 (.t 3) (.t 15))⟩ [] <|
    .done))
noncomputable def cc_place_Nodes_k2 : CC :=
  (.block 0 (.rfunc 19 (.t 9) cc_place_Nodes_r1_p cc_place_Nodes_r1_x cc_place_Nodes_r1_y))
noncomputable def cc_place_Nodes_k3 : CC :=
  (.seq (.seq (.region <| o1 8 (.mv (.t 0)) <|
    .op ⟨some 9, none, .call F.place_below [(.c (.str [])), (.t 8)]⟩ [] <|
    .done)
  cc_place_Nodes_k2)
  cc_place_Nodes_k0)
noncomputable def cc_place_Nodes_k4 : CC :=
  (.seq (.region <| o1 3 (.alloc 29 [.snil]) <|
    .done)
  cc_place_Nodes_k3)
noncomputable def cc_place_Nodes_k5 : CC :=
  (.cond (.t 7) (.seq (.region <| o1 2 (.mv (.c .snil)) <|
    .done)
  .ret) .skip)
noncomputable def cc_place_Nodes_k6 : CC :=
  (.seq (.seq (.region <| o1 5 (.mv (.t 0)) <|
    .op ⟨some 6, none, .call F.tree_Right [(.t 5)]⟩ [] <|
    o1 7 (.not (.t 6)) <|
    .done)
  cc_place_Nodes_k5)
  cc_place_Nodes_k4)
noncomputable def cc_place_Nodes : CC :=
  (.seq (.region <| o1 2 (.mv (.c .snil)) <|
    .done)
  cc_place_Nodes_k6)
noncomputable def fe_place_Nodes : FE := ⟨19, [.tmp 2], cc_place_Nodes⟩
theorem e_place_Nodes : compF prog F.place_Nodes = some fe_place_Nodes := by kernel_rfl
theorem cc_place_Nodes_r1_ps : cc_place_Nodes_r1_p = #[10, 11] := by kernel_rfl
theorem cc_place_Nodes_r1_ca : compC prog 19 false cc_place_Nodes_r1_x = some cc_place_Nodes_r1_a := by kernel_rfl
theorem cc_place_Nodes_r1_cb : compC prog 19 false cc_place_Nodes_r1_y = some cc_place_Nodes_r1_b := by kernel_rfl
noncomputable def cc_place_Path_r0_g : Array Tmp × Code × Code := rfOf prog 11 0
noncomputable abbrev cc_place_Path_r0_p := cc_place_Path_r0_g.1
noncomputable abbrev cc_place_Path_r0_x := cc_place_Path_r0_g.2.1
noncomputable abbrev cc_place_Path_r0_y := cc_place_Path_r0_g.2.2

noncomputable def cc_place_Path_r0_k1 : CC :=
  (.region <| o1 32 (.mv (.t 8)) <|
    o1 33 (.mv (.t 5)) <|
    o1 34 (.bslice 9 [(.str [])] 1 1 [(0, (.t 33))]) <|
    o1 35 (.app 1 (.t 32) (.t 34)) <|
    o1 8 (.mv (.t 35)) <|
    .done)
noncomputable def cc_place_Path_r0_k2 : CC :=
  (.seq (.block 3 (.region <| o1 36 (.mv (.t 5)) <|
    o1 37 (.mv (.t 5)) <|
    o1 38 (.lenS (.t 37)) <|
    o1 39 (.bin .sub (.t 38) (.c (.int .i64 1))) <|
    o1 40 (.slstr (.t 36) none (some (.t 39))) <|
    o1 5 (.mv (.t 40)) <|
    .done))
  cc_place_Path_r0_k1)
noncomputable def cc_place_Path_r0_k3 : CC :=
  (.cond (.t 31) .skip (.exit 2))
noncomputable def cc_place_Path_r0_l4 : CC :=
  (.seq (.seq (.region <| o1 30 (.mv (.t 5)) <|
    o1 31 (.bin .neq (.t 30) (.c (.str []))) <|
    .done)
  cc_place_Path_r0_k3)
  cc_place_Path_r0_k2)
noncomputable def cc_place_Path_r0_k5 : CC :=
  (.seq (.block 2 (.loop cc_place_Path_r0_l4))
  (.seq (.region <| o1 41 (.mv (.t 8)) <|
    .op ⟨none, none, .prim (.store 1 (.t 4) (.t 41))⟩ [] <|
    .done)
  .ret))
noncomputable def cc_place_Path_r0_c6 : CC :=
  (.seq (.region <| o1 28 (.mv (.t 5)) <|
    o1 29 (.bslice 9 [(.str [])] 1 1 [(0, (.t 28))]) <|
    o1 8 (.mv (.t 29)) <|
    .done)
  cc_place_Path_r0_k5)
noncomputable def cc_place_Path_r0_k7 : CC :=
  (.cond (.t 27) cc_place_Path_r0_c6 .skip)
noncomputable def cc_place_Path_r0_k8 : CC :=
  (.seq (.region <| o1 18 (.mv (.t 7)) <|
    o1 19 (.lenL (.t 18)) <|
    o1 20 (.bin .eql (.t 19) (.c (.int .i64 1))) <|
    o1 21 (.mv (.t 20)) <|
    .op ⟨some 22, some (21, true), .prim (.mv (.t 7))⟩ [] <|
    .op ⟨some 23, some (21, true), .prim (.iaddr 1 (.t 22) (.c (.int .i64 0)))⟩ [] <|
    .op ⟨some 24, some (21, true), .prim (.load1 (.t 23))⟩ [] <|
    .op ⟨some 25, some (21, true), .prim (.load1 (.t 3))⟩ [] <|
    .op ⟨some 26, some (21, true), .prim (.bin .eql (.t 24) (.t 25))⟩ [] <|
    o1 27 (.pick (.t 21) (.t 26) (.c (.bool false))) <|
    .done)
  cc_place_Path_r0_k7)
noncomputable def cc_place_Path_r0_a : CC :=
  (.seq (.region <| o1 5 (.mv (.t 14)) <|
    .done)
  (.region <| o1 6 (.mv (.t 15)) <|
    .done))
noncomputable def cc_place_Path_r0_b : CC :=
  (.block 1 (.seq (.region <| o1 16 (.mv (.t 6)) <|
    .op ⟨some 17, none, .call F.tree_Members [(.t 16)]⟩ [] <|
    o1 7 (.mv (.t 17)) <|
    .done)
  cc_place_Path_r0_k8))
noncomputable def cc_place_Path_k9 : CC :=
  (.block 0 (.rfunc 42 (.t 13) cc_place_Path_r0_p cc_place_Path_r0_x cc_place_Path_r0_y))
noncomputable def cc_place_Path_k10 : CC :=
  (.seq (.seq (.region <| o1 12 (.mv (.t 0)) <|
    .op ⟨some 13, none, .call F.place_below [(.c (.str [])), (.t 12)]⟩ [] <|
    .done)
  cc_place_Path_k9)
  (.seq (.region <| .op ⟨none, none, .prim (.store 1 (.t 4) (.c .snil))⟩ [] <|
    .done)
  .ret))
noncomputable def cc_place_Path_k11 : CC :=
  (.cond (.t 11) (.seq (.region <| .op ⟨none, none, .prim (.store 1 (.t 4) (.c .snil))⟩ [] <|
    .done)
  .ret) .skip)
noncomputable def cc_place_Path_k12 : CC :=
  (.seq (.seq (.region <| o1 9 (.mv (.t 0)) <|
    .op ⟨some 10, none, .call F.tree_Right [(.t 9)]⟩ [] <|
    o1 11 (.not (.t 10)) <|
    .done)
  cc_place_Path_k11)
  cc_place_Path_k10)
noncomputable def cc_place_Path : CC :=
  (.seq (.region <| o1 3 (.box 3 (.t 1)) <|
    o1 4 (.alloc 29 [.snil]) <|
    .done)
  cc_place_Path_k12)
noncomputable def fe_place_Path : FE := ⟨42, [.cell1 4], cc_place_Path⟩
theorem e_place_Path : compF prog F.place_Path = some fe_place_Path := by kernel_rfl
theorem cc_place_Path_r0_ps : cc_place_Path_r0_p = #[14, 15] := by kernel_rfl
theorem cc_place_Path_r0_ca : compC prog 42 false cc_place_Path_r0_x = some cc_place_Path_r0_a := by kernel_rfl
theorem cc_place_Path_r0_cb : compC prog 42 false cc_place_Path_r0_y = some cc_place_Path_r0_b := by kernel_rfl

noncomputable def cc_place_Duties_k0 : CC :=
  (.region <| o1 29 (.bin .add (.t 12) (.c (.int .i64 1))) <|
    o1 12 (.mv (.t 29)) <|
    .done)
noncomputable def cc_place_Duties_c1 : CC :=
  (.region <| o1 25 (.mv (.t 5)) <|
    o1 26 (.mv (.t 7)) <|
    o1 27 (.bslice 9 [(.str [])] 1 1 [(0, (.t 26))]) <|
    o1 28 (.app 1 (.t 25) (.t 27)) <|
    o1 5 (.mv (.t 28)) <|
    .done)
noncomputable def cc_place_Duties_k2 : CC :=
  (.cond (.t 24) cc_place_Duties_c1 .skip)
noncomputable def cc_place_Duties_k3 : CC :=
  (.seq (.region <| o1 16 (.mv (.t 7)) <|
    o1 17 (.bin .neq (.t 16) (.c (.str []))) <|
    o1 18 (.mv (.t 17)) <|
    .op ⟨some 19, some (18, true), .prim (.mv (.t 0))⟩ [] <|
    .op ⟨some 20, some (18, true), .prim (.mv (.t 7))⟩ [] <|
    .op ⟨some 21, some (18, true), .call F.place_Sponsor [(.t 19), (.t 20)]⟩ [] <|
    .op ⟨some 22, some (18, true), .prim (.mv (.t 1))⟩ [] <|
    .op ⟨some 23, some (18, true), .prim (.bin .eql (.t 21) (.t 22))⟩ [] <|
    o1 24 (.pick (.t 18) (.t 23) (.c (.bool false))) <|
    .done)
  cc_place_Duties_k2)
noncomputable def cc_place_Duties_k4 : CC :=
  (.seq (.block 1 (.seq (.region <| o1 14 (.iaddr 1 (.t 10) (.t 12)) <|
    o1 15 (.load1 (.t 14)) <|
    o1 7 (.mv (.t 15)) <|
    .done)
  cc_place_Duties_k3))
  cc_place_Duties_k0)
noncomputable def cc_place_Duties_k5 : CC :=
  (.seq (.cond (.t 13) .skip (.exit 0))
  cc_place_Duties_k4)
noncomputable def cc_place_Duties_l6 : CC :=
  (.seq (.region <| o1 13 (.bin .lss (.t 12) (.t 11)) <|
    .done)
  cc_place_Duties_k5)
noncomputable def cc_place_Duties_k7 : CC :=
  (.block 0 (.loop cc_place_Duties_l6))
noncomputable def cc_place_Duties_k8 : CC :=
  (.seq (.seq (.region <| o1 8 (.mv (.t 0)) <|
    o1 9 (.mv (.t 1)) <|
    .op ⟨some 10, none, .call F.place_Path [(.t 8), (.t 9)]⟩ [] <|
    o1 11 (.lenL (.t 10)) <|
    o1 12 (.mv (.c (.int .i64 0))) <|
    .done)
  cc_place_Duties_k7)
  (.seq (.region <| o1 30 (.mv (.t 5)) <|
    o1 4 (.mv (.t 30)) <|
    .done)
  .ret))
noncomputable def cc_place_Duties_k9 : CC :=
  (.seq (.region <| o1 5 (.mv (.c .snil)) <|
    .done)
  cc_place_Duties_k8)
noncomputable def cc_place_Duties : CC :=
  (.seq (.region <| o1 4 (.mv (.c .snil)) <|
    .done)
  cc_place_Duties_k9)
noncomputable def fe_place_Duties : FE := ⟨31, [.tmp 4], cc_place_Duties⟩
theorem e_place_Duties : compF prog F.place_Duties = some fe_place_Duties := by kernel_rfl

noncomputable def cc_place_Sponsor_k0 : CC :=
  (.seq (.region <| o1 15 (.mv (.t 5)) <|
    .op ⟨some 16, none, .call F.tree_Members [(.t 15)]⟩ [] <|
    o1 17 (.iaddr 1 (.t 16) (.c (.int .i64 0))) <|
    o1 18 (.load1 (.t 17)) <|
    o1 4 (.mv (.t 18)) <|
    .done)
  .ret)
noncomputable def cc_place_Sponsor_k1 : CC :=
  (.cond (.t 14) (.seq (.region <| o1 4 (.mv (.c (.int .i64 0))) <|
    .done)
  .ret) .skip)
noncomputable def cc_place_Sponsor_k2 : CC :=
  (.seq (.seq (.region <| o1 13 (.mv (.t 6)) <|
    o1 14 (.bin .neq (.t 13) (.c (.int .i64 0))) <|
    .done)
  cc_place_Sponsor_k1)
  cc_place_Sponsor_k0)
noncomputable def cc_place_Sponsor_k3 : CC :=
  (.seq (.region <| o1 8 (.mv (.t 0)) <|
    o1 9 (.mv (.t 1)) <|
    .op ⟨some 10, none, .call F.place_At [(.t 8), (.t 9)]⟩ [] <|
    o1 7 (.mv (.t 10)) <|
    o1 11 (.extr (.t 7) 0) <|
    o1 12 (.extr (.t 7) 1) <|
    o1 5 (.mv (.t 11)) <|
    o1 6 (.mv (.t 12)) <|
    .done)
  cc_place_Sponsor_k2)
noncomputable def cc_place_Sponsor : CC :=
  (.seq (.region <| o1 4 (.mv (.c (.int .i64 0))) <|
    .done)
  cc_place_Sponsor_k3)
noncomputable def fe_place_Sponsor : FE := ⟨19, [.tmp 4], cc_place_Sponsor⟩
theorem e_place_Sponsor : compF prog F.place_Sponsor = some fe_place_Sponsor := by kernel_rfl

noncomputable def cc_tree_Join_k0 : CC :=
  (.seq (.region <| o1 42 (.mv (.t 6)) <|
    .op ⟨some 43, none, .call F.tree_node_text [(.t 42)]⟩ [] <|
    o1 4 (.mv (.t 43)) <|
    o1 5 (.mv (.c (.int .i64 0))) <|
    .done)
  .ret)
noncomputable def cc_tree_Join_k1 : CC :=
  (.seq (.region <| o1 36 (.load1 (.t 9)) <|
    o1 37 (.mv (.t 1)) <|
    o1 38 (.build [(.int .i64 0), .pnil, .pnil] [(0, 1, (.t 37))]) <|
    o1 39 (.box 57 (.t 38)) <|
    o1 40 (.build [(.int .i64 0), .pnil, .pnil] [(1, 1, (.t 10)), (2, 1, (.t 39))]) <|
    o1 41 (.nilc (.t 36)) <|
    .op ⟨none, none, .prim (.store 3 (.t 41) (.t 40))⟩ [] <|
    .done)
  cc_tree_Join_k0)
noncomputable def cc_tree_Join_k2 : CC :=
  (.seq (.region <| o1 33 (.load1 (.t 9)) <|
    o1 34 (.nilc (.t 33)) <|
    o1 35 (.loadA 3 (.t 34)) <|
    o1 10 (.alloc 57 [(.int .i64 0), .pnil, .pnil]) <|
    .op ⟨none, none, .prim (.store 3 (.t 10) (.t 35))⟩ [] <|
    .done)
  cc_tree_Join_k1)
noncomputable def cc_tree_Join_k3 : CC :=
  (.seq (.region <| o1 30 (.mv (.t 6)) <|
    o1 31 (.mkfn F.tree_Join__1 [(.t 9)]) <|
    .op ⟨some 32, none, .call F.tree_node_each [(.t 30), (.t 31)]⟩ [] <|
    .done)
  cc_tree_Join_k2)
noncomputable def cc_tree_Join_k4 : CC :=
  (.seq (.region <| o1 9 (.alloc 50 [.pnil]) <|
    .done)
  cc_tree_Join_k3)
noncomputable def cc_tree_Join_k5 : CC :=
  (.cond (.t 29) (.seq (.region <| o1 4 (.mv (.c (.str []))) <|
    o1 5 (.mv (.c (.int .i64 1))) <|
    .done)
  .ret) .skip)
noncomputable def cc_tree_Join_k6 : CC :=
  (.seq (.region <| o1 18 (.mv (.t 6)) <|
    o1 19 (.eq2 1 false (.t 18) (.c .pnil)) <|
    o1 20 (.mv (.t 19)) <|
    .op ⟨some 21, some (20, false), .prim (.mv (.t 8))⟩ [] <|
    .op ⟨some 22, some (20, false), .prim (.bin .neq (.t 21) (.c (.int .i64 0)))⟩ [] <|
    o1 23 (.pick (.t 20) (.c (.bool true)) (.t 22)) <|
    o1 24 (.mv (.t 23)) <|
    .op ⟨some 25, some (24, false), .prim (.mv (.t 6))⟩ [] <|
    .op ⟨some 26, some (24, false), .call F.tree_node_members [(.t 25)]⟩ [] <|
    .op ⟨some 27, some (24, false), .prim (.mv (.t 1))⟩ [] <|
    .op ⟨some 28, some (24, false), .call F.view_Has [(.t 26), (.t 27)]⟩ [] <|
    o1 29 (.pick (.t 24) (.c (.bool true)) (.t 28)) <|
    .done)
  cc_tree_Join_k5)
noncomputable def cc_tree_Join_k7 : CC :=
  (.seq (.seq (.region <| o1 14 (.mv (.t 1)) <|
    .op ⟨some 15, none, .call F.tree_Leaf [(.t 14)]⟩ [] <|
    o1 13 (.mv (.t 15)) <|
    o1 16 (.extr (.t 13) 0) <|
    o1 17 (.extr (.t 13) 1) <|
    o1 7 (.mv (.t 16)) <|
    o1 8 (.mv (.t 17)) <|
    .done)
  cc_tree_Join_k6)
  cc_tree_Join_k4)
noncomputable def cc_tree_Join_k8 : CC :=
  (.seq (.region <| o1 11 (.mv (.t 0)) <|
    .op ⟨some 12, none, .call F.tree_of [(.t 11)]⟩ [] <|
    o1 6 (.mv (.t 12)) <|
    .done)
  cc_tree_Join_k7)
noncomputable def cc_tree_Join : CC :=
  (.seq (.region <| o1 4 (.mv (.c (.str []))) <|
    o1 5 (.mv (.c (.int .i64 0))) <|
    .done)
  cc_tree_Join_k8)
noncomputable def fe_tree_Join : FE := ⟨44, [.tmp 4, .tmp 5], cc_tree_Join⟩
theorem e_tree_Join : compF prog F.tree_Join = some fe_tree_Join := by kernel_rfl

noncomputable def cc_place_Co_k0 : CC :=
  (.region <| o1 23 (.bin .add (.t 12) (.c (.int .i64 1))) <|
    o1 12 (.mv (.t 23)) <|
    .done)
noncomputable def cc_place_Co_c1 : CC :=
  (.region <| o1 18 (.mv (.t 5)) <|
    o1 19 (.mv (.t 7)) <|
    .op ⟨some 20, none, .call F.place_Beside [(.t 19)]⟩ [] <|
    o1 21 (.bslice 9 [(.str [])] 1 1 [(0, (.t 20))]) <|
    o1 22 (.app 1 (.t 18) (.t 21)) <|
    o1 5 (.mv (.t 22)) <|
    .done)
noncomputable def cc_place_Co_k2 : CC :=
  (.cond (.t 17) cc_place_Co_c1 .skip)
noncomputable def cc_place_Co_k3 : CC :=
  (.seq (.region <| o1 16 (.mv (.t 7)) <|
    o1 17 (.bin .neq (.t 16) (.c (.str []))) <|
    .done)
  cc_place_Co_k2)
noncomputable def cc_place_Co_k4 : CC :=
  (.seq (.block 1 (.seq (.region <| o1 14 (.iaddr 1 (.t 10) (.t 12)) <|
    o1 15 (.load1 (.t 14)) <|
    o1 7 (.mv (.t 15)) <|
    .done)
  cc_place_Co_k3))
  cc_place_Co_k0)
noncomputable def cc_place_Co_k5 : CC :=
  (.seq (.cond (.t 13) .skip (.exit 0))
  cc_place_Co_k4)
noncomputable def cc_place_Co_l6 : CC :=
  (.seq (.region <| o1 13 (.bin .lss (.t 12) (.t 11)) <|
    .done)
  cc_place_Co_k5)
noncomputable def cc_place_Co_k7 : CC :=
  (.block 0 (.loop cc_place_Co_l6))
noncomputable def cc_place_Co_k8 : CC :=
  (.seq (.seq (.region <| o1 8 (.mv (.t 0)) <|
    o1 9 (.mv (.t 1)) <|
    .op ⟨some 10, none, .call F.place_Path [(.t 8), (.t 9)]⟩ [] <|
    o1 11 (.lenL (.t 10)) <|
    o1 12 (.mv (.c (.int .i64 0))) <|
    .done)
  cc_place_Co_k7)
  (.seq (.region <| o1 24 (.mv (.t 5)) <|
    o1 4 (.mv (.t 24)) <|
    .done)
  .ret))
noncomputable def cc_place_Co_k9 : CC :=
  (.seq (.region <| o1 5 (.mv (.c .snil)) <|
    .done)
  cc_place_Co_k8)
noncomputable def cc_place_Co : CC :=
  (.seq (.region <| o1 4 (.mv (.c .snil)) <|
    .done)
  cc_place_Co_k9)
noncomputable def fe_place_Co : FE := ⟨25, [.tmp 4], cc_place_Co⟩
theorem e_place_Co : compF prog F.place_Co = some fe_place_Co := by kernel_rfl

noncomputable def cc_gemotlaw14_made_k0 : CC :=
  (.region <| o1 18 (.mv (.t 4)) <|
    o1 19 (.bin .add (.t 18) (.c (.int .i64 1))) <|
    o1 4 (.mv (.t 19)) <|
    .done)
noncomputable def cc_gemotlaw14_made_c1 : CC :=
  (.region <| o1 64 (.mv (.t 8)) <|
    o1 3 (.mv (.t 64)) <|
    .done)
noncomputable def cc_gemotlaw14_made_k2 : CC :=
  (.cond (.t 63) cc_gemotlaw14_made_c1 .skip)
noncomputable def cc_gemotlaw14_made_k3 : CC :=
  (.seq (.region <| o1 62 (.mv (.t 9)) <|
    o1 63 (.bin .eql (.t 62) (.c (.int .i64 0))) <|
    .done)
  cc_gemotlaw14_made_k2)
noncomputable def cc_gemotlaw14_made_c4 : CC :=
  (.region <| o1 57 (.mv (.t 3)) <|
    o1 58 (.mv (.t 6)) <|
    .op ⟨some 59, none, .call F.tree_Merge [(.t 57), (.t 58)]⟩ [] <|
    o1 56 (.mv (.t 59)) <|
    o1 60 (.extr (.t 56) 0) <|
    o1 61 (.extr (.t 56) 1) <|
    o1 8 (.mv (.t 60)) <|
    o1 9 (.mv (.t 61)) <|
    .done)
noncomputable def cc_gemotlaw14_made_k5 : CC :=
  (.cond (.t 55) cc_gemotlaw14_made_c4 .skip)
noncomputable def cc_gemotlaw14_made_k6 : CC :=
  (.seq (.seq (.region <| o1 50 (.mv (.t 0)) <|
    o1 51 (.mv (.t 4)) <|
    o1 52 (.iaddr 1 (.t 50) (.t 51)) <|
    o1 53 (.load1 (.t 52)) <|
    .op ⟨some 54, none, .call F.gemotlaw14_pick [(.t 53), (.c (.int .i64 3))]⟩ [] <|
    o1 55 (.bin .eql (.t 54) (.c (.int .i64 2))) <|
    .done)
  cc_gemotlaw14_made_k5)
  cc_gemotlaw14_made_k3)
noncomputable def cc_gemotlaw14_made_c7 : CC :=
  (.region <| o1 45 (.mv (.t 3)) <|
    o1 46 (.mv (.t 5)) <|
    .op ⟨some 47, none, .call F.tree_Leave [(.t 45), (.t 46)]⟩ [] <|
    o1 44 (.mv (.t 47)) <|
    o1 48 (.extr (.t 44) 0) <|
    o1 49 (.extr (.t 44) 1) <|
    o1 8 (.mv (.t 48)) <|
    o1 9 (.mv (.t 49)) <|
    .done)
noncomputable def cc_gemotlaw14_made_k8 : CC :=
  (.cond (.t 43) cc_gemotlaw14_made_c7 .skip)
noncomputable def cc_gemotlaw14_made_k9 : CC :=
  (.seq (.seq (.region <| o1 38 (.mv (.t 0)) <|
    o1 39 (.mv (.t 4)) <|
    o1 40 (.iaddr 1 (.t 38) (.t 39)) <|
    o1 41 (.load1 (.t 40)) <|
    .op ⟨some 42, none, .call F.gemotlaw14_pick [(.t 41), (.c (.int .i64 3))]⟩ [] <|
    o1 43 (.bin .eql (.t 42) (.c (.int .i64 1))) <|
    .done)
  cc_gemotlaw14_made_k8)
  cc_gemotlaw14_made_k6)
noncomputable def cc_gemotlaw14_made_k10 : CC :=
  (.seq (.region <| o1 33 (.mv (.t 3)) <|
    o1 34 (.mv (.t 5)) <|
    .op ⟨some 35, none, .call F.tree_Join [(.t 33), (.t 34)]⟩ [] <|
    o1 32 (.mv (.t 35)) <|
    o1 36 (.extr (.t 32) 0) <|
    o1 37 (.extr (.t 32) 1) <|
    o1 8 (.mv (.t 36)) <|
    o1 9 (.mv (.t 37)) <|
    .done)
  cc_gemotlaw14_made_k9)
noncomputable def cc_gemotlaw14_made_k11 : CC :=
  (.seq (.region <| o1 28 (.mv (.t 5)) <|
    .op ⟨some 29, none, .call F.tree_Leaf [(.t 28)]⟩ [] <|
    o1 27 (.mv (.t 29)) <|
    o1 30 (.extr (.t 27) 0) <|
    o1 31 (.extr (.t 27) 1) <|
    o1 6 (.mv (.t 30)) <|
    o1 7 (.mv (.t 31)) <|
    .done)
  cc_gemotlaw14_made_k10)
noncomputable def cc_gemotlaw14_made_k12 : CC :=
  (.seq (.block 1 (.seq (.region <| o1 20 (.mv (.t 0)) <|
    o1 21 (.mv (.t 4)) <|
    o1 22 (.iaddr 1 (.t 20) (.t 21)) <|
    o1 23 (.load1 (.t 22)) <|
    o1 24 (.bin .quo (.t 23) (.c (.int .i64 3))) <|
    .op ⟨some 25, none, .call F.gemotlaw14_pick [(.t 24), (.c (.int .i64 8))]⟩ [] <|
    o1 26 (.bin .add (.c (.int .i64 1)) (.t 25)) <|
    o1 5 (.mv (.t 26)) <|
    .done)
  cc_gemotlaw14_made_k11))
  cc_gemotlaw14_made_k0)
noncomputable def cc_gemotlaw14_made_k13 : CC :=
  (.cond (.t 17) .skip (.exit 0))
noncomputable def cc_gemotlaw14_made_l14 : CC :=
  (.seq (.seq (.region <| o1 10 (.mv (.t 4)) <|
    o1 11 (.mv (.t 0)) <|
    o1 12 (.lenL (.t 11)) <|
    o1 13 (.bin .lss (.t 10) (.t 12)) <|
    o1 14 (.mv (.t 13)) <|
    .op ⟨some 15, some (14, true), .prim (.mv (.t 4))⟩ [] <|
    .op ⟨some 16, some (14, true), .prim (.bin .lss (.t 15) (.c (.int .i64 40)))⟩ [] <|
    o1 17 (.pick (.t 14) (.t 16) (.c (.bool false))) <|
    .done)
  cc_gemotlaw14_made_k13)
  cc_gemotlaw14_made_k12)
noncomputable def cc_gemotlaw14_made_k15 : CC :=
  (.block 0 (.loop cc_gemotlaw14_made_l14))
noncomputable def cc_gemotlaw14_made_k16 : CC :=
  (.seq (.seq (.region <| o1 4 (.mv (.c (.int .i64 0))) <|
    .done)
  cc_gemotlaw14_made_k15)
  (.seq (.region <| o1 65 (.mv (.t 3)) <|
    o1 2 (.mv (.t 65)) <|
    .done)
  .ret))
noncomputable def cc_gemotlaw14_made_k17 : CC :=
  (.seq (.region <| o1 3 (.mv (.c (.str [49]))) <|
    .done)
  cc_gemotlaw14_made_k16)
noncomputable def cc_gemotlaw14_made : CC :=
  (.seq (.region <| o1 2 (.mv (.c (.str []))) <|
    .done)
  cc_gemotlaw14_made_k17)
noncomputable def fe_gemotlaw14_made : FE := ⟨66, [.tmp 2], cc_gemotlaw14_made⟩
theorem e_gemotlaw14_made : compF prog F.gemotlaw14_made = some fe_gemotlaw14_made := by kernel_rfl

noncomputable def cc_tree_Members_c0 : CC :=
  (.seq (.region <| o1 8 (.mv (.t 3)) <|
    .op ⟨some 9, none, .call F.tree_node_members [(.t 8)]⟩ [] <|
    o1 2 (.mv (.t 9)) <|
    .done)
  .ret)
noncomputable def cc_tree_Members_k1 : CC :=
  (.cond (.t 7) cc_tree_Members_c0 .skip)
noncomputable def cc_tree_Members_k2 : CC :=
  (.seq (.region <| o1 6 (.mv (.t 3)) <|
    o1 7 (.eq2 1 true (.t 6) (.c .pnil)) <|
    .done)
  cc_tree_Members_k1)
noncomputable def cc_tree_Members_k3 : CC :=
  (.seq (.seq (.region <| o1 4 (.mv (.t 0)) <|
    .op ⟨some 5, none, .call F.tree_of [(.t 4)]⟩ [] <|
    o1 3 (.mv (.t 5)) <|
    .done)
  cc_tree_Members_k2)
  (.seq (.region <| o1 2 (.mv (.c .snil)) <|
    .done)
  .ret))
noncomputable def cc_tree_Members : CC :=
  (.seq (.region <| o1 2 (.mv (.c .snil)) <|
    .done)
  cc_tree_Members_k3)
noncomputable def fe_tree_Members : FE := ⟨10, [.tmp 2], cc_tree_Members⟩
theorem e_tree_Members : compF prog F.tree_Members = some fe_tree_Members := by kernel_rfl

noncomputable def cc_place_Beside_k0 : CC :=
  (.seq (.region <| o1 21 (.mv (.t 3)) <|
    o1 22 (.bin .add (.t 21) (.c (.str [108]))) <|
    o1 2 (.mv (.t 22)) <|
    .done)
  .ret)
noncomputable def cc_place_Beside_c1 : CC :=
  (.seq (.region <| o1 19 (.mv (.t 3)) <|
    o1 20 (.bin .add (.t 19) (.c (.str [114]))) <|
    o1 2 (.mv (.t 20)) <|
    .done)
  .ret)
noncomputable def cc_place_Beside_k2 : CC :=
  (.cond (.t 18) cc_place_Beside_c1 .skip)
noncomputable def cc_place_Beside_k3 : CC :=
  (.seq (.seq (.region <| o1 17 (.mv (.t 4)) <|
    o1 18 (.bin .eql (.t 17) (.c (.int .u8 108))) <|
    .done)
  cc_place_Beside_k2)
  cc_place_Beside_k0)
noncomputable def cc_place_Beside_k4 : CC :=
  (.seq (.region <| o1 7 (.mv (.t 0)) <|
    o1 8 (.mv (.t 0)) <|
    o1 9 (.lenS (.t 8)) <|
    o1 10 (.bin .sub (.t 9) (.c (.int .i64 1))) <|
    o1 11 (.slstr (.t 7) none (some (.t 10))) <|
    o1 12 (.mv (.t 0)) <|
    o1 13 (.mv (.t 0)) <|
    o1 14 (.lenS (.t 13)) <|
    o1 15 (.bin .sub (.t 14) (.c (.int .i64 1))) <|
    o1 16 (.istr (.t 12) (.t 15)) <|
    o1 3 (.mv (.t 11)) <|
    o1 4 (.mv (.t 16)) <|
    .done)
  cc_place_Beside_k3)
noncomputable def cc_place_Beside_k5 : CC :=
  (.cond (.t 6) (.seq (.region <| o1 2 (.mv (.c (.str []))) <|
    .done)
  .ret) .skip)
noncomputable def cc_place_Beside_k6 : CC :=
  (.seq (.seq (.region <| o1 5 (.mv (.t 0)) <|
    o1 6 (.bin .eql (.t 5) (.c (.str []))) <|
    .done)
  cc_place_Beside_k5)
  cc_place_Beside_k4)
noncomputable def cc_place_Beside : CC :=
  (.seq (.region <| o1 2 (.mv (.c (.str []))) <|
    .done)
  cc_place_Beside_k6)
noncomputable def fe_place_Beside : FE := ⟨23, [.tmp 2], cc_place_Beside⟩
theorem e_place_Beside : compF prog F.place_Beside = some fe_place_Beside := by kernel_rfl
noncomputable def cc_place_At_r0_g : Array Tmp × Code × Code := rfOf prog 19 0
noncomputable abbrev cc_place_At_r0_p := cc_place_At_r0_g.1
noncomputable abbrev cc_place_At_r0_x := cc_place_At_r0_g.2.1
noncomputable abbrev cc_place_At_r0_y := cc_place_At_r0_g.2.2

noncomputable def cc_place_At_r0_c1 : CC :=
  (.seq (.region <| o1 18 (.mv (.t 7)) <|
    .op ⟨none, none, .prim (.store 1 (.t 4) (.t 18))⟩ [] <|
    .op ⟨none, none, .prim (.store 1 (.t 5) (.c (.int .i64 0)))⟩ [] <|
    .done)
  .ret)
noncomputable def cc_place_At_r0_k2 : CC :=
  (.cond (.t 17) cc_place_At_r0_c1 .skip)
noncomputable def cc_place_At_r0_a : CC :=
  (.seq (.region <| o1 6 (.mv (.t 13)) <|
    .done)
  (.region <| o1 7 (.mv (.t 14)) <|
    .done))
noncomputable def cc_place_At_r0_b : CC :=
  (.block 1 (.seq (.region <| o1 15 (.mv (.t 6)) <|
    o1 16 (.load1 (.t 3)) <|
    o1 17 (.bin .eql (.t 15) (.t 16)) <|
    .done)
  cc_place_At_r0_k2))
noncomputable def cc_place_At_k3 : CC :=
  (.block 0 (.rfunc 19 (.t 12) cc_place_At_r0_p cc_place_At_r0_x cc_place_At_r0_y))
noncomputable def cc_place_At_k4 : CC :=
  (.seq (.seq (.region <| o1 11 (.mv (.t 0)) <|
    .op ⟨some 12, none, .call F.place_below [(.c (.str [])), (.t 11)]⟩ [] <|
    .done)
  cc_place_At_k3)
  (.seq (.region <| .op ⟨none, none, .prim (.store 1 (.t 4) (.c (.str [])))⟩ [] <|
    .op ⟨none, none, .prim (.store 1 (.t 5) (.c (.int .i64 8)))⟩ [] <|
    .done)
  .ret))
noncomputable def cc_place_At_k5 : CC :=
  (.cond (.t 10) (.seq (.region <| .op ⟨none, none, .prim (.store 1 (.t 4) (.c (.str [])))⟩ [] <|
    .op ⟨none, none, .prim (.store 1 (.t 5) (.c (.int .i64 1)))⟩ [] <|
    .done)
  .ret) .skip)
noncomputable def cc_place_At_k6 : CC :=
  (.seq (.seq (.region <| o1 8 (.mv (.t 0)) <|
    .op ⟨some 9, none, .call F.tree_Right [(.t 8)]⟩ [] <|
    o1 10 (.not (.t 9)) <|
    .done)
  cc_place_At_k5)
  cc_place_At_k4)
noncomputable def cc_place_At : CC :=
  (.seq (.region <| o1 3 (.box 9 (.t 1)) <|
    o1 4 (.alloc 24 [(.str [])]) <|
    o1 5 (.alloc 25 [(.int .i64 0)]) <|
    .done)
  cc_place_At_k6)
noncomputable def fe_place_At : FE := ⟨19, [.cell1 4, .cell1 5], cc_place_At⟩
theorem e_place_At : compF prog F.place_At = some fe_place_At := by kernel_rfl
theorem cc_place_At_r0_ps : cc_place_At_r0_p = #[13, 14] := by kernel_rfl
theorem cc_place_At_r0_ca : compC prog 19 false cc_place_At_r0_x = some cc_place_At_r0_a := by kernel_rfl
theorem cc_place_At_r0_cb : compC prog 19 false cc_place_At_r0_y = some cc_place_At_r0_b := by kernel_rfl

noncomputable def cc_gemotref10_Has_k0 : CC :=
  (.region <| o1 10 (.mv (.t 5)) <|
    o1 11 (.bin .add (.t 10) (.c (.int .i64 1))) <|
    o1 5 (.mv (.t 11)) <|
    .done)
noncomputable def cc_gemotref10_Has_k1 : CC :=
  (.cond (.t 17) (.seq (.region <| o1 4 (.mv (.c (.bool true))) <|
    .done)
  .ret) .skip)
noncomputable def cc_gemotref10_Has_k2 : CC :=
  (.seq (.block 1 (.seq (.region <| o1 12 (.mv (.t 0)) <|
    o1 13 (.mv (.t 5)) <|
    o1 14 (.iaddr 1 (.t 12) (.t 13)) <|
    o1 15 (.load1 (.t 14)) <|
    o1 16 (.mv (.t 1)) <|
    o1 17 (.bin .eql (.t 15) (.t 16)) <|
    .done)
  cc_gemotref10_Has_k1))
  cc_gemotref10_Has_k0)
noncomputable def cc_gemotref10_Has_k3 : CC :=
  (.cond (.t 9) .skip (.exit 0))
noncomputable def cc_gemotref10_Has_l4 : CC :=
  (.seq (.seq (.region <| o1 6 (.mv (.t 5)) <|
    o1 7 (.mv (.t 0)) <|
    o1 8 (.lenL (.t 7)) <|
    o1 9 (.bin .lss (.t 6) (.t 8)) <|
    .done)
  cc_gemotref10_Has_k3)
  cc_gemotref10_Has_k2)
noncomputable def cc_gemotref10_Has_k5 : CC :=
  (.block 0 (.loop cc_gemotref10_Has_l4))
noncomputable def cc_gemotref10_Has_k6 : CC :=
  (.seq (.seq (.region <| o1 5 (.mv (.c (.int .i64 0))) <|
    .done)
  cc_gemotref10_Has_k5)
  (.seq (.region <| o1 4 (.mv (.c (.bool false))) <|
    .done)
  .ret))
noncomputable def cc_gemotref10_Has : CC :=
  (.seq (.region <| o1 4 (.mv (.c (.bool false))) <|
    .done)
  cc_gemotref10_Has_k6)
noncomputable def fe_gemotref10_Has : FE := ⟨18, [.tmp 4], cc_gemotref10_Has⟩
theorem e_gemotref10_Has : compF prog F.gemotref10_Has = some fe_gemotref10_Has := by kernel_rfl

noncomputable def cc_strconv_Itoa_k0 : CC :=
  (.seq (.region <| o1 3 (.mv (.t 0)) <|
    .op ⟨some 4, none, .call F.internal_strconv_Itoa [(.t 3)]⟩ [] <|
    o1 2 (.mv (.t 4)) <|
    .done)
  .ret)
noncomputable def cc_strconv_Itoa : CC :=
  (.seq (.region <| o1 2 (.mv (.c (.str []))) <|
    .done)
  cc_strconv_Itoa_k0)
noncomputable def fe_strconv_Itoa : FE := ⟨5, [.tmp 2], cc_strconv_Itoa⟩
theorem e_strconv_Itoa : compF prog F.strconv_Itoa = some fe_strconv_Itoa := by kernel_rfl

noncomputable def cc_tree_Right_k0 : CC :=
  (.seq (.region <| o1 3 (.mv (.t 0)) <|
    .op ⟨some 4, none, .call F.tree_of [(.t 3)]⟩ [] <|
    o1 5 (.eq2 1 true (.t 4) (.c .pnil)) <|
    o1 2 (.mv (.t 5)) <|
    .done)
  .ret)
noncomputable def cc_tree_Right : CC :=
  (.seq (.region <| o1 2 (.mv (.c (.bool false))) <|
    .done)
  cc_tree_Right_k0)
noncomputable def fe_tree_Right : FE := ⟨6, [.tmp 2], cc_tree_Right⟩
theorem e_tree_Right : compF prog F.tree_Right = some fe_tree_Right := by kernel_rfl

noncomputable def cc_place_below : CC :=
  (.seq (.region <| o1 2 (.box 9 (.t 0)) <|
    o1 3 (.box 24 (.t 1)) <|
    o1 4 (.mv (.c .fnil)) <|
    .done)
  (.seq (.region <| o1 5 (.mkfn F.place_below__1 [(.t 2), (.t 3)]) <|
    o1 4 (.mv (.t 5)) <|
    .done)
  .ret))
noncomputable def fe_place_below : FE := ⟨6, [.tmp 4], cc_place_below⟩
theorem e_place_below : compF prog F.place_below = some fe_place_below := by kernel_rfl

noncomputable def cc_slices_SortFunc_Lstring_string_k0 : CC :=
  (.region <| o1 7 (.mv (.t 0)) <|
    o1 8 (.mv (.t 4)) <|
    o1 9 (.mv (.t 4)) <|
    o1 10 (.convI .u64 (.t 9)) <|
    .op ⟨some 11, none, .call F.math_bits_Len [(.t 10)]⟩ [] <|
    o1 12 (.mv (.t 1)) <|
    .op ⟨some 13, none, .call F.slices_pdqsortCmpFunc_string [(.t 7), (.c (.int .i64 0)), (.t 8), (.t 11), (.t 12)]⟩ [] <|
    .done)
noncomputable def cc_slices_SortFunc_Lstring_string : CC :=
  (.seq (.region <| o1 5 (.mv (.t 0)) <|
    o1 6 (.lenL (.t 5)) <|
    o1 4 (.mv (.t 6)) <|
    .done)
  cc_slices_SortFunc_Lstring_string_k0)
noncomputable def fe_slices_SortFunc_Lstring_string : FE := ⟨14, [], cc_slices_SortFunc_Lstring_string⟩
theorem e_slices_SortFunc_Lstring_string : compF prog F.slices_SortFunc_Lstring_string = some fe_slices_SortFunc_Lstring_string := by kernel_rfl

noncomputable def cc_place_shorter_k0 : CC :=
  (.seq (.region <| o1 5 (.mv (.t 0)) <|
    o1 6 (.lenS (.t 5)) <|
    o1 7 (.mv (.t 1)) <|
    o1 8 (.lenS (.t 7)) <|
    .op ⟨some 9, none, .call F.cmp_Compare_int [(.t 6), (.t 8)]⟩ [] <|
    o1 10 (.mv (.t 0)) <|
    o1 11 (.mv (.t 1)) <|
    .op ⟨some 12, none, .call F.strings_Compare [(.t 10), (.t 11)]⟩ [] <|
    o1 13 (.bslice 3 [(.int .i64 0)] 1 2 [(0, (.t 9)), (1, (.t 12))]) <|
    .op ⟨some 14, none, .call F.cmp_Or_int [(.t 13)]⟩ [] <|
    o1 4 (.mv (.t 14)) <|
    .done)
  .ret)
noncomputable def cc_place_shorter : CC :=
  (.seq (.region <| o1 4 (.mv (.c (.int .i64 0))) <|
    .done)
  cc_place_shorter_k0)
noncomputable def fe_place_shorter : FE := ⟨15, [.tmp 4], cc_place_shorter⟩
theorem e_place_shorter : compF prog F.place_shorter = some fe_place_shorter := by kernel_rfl

noncomputable def cc_tree_of_k0 : CC :=
  (.cond (.t 21) (.seq (.region <| o1 2 (.mv (.c .pnil)) <|
    .done)
  .ret) .skip)
noncomputable def cc_tree_of_k1 : CC :=
  (.seq (.seq (.region <| o1 10 (.mv (.t 3)) <|
    o1 11 (.eq2 1 false (.t 10) (.c .pnil)) <|
    o1 12 (.mv (.t 11)) <|
    .op ⟨some 13, some (12, false), .prim (.mv (.t 4))⟩ [] <|
    .op ⟨some 14, some (12, false), .prim (.bin .neq (.t 13) (.c (.str [])))⟩ [] <|
    o1 15 (.pick (.t 12) (.c (.bool true)) (.t 14)) <|
    o1 16 (.mv (.t 15)) <|
    .op ⟨some 17, some (16, false), .prim (.mv (.t 3))⟩ [] <|
    .op ⟨some 18, some (16, false), .call F.tree_node_members [(.t 17)]⟩ [] <|
    .op ⟨some 19, some (16, false), .call F.view_Row [(.t 18)]⟩ [] <|
    .op ⟨some 20, some (16, false), .prim (.not (.t 19))⟩ [] <|
    o1 21 (.pick (.t 16) (.c (.bool true)) (.t 20)) <|
    .done)
  cc_tree_of_k0)
  (.seq (.region <| o1 22 (.mv (.t 3)) <|
    o1 2 (.mv (.t 22)) <|
    .done)
  .ret))
noncomputable def cc_tree_of_k2 : CC :=
  (.seq (.region <| o1 6 (.mv (.t 0)) <|
    .op ⟨some 7, none, .call F.tree_read [(.t 6)]⟩ [] <|
    o1 5 (.mv (.t 7)) <|
    o1 8 (.extr (.t 5) 0) <|
    o1 9 (.extr (.t 5) 1) <|
    o1 3 (.mv (.t 8)) <|
    o1 4 (.mv (.t 9)) <|
    .done)
  cc_tree_of_k1)
noncomputable def cc_tree_of : CC :=
  (.seq (.region <| o1 2 (.mv (.c .pnil)) <|
    .done)
  cc_tree_of_k2)
noncomputable def fe_tree_of : FE := ⟨23, [.tmp 2], cc_tree_of⟩
theorem e_tree_of : compF prog F.tree_of = some fe_tree_of := by kernel_rfl

noncomputable def cc_view_Has_k0 : CC :=
  (.seq (.region <| o1 5 (.mv (.t 0)) <|
    o1 6 (.mv (.t 1)) <|
    .op ⟨some 7, none, .call F.slices_Contains_Lint_int [(.t 5), (.t 6)]⟩ [] <|
    o1 4 (.mv (.t 7)) <|
    .done)
  .ret)
noncomputable def cc_view_Has : CC :=
  (.seq (.region <| o1 4 (.mv (.c (.bool false))) <|
    .done)
  cc_view_Has_k0)
noncomputable def fe_view_Has : FE := ⟨8, [.tmp 4], cc_view_Has⟩
theorem e_view_Has : compF prog F.view_Has = some fe_view_Has := by kernel_rfl

noncomputable def cc_tree_node_members_k0 : CC :=
  (.seq (.region <| o1 7 (.load1 (.t 3)) <|
    .op ⟨some 8, none, .call F.slices_Sort_Lint_int [(.t 7)]⟩ [] <|
    .done)
  (.seq (.region <| o1 9 (.load1 (.t 3)) <|
    o1 2 (.mv (.t 9)) <|
    .done)
  .ret))
noncomputable def cc_tree_node_members_k1 : CC :=
  (.seq (.region <| o1 4 (.mv (.t 0)) <|
    o1 5 (.mkfn F.tree_node_members__1 [(.t 3)]) <|
    .op ⟨some 6, none, .call F.tree_node_each [(.t 4), (.t 5)]⟩ [] <|
    .done)
  cc_tree_node_members_k0)
noncomputable def cc_tree_node_members_k2 : CC :=
  (.seq (.region <| o1 3 (.alloc 35 [.snil]) <|
    .done)
  cc_tree_node_members_k1)
noncomputable def cc_tree_node_members : CC :=
  (.seq (.region <| o1 2 (.mv (.c .snil)) <|
    .done)
  cc_tree_node_members_k2)
noncomputable def fe_tree_node_members : FE := ⟨10, [.tmp 2], cc_tree_node_members⟩
theorem e_tree_node_members : compF prog F.tree_node_members = some fe_tree_node_members := by kernel_rfl

noncomputable def cc_tree_node_each_k0 : CC :=
  (.region <| o1 6 (.load1 (.t 4)) <|
    o1 7 (.mv (.t 0)) <|
    .op ⟨some 8, none, .dcall (.t 6) [(.t 7)]⟩ [] <|
    .done)
noncomputable def cc_tree_node_each_k1 : CC :=
  (.seq (.region <| o1 5 (.mkfn F.tree_node_each__1 [(.t 3), (.t 4)]) <|
    .op ⟨none, none, .prim (.store 1 (.t 4) (.t 5))⟩ [] <|
    .done)
  cc_tree_node_each_k0)
noncomputable def cc_tree_node_each_k2 : CC :=
  (.seq (.region <| o1 4 (.alloc 70 [.fnil]) <|
    .done)
  cc_tree_node_each_k1)
noncomputable def cc_tree_node_each : CC :=
  (.seq (.region <| o1 3 (.box 55 (.t 1)) <|
    .done)
  cc_tree_node_each_k2)
noncomputable def fe_tree_node_each : FE := ⟨9, [], cc_tree_node_each⟩
theorem e_tree_node_each : compF prog F.tree_node_each = some fe_tree_node_each := by kernel_rfl

noncomputable def cc_tree_Join__1_c0 : CC :=
  (.region <| o1 16 (.mv (.t 0)) <|
    .op ⟨none, none, .prim (.store 1 (.t 1) (.t 16))⟩ [] <|
    .done)
noncomputable def cc_tree_Join__1_k1 : CC :=
  (.cond (.t 15) cc_tree_Join__1_c0 .skip)
noncomputable def cc_tree_Join__1_k2 : CC :=
  (.seq (.seq (.region <| o1 7 (.load1 (.t 1)) <|
    o1 8 (.eq2 1 false (.t 7) (.c .pnil)) <|
    o1 9 (.mv (.t 8)) <|
    .op ⟨some 10, some (9, false), .prim (.mv (.t 0))⟩ [] <|
    .op ⟨some 12, some (9, false), .prim (.load1 (.t 1))⟩ [] <|
    .op ⟨some 11, some (9, false), .call F.tree_node_depth [(.t 10)]⟩ [⟨some 12, some (9, false), .prim (.load1 (.t 1))⟩] <|
    .op ⟨some 13, some (9, false), .call F.tree_node_depth [(.t 12)]⟩ [] <|
    .op ⟨some 14, some (9, false), .prim (.bin .lss (.t 11) (.t 13))⟩ [] <|
    o1 15 (.pick (.t 9) (.c (.bool true)) (.t 14)) <|
    .done)
  cc_tree_Join__1_k1)
  (.seq (.region <| o1 3 (.mv (.c (.bool false))) <|
    .done)
  .ret))
noncomputable def cc_tree_Join__1_k3 : CC :=
  (.cond (.t 6) (.seq (.region <| o1 3 (.mv (.c (.bool true))) <|
    .done)
  .ret) .skip)
noncomputable def cc_tree_Join__1_k4 : CC :=
  (.seq (.seq (.region <| o1 4 (.mv (.t 0)) <|
    .op ⟨some 5, none, .call F.tree_node_full [(.t 4)]⟩ [] <|
    o1 6 (.not (.t 5)) <|
    .done)
  cc_tree_Join__1_k3)
  cc_tree_Join__1_k2)
noncomputable def cc_tree_Join__1 : CC :=
  (.seq (.region <| o1 3 (.mv (.c (.bool false))) <|
    .done)
  cc_tree_Join__1_k4)
noncomputable def fe_tree_Join__1 : FE := ⟨17, [.tmp 3], cc_tree_Join__1⟩
theorem e_tree_Join__1 : compF prog F.tree_Join__1 = some fe_tree_Join__1 := by kernel_rfl

noncomputable def cc_tree_node_full_k0 : CC :=
  (.seq (.region <| o1 3 (.mv (.t 0)) <|
    .op ⟨some 4, none, .call F.tree_node_members [(.t 3)]⟩ [] <|
    o1 5 (.lenL (.t 4)) <|
    o1 6 (.mv (.t 0)) <|
    .op ⟨some 7, none, .call F.tree_node_depth [(.t 6)]⟩ [] <|
    o1 8 (.bin .shl (.c (.int .i64 1)) (.t 7)) <|
    o1 9 (.bin .eql (.t 5) (.t 8)) <|
    o1 2 (.mv (.t 9)) <|
    .done)
  .ret)
noncomputable def cc_tree_node_full : CC :=
  (.seq (.region <| o1 2 (.mv (.c (.bool false))) <|
    .done)
  cc_tree_node_full_k0)
noncomputable def fe_tree_node_full : FE := ⟨10, [.tmp 2], cc_tree_node_full⟩
theorem e_tree_node_full : compF prog F.tree_node_full = some fe_tree_node_full := by kernel_rfl

noncomputable def cc_tree_node_depth_k0 : CC :=
  (.seq (.region <| o1 8 (.mv (.t 0)) <|
    o1 9 (.nilc (.t 8)) <|
    o1 10 (.faddr 1 (.t 9)) <|
    o1 11 (.load1 (.t 10)) <|
    o1 13 (.mv (.t 0)) <|
    o1 14 (.nilc (.t 13)) <|
    o1 15 (.faddr 2 (.t 14)) <|
    o1 16 (.load1 (.t 15)) <|
    .op ⟨some 12, none, .call F.tree_node_depth [(.t 11)]⟩ [⟨some 16, none, .prim (.load1 (.t 15))⟩] <|
    .op ⟨some 17, none, .call F.tree_node_depth [(.t 16)]⟩ [] <|
    o1 18 (.max (.t 12) (.t 17)) <|
    o1 19 (.bin .add (.c (.int .i64 1)) (.t 18)) <|
    o1 2 (.mv (.t 19)) <|
    .done)
  .ret)
noncomputable def cc_tree_node_depth_k1 : CC :=
  (.cond (.t 7) (.seq (.region <| o1 2 (.mv (.c (.int .i64 0))) <|
    .done)
  .ret) .skip)
noncomputable def cc_tree_node_depth_k2 : CC :=
  (.seq (.seq (.region <| o1 3 (.mv (.t 0)) <|
    o1 4 (.nilc (.t 3)) <|
    o1 5 (.faddr 1 (.t 4)) <|
    o1 6 (.load1 (.t 5)) <|
    o1 7 (.eq2 1 false (.t 6) (.c .pnil)) <|
    .done)
  cc_tree_node_depth_k1)
  cc_tree_node_depth_k0)
noncomputable def cc_tree_node_depth : CC :=
  (.seq (.region <| o1 2 (.mv (.c (.int .i64 0))) <|
    .done)
  cc_tree_node_depth_k2)
noncomputable def fe_tree_node_depth : FE := ⟨20, [.tmp 2], cc_tree_node_depth⟩
theorem e_tree_node_depth : compF prog F.tree_node_depth = some fe_tree_node_depth := by kernel_rfl

noncomputable def cc_tree_node_text_k0 : CC :=
  (.seq (.region <| o1 13 (.mv (.t 0)) <|
    o1 14 (.nilc (.t 13)) <|
    o1 15 (.faddr 1 (.t 14)) <|
    o1 16 (.load1 (.t 15)) <|
    o1 19 (.mv (.t 0)) <|
    o1 20 (.nilc (.t 19)) <|
    o1 21 (.faddr 2 (.t 20)) <|
    o1 22 (.load1 (.t 21)) <|
    .op ⟨some 17, none, .call F.tree_node_text [(.t 16)]⟩ [⟨some 22, none, .prim (.load1 (.t 21))⟩] <|
    o1 18 (.bin .add (.c (.str [40])) (.t 17)) <|
    .op ⟨some 23, none, .call F.tree_node_text [(.t 22)]⟩ [] <|
    o1 24 (.bin .add (.t 18) (.t 23)) <|
    o1 25 (.bin .add (.t 24) (.c (.str [41]))) <|
    o1 2 (.mv (.t 25)) <|
    .done)
  .ret)
noncomputable def cc_tree_node_text_c1 : CC :=
  (.seq (.region <| o1 8 (.mv (.t 0)) <|
    o1 9 (.nilc (.t 8)) <|
    o1 10 (.faddr 0 (.t 9)) <|
    o1 11 (.load1 (.t 10)) <|
    .op ⟨some 12, none, .call F.strconv_Itoa [(.t 11)]⟩ [] <|
    o1 2 (.mv (.t 12)) <|
    .done)
  .ret)
noncomputable def cc_tree_node_text_k2 : CC :=
  (.cond (.t 7) cc_tree_node_text_c1 .skip)
noncomputable def cc_tree_node_text_k3 : CC :=
  (.seq (.seq (.region <| o1 3 (.mv (.t 0)) <|
    o1 4 (.nilc (.t 3)) <|
    o1 5 (.faddr 1 (.t 4)) <|
    o1 6 (.load1 (.t 5)) <|
    o1 7 (.eq2 1 false (.t 6) (.c .pnil)) <|
    .done)
  cc_tree_node_text_k2)
  cc_tree_node_text_k0)
noncomputable def cc_tree_node_text : CC :=
  (.seq (.region <| o1 2 (.mv (.c (.str []))) <|
    .done)
  cc_tree_node_text_k3)
noncomputable def fe_tree_node_text : FE := ⟨26, [.tmp 2], cc_tree_node_text⟩
theorem e_tree_node_text : compF prog F.tree_node_text = some fe_tree_node_text := by kernel_rfl

noncomputable def cc_tree_Leave_k0 : CC :=
  (.seq (.region <| o1 28 (.mv (.t 6)) <|
    .op ⟨some 29, none, .call F.tree_node_text [(.t 28)]⟩ [] <|
    o1 4 (.mv (.t 29)) <|
    o1 5 (.mv (.c (.int .i64 0))) <|
    .done)
  .ret)
noncomputable def cc_tree_Leave_k1 : CC :=
  (.seq (.region <| o1 25 (.mv (.t 6)) <|
    o1 26 (.mkfn F.tree_Leave__1 [(.t 3)]) <|
    .op ⟨some 27, none, .call F.tree_node_each [(.t 25), (.t 26)]⟩ [] <|
    .done)
  cc_tree_Leave_k0)
noncomputable def cc_tree_Leave_k2 : CC :=
  (.cond (.t 12) (.seq (.region <| o1 4 (.mv (.c (.str []))) <|
    o1 5 (.mv (.c (.int .i64 8))) <|
    .done)
  .ret) .skip)
noncomputable def cc_tree_Leave_c3 : CC :=
  (.seq (.region <| o1 13 (.mv (.t 6)) <|
    o1 14 (.nilc (.t 13)) <|
    o1 15 (.faddr 1 (.t 14)) <|
    o1 16 (.load1 (.t 15)) <|
    o1 17 (.eq2 1 false (.t 16) (.c .pnil)) <|
    o1 18 (.mv (.t 17)) <|
    .op ⟨some 19, some (18, false), .prim (.mv (.t 6))⟩ [] <|
    .op ⟨some 21, some (18, false), .prim (.load1 (.t 3))⟩ [] <|
    .op ⟨some 20, some (18, false), .call F.tree_node_members [(.t 19)]⟩ [⟨some 21, some (18, false), .prim (.load1 (.t 3))⟩] <|
    .op ⟨some 22, some (18, false), .call F.view_Has [(.t 20), (.t 21)]⟩ [] <|
    .op ⟨some 23, some (18, false), .prim (.not (.t 22))⟩ [] <|
    o1 24 (.pick (.t 18) (.c (.bool true)) (.t 23)) <|
    o1 12 (.mv (.t 24)) <|
    .done)
  cc_tree_Leave_k2)
noncomputable def cc_tree_Leave_k4 : CC :=
  (.cond (.t 9) (.seq (.region <| o1 4 (.mv (.c (.str []))) <|
    o1 5 (.mv (.c (.int .i64 1))) <|
    .done)
  .ret) cc_tree_Leave_c3)
noncomputable def cc_tree_Leave_k5 : CC :=
  (.seq (.block 0 (.seq (.region <| o1 10 (.mv (.t 6)) <|
    o1 11 (.eq2 1 false (.t 10) (.c .pnil)) <|
    o1 9 (.mv (.t 11)) <|
    .done)
  cc_tree_Leave_k4))
  cc_tree_Leave_k1)
noncomputable def cc_tree_Leave_k6 : CC :=
  (.seq (.region <| o1 7 (.mv (.t 0)) <|
    .op ⟨some 8, none, .call F.tree_of [(.t 7)]⟩ [] <|
    o1 6 (.mv (.t 8)) <|
    .done)
  cc_tree_Leave_k5)
noncomputable def cc_tree_Leave : CC :=
  (.seq (.region <| o1 3 (.box 3 (.t 1)) <|
    o1 4 (.mv (.c (.str []))) <|
    o1 5 (.mv (.c (.int .i64 0))) <|
    .done)
  cc_tree_Leave_k6)
noncomputable def fe_tree_Leave : FE := ⟨30, [.tmp 4, .tmp 5], cc_tree_Leave⟩
theorem e_tree_Leave : compF prog F.tree_Leave = some fe_tree_Leave := by kernel_rfl

noncomputable def cc_tree_Merge_k0 : CC :=
  (.seq (.region <| o1 33 (.mv (.t 0)) <|
    o1 34 (.bin .add (.c (.str [40])) (.t 33)) <|
    o1 35 (.mv (.t 1)) <|
    o1 36 (.bin .add (.t 34) (.t 35)) <|
    o1 37 (.bin .add (.t 36) (.c (.str [41]))) <|
    o1 4 (.mv (.t 37)) <|
    o1 5 (.mv (.c (.int .i64 0))) <|
    .done)
  .ret)
noncomputable def cc_tree_Merge_c1 : CC :=
  (.region <| o1 31 (.mv (.t 1)) <|
    o1 32 (.mv (.t 0)) <|
    o1 0 (.mv (.t 31)) <|
    o1 1 (.mv (.t 32)) <|
    .done)
noncomputable def cc_tree_Merge_k2 : CC :=
  (.cond (.t 30) cc_tree_Merge_c1 .skip)
noncomputable def cc_tree_Merge_k3 : CC :=
  (.seq (.seq (.region <| o1 27 (.mv (.t 6)) <|
    o1 28 (.mv (.t 7)) <|
    .op ⟨some 29, none, .call F.tree_node_greater [(.t 27), (.t 28)]⟩ [] <|
    o1 30 (.not (.t 29)) <|
    .done)
  cc_tree_Merge_k2)
  cc_tree_Merge_k0)
noncomputable def cc_tree_Merge_k4 : CC :=
  (.cond (.t 26) (.seq (.region <| o1 4 (.mv (.c (.str []))) <|
    o1 5 (.mv (.c (.int .i64 1))) <|
    .done)
  .ret) .skip)
noncomputable def cc_tree_Merge_k5 : CC :=
  (.seq (.seq (.region <| o1 12 (.mv (.t 6)) <|
    o1 13 (.eq2 1 false (.t 12) (.c .pnil)) <|
    o1 14 (.mv (.t 13)) <|
    .op ⟨some 15, some (14, false), .prim (.mv (.t 7))⟩ [] <|
    .op ⟨some 16, some (14, false), .prim (.eq2 1 false (.t 15) (.c .pnil))⟩ [] <|
    o1 17 (.pick (.t 14) (.c (.bool true)) (.t 16)) <|
    o1 18 (.mv (.t 17)) <|
    .op ⟨some 19, some (18, false), .prim (.mv (.t 6))⟩ [] <|
    .op ⟨some 20, some (18, false), .call F.tree_node_members [(.t 19)]⟩ [] <|
    .op ⟨some 21, some (18, false), .prim (.mv (.t 7))⟩ [] <|
    .op ⟨some 22, some (18, false), .call F.tree_node_members [(.t 21)]⟩ [] <|
    .op ⟨some 23, some (18, false), .call F.view_Both [(.t 20), (.t 22)]⟩ [] <|
    .op ⟨some 24, some (18, false), .prim (.lenL (.t 23))⟩ [] <|
    .op ⟨some 25, some (18, false), .prim (.bin .gtr (.t 24) (.c (.int .i64 0)))⟩ [] <|
    o1 26 (.pick (.t 18) (.c (.bool true)) (.t 25)) <|
    .done)
  cc_tree_Merge_k4)
  cc_tree_Merge_k3)
noncomputable def cc_tree_Merge_k6 : CC :=
  (.seq (.region <| o1 8 (.mv (.t 0)) <|
    .op ⟨some 9, none, .call F.tree_of [(.t 8)]⟩ [] <|
    o1 10 (.mv (.t 1)) <|
    .op ⟨some 11, none, .call F.tree_of [(.t 10)]⟩ [] <|
    o1 6 (.mv (.t 9)) <|
    o1 7 (.mv (.t 11)) <|
    .done)
  cc_tree_Merge_k5)
noncomputable def cc_tree_Merge : CC :=
  (.seq (.region <| o1 4 (.mv (.c (.str []))) <|
    o1 5 (.mv (.c (.int .i64 0))) <|
    .done)
  cc_tree_Merge_k6)
noncomputable def fe_tree_Merge : FE := ⟨38, [.tmp 4, .tmp 5], cc_tree_Merge⟩
theorem e_tree_Merge : compF prog F.tree_Merge = some fe_tree_Merge := by kernel_rfl

noncomputable def cc_internal_strconv_Itoa_k0 : CC :=
  (.seq (.region <| o1 3 (.mv (.t 0)) <|
    .op ⟨some 4, none, .call F.internal_strconv_FormatInt [(.t 3), (.c (.int .i64 10))]⟩ [] <|
    o1 2 (.mv (.t 4)) <|
    .done)
  .ret)
noncomputable def cc_internal_strconv_Itoa : CC :=
  (.seq (.region <| o1 2 (.mv (.c (.str []))) <|
    .done)
  cc_internal_strconv_Itoa_k0)
noncomputable def fe_internal_strconv_Itoa : FE := ⟨5, [.tmp 2], cc_internal_strconv_Itoa⟩
theorem e_internal_strconv_Itoa : compF prog F.internal_strconv_Itoa = some fe_internal_strconv_Itoa := by kernel_rfl
noncomputable def cc_place_below__1_r0_g : Array Tmp × Code × Code := rfOf prog 37 0
noncomputable abbrev cc_place_below__1_r0_p := cc_place_below__1_r0_g.1
noncomputable abbrev cc_place_below__1_r0_x := cc_place_below__1_r0_g.2.1
noncomputable abbrev cc_place_below__1_r0_y := cc_place_below__1_r0_g.2.2
noncomputable def cc_place_below__1_r4_g : Array Tmp × Code × Code := rfOf prog 37 1
noncomputable abbrev cc_place_below__1_r4_p := cc_place_below__1_r4_g.1
noncomputable abbrev cc_place_below__1_r4_x := cc_place_below__1_r4_g.2.1
noncomputable abbrev cc_place_below__1_r4_y := cc_place_below__1_r4_g.2.2

noncomputable def cc_place_below__1_r0_k1 : CC :=
  (.cond (.t 45) .ret .skip)
noncomputable def cc_place_below__1_r0_a : CC :=
  (.seq (.region <| o1 9 (.mv (.t 39)) <|
    .done)
  (.region <| o1 10 (.mv (.t 40)) <|
    .done))
noncomputable def cc_place_below__1_r0_b : CC :=
  (.block 3 (.seq (.region <| o1 41 (.load1 (.t 3)) <|
    o1 42 (.mv (.t 9)) <|
    o1 43 (.mv (.t 10)) <|
    .op ⟨some 44, none, .dcall (.t 41) [(.t 42), (.t 43)]⟩ [] <|
    o1 45 (.not (.t 44)) <|
    .done)
  cc_place_below__1_r0_k1))
noncomputable def cc_place_below__1_k2 : CC :=
  (.block 2 (.rfunc 46 (.t 38) cc_place_below__1_r0_p cc_place_below__1_r0_x cc_place_below__1_r0_y))
noncomputable def cc_place_below__1_k3 : CC :=
  (.seq (.region <| o1 35 (.load1 (.t 1)) <|
    o1 36 (.bin .add (.t 35) (.c (.str [114]))) <|
    o1 37 (.mv (.t 5)) <|
    .op ⟨some 38, none, .call F.place_below [(.t 36), (.t 37)]⟩ [] <|
    .done)
  cc_place_below__1_k2)
noncomputable def cc_place_below__1_r4_k5 : CC :=
  (.cond (.t 34) .ret .skip)
noncomputable def cc_place_below__1_r4_a : CC :=
  (.seq (.region <| o1 7 (.mv (.t 28)) <|
    .done)
  (.region <| o1 8 (.mv (.t 29)) <|
    .done))
noncomputable def cc_place_below__1_r4_b : CC :=
  (.block 1 (.seq (.region <| o1 30 (.load1 (.t 3)) <|
    o1 31 (.mv (.t 7)) <|
    o1 32 (.mv (.t 8)) <|
    .op ⟨some 33, none, .dcall (.t 30) [(.t 31), (.t 32)]⟩ [] <|
    o1 34 (.not (.t 33)) <|
    .done)
  cc_place_below__1_r4_k5))
noncomputable def cc_place_below__1_k6 : CC :=
  (.block 0 (.rfunc 46 (.t 27) cc_place_below__1_r4_p cc_place_below__1_r4_x cc_place_below__1_r4_y))
noncomputable def cc_place_below__1_k7 : CC :=
  (.seq (.seq (.region <| o1 24 (.load1 (.t 1)) <|
    o1 25 (.bin .add (.t 24) (.c (.str [108]))) <|
    o1 26 (.mv (.t 4)) <|
    .op ⟨some 27, none, .call F.place_below [(.t 25), (.t 26)]⟩ [] <|
    .done)
  cc_place_below__1_k6)
  cc_place_below__1_k3)
noncomputable def cc_place_below__1_k8 : CC :=
  (.cond (.t 23) .ret .skip)
noncomputable def cc_place_below__1_k9 : CC :=
  (.seq (.seq (.region <| o1 22 (.mv (.t 6)) <|
    o1 23 (.not (.t 22)) <|
    .done)
  cc_place_below__1_k8)
  cc_place_below__1_k7)
noncomputable def cc_place_below__1_k10 : CC :=
  (.seq (.region <| o1 17 (.load1 (.t 2)) <|
    .op ⟨some 18, none, .call F.place_halves [(.t 17)]⟩ [] <|
    o1 16 (.mv (.t 18)) <|
    o1 19 (.extr (.t 16) 0) <|
    o1 20 (.extr (.t 16) 1) <|
    o1 21 (.extr (.t 16) 2) <|
    o1 4 (.mv (.t 19)) <|
    o1 5 (.mv (.t 20)) <|
    o1 6 (.mv (.t 21)) <|
    .done)
  cc_place_below__1_k9)
noncomputable def cc_place_below__1_k11 : CC :=
  (.cond (.t 15) .ret .skip)
noncomputable def cc_place_below__1_k12 : CC :=
  (.seq (.seq (.region <| o1 11 (.load1 (.t 3)) <|
    o1 12 (.load1 (.t 1)) <|
    o1 13 (.load1 (.t 2)) <|
    .op ⟨some 14, none, .dcall (.t 11) [(.t 12), (.t 13)]⟩ [] <|
    o1 15 (.not (.t 14)) <|
    .done)
  cc_place_below__1_k11)
  cc_place_below__1_k10)
noncomputable def cc_place_below__1 : CC :=
  (.seq (.region <| o1 3 (.box 60 (.t 0)) <|
    .done)
  cc_place_below__1_k12)
noncomputable def fe_place_below__1 : FE := ⟨46, [], cc_place_below__1⟩
theorem e_place_below__1 : compF prog F.place_below__1 = some fe_place_below__1 := by kernel_rfl
theorem cc_place_below__1_r0_ps : cc_place_below__1_r0_p = #[39, 40] := by kernel_rfl
theorem cc_place_below__1_r0_ca : compC prog 46 false cc_place_below__1_r0_x = some cc_place_below__1_r0_a := by kernel_rfl
theorem cc_place_below__1_r0_cb : compC prog 46 false cc_place_below__1_r0_y = some cc_place_below__1_r0_b := by kernel_rfl
theorem cc_place_below__1_r4_ps : cc_place_below__1_r4_p = #[28, 29] := by kernel_rfl
theorem cc_place_below__1_r4_ca : compC prog 46 false cc_place_below__1_r4_x = some cc_place_below__1_r4_a := by kernel_rfl
theorem cc_place_below__1_r4_cb : compC prog 46 false cc_place_below__1_r4_y = some cc_place_below__1_r4_b := by kernel_rfl

noncomputable def cc_place_halves_k0 : CC :=
  (.seq (.region <| o1 2 (.mv (.c (.str []))) <|
    o1 3 (.mv (.c (.str []))) <|
    o1 4 (.mv (.c (.bool false))) <|
    .done)
  .ret)
noncomputable def cc_place_halves_c1 : CC :=
  (.seq (.region <| o1 34 (.mv (.t 5)) <|
    o1 35 (.mv (.t 7)) <|
    o1 36 (.bin .add (.t 35) (.c (.int .i64 1))) <|
    o1 37 (.slstr (.t 34) none (some (.t 36))) <|
    o1 38 (.mv (.t 5)) <|
    o1 39 (.mv (.t 7)) <|
    o1 40 (.bin .add (.t 39) (.c (.int .i64 1))) <|
    o1 41 (.slstr (.t 38) (some (.t 40)) none) <|
    o1 2 (.mv (.t 37)) <|
    o1 3 (.mv (.t 41)) <|
    o1 4 (.mv (.c (.bool true))) <|
    .done)
  .ret)
noncomputable def cc_place_halves_k2 : CC :=
  (.cond (.t 33) cc_place_halves_c1 .skip)
noncomputable def cc_place_halves_k3 : CC :=
  (.seq (.region <| o1 32 (.mv (.t 6)) <|
    o1 33 (.bin .eql (.t 32) (.c (.int .i64 0))) <|
    .done)
  cc_place_halves_k2)
noncomputable def cc_place_halves_c4 : CC :=
  (.region <| o1 26 (.mv (.t 6)) <|
    o1 27 (.bin .add (.t 26) (.c (.int .i64 1))) <|
    o1 6 (.mv (.t 27)) <|
    .done)
noncomputable def cc_place_halves_c5 : CC :=
  (.region <| o1 30 (.mv (.t 6)) <|
    o1 31 (.bin .sub (.t 30) (.c (.int .i64 1))) <|
    o1 6 (.mv (.t 31)) <|
    .done)
noncomputable def cc_place_halves_k6 : CC :=
  (.cond (.t 28) cc_place_halves_c5 .skip)
noncomputable def cc_place_halves_c7 : CC :=
  (.seq (.region <| o1 29 (.bin .eql (.t 23) (.c (.int .i32 41))) <|
    o1 28 (.mv (.t 29)) <|
    .done)
  cc_place_halves_k6)
noncomputable def cc_place_halves_k8 : CC :=
  (.cond (.t 24) cc_place_halves_c4 cc_place_halves_c7)
noncomputable def cc_place_halves_k9 : CC :=
  (.block 2 (.seq (.region <| o1 25 (.bin .eql (.t 23) (.c (.int .i32 40))) <|
    o1 24 (.mv (.t 25)) <|
    .done)
  cc_place_halves_k8))
noncomputable def cc_place_halves_k10 : CC :=
  (.seq (.seq (.region <| o1 23 (.mv (.t 8)) <|
    .done)
  cc_place_halves_k9)
  cc_place_halves_k3)
noncomputable def cc_place_halves_k11 : CC :=
  (.block 1 (.seq (.region <| o1 21 (.extr (.t 19) 1) <|
    o1 22 (.extr (.t 19) 2) <|
    o1 7 (.mv (.t 21)) <|
    o1 8 (.mv (.t 22)) <|
    .done)
  cc_place_halves_k10))
noncomputable def cc_place_halves_k12 : CC :=
  (.seq (.cond (.t 20) .skip (.exit 0))
  cc_place_halves_k11)
noncomputable def cc_place_halves_l13 : CC :=
  (.seq (.region <| o1 19 (.nextS (.t 18)) <|
    o1 20 (.extr (.t 19) 0) <|
    .done)
  cc_place_halves_k12)
noncomputable def cc_place_halves_k14 : CC :=
  (.block 0 (.loop cc_place_halves_l13))
noncomputable def cc_place_halves_k15 : CC :=
  (.seq (.seq (.region <| o1 17 (.mv (.t 5)) <|
    o1 18 (.rangeS (.t 17)) <|
    .done)
  cc_place_halves_k14)
  cc_place_halves_k0)
noncomputable def cc_place_halves_k16 : CC :=
  (.seq (.region <| o1 6 (.mv (.c (.int .i64 0))) <|
    .done)
  cc_place_halves_k15)
noncomputable def cc_place_halves_k17 : CC :=
  (.seq (.region <| o1 12 (.mv (.t 0)) <|
    o1 13 (.mv (.t 0)) <|
    o1 14 (.lenS (.t 13)) <|
    o1 15 (.bin .sub (.t 14) (.c (.int .i64 1))) <|
    o1 16 (.slstr (.t 12) (some (.c (.int .i64 1))) (some (.t 15))) <|
    o1 5 (.mv (.t 16)) <|
    .done)
  cc_place_halves_k16)
noncomputable def cc_place_halves_c18 : CC :=
  (.seq (.region <| o1 2 (.mv (.c (.str []))) <|
    o1 3 (.mv (.c (.str []))) <|
    o1 4 (.mv (.c (.bool false))) <|
    .done)
  .ret)
noncomputable def cc_place_halves_k19 : CC :=
  (.cond (.t 11) cc_place_halves_c18 .skip)
noncomputable def cc_place_halves_k20 : CC :=
  (.seq (.seq (.region <| o1 9 (.mv (.t 0)) <|
    o1 10 (.lenS (.t 9)) <|
    o1 11 (.bin .lss (.t 10) (.c (.int .i64 2))) <|
    .done)
  cc_place_halves_k19)
  cc_place_halves_k17)
noncomputable def cc_place_halves : CC :=
  (.seq (.region <| o1 2 (.mv (.c (.str []))) <|
    o1 3 (.mv (.c (.str []))) <|
    o1 4 (.mv (.c (.bool false))) <|
    .done)
  cc_place_halves_k20)
noncomputable def fe_place_halves : FE := ⟨42, [.tmp 2, .tmp 3, .tmp 4], cc_place_halves⟩
theorem e_place_halves : compF prog F.place_halves = some fe_place_halves := by kernel_rfl

noncomputable def cc_slices_pdqsortCmpFunc_string_k0 : CC :=
  (.region <| o1 135 (.mv (.t 16)) <|
    o1 136 (.bin .add (.t 135) (.c (.int .i64 1))) <|
    o1 1 (.mv (.t 136)) <|
    .done)
noncomputable def cc_slices_pdqsortCmpFunc_string_k1 : CC :=
  (.seq (.region <| o1 129 (.mv (.t 0)) <|
    o1 130 (.mv (.t 1)) <|
    o1 131 (.mv (.t 16)) <|
    o1 132 (.mv (.t 3)) <|
    o1 133 (.mv (.t 4)) <|
    .op ⟨some 134, none, .call F.slices_pdqsortCmpFunc_string [(.t 129), (.t 130), (.t 131), (.t 132), (.t 133)]⟩ [] <|
    .done)
  cc_slices_pdqsortCmpFunc_string_k0)
noncomputable def cc_slices_pdqsortCmpFunc_string_c2 : CC :=
  (.seq (.region <| o1 126 (.mv (.t 18)) <|
    o1 127 (.mv (.t 20)) <|
    o1 128 (.bin .geq (.t 126) (.t 127)) <|
    o1 10 (.mv (.t 128)) <|
    .done)
  cc_slices_pdqsortCmpFunc_string_k1)
noncomputable def cc_slices_pdqsortCmpFunc_string_k3 : CC :=
  (.region <| o1 147 (.mv (.t 16)) <|
    o1 2 (.mv (.t 147)) <|
    .done)
noncomputable def cc_slices_pdqsortCmpFunc_string_k4 : CC :=
  (.seq (.region <| o1 140 (.mv (.t 0)) <|
    o1 141 (.mv (.t 16)) <|
    o1 142 (.bin .add (.t 141) (.c (.int .i64 1))) <|
    o1 143 (.mv (.t 2)) <|
    o1 144 (.mv (.t 3)) <|
    o1 145 (.mv (.t 4)) <|
    .op ⟨some 146, none, .call F.slices_pdqsortCmpFunc_string [(.t 140), (.t 142), (.t 143), (.t 144), (.t 145)]⟩ [] <|
    .done)
  cc_slices_pdqsortCmpFunc_string_k3)
noncomputable def cc_slices_pdqsortCmpFunc_string_c5 : CC :=
  (.seq (.region <| o1 137 (.mv (.t 19)) <|
    o1 138 (.mv (.t 20)) <|
    o1 139 (.bin .geq (.t 137) (.t 138)) <|
    o1 10 (.mv (.t 139)) <|
    .done)
  cc_slices_pdqsortCmpFunc_string_k4)
noncomputable def cc_slices_pdqsortCmpFunc_string_k6 : CC :=
  (.cond (.t 125) cc_slices_pdqsortCmpFunc_string_c2 cc_slices_pdqsortCmpFunc_string_c5)
noncomputable def cc_slices_pdqsortCmpFunc_string_k7 : CC :=
  (.seq (.region <| o1 123 (.mv (.t 18)) <|
    o1 124 (.mv (.t 19)) <|
    o1 125 (.bin .lss (.t 123) (.t 124)) <|
    .done)
  cc_slices_pdqsortCmpFunc_string_k6)
noncomputable def cc_slices_pdqsortCmpFunc_string_k8 : CC :=
  (.seq (.region <| o1 121 (.mv (.t 12)) <|
    o1 122 (.bin .quo (.t 121) (.c (.int .i64 8))) <|
    o1 20 (.mv (.t 122)) <|
    .done)
  cc_slices_pdqsortCmpFunc_string_k7)
noncomputable def cc_slices_pdqsortCmpFunc_string_k9 : CC :=
  (.seq (.region <| o1 115 (.mv (.t 16)) <|
    o1 116 (.mv (.t 1)) <|
    o1 117 (.bin .sub (.t 115) (.t 116)) <|
    o1 118 (.mv (.t 2)) <|
    o1 119 (.mv (.t 16)) <|
    o1 120 (.bin .sub (.t 118) (.t 119)) <|
    o1 18 (.mv (.t 117)) <|
    o1 19 (.mv (.t 120)) <|
    .done)
  cc_slices_pdqsortCmpFunc_string_k8)
noncomputable def cc_slices_pdqsortCmpFunc_string_k10 : CC :=
  (.seq (.region <| o1 114 (.mv (.t 17)) <|
    o1 11 (.mv (.t 114)) <|
    .done)
  cc_slices_pdqsortCmpFunc_string_k9)
noncomputable def cc_slices_pdqsortCmpFunc_string_k11 : CC :=
  (.seq (.region <| o1 106 (.mv (.t 0)) <|
    o1 107 (.mv (.t 1)) <|
    o1 108 (.mv (.t 2)) <|
    o1 109 (.mv (.t 13)) <|
    o1 110 (.mv (.t 4)) <|
    .op ⟨some 111, none, .call F.slices_partitionCmpFunc_string [(.t 106), (.t 107), (.t 108), (.t 109), (.t 110)]⟩ [] <|
    o1 105 (.mv (.t 111)) <|
    o1 112 (.extr (.t 105) 0) <|
    o1 113 (.extr (.t 105) 1) <|
    o1 16 (.mv (.t 112)) <|
    o1 17 (.mv (.t 113)) <|
    .done)
  cc_slices_pdqsortCmpFunc_string_k10)
noncomputable def cc_slices_pdqsortCmpFunc_string_k12 : CC :=
  (.seq (.region <| o1 104 (.mv (.t 15)) <|
    o1 1 (.mv (.t 104)) <|
    .done)
  (.exit 1))
noncomputable def cc_slices_pdqsortCmpFunc_string_c13 : CC :=
  (.seq (.region <| o1 98 (.mv (.t 0)) <|
    o1 99 (.mv (.t 1)) <|
    o1 100 (.mv (.t 2)) <|
    o1 101 (.mv (.t 13)) <|
    o1 102 (.mv (.t 4)) <|
    .op ⟨some 103, none, .call F.slices_partitionEqualCmpFunc_string [(.t 98), (.t 99), (.t 100), (.t 101), (.t 102)]⟩ [] <|
    o1 15 (.mv (.t 103)) <|
    .done)
  cc_slices_pdqsortCmpFunc_string_k12)
noncomputable def cc_slices_pdqsortCmpFunc_string_k14 : CC :=
  (.cond (.t 97) cc_slices_pdqsortCmpFunc_string_c13 .skip)
noncomputable def cc_slices_pdqsortCmpFunc_string_k15 : CC :=
  (.seq (.seq (.region <| o1 81 (.mv (.t 1)) <|
    o1 82 (.bin .gtr (.t 81) (.c (.int .i64 0))) <|
    o1 83 (.mv (.t 82)) <|
    .op ⟨some 84, some (83, true), .prim (.mv (.t 4))⟩ [] <|
    .op ⟨some 85, some (83, true), .prim (.mv (.t 0))⟩ [] <|
    .op ⟨some 86, some (83, true), .prim (.mv (.t 1))⟩ [] <|
    .op ⟨some 87, some (83, true), .prim (.bin .sub (.t 86) (.c (.int .i64 1)))⟩ [] <|
    .op ⟨some 88, some (83, true), .prim (.iaddr 1 (.t 85) (.t 87))⟩ [] <|
    .op ⟨some 89, some (83, true), .prim (.load1 (.t 88))⟩ [] <|
    .op ⟨some 90, some (83, true), .prim (.mv (.t 0))⟩ [] <|
    .op ⟨some 91, some (83, true), .prim (.mv (.t 13))⟩ [] <|
    .op ⟨some 92, some (83, true), .prim (.iaddr 1 (.t 90) (.t 91))⟩ [] <|
    .op ⟨some 93, some (83, true), .prim (.load1 (.t 92))⟩ [] <|
    .op ⟨some 94, some (83, true), .dcall (.t 84) [(.t 89), (.t 93)]⟩ [] <|
    .op ⟨some 95, some (83, true), .prim (.bin .lss (.t 94) (.c (.int .i64 0)))⟩ [] <|
    .op ⟨some 96, some (83, true), .prim (.not (.t 95))⟩ [] <|
    o1 97 (.pick (.t 83) (.t 96) (.c (.bool false))) <|
    .done)
  cc_slices_pdqsortCmpFunc_string_k14)
  cc_slices_pdqsortCmpFunc_string_k11)
noncomputable def cc_slices_pdqsortCmpFunc_string_k16 : CC :=
  (.cond (.t 80) .ret .skip)
noncomputable def cc_slices_pdqsortCmpFunc_string_c17 : CC :=
  (.seq (.region <| o1 76 (.mv (.t 0)) <|
    o1 77 (.mv (.t 1)) <|
    o1 78 (.mv (.t 2)) <|
    o1 79 (.mv (.t 4)) <|
    .op ⟨some 80, none, .call F.slices_partialInsertionSortCmpFunc_string [(.t 76), (.t 77), (.t 78), (.t 79)]⟩ [] <|
    .done)
  cc_slices_pdqsortCmpFunc_string_k16)
noncomputable def cc_slices_pdqsortCmpFunc_string_k18 : CC :=
  (.cond (.t 75) cc_slices_pdqsortCmpFunc_string_c17 .skip)
noncomputable def cc_slices_pdqsortCmpFunc_string_k19 : CC :=
  (.seq (.seq (.region <| o1 68 (.mv (.t 10)) <|
    o1 69 (.mv (.t 68)) <|
    .op ⟨some 70, some (69, true), .prim (.mv (.t 11))⟩ [] <|
    o1 71 (.pick (.t 69) (.t 70) (.c (.bool false))) <|
    o1 72 (.mv (.t 71)) <|
    .op ⟨some 73, some (72, true), .prim (.mv (.t 14))⟩ [] <|
    .op ⟨some 74, some (72, true), .prim (.bin .eql (.t 73) (.c (.int .i64 1)))⟩ [] <|
    o1 75 (.pick (.t 72) (.t 74) (.c (.bool false))) <|
    .done)
  cc_slices_pdqsortCmpFunc_string_k18)
  cc_slices_pdqsortCmpFunc_string_k15)
noncomputable def cc_slices_pdqsortCmpFunc_string_k20 : CC :=
  (.seq (.region <| o1 62 (.mv (.t 2)) <|
    o1 63 (.bin .sub (.t 62) (.c (.int .i64 1))) <|
    o1 64 (.mv (.t 13)) <|
    o1 65 (.mv (.t 1)) <|
    o1 66 (.bin .sub (.t 64) (.t 65)) <|
    o1 67 (.bin .sub (.t 63) (.t 66)) <|
    o1 13 (.mv (.t 67)) <|
    .done)
  (.region <| o1 14 (.mv (.c (.int .i64 1))) <|
    .done))
noncomputable def cc_slices_pdqsortCmpFunc_string_c21 : CC :=
  (.seq (.region <| o1 57 (.mv (.t 0)) <|
    o1 58 (.mv (.t 1)) <|
    o1 59 (.mv (.t 2)) <|
    o1 60 (.mv (.t 4)) <|
    .op ⟨some 61, none, .call F.slices_reverseRangeCmpFunc_string [(.t 57), (.t 58), (.t 59), (.t 60)]⟩ [] <|
    .done)
  cc_slices_pdqsortCmpFunc_string_k20)
noncomputable def cc_slices_pdqsortCmpFunc_string_k22 : CC :=
  (.cond (.t 56) cc_slices_pdqsortCmpFunc_string_c21 .skip)
noncomputable def cc_slices_pdqsortCmpFunc_string_k23 : CC :=
  (.seq (.seq (.region <| o1 55 (.mv (.t 14)) <|
    o1 56 (.bin .eql (.t 55) (.c (.int .i64 2))) <|
    .done)
  cc_slices_pdqsortCmpFunc_string_k22)
  cc_slices_pdqsortCmpFunc_string_k19)
noncomputable def cc_slices_pdqsortCmpFunc_string_k24 : CC :=
  (.seq (.region <| o1 48 (.mv (.t 0)) <|
    o1 49 (.mv (.t 1)) <|
    o1 50 (.mv (.t 2)) <|
    o1 51 (.mv (.t 4)) <|
    .op ⟨some 52, none, .call F.slices_choosePivotCmpFunc_string [(.t 48), (.t 49), (.t 50), (.t 51)]⟩ [] <|
    o1 47 (.mv (.t 52)) <|
    o1 53 (.extr (.t 47) 0) <|
    o1 54 (.extr (.t 47) 1) <|
    o1 13 (.mv (.t 53)) <|
    o1 14 (.mv (.t 54)) <|
    .done)
  cc_slices_pdqsortCmpFunc_string_k23)
noncomputable def cc_slices_pdqsortCmpFunc_string_k25 : CC :=
  (.region <| o1 45 (.mv (.t 3)) <|
    o1 46 (.bin .sub (.t 45) (.c (.int .i64 1))) <|
    o1 3 (.mv (.t 46)) <|
    .done)
noncomputable def cc_slices_pdqsortCmpFunc_string_c26 : CC :=
  (.seq (.region <| o1 40 (.mv (.t 0)) <|
    o1 41 (.mv (.t 1)) <|
    o1 42 (.mv (.t 2)) <|
    o1 43 (.mv (.t 4)) <|
    .op ⟨some 44, none, .call F.slices_breakPatternsCmpFunc_string [(.t 40), (.t 41), (.t 42), (.t 43)]⟩ [] <|
    .done)
  cc_slices_pdqsortCmpFunc_string_k25)
noncomputable def cc_slices_pdqsortCmpFunc_string_k27 : CC :=
  (.cond (.t 39) cc_slices_pdqsortCmpFunc_string_c26 .skip)
noncomputable def cc_slices_pdqsortCmpFunc_string_k28 : CC :=
  (.seq (.seq (.region <| o1 38 (.mv (.t 10)) <|
    o1 39 (.not (.t 38)) <|
    .done)
  cc_slices_pdqsortCmpFunc_string_k27)
  cc_slices_pdqsortCmpFunc_string_k24)
noncomputable def cc_slices_pdqsortCmpFunc_string_c29 : CC :=
  (.seq (.region <| o1 33 (.mv (.t 0)) <|
    o1 34 (.mv (.t 1)) <|
    o1 35 (.mv (.t 2)) <|
    o1 36 (.mv (.t 4)) <|
    .op ⟨some 37, none, .call F.slices_heapSortCmpFunc_string [(.t 33), (.t 34), (.t 35), (.t 36)]⟩ [] <|
    .done)
  .ret)
noncomputable def cc_slices_pdqsortCmpFunc_string_k30 : CC :=
  (.cond (.t 32) cc_slices_pdqsortCmpFunc_string_c29 .skip)
noncomputable def cc_slices_pdqsortCmpFunc_string_k31 : CC :=
  (.seq (.seq (.region <| o1 31 (.mv (.t 3)) <|
    o1 32 (.bin .eql (.t 31) (.c (.int .i64 0))) <|
    .done)
  cc_slices_pdqsortCmpFunc_string_k30)
  cc_slices_pdqsortCmpFunc_string_k28)
noncomputable def cc_slices_pdqsortCmpFunc_string_c32 : CC :=
  (.seq (.region <| o1 26 (.mv (.t 0)) <|
    o1 27 (.mv (.t 1)) <|
    o1 28 (.mv (.t 2)) <|
    o1 29 (.mv (.t 4)) <|
    .op ⟨some 30, none, .call F.slices_insertionSortCmpFunc_string [(.t 26), (.t 27), (.t 28), (.t 29)]⟩ [] <|
    .done)
  .ret)
noncomputable def cc_slices_pdqsortCmpFunc_string_k33 : CC :=
  (.cond (.t 25) cc_slices_pdqsortCmpFunc_string_c32 .skip)
noncomputable def cc_slices_pdqsortCmpFunc_string_k34 : CC :=
  (.seq (.seq (.region <| o1 24 (.mv (.t 12)) <|
    o1 25 (.bin .leq (.t 24) (.c (.int .i64 12))) <|
    .done)
  cc_slices_pdqsortCmpFunc_string_k33)
  cc_slices_pdqsortCmpFunc_string_k31)
noncomputable def cc_slices_pdqsortCmpFunc_string_l35 : CC :=
  (.block 1 (.seq (.region <| o1 21 (.mv (.t 2)) <|
    o1 22 (.mv (.t 1)) <|
    o1 23 (.bin .sub (.t 21) (.t 22)) <|
    o1 12 (.mv (.t 23)) <|
    .done)
  cc_slices_pdqsortCmpFunc_string_k34))
noncomputable def cc_slices_pdqsortCmpFunc_string_k36 : CC :=
  (.block 0 (.loop cc_slices_pdqsortCmpFunc_string_l35))
noncomputable def cc_slices_pdqsortCmpFunc_string_k37 : CC :=
  (.seq (.region <| o1 11 (.mv (.c (.bool true))) <|
    .done)
  cc_slices_pdqsortCmpFunc_string_k36)
noncomputable def cc_slices_pdqsortCmpFunc_string : CC :=
  (.seq (.region <| o1 10 (.mv (.c (.bool true))) <|
    .done)
  cc_slices_pdqsortCmpFunc_string_k37)
noncomputable def fe_slices_pdqsortCmpFunc_string : FE := ⟨148, [], cc_slices_pdqsortCmpFunc_string⟩
theorem e_slices_pdqsortCmpFunc_string : compF prog F.slices_pdqsortCmpFunc_string = some fe_slices_pdqsortCmpFunc_string := by kernel_rfl

noncomputable def cc_math_bits_Len_k0 : CC :=
  (.seq (.region <| o1 6 (.mv (.t 0)) <|
    .op ⟨some 7, none, .call F.math_bits_Len64 [(.t 6)]⟩ [] <|
    o1 2 (.mv (.t 7)) <|
    .done)
  .ret)
noncomputable def cc_math_bits_Len_c1 : CC :=
  (.seq (.region <| o1 3 (.mv (.t 0)) <|
    o1 4 (.convI .u32 (.t 3)) <|
    .op ⟨some 5, none, .call F.math_bits_Len32 [(.t 4)]⟩ [] <|
    o1 2 (.mv (.t 5)) <|
    .done)
  .ret)
noncomputable def cc_math_bits_Len_k2 : CC :=
  (.seq (.cond (.c (.bool false)) cc_math_bits_Len_c1 .skip)
  cc_math_bits_Len_k0)
noncomputable def cc_math_bits_Len : CC :=
  (.seq (.region <| o1 2 (.mv (.c (.int .i64 0))) <|
    .done)
  cc_math_bits_Len_k2)
noncomputable def fe_math_bits_Len : FE := ⟨8, [.tmp 2], cc_math_bits_Len⟩
theorem e_math_bits_Len : compF prog F.math_bits_Len = some fe_math_bits_Len := by kernel_rfl

noncomputable def cc_cmp_Or_int_k0 : CC :=
  (.region <| o1 16 (.bin .add (.t 8) (.c (.int .i64 1))) <|
    o1 8 (.mv (.t 16)) <|
    .done)
noncomputable def cc_cmp_Or_int_k1 : CC :=
  (.cond (.t 14) (.seq (.region <| o1 15 (.mv (.t 5)) <|
    o1 2 (.mv (.t 15)) <|
    .done)
  .ret) .skip)
noncomputable def cc_cmp_Or_int_k2 : CC :=
  (.seq (.region <| o1 12 (.mv (.t 5)) <|
    o1 13 (.mv (.t 3)) <|
    o1 14 (.bin .neq (.t 12) (.t 13)) <|
    .done)
  cc_cmp_Or_int_k1)
noncomputable def cc_cmp_Or_int_k3 : CC :=
  (.seq (.block 1 (.seq (.region <| o1 10 (.iaddr 1 (.t 6) (.t 8)) <|
    o1 11 (.load1 (.t 10)) <|
    o1 5 (.mv (.t 11)) <|
    .done)
  cc_cmp_Or_int_k2))
  cc_cmp_Or_int_k0)
noncomputable def cc_cmp_Or_int_k4 : CC :=
  (.seq (.cond (.t 9) .skip (.exit 0))
  cc_cmp_Or_int_k3)
noncomputable def cc_cmp_Or_int_l5 : CC :=
  (.seq (.region <| o1 9 (.bin .lss (.t 8) (.t 7)) <|
    .done)
  cc_cmp_Or_int_k4)
noncomputable def cc_cmp_Or_int_k6 : CC :=
  (.block 0 (.loop cc_cmp_Or_int_l5))
noncomputable def cc_cmp_Or_int_k7 : CC :=
  (.seq (.seq (.region <| o1 6 (.mv (.t 0)) <|
    o1 7 (.lenL (.t 6)) <|
    o1 8 (.mv (.c (.int .i64 0))) <|
    .done)
  cc_cmp_Or_int_k6)
  (.seq (.region <| o1 17 (.mv (.t 3)) <|
    o1 2 (.mv (.t 17)) <|
    .done)
  .ret))
noncomputable def cc_cmp_Or_int_k8 : CC :=
  (.seq (.region <| o1 3 (.mv (.c (.int .i64 0))) <|
    .done)
  cc_cmp_Or_int_k7)
noncomputable def cc_cmp_Or_int : CC :=
  (.seq (.region <| o1 2 (.mv (.c (.int .i64 0))) <|
    .done)
  cc_cmp_Or_int_k8)
noncomputable def fe_cmp_Or_int : FE := ⟨18, [.tmp 2], cc_cmp_Or_int⟩
theorem e_cmp_Or_int : compF prog F.cmp_Or_int = some fe_cmp_Or_int := by kernel_rfl

noncomputable def cc_cmp_Compare_int_k0 : CC :=
  (.cond (.t 19) (.seq (.region <| o1 4 (.mv (.c (.int .i64 1))) <|
    .done)
  .ret) .skip)
noncomputable def cc_cmp_Compare_int_k1 : CC :=
  (.seq (.seq (.region <| o1 17 (.mv (.t 0)) <|
    o1 18 (.mv (.t 1)) <|
    o1 19 (.bin .gtr (.t 17) (.t 18)) <|
    .done)
  cc_cmp_Compare_int_k0)
  (.seq (.region <| o1 4 (.mv (.c (.int .i64 0))) <|
    .done)
  .ret))
noncomputable def cc_cmp_Compare_int_k2 : CC :=
  (.cond (.t 16) (.seq (.region <| o1 4 (.mv (.c (.int .i64 (-1)))) <|
    .done)
  .ret) .skip)
noncomputable def cc_cmp_Compare_int_k3 : CC :=
  (.seq (.seq (.region <| o1 14 (.mv (.t 0)) <|
    o1 15 (.mv (.t 1)) <|
    o1 16 (.bin .lss (.t 14) (.t 15)) <|
    .done)
  cc_cmp_Compare_int_k2)
  cc_cmp_Compare_int_k1)
noncomputable def cc_cmp_Compare_int_k4 : CC :=
  (.cond (.t 13) (.seq (.region <| o1 4 (.mv (.c (.int .i64 1))) <|
    .done)
  .ret) .skip)
noncomputable def cc_cmp_Compare_int_k5 : CC :=
  (.seq (.seq (.region <| o1 13 (.mv (.t 6)) <|
    .done)
  cc_cmp_Compare_int_k4)
  cc_cmp_Compare_int_k3)
noncomputable def cc_cmp_Compare_int_k6 : CC :=
  (.cond (.t 12) (.seq (.region <| o1 4 (.mv (.c (.int .i64 0))) <|
    .done)
  .ret) .skip)
noncomputable def cc_cmp_Compare_int_c7 : CC :=
  (.seq (.seq (.region <| o1 12 (.mv (.t 6)) <|
    .done)
  cc_cmp_Compare_int_k6)
  (.seq (.region <| o1 4 (.mv (.c (.int .i64 (-1)))) <|
    .done)
  .ret))
noncomputable def cc_cmp_Compare_int_k8 : CC :=
  (.cond (.t 11) cc_cmp_Compare_int_c7 .skip)
noncomputable def cc_cmp_Compare_int_k9 : CC :=
  (.seq (.seq (.region <| o1 11 (.mv (.t 5)) <|
    .done)
  cc_cmp_Compare_int_k8)
  cc_cmp_Compare_int_k5)
noncomputable def cc_cmp_Compare_int_k10 : CC :=
  (.seq (.region <| o1 9 (.mv (.t 1)) <|
    .op ⟨some 10, none, .call F.cmp_isNaN_int [(.t 9)]⟩ [] <|
    o1 6 (.mv (.t 10)) <|
    .done)
  cc_cmp_Compare_int_k9)
noncomputable def cc_cmp_Compare_int_k11 : CC :=
  (.seq (.region <| o1 7 (.mv (.t 0)) <|
    .op ⟨some 8, none, .call F.cmp_isNaN_int [(.t 7)]⟩ [] <|
    o1 5 (.mv (.t 8)) <|
    .done)
  cc_cmp_Compare_int_k10)
noncomputable def cc_cmp_Compare_int : CC :=
  (.seq (.region <| o1 4 (.mv (.c (.int .i64 0))) <|
    .done)
  cc_cmp_Compare_int_k11)
noncomputable def fe_cmp_Compare_int : FE := ⟨20, [.tmp 4], cc_cmp_Compare_int⟩
theorem e_cmp_Compare_int : compF prog F.cmp_Compare_int = some fe_cmp_Compare_int := by kernel_rfl

noncomputable def cc_strings_Compare_k0 : CC :=
  (.seq (.region <| o1 5 (.mv (.t 0)) <|
    o1 6 (.mv (.t 1)) <|
    .op ⟨some 7, none, .call F.internal_bytealg_CompareString [(.t 5), (.t 6)]⟩ [] <|
    o1 4 (.mv (.t 7)) <|
    .done)
  .ret)
noncomputable def cc_strings_Compare : CC :=
  (.seq (.region <| o1 4 (.mv (.c (.int .i64 0))) <|
    .done)
  cc_strings_Compare_k0)
noncomputable def fe_strings_Compare : FE := ⟨8, [.tmp 4], cc_strings_Compare⟩
theorem e_strings_Compare : compF prog F.strings_Compare = some fe_strings_Compare := by kernel_rfl

noncomputable def cc_tree_read_k0 : CC :=
  (.seq (.region <| o1 63 (.mv (.t 4)) <|
    o1 64 (.mv (.t 0)) <|
    o1 65 (.slstr (.t 64) (some (.c (.int .i64 1))) none) <|
    o1 2 (.mv (.t 63)) <|
    o1 3 (.mv (.t 65)) <|
    .done)
  .ret)
noncomputable def cc_tree_read_k1 : CC :=
  (.cond (.t 62) (.seq (.region <| o1 2 (.mv (.c .pnil)) <|
    o1 3 (.mv (.c (.str []))) <|
    .done)
  .ret) .skip)
noncomputable def cc_tree_read_k2 : CC :=
  (.seq (.region <| o1 53 (.mv (.t 4)) <|
    o1 54 (.nilc (.t 53)) <|
    o1 55 (.faddr 2 (.t 54)) <|
    o1 56 (.load1 (.t 55)) <|
    o1 57 (.eq2 1 false (.t 56) (.c .pnil)) <|
    o1 58 (.mv (.t 57)) <|
    .op ⟨some 59, some (58, false), .prim (.mv (.t 0))⟩ [] <|
    .op ⟨some 60, some (58, false), .call F.strings_HasPrefix [(.t 59), (.c (.str [41]))]⟩ [] <|
    .op ⟨some 61, some (58, false), .prim (.not (.t 60))⟩ [] <|
    o1 62 (.pick (.t 58) (.c (.bool true)) (.t 61)) <|
    .done)
  cc_tree_read_k1)
noncomputable def cc_tree_read_k3 : CC :=
  (.seq (.seq (.region <| o1 46 (.mv (.t 4)) <|
    o1 47 (.mv (.t 0)) <|
    .op ⟨some 48, none, .call F.tree_read [(.t 47)]⟩ [] <|
    o1 45 (.mv (.t 48)) <|
    o1 49 (.extr (.t 45) 0) <|
    o1 50 (.extr (.t 45) 1) <|
    o1 51 (.nilc (.t 46)) <|
    o1 52 (.faddr 2 (.t 51)) <|
    .op ⟨none, none, .prim (.store 1 (.t 52) (.t 49))⟩ [] <|
    o1 0 (.mv (.t 50)) <|
    .done)
  cc_tree_read_k2)
  cc_tree_read_k0)
noncomputable def cc_tree_read_k4 : CC :=
  (.cond (.t 44) (.seq (.region <| o1 2 (.mv (.c .pnil)) <|
    o1 3 (.mv (.c (.str []))) <|
    .done)
  .ret) .skip)
noncomputable def cc_tree_read_k5 : CC :=
  (.seq (.region <| o1 40 (.mv (.t 4)) <|
    o1 41 (.nilc (.t 40)) <|
    o1 42 (.faddr 1 (.t 41)) <|
    o1 43 (.load1 (.t 42)) <|
    o1 44 (.eq2 1 false (.t 43) (.c .pnil)) <|
    .done)
  cc_tree_read_k4)
noncomputable def cc_tree_read_k6 : CC :=
  (.seq (.seq (.region <| o1 32 (.mv (.t 4)) <|
    o1 33 (.mv (.t 0)) <|
    o1 34 (.slstr (.t 33) (some (.c (.int .i64 1))) none) <|
    .op ⟨some 35, none, .call F.tree_read [(.t 34)]⟩ [] <|
    o1 31 (.mv (.t 35)) <|
    o1 36 (.extr (.t 31) 0) <|
    o1 37 (.extr (.t 31) 1) <|
    o1 38 (.nilc (.t 32)) <|
    o1 39 (.faddr 1 (.t 38)) <|
    .op ⟨none, none, .prim (.store 1 (.t 39) (.t 36))⟩ [] <|
    o1 0 (.mv (.t 37)) <|
    .done)
  cc_tree_read_k5)
  cc_tree_read_k3)
noncomputable def cc_tree_read_k7 : CC :=
  (.seq (.region <| o1 29 (.build [(.int .i64 0), .pnil, .pnil] []) <|
    o1 30 (.box 57 (.t 29)) <|
    o1 4 (.mv (.t 30)) <|
    .done)
  cc_tree_read_k6)
noncomputable def cc_tree_read_c8 : CC :=
  (.seq (.region <| o1 17 (.mv (.t 0)) <|
    o1 18 (.istr (.t 17) (.c (.int .i64 0))) <|
    o1 19 (.bin .sub (.t 18) (.c (.int .u8 48))) <|
    o1 20 (.convI .i64 (.t 19)) <|
    o1 21 (.build [(.int .i64 0), .pnil, .pnil] [(0, 1, (.t 20))]) <|
    o1 23 (.mv (.t 0)) <|
    o1 24 (.slstr (.t 23) (some (.c (.int .i64 1))) none) <|
    o1 22 (.box 57 (.t 21)) <|
    o1 2 (.mv (.t 22)) <|
    o1 3 (.mv (.t 24)) <|
    .done)
  .ret)
noncomputable def cc_tree_read_k9 : CC :=
  (.cond (.t 25) (.seq (.region <| o1 2 (.mv (.c .pnil)) <|
    o1 3 (.mv (.c (.str []))) <|
    .done)
  .ret) .skip)
noncomputable def cc_tree_read_c10 : CC :=
  (.seq (.region <| o1 26 (.mv (.t 0)) <|
    o1 27 (.istr (.t 26) (.c (.int .i64 0))) <|
    o1 28 (.bin .neq (.t 27) (.c (.int .u8 40))) <|
    o1 25 (.mv (.t 28)) <|
    .done)
  cc_tree_read_k9)
noncomputable def cc_tree_read_k11 : CC :=
  (.cond (.t 8) cc_tree_read_c8 cc_tree_read_c10)
noncomputable def cc_tree_read_c12 : CC :=
  (.seq (.region <| o1 9 (.mv (.t 0)) <|
    o1 10 (.istr (.t 9) (.c (.int .i64 0))) <|
    o1 11 (.bin .geq (.t 10) (.c (.int .u8 49))) <|
    o1 12 (.mv (.t 11)) <|
    .op ⟨some 13, some (12, true), .prim (.mv (.t 0))⟩ [] <|
    .op ⟨some 14, some (12, true), .prim (.istr (.t 13) (.c (.int .i64 0)))⟩ [] <|
    .op ⟨some 15, some (12, true), .prim (.bin .leq (.t 14) (.c (.int .u8 56)))⟩ [] <|
    o1 16 (.pick (.t 12) (.t 15) (.c (.bool false))) <|
    o1 8 (.mv (.t 16)) <|
    .done)
  cc_tree_read_k11)
noncomputable def cc_tree_read_k13 : CC :=
  (.cond (.t 5) (.seq (.region <| o1 2 (.mv (.c .pnil)) <|
    o1 3 (.mv (.c (.str []))) <|
    .done)
  .ret) cc_tree_read_c12)
noncomputable def cc_tree_read_k14 : CC :=
  (.seq (.block 0 (.seq (.region <| o1 6 (.mv (.t 0)) <|
    o1 7 (.bin .eql (.t 6) (.c (.str []))) <|
    o1 5 (.mv (.t 7)) <|
    .done)
  cc_tree_read_k13))
  cc_tree_read_k7)
noncomputable def cc_tree_read : CC :=
  (.seq (.region <| o1 2 (.mv (.c .pnil)) <|
    o1 3 (.mv (.c (.str []))) <|
    .done)
  cc_tree_read_k14)
noncomputable def fe_tree_read : FE := ⟨66, [.tmp 2, .tmp 3], cc_tree_read⟩
theorem e_tree_read : compF prog F.tree_read = some fe_tree_read := by kernel_rfl

noncomputable def cc_view_Row_k0 : CC :=
  (.seq (.region <| o1 21 (.mv (.t 3)) <|
    o1 22 (.bin .gtr (.t 21) (.c (.int .i64 0))) <|
    o1 2 (.mv (.t 22)) <|
    .done)
  .ret)
noncomputable def cc_view_Row_k1 : CC :=
  (.region <| o1 20 (.bin .add (.t 8) (.c (.int .i64 1))) <|
    o1 8 (.mv (.t 20)) <|
    .done)
noncomputable def cc_view_Row_k2 : CC :=
  (.region <| o1 19 (.mv (.t 5)) <|
    o1 3 (.mv (.t 19)) <|
    .done)
noncomputable def cc_view_Row_k3 : CC :=
  (.cond (.t 18) (.seq (.region <| o1 2 (.mv (.c (.bool false))) <|
    .done)
  .ret) .skip)
noncomputable def cc_view_Row_k4 : CC :=
  (.seq (.seq (.region <| o1 12 (.mv (.t 5)) <|
    o1 13 (.mv (.t 3)) <|
    o1 14 (.bin .leq (.t 12) (.t 13)) <|
    o1 15 (.mv (.t 14)) <|
    .op ⟨some 16, some (15, false), .prim (.mv (.t 5))⟩ [] <|
    .op ⟨some 17, some (15, false), .prim (.bin .gtr (.t 16) (.c (.int .i64 8)))⟩ [] <|
    o1 18 (.pick (.t 15) (.c (.bool true)) (.t 17)) <|
    .done)
  cc_view_Row_k3)
  cc_view_Row_k2)
noncomputable def cc_view_Row_k5 : CC :=
  (.seq (.block 1 (.seq (.region <| o1 10 (.iaddr 1 (.t 6) (.t 8)) <|
    o1 11 (.load1 (.t 10)) <|
    o1 5 (.mv (.t 11)) <|
    .done)
  cc_view_Row_k4))
  cc_view_Row_k1)
noncomputable def cc_view_Row_k6 : CC :=
  (.seq (.cond (.t 9) .skip (.exit 0))
  cc_view_Row_k5)
noncomputable def cc_view_Row_l7 : CC :=
  (.seq (.region <| o1 9 (.bin .lss (.t 8) (.t 7)) <|
    .done)
  cc_view_Row_k6)
noncomputable def cc_view_Row_k8 : CC :=
  (.block 0 (.loop cc_view_Row_l7))
noncomputable def cc_view_Row_k9 : CC :=
  (.seq (.seq (.region <| o1 6 (.mv (.t 0)) <|
    o1 7 (.lenL (.t 6)) <|
    o1 8 (.mv (.c (.int .i64 0))) <|
    .done)
  cc_view_Row_k8)
  cc_view_Row_k0)
noncomputable def cc_view_Row_k10 : CC :=
  (.seq (.region <| o1 3 (.mv (.c (.int .i64 0))) <|
    .done)
  cc_view_Row_k9)
noncomputable def cc_view_Row : CC :=
  (.seq (.region <| o1 2 (.mv (.c (.bool false))) <|
    .done)
  cc_view_Row_k10)
noncomputable def fe_view_Row : FE := ⟨23, [.tmp 2], cc_view_Row⟩
theorem e_view_Row : compF prog F.view_Row = some fe_view_Row := by kernel_rfl

noncomputable def cc_slices_Contains_Lint_int_k0 : CC :=
  (.seq (.region <| o1 5 (.mv (.t 0)) <|
    o1 6 (.mv (.t 1)) <|
    .op ⟨some 7, none, .call F.slices_Index_Lint_int [(.t 5), (.t 6)]⟩ [] <|
    o1 8 (.bin .geq (.t 7) (.c (.int .i64 0))) <|
    o1 4 (.mv (.t 8)) <|
    .done)
  .ret)
noncomputable def cc_slices_Contains_Lint_int : CC :=
  (.seq (.region <| o1 4 (.mv (.c (.bool false))) <|
    .done)
  cc_slices_Contains_Lint_int_k0)
noncomputable def fe_slices_Contains_Lint_int : FE := ⟨9, [.tmp 4], cc_slices_Contains_Lint_int⟩
theorem e_slices_Contains_Lint_int : compF prog F.slices_Contains_Lint_int = some fe_slices_Contains_Lint_int := by kernel_rfl

noncomputable def cc_tree_node_members__1_c0 : CC :=
  (.region <| o1 9 (.load1 (.t 1)) <|
    o1 10 (.mv (.t 0)) <|
    o1 11 (.nilc (.t 10)) <|
    o1 12 (.faddr 0 (.t 11)) <|
    o1 13 (.load1 (.t 12)) <|
    o1 14 (.bslice 3 [(.int .i64 0)] 1 1 [(0, (.t 13))]) <|
    o1 15 (.app 1 (.t 9) (.t 14)) <|
    .op ⟨none, none, .prim (.store 1 (.t 1) (.t 15))⟩ [] <|
    .done)
noncomputable def cc_tree_node_members__1_k1 : CC :=
  (.cond (.t 8) cc_tree_node_members__1_c0 .skip)
noncomputable def cc_tree_node_members__1_k2 : CC :=
  (.seq (.seq (.region <| o1 4 (.mv (.t 0)) <|
    o1 5 (.nilc (.t 4)) <|
    o1 6 (.faddr 1 (.t 5)) <|
    o1 7 (.load1 (.t 6)) <|
    o1 8 (.eq2 1 false (.t 7) (.c .pnil)) <|
    .done)
  cc_tree_node_members__1_k1)
  (.seq (.region <| o1 3 (.mv (.c (.bool true))) <|
    .done)
  .ret))
noncomputable def cc_tree_node_members__1 : CC :=
  (.seq (.region <| o1 3 (.mv (.c (.bool false))) <|
    .done)
  cc_tree_node_members__1_k2)
noncomputable def fe_tree_node_members__1 : FE := ⟨16, [.tmp 3], cc_tree_node_members__1⟩
theorem e_tree_node_members__1 : compF prog F.tree_node_members__1 = some fe_tree_node_members__1 := by kernel_rfl

noncomputable def cc_slices_Sort_Lint_int_k0 : CC :=
  (.region <| o1 5 (.mv (.t 0)) <|
    o1 6 (.mv (.t 2)) <|
    o1 7 (.mv (.t 2)) <|
    o1 8 (.convI .u64 (.t 7)) <|
    .op ⟨some 9, none, .call F.math_bits_Len [(.t 8)]⟩ [] <|
    .op ⟨some 10, none, .call F.slices_pdqsortOrdered_int [(.t 5), (.c (.int .i64 0)), (.t 6), (.t 9)]⟩ [] <|
    .done)
noncomputable def cc_slices_Sort_Lint_int : CC :=
  (.seq (.region <| o1 3 (.mv (.t 0)) <|
    o1 4 (.lenL (.t 3)) <|
    o1 2 (.mv (.t 4)) <|
    .done)
  cc_slices_Sort_Lint_int_k0)
noncomputable def fe_slices_Sort_Lint_int : FE := ⟨11, [], cc_slices_Sort_Lint_int⟩
theorem e_slices_Sort_Lint_int : compF prog F.slices_Sort_Lint_int = some fe_slices_Sort_Lint_int := by kernel_rfl

noncomputable def cc_tree_node_each__1_k0 : CC :=
  (.region <| o1 20 (.load1 (.t 2)) <|
    o1 21 (.mv (.t 0)) <|
    o1 22 (.nilc (.t 21)) <|
    o1 23 (.faddr 1 (.t 22)) <|
    o1 24 (.load1 (.t 23)) <|
    .op ⟨some 25, none, .dcall (.t 20) [(.t 24)]⟩ [] <|
    .done)
noncomputable def cc_tree_node_each__1_c1 : CC :=
  (.seq (.region <| o1 14 (.load1 (.t 2)) <|
    o1 15 (.mv (.t 0)) <|
    o1 16 (.nilc (.t 15)) <|
    o1 17 (.faddr 2 (.t 16)) <|
    o1 18 (.load1 (.t 17)) <|
    .op ⟨some 19, none, .dcall (.t 14) [(.t 18)]⟩ [] <|
    .done)
  cc_tree_node_each__1_k0)
noncomputable def cc_tree_node_each__1_k2 : CC :=
  (.cond (.t 13) cc_tree_node_each__1_c1 .skip)
noncomputable def cc_tree_node_each__1 : CC :=
  (.seq (.region <| o1 4 (.load1 (.t 1)) <|
    o1 5 (.mv (.t 0)) <|
    .op ⟨some 6, none, .dcall (.t 4) [(.t 5)]⟩ [] <|
    o1 7 (.mv (.t 6)) <|
    .op ⟨some 8, some (7, true), .prim (.mv (.t 0))⟩ [] <|
    .op ⟨some 9, some (7, true), .prim (.nilc (.t 8))⟩ [] <|
    .op ⟨some 10, some (7, true), .prim (.faddr 1 (.t 9))⟩ [] <|
    .op ⟨some 11, some (7, true), .prim (.load1 (.t 10))⟩ [] <|
    .op ⟨some 12, some (7, true), .prim (.eq2 1 true (.t 11) (.c .pnil))⟩ [] <|
    o1 13 (.pick (.t 7) (.t 12) (.c (.bool false))) <|
    .done)
  cc_tree_node_each__1_k2)
noncomputable def fe_tree_node_each__1 : FE := ⟨26, [], cc_tree_node_each__1⟩
theorem e_tree_node_each__1 : compF prog F.tree_node_each__1 = some fe_tree_node_each__1 := by kernel_rfl

noncomputable def cc_tree_Leave__1_c0 : CC :=
  (.seq (.region <| o1 20 (.mv (.t 0)) <|
    o1 21 (.mv (.t 0)) <|
    o1 22 (.nilc (.t 21)) <|
    o1 23 (.faddr 2 (.t 22)) <|
    o1 24 (.load1 (.t 23)) <|
    o1 25 (.nilc (.t 24)) <|
    o1 26 (.loadA 3 (.t 25)) <|
    o1 27 (.nilc (.t 20)) <|
    .op ⟨none, none, .prim (.store 3 (.t 27) (.t 26))⟩ [] <|
    .done)
  (.seq (.region <| o1 3 (.mv (.c (.bool false))) <|
    .done)
  .ret))
noncomputable def cc_tree_Leave__1_c1 : CC :=
  (.seq (.region <| o1 38 (.mv (.t 0)) <|
    o1 39 (.mv (.t 0)) <|
    o1 40 (.nilc (.t 39)) <|
    o1 41 (.faddr 1 (.t 40)) <|
    o1 42 (.load1 (.t 41)) <|
    o1 43 (.nilc (.t 42)) <|
    o1 44 (.loadA 3 (.t 43)) <|
    o1 45 (.nilc (.t 38)) <|
    .op ⟨none, none, .prim (.store 3 (.t 45) (.t 44))⟩ [] <|
    .done)
  (.seq (.region <| o1 3 (.mv (.c (.bool false))) <|
    .done)
  .ret))
noncomputable def cc_tree_Leave__1_k2 : CC :=
  (.cond (.t 28) cc_tree_Leave__1_c1 .skip)
noncomputable def cc_tree_Leave__1_c3 : CC :=
  (.seq (.region <| o1 29 (.mv (.t 0)) <|
    o1 30 (.nilc (.t 29)) <|
    o1 31 (.faddr 2 (.t 30)) <|
    o1 32 (.load1 (.t 31)) <|
    o1 33 (.nilc (.t 32)) <|
    o1 34 (.faddr 0 (.t 33)) <|
    o1 35 (.load1 (.t 34)) <|
    o1 36 (.load1 (.t 1)) <|
    o1 37 (.bin .eql (.t 35) (.t 36)) <|
    o1 28 (.mv (.t 37)) <|
    .done)
  cc_tree_Leave__1_k2)
noncomputable def cc_tree_Leave__1_k4 : CC :=
  (.cond (.t 10) cc_tree_Leave__1_c0 cc_tree_Leave__1_c3)
noncomputable def cc_tree_Leave__1_c5 : CC :=
  (.seq (.region <| o1 11 (.mv (.t 0)) <|
    o1 12 (.nilc (.t 11)) <|
    o1 13 (.faddr 1 (.t 12)) <|
    o1 14 (.load1 (.t 13)) <|
    o1 15 (.nilc (.t 14)) <|
    o1 16 (.faddr 0 (.t 15)) <|
    o1 17 (.load1 (.t 16)) <|
    o1 18 (.load1 (.t 1)) <|
    o1 19 (.bin .eql (.t 17) (.t 18)) <|
    o1 10 (.mv (.t 19)) <|
    .done)
  cc_tree_Leave__1_k4)
noncomputable def cc_tree_Leave__1_k6 : CC :=
  (.cond (.t 4) .skip cc_tree_Leave__1_c5)
noncomputable def cc_tree_Leave__1_k7 : CC :=
  (.seq (.block 0 (.seq (.region <| o1 5 (.mv (.t 0)) <|
    o1 6 (.nilc (.t 5)) <|
    o1 7 (.faddr 1 (.t 6)) <|
    o1 8 (.load1 (.t 7)) <|
    o1 9 (.eq2 1 false (.t 8) (.c .pnil)) <|
    o1 4 (.mv (.t 9)) <|
    .done)
  cc_tree_Leave__1_k6))
  (.seq (.region <| o1 3 (.mv (.c (.bool true))) <|
    .done)
  .ret))
noncomputable def cc_tree_Leave__1 : CC :=
  (.seq (.region <| o1 3 (.mv (.c (.bool false))) <|
    .done)
  cc_tree_Leave__1_k7)
noncomputable def fe_tree_Leave__1 : FE := ⟨46, [.tmp 3], cc_tree_Leave__1⟩
theorem e_tree_Leave__1 : compF prog F.tree_Leave__1 = some fe_tree_Leave__1 := by kernel_rfl

noncomputable def cc_view_Both_k0 : CC :=
  (.seq (.region <| o1 5 (.mv (.t 0)) <|
    .op ⟨some 6, none, .call F.slices_Clone_Lint_int [(.t 5)]⟩ [] <|
    o1 7 (.mkfn F.view_Both__1 [(.t 3)]) <|
    .op ⟨some 8, none, .call F.slices_DeleteFunc_Lint_int [(.t 6), (.t 7)]⟩ [] <|
    o1 4 (.mv (.t 8)) <|
    .done)
  .ret)
noncomputable def cc_view_Both : CC :=
  (.seq (.region <| o1 3 (.box 35 (.t 1)) <|
    o1 4 (.mv (.c .snil)) <|
    .done)
  cc_view_Both_k0)
noncomputable def fe_view_Both : FE := ⟨9, [.tmp 4], cc_view_Both⟩
theorem e_view_Both : compF prog F.view_Both = some fe_view_Both := by kernel_rfl

noncomputable def cc_tree_node_greater_k0 : CC :=
  (.seq (.region <| o1 33 (.mv (.t 5)) <|
    o1 34 (.iaddr 1 (.t 33) (.c (.int .i64 0))) <|
    o1 35 (.load1 (.t 34)) <|
    o1 36 (.mv (.t 6)) <|
    o1 37 (.iaddr 1 (.t 36) (.c (.int .i64 0))) <|
    o1 38 (.load1 (.t 37)) <|
    o1 39 (.bin .lss (.t 35) (.t 38)) <|
    o1 4 (.mv (.t 39)) <|
    .done)
  .ret)
noncomputable def cc_tree_node_greater_c1 : CC :=
  (.seq (.region <| o1 17 (.mv (.t 0)) <|
    .op ⟨some 18, none, .call F.tree_node_depth [(.t 17)]⟩ [] <|
    o1 19 (.mv (.t 1)) <|
    .op ⟨some 20, none, .call F.tree_node_depth [(.t 19)]⟩ [] <|
    o1 21 (.bin .gtr (.t 18) (.t 20)) <|
    o1 4 (.mv (.t 21)) <|
    .done)
  .ret)
noncomputable def cc_tree_node_greater_c2 : CC :=
  (.seq (.region <| o1 28 (.mv (.t 5)) <|
    o1 29 (.lenL (.t 28)) <|
    o1 30 (.mv (.t 6)) <|
    o1 31 (.lenL (.t 30)) <|
    o1 32 (.bin .gtr (.t 29) (.t 31)) <|
    o1 4 (.mv (.t 32)) <|
    .done)
  .ret)
noncomputable def cc_tree_node_greater_k3 : CC :=
  (.cond (.t 22) cc_tree_node_greater_c2 .skip)
noncomputable def cc_tree_node_greater_c4 : CC :=
  (.seq (.region <| o1 23 (.mv (.t 5)) <|
    o1 24 (.lenL (.t 23)) <|
    o1 25 (.mv (.t 6)) <|
    o1 26 (.lenL (.t 25)) <|
    o1 27 (.bin .neq (.t 24) (.t 26)) <|
    o1 22 (.mv (.t 27)) <|
    .done)
  cc_tree_node_greater_k3)
noncomputable def cc_tree_node_greater_k5 : CC :=
  (.cond (.t 11) cc_tree_node_greater_c1 cc_tree_node_greater_c4)
noncomputable def cc_tree_node_greater_k6 : CC :=
  (.seq (.block 0 (.seq (.region <| o1 12 (.mv (.t 0)) <|
    .op ⟨some 13, none, .call F.tree_node_depth [(.t 12)]⟩ [] <|
    o1 14 (.mv (.t 1)) <|
    .op ⟨some 15, none, .call F.tree_node_depth [(.t 14)]⟩ [] <|
    o1 16 (.bin .neq (.t 13) (.t 15)) <|
    o1 11 (.mv (.t 16)) <|
    .done)
  cc_tree_node_greater_k5))
  cc_tree_node_greater_k0)
noncomputable def cc_tree_node_greater_k7 : CC :=
  (.seq (.region <| o1 7 (.mv (.t 0)) <|
    .op ⟨some 8, none, .call F.tree_node_members [(.t 7)]⟩ [] <|
    o1 9 (.mv (.t 1)) <|
    .op ⟨some 10, none, .call F.tree_node_members [(.t 9)]⟩ [] <|
    o1 5 (.mv (.t 8)) <|
    o1 6 (.mv (.t 10)) <|
    .done)
  cc_tree_node_greater_k6)
noncomputable def cc_tree_node_greater : CC :=
  (.seq (.region <| o1 4 (.mv (.c (.bool false))) <|
    .done)
  cc_tree_node_greater_k7)
noncomputable def fe_tree_node_greater : FE := ⟨40, [.tmp 4], cc_tree_node_greater⟩
theorem e_tree_node_greater : compF prog F.tree_node_greater = some fe_tree_node_greater := by kernel_rfl

noncomputable def cc_slices_insertionSortCmpFunc_string_k0 : CC :=
  (.region <| o1 15 (.mv (.t 8)) <|
    o1 16 (.bin .add (.t 15) (.c (.int .i64 1))) <|
    o1 8 (.mv (.t 16)) <|
    .done)
noncomputable def cc_slices_insertionSortCmpFunc_string_k1 : CC :=
  (.region <| o1 35 (.mv (.t 9)) <|
    o1 36 (.bin .sub (.t 35) (.c (.int .i64 1))) <|
    o1 9 (.mv (.t 36)) <|
    .done)
noncomputable def cc_slices_insertionSortCmpFunc_string_k2 : CC :=
  (.seq (.block 3 (.region <| o1 37 (.mv (.t 0)) <|
    o1 38 (.mv (.t 9)) <|
    o1 39 (.mv (.t 0)) <|
    o1 40 (.mv (.t 9)) <|
    o1 41 (.bin .sub (.t 40) (.c (.int .i64 1))) <|
    o1 42 (.mv (.t 0)) <|
    o1 43 (.mv (.t 9)) <|
    o1 44 (.bin .sub (.t 43) (.c (.int .i64 1))) <|
    o1 45 (.iaddr 1 (.t 42) (.t 44)) <|
    o1 46 (.load1 (.t 45)) <|
    o1 47 (.mv (.t 0)) <|
    o1 48 (.mv (.t 9)) <|
    o1 49 (.iaddr 1 (.t 47) (.t 48)) <|
    o1 50 (.load1 (.t 49)) <|
    o1 51 (.iaddr 1 (.t 37) (.t 38)) <|
    .op ⟨none, none, .prim (.store 1 (.t 51) (.t 46))⟩ [] <|
    o1 52 (.iaddr 1 (.t 39) (.t 41)) <|
    .op ⟨none, none, .prim (.store 1 (.t 52) (.t 50))⟩ [] <|
    .done))
  cc_slices_insertionSortCmpFunc_string_k1)
noncomputable def cc_slices_insertionSortCmpFunc_string_k3 : CC :=
  (.cond (.t 34) .skip (.exit 2))
noncomputable def cc_slices_insertionSortCmpFunc_string_l4 : CC :=
  (.seq (.seq (.region <| o1 18 (.mv (.t 9)) <|
    o1 19 (.mv (.t 1)) <|
    o1 20 (.bin .gtr (.t 18) (.t 19)) <|
    o1 21 (.mv (.t 20)) <|
    .op ⟨some 22, some (21, true), .prim (.mv (.t 3))⟩ [] <|
    .op ⟨some 23, some (21, true), .prim (.mv (.t 0))⟩ [] <|
    .op ⟨some 24, some (21, true), .prim (.mv (.t 9))⟩ [] <|
    .op ⟨some 25, some (21, true), .prim (.iaddr 1 (.t 23) (.t 24))⟩ [] <|
    .op ⟨some 26, some (21, true), .prim (.load1 (.t 25))⟩ [] <|
    .op ⟨some 27, some (21, true), .prim (.mv (.t 0))⟩ [] <|
    .op ⟨some 28, some (21, true), .prim (.mv (.t 9))⟩ [] <|
    .op ⟨some 29, some (21, true), .prim (.bin .sub (.t 28) (.c (.int .i64 1)))⟩ [] <|
    .op ⟨some 30, some (21, true), .prim (.iaddr 1 (.t 27) (.t 29))⟩ [] <|
    .op ⟨some 31, some (21, true), .prim (.load1 (.t 30))⟩ [] <|
    .op ⟨some 32, some (21, true), .dcall (.t 22) [(.t 26), (.t 31)]⟩ [] <|
    .op ⟨some 33, some (21, true), .prim (.bin .lss (.t 32) (.c (.int .i64 0)))⟩ [] <|
    o1 34 (.pick (.t 21) (.t 33) (.c (.bool false))) <|
    .done)
  cc_slices_insertionSortCmpFunc_string_k3)
  cc_slices_insertionSortCmpFunc_string_k2)
noncomputable def cc_slices_insertionSortCmpFunc_string_k5 : CC :=
  (.block 2 (.loop cc_slices_insertionSortCmpFunc_string_l4))
noncomputable def cc_slices_insertionSortCmpFunc_string_k6 : CC :=
  (.seq (.block 1 (.seq (.region <| o1 17 (.mv (.t 8)) <|
    o1 9 (.mv (.t 17)) <|
    .done)
  cc_slices_insertionSortCmpFunc_string_k5))
  cc_slices_insertionSortCmpFunc_string_k0)
noncomputable def cc_slices_insertionSortCmpFunc_string_k7 : CC :=
  (.cond (.t 14) .skip (.exit 0))
noncomputable def cc_slices_insertionSortCmpFunc_string_l8 : CC :=
  (.seq (.seq (.region <| o1 12 (.mv (.t 8)) <|
    o1 13 (.mv (.t 2)) <|
    o1 14 (.bin .lss (.t 12) (.t 13)) <|
    .done)
  cc_slices_insertionSortCmpFunc_string_k7)
  cc_slices_insertionSortCmpFunc_string_k6)
noncomputable def cc_slices_insertionSortCmpFunc_string_k9 : CC :=
  (.block 0 (.loop cc_slices_insertionSortCmpFunc_string_l8))
noncomputable def cc_slices_insertionSortCmpFunc_string : CC :=
  (.seq (.region <| o1 10 (.mv (.t 1)) <|
    o1 11 (.bin .add (.t 10) (.c (.int .i64 1))) <|
    o1 8 (.mv (.t 11)) <|
    .done)
  cc_slices_insertionSortCmpFunc_string_k9)
noncomputable def fe_slices_insertionSortCmpFunc_string : FE := ⟨53, [], cc_slices_insertionSortCmpFunc_string⟩
theorem e_slices_insertionSortCmpFunc_string : compF prog F.slices_insertionSortCmpFunc_string = some fe_slices_insertionSortCmpFunc_string := by kernel_rfl

noncomputable def cc_slices_heapSortCmpFunc_string_k0 : CC :=
  (.region <| o1 34 (.mv (.t 12)) <|
    o1 35 (.bin .sub (.t 34) (.c (.int .i64 1))) <|
    o1 12 (.mv (.t 35)) <|
    .done)
noncomputable def cc_slices_heapSortCmpFunc_string_k1 : CC :=
  (.region <| o1 54 (.mv (.t 0)) <|
    o1 55 (.mv (.t 9)) <|
    o1 56 (.mv (.t 12)) <|
    o1 57 (.mv (.t 8)) <|
    o1 58 (.mv (.t 3)) <|
    .op ⟨some 59, none, .call F.slices_siftDownCmpFunc_string [(.t 54), (.t 55), (.t 56), (.t 57), (.t 58)]⟩ [] <|
    .done)
noncomputable def cc_slices_heapSortCmpFunc_string_k2 : CC :=
  (.seq (.block 3 (.seq (.region <| o1 36 (.mv (.t 0)) <|
    o1 37 (.mv (.t 8)) <|
    o1 38 (.mv (.t 0)) <|
    o1 39 (.mv (.t 8)) <|
    o1 40 (.mv (.t 12)) <|
    o1 41 (.bin .add (.t 39) (.t 40)) <|
    o1 42 (.mv (.t 0)) <|
    o1 43 (.mv (.t 8)) <|
    o1 44 (.mv (.t 12)) <|
    o1 45 (.bin .add (.t 43) (.t 44)) <|
    o1 46 (.iaddr 1 (.t 42) (.t 45)) <|
    o1 47 (.load1 (.t 46)) <|
    o1 48 (.mv (.t 0)) <|
    o1 49 (.mv (.t 8)) <|
    o1 50 (.iaddr 1 (.t 48) (.t 49)) <|
    o1 51 (.load1 (.t 50)) <|
    o1 52 (.iaddr 1 (.t 36) (.t 37)) <|
    .op ⟨none, none, .prim (.store 1 (.t 52) (.t 47))⟩ [] <|
    o1 53 (.iaddr 1 (.t 38) (.t 41)) <|
    .op ⟨none, none, .prim (.store 1 (.t 53) (.t 51))⟩ [] <|
    .done)
  cc_slices_heapSortCmpFunc_string_k1))
  cc_slices_heapSortCmpFunc_string_k0)
noncomputable def cc_slices_heapSortCmpFunc_string_k3 : CC :=
  (.cond (.t 33) .skip (.exit 2))
noncomputable def cc_slices_heapSortCmpFunc_string_l4 : CC :=
  (.seq (.seq (.region <| o1 32 (.mv (.t 12)) <|
    o1 33 (.bin .geq (.t 32) (.c (.int .i64 0))) <|
    .done)
  cc_slices_heapSortCmpFunc_string_k3)
  cc_slices_heapSortCmpFunc_string_k2)
noncomputable def cc_slices_heapSortCmpFunc_string_k5 : CC :=
  (.block 2 (.loop cc_slices_heapSortCmpFunc_string_l4))
noncomputable def cc_slices_heapSortCmpFunc_string_k6 : CC :=
  (.seq (.region <| o1 30 (.mv (.t 10)) <|
    o1 31 (.bin .sub (.t 30) (.c (.int .i64 1))) <|
    o1 12 (.mv (.t 31)) <|
    .done)
  cc_slices_heapSortCmpFunc_string_k5)
noncomputable def cc_slices_heapSortCmpFunc_string_k7 : CC :=
  (.region <| o1 22 (.mv (.t 11)) <|
    o1 23 (.bin .sub (.t 22) (.c (.int .i64 1))) <|
    o1 11 (.mv (.t 23)) <|
    .done)
noncomputable def cc_slices_heapSortCmpFunc_string_k8 : CC :=
  (.seq (.block 1 (.region <| o1 24 (.mv (.t 0)) <|
    o1 25 (.mv (.t 11)) <|
    o1 26 (.mv (.t 10)) <|
    o1 27 (.mv (.t 8)) <|
    o1 28 (.mv (.t 3)) <|
    .op ⟨some 29, none, .call F.slices_siftDownCmpFunc_string [(.t 24), (.t 25), (.t 26), (.t 27), (.t 28)]⟩ [] <|
    .done))
  cc_slices_heapSortCmpFunc_string_k7)
noncomputable def cc_slices_heapSortCmpFunc_string_k9 : CC :=
  (.cond (.t 21) .skip (.exit 0))
noncomputable def cc_slices_heapSortCmpFunc_string_l10 : CC :=
  (.seq (.seq (.region <| o1 20 (.mv (.t 11)) <|
    o1 21 (.bin .geq (.t 20) (.c (.int .i64 0))) <|
    .done)
  cc_slices_heapSortCmpFunc_string_k9)
  cc_slices_heapSortCmpFunc_string_k8)
noncomputable def cc_slices_heapSortCmpFunc_string_k11 : CC :=
  (.block 0 (.loop cc_slices_heapSortCmpFunc_string_l10))
noncomputable def cc_slices_heapSortCmpFunc_string_k12 : CC :=
  (.seq (.seq (.region <| o1 17 (.mv (.t 10)) <|
    o1 18 (.bin .sub (.t 17) (.c (.int .i64 1))) <|
    o1 19 (.bin .quo (.t 18) (.c (.int .i64 2))) <|
    o1 11 (.mv (.t 19)) <|
    .done)
  cc_slices_heapSortCmpFunc_string_k11)
  cc_slices_heapSortCmpFunc_string_k6)
noncomputable def cc_slices_heapSortCmpFunc_string_k13 : CC :=
  (.seq (.region <| o1 14 (.mv (.t 2)) <|
    o1 15 (.mv (.t 1)) <|
    o1 16 (.bin .sub (.t 14) (.t 15)) <|
    o1 10 (.mv (.t 16)) <|
    .done)
  cc_slices_heapSortCmpFunc_string_k12)
noncomputable def cc_slices_heapSortCmpFunc_string_k14 : CC :=
  (.seq (.region <| o1 9 (.mv (.c (.int .i64 0))) <|
    .done)
  cc_slices_heapSortCmpFunc_string_k13)
noncomputable def cc_slices_heapSortCmpFunc_string : CC :=
  (.seq (.region <| o1 13 (.mv (.t 1)) <|
    o1 8 (.mv (.t 13)) <|
    .done)
  cc_slices_heapSortCmpFunc_string_k14)
noncomputable def fe_slices_heapSortCmpFunc_string : FE := ⟨60, [], cc_slices_heapSortCmpFunc_string⟩
theorem e_slices_heapSortCmpFunc_string : compF prog F.slices_heapSortCmpFunc_string = some fe_slices_heapSortCmpFunc_string := by kernel_rfl

noncomputable def cc_slices_breakPatternsCmpFunc_string_k0 : CC :=
  (.region <| o1 36 (.mv (.t 11)) <|
    o1 37 (.bin .add (.t 36) (.c (.int .i64 1))) <|
    o1 11 (.mv (.t 37)) <|
    .done)
noncomputable def cc_slices_breakPatternsCmpFunc_string_k1 : CC :=
  (.region <| o1 49 (.mv (.t 0)) <|
    o1 50 (.mv (.t 11)) <|
    o1 51 (.mv (.t 0)) <|
    o1 52 (.mv (.t 1)) <|
    o1 53 (.mv (.t 12)) <|
    o1 54 (.bin .add (.t 52) (.t 53)) <|
    o1 55 (.mv (.t 0)) <|
    o1 56 (.mv (.t 1)) <|
    o1 57 (.mv (.t 12)) <|
    o1 58 (.bin .add (.t 56) (.t 57)) <|
    o1 59 (.iaddr 1 (.t 55) (.t 58)) <|
    o1 60 (.load1 (.t 59)) <|
    o1 61 (.mv (.t 0)) <|
    o1 62 (.mv (.t 11)) <|
    o1 63 (.iaddr 1 (.t 61) (.t 62)) <|
    o1 64 (.load1 (.t 63)) <|
    o1 65 (.iaddr 1 (.t 49) (.t 50)) <|
    .op ⟨none, none, .prim (.store 1 (.t 65) (.t 60))⟩ [] <|
    o1 66 (.iaddr 1 (.t 51) (.t 54)) <|
    .op ⟨none, none, .prim (.store 1 (.t 66) (.t 64))⟩ [] <|
    .done)
noncomputable def cc_slices_breakPatternsCmpFunc_string_c2 : CC :=
  (.region <| o1 46 (.mv (.t 12)) <|
    o1 47 (.mv (.t 8)) <|
    o1 48 (.bin .sub (.t 46) (.t 47)) <|
    o1 12 (.mv (.t 48)) <|
    .done)
noncomputable def cc_slices_breakPatternsCmpFunc_string_k3 : CC :=
  (.cond (.t 45) cc_slices_breakPatternsCmpFunc_string_c2 .skip)
noncomputable def cc_slices_breakPatternsCmpFunc_string_k4 : CC :=
  (.seq (.seq (.region <| o1 43 (.mv (.t 12)) <|
    o1 44 (.mv (.t 8)) <|
    o1 45 (.bin .geq (.t 43) (.t 44)) <|
    .done)
  cc_slices_breakPatternsCmpFunc_string_k3)
  cc_slices_breakPatternsCmpFunc_string_k1)
noncomputable def cc_slices_breakPatternsCmpFunc_string_k5 : CC :=
  (.seq (.block 1 (.seq (.region <| .op ⟨some 38, none, .call F.slices_xorshift_Next [(.t 9)]⟩ [] <|
    o1 39 (.mv (.t 10)) <|
    o1 40 (.bin .sub (.t 39) (.c (.int .u64 1))) <|
    o1 41 (.bin .and (.t 38) (.t 40)) <|
    o1 42 (.convI .i64 (.t 41)) <|
    o1 12 (.mv (.t 42)) <|
    .done)
  cc_slices_breakPatternsCmpFunc_string_k4))
  cc_slices_breakPatternsCmpFunc_string_k0)
noncomputable def cc_slices_breakPatternsCmpFunc_string_k6 : CC :=
  (.cond (.t 35) .skip (.exit 0))
noncomputable def cc_slices_breakPatternsCmpFunc_string_l7 : CC :=
  (.seq (.seq (.region <| o1 28 (.mv (.t 11)) <|
    o1 29 (.mv (.t 1)) <|
    o1 30 (.mv (.t 8)) <|
    o1 31 (.bin .quo (.t 30) (.c (.int .i64 4))) <|
    o1 32 (.bin .mul (.t 31) (.c (.int .i64 2))) <|
    o1 33 (.bin .add (.t 29) (.t 32)) <|
    o1 34 (.bin .add (.t 33) (.c (.int .i64 1))) <|
    o1 35 (.bin .leq (.t 28) (.t 34)) <|
    .done)
  cc_slices_breakPatternsCmpFunc_string_k6)
  cc_slices_breakPatternsCmpFunc_string_k5)
noncomputable def cc_slices_breakPatternsCmpFunc_string_k8 : CC :=
  (.block 0 (.loop cc_slices_breakPatternsCmpFunc_string_l7))
noncomputable def cc_slices_breakPatternsCmpFunc_string_k9 : CC :=
  (.seq (.region <| o1 22 (.mv (.t 1)) <|
    o1 23 (.mv (.t 8)) <|
    o1 24 (.bin .quo (.t 23) (.c (.int .i64 4))) <|
    o1 25 (.bin .mul (.t 24) (.c (.int .i64 2))) <|
    o1 26 (.bin .add (.t 22) (.t 25)) <|
    o1 27 (.bin .sub (.t 26) (.c (.int .i64 1))) <|
    o1 11 (.mv (.t 27)) <|
    .done)
  cc_slices_breakPatternsCmpFunc_string_k8)
noncomputable def cc_slices_breakPatternsCmpFunc_string_k10 : CC :=
  (.seq (.region <| o1 20 (.mv (.t 8)) <|
    .op ⟨some 21, none, .call F.slices_nextPowerOfTwo [(.t 20)]⟩ [] <|
    o1 10 (.mv (.t 21)) <|
    .done)
  cc_slices_breakPatternsCmpFunc_string_k9)
noncomputable def cc_slices_breakPatternsCmpFunc_string_c11 : CC :=
  (.seq (.region <| o1 18 (.mv (.t 8)) <|
    o1 19 (.convI .u64 (.t 18)) <|
    o1 9 (.alloc 96 [(.int .u64 0)]) <|
    .op ⟨none, none, .prim (.store 1 (.t 9) (.t 19))⟩ [] <|
    .done)
  cc_slices_breakPatternsCmpFunc_string_k10)
noncomputable def cc_slices_breakPatternsCmpFunc_string_k12 : CC :=
  (.cond (.t 17) cc_slices_breakPatternsCmpFunc_string_c11 .skip)
noncomputable def cc_slices_breakPatternsCmpFunc_string_k13 : CC :=
  (.seq (.region <| o1 16 (.mv (.t 8)) <|
    o1 17 (.bin .geq (.t 16) (.c (.int .i64 8))) <|
    .done)
  cc_slices_breakPatternsCmpFunc_string_k12)
noncomputable def cc_slices_breakPatternsCmpFunc_string : CC :=
  (.seq (.region <| o1 13 (.mv (.t 2)) <|
    o1 14 (.mv (.t 1)) <|
    o1 15 (.bin .sub (.t 13) (.t 14)) <|
    o1 8 (.mv (.t 15)) <|
    .done)
  cc_slices_breakPatternsCmpFunc_string_k13)
noncomputable def fe_slices_breakPatternsCmpFunc_string : FE := ⟨67, [], cc_slices_breakPatternsCmpFunc_string⟩
theorem e_slices_breakPatternsCmpFunc_string : compF prog F.slices_breakPatternsCmpFunc_string = some fe_slices_breakPatternsCmpFunc_string := by kernel_rfl

noncomputable def cc_slices_choosePivotCmpFunc_string_c0 : CC :=
  (.seq (.region <| o1 59 (.mv (.t 13)) <|
    o1 8 (.mv (.t 59)) <|
    o1 9 (.mv (.c (.int .i64 1))) <|
    .done)
  .ret)
noncomputable def cc_slices_choosePivotCmpFunc_string_c1 : CC :=
  (.seq (.region <| o1 62 (.mv (.t 13)) <|
    o1 8 (.mv (.t 62)) <|
    o1 9 (.mv (.c (.int .i64 2))) <|
    .done)
  .ret)
noncomputable def cc_slices_choosePivotCmpFunc_string_c2 : CC :=
  (.seq (.region <| o1 56 (.mv (.t 13)) <|
    o1 8 (.mv (.t 56)) <|
    o1 9 (.mv (.c (.int .i64 0))) <|
    .done)
  .ret)
noncomputable def cc_slices_choosePivotCmpFunc_string_k3 : CC :=
  (.cond (.t 60) cc_slices_choosePivotCmpFunc_string_c1 cc_slices_choosePivotCmpFunc_string_c2)
noncomputable def cc_slices_choosePivotCmpFunc_string_c4 : CC :=
  (.seq (.region <| o1 61 (.bin .eql (.t 55) (.c (.int .i64 12))) <|
    o1 60 (.mv (.t 61)) <|
    .done)
  cc_slices_choosePivotCmpFunc_string_k3)
noncomputable def cc_slices_choosePivotCmpFunc_string_k5 : CC :=
  (.cond (.t 57) cc_slices_choosePivotCmpFunc_string_c0 cc_slices_choosePivotCmpFunc_string_c4)
noncomputable def cc_slices_choosePivotCmpFunc_string_k6 : CC :=
  (.block 0 (.seq (.region <| o1 58 (.bin .eql (.t 55) (.c (.int .i64 0))) <|
    o1 57 (.mv (.t 58)) <|
    .done)
  cc_slices_choosePivotCmpFunc_string_k5))
noncomputable def cc_slices_choosePivotCmpFunc_string_k7 : CC :=
  (.seq (.region <| o1 55 (.load1 (.t 11)) <|
    .done)
  cc_slices_choosePivotCmpFunc_string_k6)
noncomputable def cc_slices_choosePivotCmpFunc_string_k8 : CC :=
  (.region <| o1 49 (.mv (.t 0)) <|
    o1 50 (.mv (.t 12)) <|
    o1 51 (.mv (.t 13)) <|
    o1 52 (.mv (.t 14)) <|
    o1 53 (.mv (.t 3)) <|
    .op ⟨some 54, none, .call F.slices_medianCmpFunc_string [(.t 49), (.t 50), (.t 51), (.t 52), (.t 11), (.t 53)]⟩ [] <|
    o1 13 (.mv (.t 54)) <|
    .done)
noncomputable def cc_slices_choosePivotCmpFunc_string_k9 : CC :=
  (.region <| o1 45 (.mv (.t 0)) <|
    o1 46 (.mv (.t 14)) <|
    o1 47 (.mv (.t 3)) <|
    .op ⟨some 48, none, .call F.slices_medianAdjacentCmpFunc_string [(.t 45), (.t 46), (.t 11), (.t 47)]⟩ [] <|
    o1 14 (.mv (.t 48)) <|
    .done)
noncomputable def cc_slices_choosePivotCmpFunc_string_k10 : CC :=
  (.seq (.region <| o1 41 (.mv (.t 0)) <|
    o1 42 (.mv (.t 13)) <|
    o1 43 (.mv (.t 3)) <|
    .op ⟨some 44, none, .call F.slices_medianAdjacentCmpFunc_string [(.t 41), (.t 42), (.t 11), (.t 43)]⟩ [] <|
    o1 13 (.mv (.t 44)) <|
    .done)
  cc_slices_choosePivotCmpFunc_string_k9)
noncomputable def cc_slices_choosePivotCmpFunc_string_c11 : CC :=
  (.seq (.region <| o1 37 (.mv (.t 0)) <|
    o1 38 (.mv (.t 12)) <|
    o1 39 (.mv (.t 3)) <|
    .op ⟨some 40, none, .call F.slices_medianAdjacentCmpFunc_string [(.t 37), (.t 38), (.t 11), (.t 39)]⟩ [] <|
    o1 12 (.mv (.t 40)) <|
    .done)
  cc_slices_choosePivotCmpFunc_string_k10)
noncomputable def cc_slices_choosePivotCmpFunc_string_k12 : CC :=
  (.cond (.t 36) cc_slices_choosePivotCmpFunc_string_c11 .skip)
noncomputable def cc_slices_choosePivotCmpFunc_string_c13 : CC :=
  (.seq (.seq (.region <| o1 35 (.mv (.t 10)) <|
    o1 36 (.bin .geq (.t 35) (.c (.int .i64 50))) <|
    .done)
  cc_slices_choosePivotCmpFunc_string_k12)
  cc_slices_choosePivotCmpFunc_string_k8)
noncomputable def cc_slices_choosePivotCmpFunc_string_k14 : CC :=
  (.cond (.t 34) cc_slices_choosePivotCmpFunc_string_c13 .skip)
noncomputable def cc_slices_choosePivotCmpFunc_string_k15 : CC :=
  (.seq (.seq (.region <| o1 33 (.mv (.t 10)) <|
    o1 34 (.bin .geq (.t 33) (.c (.int .i64 8))) <|
    .done)
  cc_slices_choosePivotCmpFunc_string_k14)
  cc_slices_choosePivotCmpFunc_string_k7)
noncomputable def cc_slices_choosePivotCmpFunc_string_k16 : CC :=
  (.seq (.region <| o1 28 (.mv (.t 1)) <|
    o1 29 (.mv (.t 10)) <|
    o1 30 (.bin .quo (.t 29) (.c (.int .i64 4))) <|
    o1 31 (.bin .mul (.t 30) (.c (.int .i64 3))) <|
    o1 32 (.bin .add (.t 28) (.t 31)) <|
    o1 14 (.mv (.t 32)) <|
    .done)
  cc_slices_choosePivotCmpFunc_string_k15)
noncomputable def cc_slices_choosePivotCmpFunc_string_k17 : CC :=
  (.seq (.region <| o1 23 (.mv (.t 1)) <|
    o1 24 (.mv (.t 10)) <|
    o1 25 (.bin .quo (.t 24) (.c (.int .i64 4))) <|
    o1 26 (.bin .mul (.t 25) (.c (.int .i64 2))) <|
    o1 27 (.bin .add (.t 23) (.t 26)) <|
    o1 13 (.mv (.t 27)) <|
    .done)
  cc_slices_choosePivotCmpFunc_string_k16)
noncomputable def cc_slices_choosePivotCmpFunc_string_k18 : CC :=
  (.seq (.region <| o1 18 (.mv (.t 1)) <|
    o1 19 (.mv (.t 10)) <|
    o1 20 (.bin .quo (.t 19) (.c (.int .i64 4))) <|
    o1 21 (.bin .mul (.t 20) (.c (.int .i64 1))) <|
    o1 22 (.bin .add (.t 18) (.t 21)) <|
    o1 12 (.mv (.t 22)) <|
    .done)
  cc_slices_choosePivotCmpFunc_string_k17)
noncomputable def cc_slices_choosePivotCmpFunc_string_k19 : CC :=
  (.seq (.region <| o1 11 (.alloc 3 [(.int .i64 0)]) <|
    .done)
  cc_slices_choosePivotCmpFunc_string_k18)
noncomputable def cc_slices_choosePivotCmpFunc_string_k20 : CC :=
  (.seq (.region <| o1 15 (.mv (.t 2)) <|
    o1 16 (.mv (.t 1)) <|
    o1 17 (.bin .sub (.t 15) (.t 16)) <|
    o1 10 (.mv (.t 17)) <|
    .done)
  cc_slices_choosePivotCmpFunc_string_k19)
noncomputable def cc_slices_choosePivotCmpFunc_string : CC :=
  (.seq (.region <| o1 8 (.mv (.c (.int .i64 0))) <|
    o1 9 (.mv (.c (.int .i64 0))) <|
    .done)
  cc_slices_choosePivotCmpFunc_string_k20)
noncomputable def fe_slices_choosePivotCmpFunc_string : FE := ⟨63, [.tmp 8, .tmp 9], cc_slices_choosePivotCmpFunc_string⟩
theorem e_slices_choosePivotCmpFunc_string : compF prog F.slices_choosePivotCmpFunc_string = some fe_slices_choosePivotCmpFunc_string := by kernel_rfl

noncomputable def cc_slices_reverseRangeCmpFunc_string_k0 : CC :=
  (.region <| o1 32 (.mv (.t 9)) <|
    o1 33 (.bin .sub (.t 32) (.c (.int .i64 1))) <|
    o1 9 (.mv (.t 33)) <|
    .done)
noncomputable def cc_slices_reverseRangeCmpFunc_string_k1 : CC :=
  (.seq (.region <| o1 30 (.mv (.t 8)) <|
    o1 31 (.bin .add (.t 30) (.c (.int .i64 1))) <|
    o1 8 (.mv (.t 31)) <|
    .done)
  cc_slices_reverseRangeCmpFunc_string_k0)
noncomputable def cc_slices_reverseRangeCmpFunc_string_k2 : CC :=
  (.block 1 (.seq (.region <| o1 16 (.mv (.t 0)) <|
    o1 17 (.mv (.t 8)) <|
    o1 18 (.mv (.t 0)) <|
    o1 19 (.mv (.t 9)) <|
    o1 20 (.mv (.t 0)) <|
    o1 21 (.mv (.t 9)) <|
    o1 22 (.iaddr 1 (.t 20) (.t 21)) <|
    o1 23 (.load1 (.t 22)) <|
    o1 24 (.mv (.t 0)) <|
    o1 25 (.mv (.t 8)) <|
    o1 26 (.iaddr 1 (.t 24) (.t 25)) <|
    o1 27 (.load1 (.t 26)) <|
    o1 28 (.iaddr 1 (.t 16) (.t 17)) <|
    .op ⟨none, none, .prim (.store 1 (.t 28) (.t 23))⟩ [] <|
    o1 29 (.iaddr 1 (.t 18) (.t 19)) <|
    .op ⟨none, none, .prim (.store 1 (.t 29) (.t 27))⟩ [] <|
    .done)
  cc_slices_reverseRangeCmpFunc_string_k1))
noncomputable def cc_slices_reverseRangeCmpFunc_string_k3 : CC :=
  (.cond (.t 15) .skip (.exit 0))
noncomputable def cc_slices_reverseRangeCmpFunc_string_l4 : CC :=
  (.seq (.seq (.region <| o1 13 (.mv (.t 8)) <|
    o1 14 (.mv (.t 9)) <|
    o1 15 (.bin .lss (.t 13) (.t 14)) <|
    .done)
  cc_slices_reverseRangeCmpFunc_string_k3)
  cc_slices_reverseRangeCmpFunc_string_k2)
noncomputable def cc_slices_reverseRangeCmpFunc_string_k5 : CC :=
  (.block 0 (.loop cc_slices_reverseRangeCmpFunc_string_l4))
noncomputable def cc_slices_reverseRangeCmpFunc_string_k6 : CC :=
  (.seq (.region <| o1 11 (.mv (.t 2)) <|
    o1 12 (.bin .sub (.t 11) (.c (.int .i64 1))) <|
    o1 9 (.mv (.t 12)) <|
    .done)
  cc_slices_reverseRangeCmpFunc_string_k5)
noncomputable def cc_slices_reverseRangeCmpFunc_string : CC :=
  (.seq (.region <| o1 10 (.mv (.t 1)) <|
    o1 8 (.mv (.t 10)) <|
    .done)
  cc_slices_reverseRangeCmpFunc_string_k6)
noncomputable def fe_slices_reverseRangeCmpFunc_string : FE := ⟨34, [], cc_slices_reverseRangeCmpFunc_string⟩
theorem e_slices_reverseRangeCmpFunc_string : compF prog F.slices_reverseRangeCmpFunc_string = some fe_slices_reverseRangeCmpFunc_string := by kernel_rfl

noncomputable def cc_slices_partialInsertionSortCmpFunc_string_k0 : CC :=
  (.region <| o1 17 (.mv (.t 10)) <|
    o1 18 (.bin .add (.t 17) (.c (.int .i64 1))) <|
    o1 10 (.mv (.t 18)) <|
    .done)
noncomputable def cc_slices_partialInsertionSortCmpFunc_string_k1 : CC :=
  (.region <| o1 110 (.mv (.t 12)) <|
    o1 111 (.bin .add (.t 110) (.c (.int .i64 1))) <|
    o1 12 (.mv (.t 111)) <|
    .done)
noncomputable def cc_slices_partialInsertionSortCmpFunc_string_k2 : CC :=
  (.region <| o1 125 (.mv (.t 0)) <|
    o1 126 (.mv (.t 12)) <|
    o1 127 (.mv (.t 0)) <|
    o1 128 (.mv (.t 12)) <|
    o1 129 (.bin .sub (.t 128) (.c (.int .i64 1))) <|
    o1 130 (.mv (.t 0)) <|
    o1 131 (.mv (.t 12)) <|
    o1 132 (.bin .sub (.t 131) (.c (.int .i64 1))) <|
    o1 133 (.iaddr 1 (.t 130) (.t 132)) <|
    o1 134 (.load1 (.t 133)) <|
    o1 135 (.mv (.t 0)) <|
    o1 136 (.mv (.t 12)) <|
    o1 137 (.iaddr 1 (.t 135) (.t 136)) <|
    o1 138 (.load1 (.t 137)) <|
    o1 139 (.iaddr 1 (.t 125) (.t 126)) <|
    .op ⟨none, none, .prim (.store 1 (.t 139) (.t 134))⟩ [] <|
    o1 140 (.iaddr 1 (.t 127) (.t 129)) <|
    .op ⟨none, none, .prim (.store 1 (.t 140) (.t 138))⟩ [] <|
    .done)
noncomputable def cc_slices_partialInsertionSortCmpFunc_string_k3 : CC :=
  (.cond (.t 124) (.exit 6) .skip)
noncomputable def cc_slices_partialInsertionSortCmpFunc_string_k4 : CC :=
  (.seq (.block 7 (.seq (.seq (.region <| o1 112 (.mv (.t 3)) <|
    o1 113 (.mv (.t 0)) <|
    o1 114 (.mv (.t 12)) <|
    o1 115 (.iaddr 1 (.t 113) (.t 114)) <|
    o1 116 (.load1 (.t 115)) <|
    o1 117 (.mv (.t 0)) <|
    o1 118 (.mv (.t 12)) <|
    o1 119 (.bin .sub (.t 118) (.c (.int .i64 1))) <|
    o1 120 (.iaddr 1 (.t 117) (.t 119)) <|
    o1 121 (.load1 (.t 120)) <|
    .op ⟨some 122, none, .dcall (.t 112) [(.t 116), (.t 121)]⟩ [] <|
    o1 123 (.bin .lss (.t 122) (.c (.int .i64 0))) <|
    o1 124 (.not (.t 123)) <|
    .done)
  cc_slices_partialInsertionSortCmpFunc_string_k3)
  cc_slices_partialInsertionSortCmpFunc_string_k2))
  cc_slices_partialInsertionSortCmpFunc_string_k1)
noncomputable def cc_slices_partialInsertionSortCmpFunc_string_k5 : CC :=
  (.cond (.t 109) .skip (.exit 6))
noncomputable def cc_slices_partialInsertionSortCmpFunc_string_l6 : CC :=
  (.seq (.seq (.region <| o1 107 (.mv (.t 12)) <|
    o1 108 (.mv (.t 2)) <|
    o1 109 (.bin .lss (.t 107) (.t 108)) <|
    .done)
  cc_slices_partialInsertionSortCmpFunc_string_k5)
  cc_slices_partialInsertionSortCmpFunc_string_k4)
noncomputable def cc_slices_partialInsertionSortCmpFunc_string_k7 : CC :=
  (.block 6 (.loop cc_slices_partialInsertionSortCmpFunc_string_l6))
noncomputable def cc_slices_partialInsertionSortCmpFunc_string_c8 : CC :=
  (.seq (.region <| o1 105 (.mv (.t 9)) <|
    o1 106 (.bin .add (.t 105) (.c (.int .i64 1))) <|
    o1 12 (.mv (.t 106)) <|
    .done)
  cc_slices_partialInsertionSortCmpFunc_string_k7)
noncomputable def cc_slices_partialInsertionSortCmpFunc_string_k9 : CC :=
  (.cond (.t 104) cc_slices_partialInsertionSortCmpFunc_string_c8 .skip)
noncomputable def cc_slices_partialInsertionSortCmpFunc_string_k10 : CC :=
  (.seq (.region <| o1 101 (.mv (.t 2)) <|
    o1 102 (.mv (.t 9)) <|
    o1 103 (.bin .sub (.t 101) (.t 102)) <|
    o1 104 (.bin .geq (.t 103) (.c (.int .i64 2))) <|
    .done)
  cc_slices_partialInsertionSortCmpFunc_string_k9)
noncomputable def cc_slices_partialInsertionSortCmpFunc_string_k11 : CC :=
  (.region <| o1 70 (.mv (.t 11)) <|
    o1 71 (.bin .sub (.t 70) (.c (.int .i64 1))) <|
    o1 11 (.mv (.t 71)) <|
    .done)
noncomputable def cc_slices_partialInsertionSortCmpFunc_string_k12 : CC :=
  (.region <| o1 85 (.mv (.t 0)) <|
    o1 86 (.mv (.t 11)) <|
    o1 87 (.mv (.t 0)) <|
    o1 88 (.mv (.t 11)) <|
    o1 89 (.bin .sub (.t 88) (.c (.int .i64 1))) <|
    o1 90 (.mv (.t 0)) <|
    o1 91 (.mv (.t 11)) <|
    o1 92 (.bin .sub (.t 91) (.c (.int .i64 1))) <|
    o1 93 (.iaddr 1 (.t 90) (.t 92)) <|
    o1 94 (.load1 (.t 93)) <|
    o1 95 (.mv (.t 0)) <|
    o1 96 (.mv (.t 11)) <|
    o1 97 (.iaddr 1 (.t 95) (.t 96)) <|
    o1 98 (.load1 (.t 97)) <|
    o1 99 (.iaddr 1 (.t 85) (.t 86)) <|
    .op ⟨none, none, .prim (.store 1 (.t 99) (.t 94))⟩ [] <|
    o1 100 (.iaddr 1 (.t 87) (.t 89)) <|
    .op ⟨none, none, .prim (.store 1 (.t 100) (.t 98))⟩ [] <|
    .done)
noncomputable def cc_slices_partialInsertionSortCmpFunc_string_k13 : CC :=
  (.cond (.t 84) (.exit 4) .skip)
noncomputable def cc_slices_partialInsertionSortCmpFunc_string_k14 : CC :=
  (.seq (.block 5 (.seq (.seq (.region <| o1 72 (.mv (.t 3)) <|
    o1 73 (.mv (.t 0)) <|
    o1 74 (.mv (.t 11)) <|
    o1 75 (.iaddr 1 (.t 73) (.t 74)) <|
    o1 76 (.load1 (.t 75)) <|
    o1 77 (.mv (.t 0)) <|
    o1 78 (.mv (.t 11)) <|
    o1 79 (.bin .sub (.t 78) (.c (.int .i64 1))) <|
    o1 80 (.iaddr 1 (.t 77) (.t 79)) <|
    o1 81 (.load1 (.t 80)) <|
    .op ⟨some 82, none, .dcall (.t 72) [(.t 76), (.t 81)]⟩ [] <|
    o1 83 (.bin .lss (.t 82) (.c (.int .i64 0))) <|
    o1 84 (.not (.t 83)) <|
    .done)
  cc_slices_partialInsertionSortCmpFunc_string_k13)
  cc_slices_partialInsertionSortCmpFunc_string_k12))
  cc_slices_partialInsertionSortCmpFunc_string_k11)
noncomputable def cc_slices_partialInsertionSortCmpFunc_string_k15 : CC :=
  (.cond (.t 69) .skip (.exit 4))
noncomputable def cc_slices_partialInsertionSortCmpFunc_string_l16 : CC :=
  (.seq (.seq (.region <| o1 68 (.mv (.t 11)) <|
    o1 69 (.bin .geq (.t 68) (.c (.int .i64 1))) <|
    .done)
  cc_slices_partialInsertionSortCmpFunc_string_k15)
  cc_slices_partialInsertionSortCmpFunc_string_k14)
noncomputable def cc_slices_partialInsertionSortCmpFunc_string_k17 : CC :=
  (.block 4 (.loop cc_slices_partialInsertionSortCmpFunc_string_l16))
noncomputable def cc_slices_partialInsertionSortCmpFunc_string_c18 : CC :=
  (.seq (.region <| o1 66 (.mv (.t 9)) <|
    o1 67 (.bin .sub (.t 66) (.c (.int .i64 1))) <|
    o1 11 (.mv (.t 67)) <|
    .done)
  cc_slices_partialInsertionSortCmpFunc_string_k17)
noncomputable def cc_slices_partialInsertionSortCmpFunc_string_k19 : CC :=
  (.cond (.t 65) cc_slices_partialInsertionSortCmpFunc_string_c18 .skip)
noncomputable def cc_slices_partialInsertionSortCmpFunc_string_k20 : CC :=
  (.seq (.seq (.region <| o1 62 (.mv (.t 9)) <|
    o1 63 (.mv (.t 1)) <|
    o1 64 (.bin .sub (.t 62) (.t 63)) <|
    o1 65 (.bin .geq (.t 64) (.c (.int .i64 2))) <|
    .done)
  cc_slices_partialInsertionSortCmpFunc_string_k19)
  cc_slices_partialInsertionSortCmpFunc_string_k10)
noncomputable def cc_slices_partialInsertionSortCmpFunc_string_k21 : CC :=
  (.seq (.region <| o1 46 (.mv (.t 0)) <|
    o1 47 (.mv (.t 9)) <|
    o1 48 (.mv (.t 0)) <|
    o1 49 (.mv (.t 9)) <|
    o1 50 (.bin .sub (.t 49) (.c (.int .i64 1))) <|
    o1 51 (.mv (.t 0)) <|
    o1 52 (.mv (.t 9)) <|
    o1 53 (.bin .sub (.t 52) (.c (.int .i64 1))) <|
    o1 54 (.iaddr 1 (.t 51) (.t 53)) <|
    o1 55 (.load1 (.t 54)) <|
    o1 56 (.mv (.t 0)) <|
    o1 57 (.mv (.t 9)) <|
    o1 58 (.iaddr 1 (.t 56) (.t 57)) <|
    o1 59 (.load1 (.t 58)) <|
    o1 60 (.iaddr 1 (.t 46) (.t 47)) <|
    .op ⟨none, none, .prim (.store 1 (.t 60) (.t 55))⟩ [] <|
    o1 61 (.iaddr 1 (.t 48) (.t 50)) <|
    .op ⟨none, none, .prim (.store 1 (.t 61) (.t 59))⟩ [] <|
    .done)
  cc_slices_partialInsertionSortCmpFunc_string_k20)
noncomputable def cc_slices_partialInsertionSortCmpFunc_string_k22 : CC :=
  (.cond (.t 45) (.seq (.region <| o1 8 (.mv (.c (.bool false))) <|
    .done)
  .ret) .skip)
noncomputable def cc_slices_partialInsertionSortCmpFunc_string_k23 : CC :=
  (.seq (.seq (.region <| o1 42 (.mv (.t 2)) <|
    o1 43 (.mv (.t 1)) <|
    o1 44 (.bin .sub (.t 42) (.t 43)) <|
    o1 45 (.bin .lss (.t 44) (.c (.int .i64 50))) <|
    .done)
  cc_slices_partialInsertionSortCmpFunc_string_k22)
  cc_slices_partialInsertionSortCmpFunc_string_k21)
noncomputable def cc_slices_partialInsertionSortCmpFunc_string_k24 : CC :=
  (.cond (.t 41) (.seq (.region <| o1 8 (.mv (.c (.bool true))) <|
    .done)
  .ret) .skip)
noncomputable def cc_slices_partialInsertionSortCmpFunc_string_k25 : CC :=
  (.seq (.seq (.region <| o1 39 (.mv (.t 9)) <|
    o1 40 (.mv (.t 2)) <|
    o1 41 (.bin .eql (.t 39) (.t 40)) <|
    .done)
  cc_slices_partialInsertionSortCmpFunc_string_k24)
  cc_slices_partialInsertionSortCmpFunc_string_k23)
noncomputable def cc_slices_partialInsertionSortCmpFunc_string_k26 : CC :=
  (.block 3 (.region <| o1 37 (.mv (.t 9)) <|
    o1 38 (.bin .add (.t 37) (.c (.int .i64 1))) <|
    o1 9 (.mv (.t 38)) <|
    .done))
noncomputable def cc_slices_partialInsertionSortCmpFunc_string_k27 : CC :=
  (.cond (.t 36) .skip (.exit 2))
noncomputable def cc_slices_partialInsertionSortCmpFunc_string_l28 : CC :=
  (.seq (.seq (.region <| o1 19 (.mv (.t 9)) <|
    o1 20 (.mv (.t 2)) <|
    o1 21 (.bin .lss (.t 19) (.t 20)) <|
    o1 22 (.mv (.t 21)) <|
    .op ⟨some 23, some (22, true), .prim (.mv (.t 3))⟩ [] <|
    .op ⟨some 24, some (22, true), .prim (.mv (.t 0))⟩ [] <|
    .op ⟨some 25, some (22, true), .prim (.mv (.t 9))⟩ [] <|
    .op ⟨some 26, some (22, true), .prim (.iaddr 1 (.t 24) (.t 25))⟩ [] <|
    .op ⟨some 27, some (22, true), .prim (.load1 (.t 26))⟩ [] <|
    .op ⟨some 28, some (22, true), .prim (.mv (.t 0))⟩ [] <|
    .op ⟨some 29, some (22, true), .prim (.mv (.t 9))⟩ [] <|
    .op ⟨some 30, some (22, true), .prim (.bin .sub (.t 29) (.c (.int .i64 1)))⟩ [] <|
    .op ⟨some 31, some (22, true), .prim (.iaddr 1 (.t 28) (.t 30))⟩ [] <|
    .op ⟨some 32, some (22, true), .prim (.load1 (.t 31))⟩ [] <|
    .op ⟨some 33, some (22, true), .dcall (.t 23) [(.t 27), (.t 32)]⟩ [] <|
    .op ⟨some 34, some (22, true), .prim (.bin .lss (.t 33) (.c (.int .i64 0)))⟩ [] <|
    .op ⟨some 35, some (22, true), .prim (.not (.t 34))⟩ [] <|
    o1 36 (.pick (.t 22) (.t 35) (.c (.bool false))) <|
    .done)
  cc_slices_partialInsertionSortCmpFunc_string_k27)
  cc_slices_partialInsertionSortCmpFunc_string_k26)
noncomputable def cc_slices_partialInsertionSortCmpFunc_string_k29 : CC :=
  (.seq (.block 1 (.seq (.block 2 (.loop cc_slices_partialInsertionSortCmpFunc_string_l28))
  cc_slices_partialInsertionSortCmpFunc_string_k25))
  cc_slices_partialInsertionSortCmpFunc_string_k0)
noncomputable def cc_slices_partialInsertionSortCmpFunc_string_k30 : CC :=
  (.cond (.t 16) .skip (.exit 0))
noncomputable def cc_slices_partialInsertionSortCmpFunc_string_l31 : CC :=
  (.seq (.seq (.region <| o1 15 (.mv (.t 10)) <|
    o1 16 (.bin .lss (.t 15) (.c (.int .i64 5))) <|
    .done)
  cc_slices_partialInsertionSortCmpFunc_string_k30)
  cc_slices_partialInsertionSortCmpFunc_string_k29)
noncomputable def cc_slices_partialInsertionSortCmpFunc_string_k32 : CC :=
  (.block 0 (.loop cc_slices_partialInsertionSortCmpFunc_string_l31))
noncomputable def cc_slices_partialInsertionSortCmpFunc_string_k33 : CC :=
  (.seq (.seq (.region <| o1 10 (.mv (.c (.int .i64 0))) <|
    .done)
  cc_slices_partialInsertionSortCmpFunc_string_k32)
  (.seq (.region <| o1 8 (.mv (.c (.bool false))) <|
    .done)
  .ret))
noncomputable def cc_slices_partialInsertionSortCmpFunc_string_k34 : CC :=
  (.seq (.region <| o1 13 (.mv (.t 1)) <|
    o1 14 (.bin .add (.t 13) (.c (.int .i64 1))) <|
    o1 9 (.mv (.t 14)) <|
    .done)
  cc_slices_partialInsertionSortCmpFunc_string_k33)
noncomputable def cc_slices_partialInsertionSortCmpFunc_string : CC :=
  (.seq (.region <| o1 8 (.mv (.c (.bool false))) <|
    .done)
  cc_slices_partialInsertionSortCmpFunc_string_k34)
noncomputable def fe_slices_partialInsertionSortCmpFunc_string : FE := ⟨141, [.tmp 8], cc_slices_partialInsertionSortCmpFunc_string⟩
theorem e_slices_partialInsertionSortCmpFunc_string : compF prog F.slices_partialInsertionSortCmpFunc_string = some fe_slices_partialInsertionSortCmpFunc_string := by kernel_rfl

noncomputable def cc_slices_partitionEqualCmpFunc_string_k0 : CC :=
  (.region <| o1 87 (.mv (.t 12)) <|
    o1 88 (.bin .sub (.t 87) (.c (.int .i64 1))) <|
    o1 12 (.mv (.t 88)) <|
    .done)
noncomputable def cc_slices_partitionEqualCmpFunc_string_k1 : CC :=
  (.seq (.region <| o1 85 (.mv (.t 11)) <|
    o1 86 (.bin .add (.t 85) (.c (.int .i64 1))) <|
    o1 11 (.mv (.t 86)) <|
    .done)
  cc_slices_partitionEqualCmpFunc_string_k0)
noncomputable def cc_slices_partitionEqualCmpFunc_string_k2 : CC :=
  (.seq (.region <| o1 71 (.mv (.t 0)) <|
    o1 72 (.mv (.t 11)) <|
    o1 73 (.mv (.t 0)) <|
    o1 74 (.mv (.t 12)) <|
    o1 75 (.mv (.t 0)) <|
    o1 76 (.mv (.t 12)) <|
    o1 77 (.iaddr 1 (.t 75) (.t 76)) <|
    o1 78 (.load1 (.t 77)) <|
    o1 79 (.mv (.t 0)) <|
    o1 80 (.mv (.t 11)) <|
    o1 81 (.iaddr 1 (.t 79) (.t 80)) <|
    o1 82 (.load1 (.t 81)) <|
    o1 83 (.iaddr 1 (.t 71) (.t 72)) <|
    .op ⟨none, none, .prim (.store 1 (.t 83) (.t 78))⟩ [] <|
    o1 84 (.iaddr 1 (.t 73) (.t 74)) <|
    .op ⟨none, none, .prim (.store 1 (.t 84) (.t 82))⟩ [] <|
    .done)
  cc_slices_partitionEqualCmpFunc_string_k1)
noncomputable def cc_slices_partitionEqualCmpFunc_string_k3 : CC :=
  (.cond (.t 70) (.exit 0) .skip)
noncomputable def cc_slices_partitionEqualCmpFunc_string_k4 : CC :=
  (.seq (.seq (.region <| o1 68 (.mv (.t 11)) <|
    o1 69 (.mv (.t 12)) <|
    o1 70 (.bin .gtr (.t 68) (.t 69)) <|
    .done)
  cc_slices_partitionEqualCmpFunc_string_k3)
  cc_slices_partitionEqualCmpFunc_string_k2)
noncomputable def cc_slices_partitionEqualCmpFunc_string_k5 : CC :=
  (.block 5 (.region <| o1 66 (.mv (.t 12)) <|
    o1 67 (.bin .sub (.t 66) (.c (.int .i64 1))) <|
    o1 12 (.mv (.t 67)) <|
    .done))
noncomputable def cc_slices_partitionEqualCmpFunc_string_k6 : CC :=
  (.cond (.t 65) .skip (.exit 4))
noncomputable def cc_slices_partitionEqualCmpFunc_string_l7 : CC :=
  (.seq (.seq (.region <| o1 50 (.mv (.t 11)) <|
    o1 51 (.mv (.t 12)) <|
    o1 52 (.bin .leq (.t 50) (.t 51)) <|
    o1 53 (.mv (.t 52)) <|
    .op ⟨some 54, some (53, true), .prim (.mv (.t 4))⟩ [] <|
    .op ⟨some 55, some (53, true), .prim (.mv (.t 0))⟩ [] <|
    .op ⟨some 56, some (53, true), .prim (.mv (.t 1))⟩ [] <|
    .op ⟨some 57, some (53, true), .prim (.iaddr 1 (.t 55) (.t 56))⟩ [] <|
    .op ⟨some 58, some (53, true), .prim (.load1 (.t 57))⟩ [] <|
    .op ⟨some 59, some (53, true), .prim (.mv (.t 0))⟩ [] <|
    .op ⟨some 60, some (53, true), .prim (.mv (.t 12))⟩ [] <|
    .op ⟨some 61, some (53, true), .prim (.iaddr 1 (.t 59) (.t 60))⟩ [] <|
    .op ⟨some 62, some (53, true), .prim (.load1 (.t 61))⟩ [] <|
    .op ⟨some 63, some (53, true), .dcall (.t 54) [(.t 58), (.t 62)]⟩ [] <|
    .op ⟨some 64, some (53, true), .prim (.bin .lss (.t 63) (.c (.int .i64 0)))⟩ [] <|
    o1 65 (.pick (.t 53) (.t 64) (.c (.bool false))) <|
    .done)
  cc_slices_partitionEqualCmpFunc_string_k6)
  cc_slices_partitionEqualCmpFunc_string_k5)
noncomputable def cc_slices_partitionEqualCmpFunc_string_k8 : CC :=
  (.seq (.block 4 (.loop cc_slices_partitionEqualCmpFunc_string_l7))
  cc_slices_partitionEqualCmpFunc_string_k4)
noncomputable def cc_slices_partitionEqualCmpFunc_string_k9 : CC :=
  (.block 3 (.region <| o1 48 (.mv (.t 11)) <|
    o1 49 (.bin .add (.t 48) (.c (.int .i64 1))) <|
    o1 11 (.mv (.t 49)) <|
    .done))
noncomputable def cc_slices_partitionEqualCmpFunc_string_k10 : CC :=
  (.cond (.t 47) .skip (.exit 2))
noncomputable def cc_slices_partitionEqualCmpFunc_string_l11 : CC :=
  (.seq (.seq (.region <| o1 31 (.mv (.t 11)) <|
    o1 32 (.mv (.t 12)) <|
    o1 33 (.bin .leq (.t 31) (.t 32)) <|
    o1 34 (.mv (.t 33)) <|
    .op ⟨some 35, some (34, true), .prim (.mv (.t 4))⟩ [] <|
    .op ⟨some 36, some (34, true), .prim (.mv (.t 0))⟩ [] <|
    .op ⟨some 37, some (34, true), .prim (.mv (.t 1))⟩ [] <|
    .op ⟨some 38, some (34, true), .prim (.iaddr 1 (.t 36) (.t 37))⟩ [] <|
    .op ⟨some 39, some (34, true), .prim (.load1 (.t 38))⟩ [] <|
    .op ⟨some 40, some (34, true), .prim (.mv (.t 0))⟩ [] <|
    .op ⟨some 41, some (34, true), .prim (.mv (.t 11))⟩ [] <|
    .op ⟨some 42, some (34, true), .prim (.iaddr 1 (.t 40) (.t 41))⟩ [] <|
    .op ⟨some 43, some (34, true), .prim (.load1 (.t 42))⟩ [] <|
    .op ⟨some 44, some (34, true), .dcall (.t 35) [(.t 39), (.t 43)]⟩ [] <|
    .op ⟨some 45, some (34, true), .prim (.bin .lss (.t 44) (.c (.int .i64 0)))⟩ [] <|
    .op ⟨some 46, some (34, true), .prim (.not (.t 45))⟩ [] <|
    o1 47 (.pick (.t 34) (.t 46) (.c (.bool false))) <|
    .done)
  cc_slices_partitionEqualCmpFunc_string_k10)
  cc_slices_partitionEqualCmpFunc_string_k9)
noncomputable def cc_slices_partitionEqualCmpFunc_string_l12 : CC :=
  (.block 1 (.seq (.block 2 (.loop cc_slices_partitionEqualCmpFunc_string_l11))
  cc_slices_partitionEqualCmpFunc_string_k8))
noncomputable def cc_slices_partitionEqualCmpFunc_string_k13 : CC :=
  (.seq (.block 0 (.loop cc_slices_partitionEqualCmpFunc_string_l12))
  (.seq (.region <| o1 89 (.mv (.t 11)) <|
    o1 10 (.mv (.t 89)) <|
    .done)
  .ret))
noncomputable def cc_slices_partitionEqualCmpFunc_string_k14 : CC :=
  (.seq (.region <| o1 27 (.mv (.t 1)) <|
    o1 28 (.bin .add (.t 27) (.c (.int .i64 1))) <|
    o1 29 (.mv (.t 2)) <|
    o1 30 (.bin .sub (.t 29) (.c (.int .i64 1))) <|
    o1 11 (.mv (.t 28)) <|
    o1 12 (.mv (.t 30)) <|
    .done)
  cc_slices_partitionEqualCmpFunc_string_k13)
noncomputable def cc_slices_partitionEqualCmpFunc_string_k15 : CC :=
  (.seq (.region <| o1 13 (.mv (.t 0)) <|
    o1 14 (.mv (.t 1)) <|
    o1 15 (.mv (.t 0)) <|
    o1 16 (.mv (.t 3)) <|
    o1 17 (.mv (.t 0)) <|
    o1 18 (.mv (.t 3)) <|
    o1 19 (.iaddr 1 (.t 17) (.t 18)) <|
    o1 20 (.load1 (.t 19)) <|
    o1 21 (.mv (.t 0)) <|
    o1 22 (.mv (.t 1)) <|
    o1 23 (.iaddr 1 (.t 21) (.t 22)) <|
    o1 24 (.load1 (.t 23)) <|
    o1 25 (.iaddr 1 (.t 13) (.t 14)) <|
    .op ⟨none, none, .prim (.store 1 (.t 25) (.t 20))⟩ [] <|
    o1 26 (.iaddr 1 (.t 15) (.t 16)) <|
    .op ⟨none, none, .prim (.store 1 (.t 26) (.t 24))⟩ [] <|
    .done)
  cc_slices_partitionEqualCmpFunc_string_k14)
noncomputable def cc_slices_partitionEqualCmpFunc_string : CC :=
  (.seq (.region <| o1 10 (.mv (.c (.int .i64 0))) <|
    .done)
  cc_slices_partitionEqualCmpFunc_string_k15)
noncomputable def fe_slices_partitionEqualCmpFunc_string : FE := ⟨90, [.tmp 10], cc_slices_partitionEqualCmpFunc_string⟩
theorem e_slices_partitionEqualCmpFunc_string : compF prog F.slices_partitionEqualCmpFunc_string = some fe_slices_partitionEqualCmpFunc_string := by kernel_rfl

noncomputable def cc_slices_partitionCmpFunc_string_k0 : CC :=
  (.seq (.region <| o1 177 (.mv (.t 13)) <|
    o1 10 (.mv (.t 177)) <|
    o1 11 (.mv (.c (.bool false))) <|
    .done)
  .ret)
noncomputable def cc_slices_partitionCmpFunc_string_k1 : CC :=
  (.seq (.region <| o1 163 (.mv (.t 0)) <|
    o1 164 (.mv (.t 13)) <|
    o1 165 (.mv (.t 0)) <|
    o1 166 (.mv (.t 1)) <|
    o1 167 (.mv (.t 0)) <|
    o1 168 (.mv (.t 1)) <|
    o1 169 (.iaddr 1 (.t 167) (.t 168)) <|
    o1 170 (.load1 (.t 169)) <|
    o1 171 (.mv (.t 0)) <|
    o1 172 (.mv (.t 13)) <|
    o1 173 (.iaddr 1 (.t 171) (.t 172)) <|
    o1 174 (.load1 (.t 173)) <|
    o1 175 (.iaddr 1 (.t 163) (.t 164)) <|
    .op ⟨none, none, .prim (.store 1 (.t 175) (.t 170))⟩ [] <|
    o1 176 (.iaddr 1 (.t 165) (.t 166)) <|
    .op ⟨none, none, .prim (.store 1 (.t 176) (.t 174))⟩ [] <|
    .done)
  cc_slices_partitionCmpFunc_string_k0)
noncomputable def cc_slices_partitionCmpFunc_string_k2 : CC :=
  (.region <| o1 161 (.mv (.t 13)) <|
    o1 162 (.bin .sub (.t 161) (.c (.int .i64 1))) <|
    o1 13 (.mv (.t 162)) <|
    .done)
noncomputable def cc_slices_partitionCmpFunc_string_k3 : CC :=
  (.seq (.region <| o1 159 (.mv (.t 12)) <|
    o1 160 (.bin .add (.t 159) (.c (.int .i64 1))) <|
    o1 12 (.mv (.t 160)) <|
    .done)
  cc_slices_partitionCmpFunc_string_k2)
noncomputable def cc_slices_partitionCmpFunc_string_k4 : CC :=
  (.seq (.region <| o1 145 (.mv (.t 0)) <|
    o1 146 (.mv (.t 12)) <|
    o1 147 (.mv (.t 0)) <|
    o1 148 (.mv (.t 13)) <|
    o1 149 (.mv (.t 0)) <|
    o1 150 (.mv (.t 13)) <|
    o1 151 (.iaddr 1 (.t 149) (.t 150)) <|
    o1 152 (.load1 (.t 151)) <|
    o1 153 (.mv (.t 0)) <|
    o1 154 (.mv (.t 12)) <|
    o1 155 (.iaddr 1 (.t 153) (.t 154)) <|
    o1 156 (.load1 (.t 155)) <|
    o1 157 (.iaddr 1 (.t 145) (.t 146)) <|
    .op ⟨none, none, .prim (.store 1 (.t 157) (.t 152))⟩ [] <|
    o1 158 (.iaddr 1 (.t 147) (.t 148)) <|
    .op ⟨none, none, .prim (.store 1 (.t 158) (.t 156))⟩ [] <|
    .done)
  cc_slices_partitionCmpFunc_string_k3)
noncomputable def cc_slices_partitionCmpFunc_string_k5 : CC :=
  (.cond (.t 144) (.exit 4) .skip)
noncomputable def cc_slices_partitionCmpFunc_string_k6 : CC :=
  (.seq (.seq (.region <| o1 142 (.mv (.t 12)) <|
    o1 143 (.mv (.t 13)) <|
    o1 144 (.bin .gtr (.t 142) (.t 143)) <|
    .done)
  cc_slices_partitionCmpFunc_string_k5)
  cc_slices_partitionCmpFunc_string_k4)
noncomputable def cc_slices_partitionCmpFunc_string_k7 : CC :=
  (.block 9 (.region <| o1 140 (.mv (.t 13)) <|
    o1 141 (.bin .sub (.t 140) (.c (.int .i64 1))) <|
    o1 13 (.mv (.t 141)) <|
    .done))
noncomputable def cc_slices_partitionCmpFunc_string_k8 : CC :=
  (.cond (.t 139) .skip (.exit 8))
noncomputable def cc_slices_partitionCmpFunc_string_l9 : CC :=
  (.seq (.seq (.region <| o1 123 (.mv (.t 12)) <|
    o1 124 (.mv (.t 13)) <|
    o1 125 (.bin .leq (.t 123) (.t 124)) <|
    o1 126 (.mv (.t 125)) <|
    .op ⟨some 127, some (126, true), .prim (.mv (.t 4))⟩ [] <|
    .op ⟨some 128, some (126, true), .prim (.mv (.t 0))⟩ [] <|
    .op ⟨some 129, some (126, true), .prim (.mv (.t 13))⟩ [] <|
    .op ⟨some 130, some (126, true), .prim (.iaddr 1 (.t 128) (.t 129))⟩ [] <|
    .op ⟨some 131, some (126, true), .prim (.load1 (.t 130))⟩ [] <|
    .op ⟨some 132, some (126, true), .prim (.mv (.t 0))⟩ [] <|
    .op ⟨some 133, some (126, true), .prim (.mv (.t 1))⟩ [] <|
    .op ⟨some 134, some (126, true), .prim (.iaddr 1 (.t 132) (.t 133))⟩ [] <|
    .op ⟨some 135, some (126, true), .prim (.load1 (.t 134))⟩ [] <|
    .op ⟨some 136, some (126, true), .dcall (.t 127) [(.t 131), (.t 135)]⟩ [] <|
    .op ⟨some 137, some (126, true), .prim (.bin .lss (.t 136) (.c (.int .i64 0)))⟩ [] <|
    .op ⟨some 138, some (126, true), .prim (.not (.t 137))⟩ [] <|
    o1 139 (.pick (.t 126) (.t 138) (.c (.bool false))) <|
    .done)
  cc_slices_partitionCmpFunc_string_k8)
  cc_slices_partitionCmpFunc_string_k7)
noncomputable def cc_slices_partitionCmpFunc_string_k10 : CC :=
  (.seq (.block 8 (.loop cc_slices_partitionCmpFunc_string_l9))
  cc_slices_partitionCmpFunc_string_k6)
noncomputable def cc_slices_partitionCmpFunc_string_k11 : CC :=
  (.block 7 (.region <| o1 121 (.mv (.t 12)) <|
    o1 122 (.bin .add (.t 121) (.c (.int .i64 1))) <|
    o1 12 (.mv (.t 122)) <|
    .done))
noncomputable def cc_slices_partitionCmpFunc_string_k12 : CC :=
  (.cond (.t 120) .skip (.exit 6))
noncomputable def cc_slices_partitionCmpFunc_string_l13 : CC :=
  (.seq (.seq (.region <| o1 105 (.mv (.t 12)) <|
    o1 106 (.mv (.t 13)) <|
    o1 107 (.bin .leq (.t 105) (.t 106)) <|
    o1 108 (.mv (.t 107)) <|
    .op ⟨some 109, some (108, true), .prim (.mv (.t 4))⟩ [] <|
    .op ⟨some 110, some (108, true), .prim (.mv (.t 0))⟩ [] <|
    .op ⟨some 111, some (108, true), .prim (.mv (.t 12))⟩ [] <|
    .op ⟨some 112, some (108, true), .prim (.iaddr 1 (.t 110) (.t 111))⟩ [] <|
    .op ⟨some 113, some (108, true), .prim (.load1 (.t 112))⟩ [] <|
    .op ⟨some 114, some (108, true), .prim (.mv (.t 0))⟩ [] <|
    .op ⟨some 115, some (108, true), .prim (.mv (.t 1))⟩ [] <|
    .op ⟨some 116, some (108, true), .prim (.iaddr 1 (.t 114) (.t 115))⟩ [] <|
    .op ⟨some 117, some (108, true), .prim (.load1 (.t 116))⟩ [] <|
    .op ⟨some 118, some (108, true), .dcall (.t 109) [(.t 113), (.t 117)]⟩ [] <|
    .op ⟨some 119, some (108, true), .prim (.bin .lss (.t 118) (.c (.int .i64 0)))⟩ [] <|
    o1 120 (.pick (.t 108) (.t 119) (.c (.bool false))) <|
    .done)
  cc_slices_partitionCmpFunc_string_k12)
  cc_slices_partitionCmpFunc_string_k11)
noncomputable def cc_slices_partitionCmpFunc_string_l14 : CC :=
  (.block 5 (.seq (.block 6 (.loop cc_slices_partitionCmpFunc_string_l13))
  cc_slices_partitionCmpFunc_string_k10))
noncomputable def cc_slices_partitionCmpFunc_string_k15 : CC :=
  (.seq (.block 4 (.loop cc_slices_partitionCmpFunc_string_l14))
  cc_slices_partitionCmpFunc_string_k1)
noncomputable def cc_slices_partitionCmpFunc_string_k16 : CC :=
  (.seq (.region <| o1 103 (.mv (.t 13)) <|
    o1 104 (.bin .sub (.t 103) (.c (.int .i64 1))) <|
    o1 13 (.mv (.t 104)) <|
    .done)
  cc_slices_partitionCmpFunc_string_k15)
noncomputable def cc_slices_partitionCmpFunc_string_k17 : CC :=
  (.seq (.region <| o1 101 (.mv (.t 12)) <|
    o1 102 (.bin .add (.t 101) (.c (.int .i64 1))) <|
    o1 12 (.mv (.t 102)) <|
    .done)
  cc_slices_partitionCmpFunc_string_k16)
noncomputable def cc_slices_partitionCmpFunc_string_k18 : CC :=
  (.seq (.region <| o1 87 (.mv (.t 0)) <|
    o1 88 (.mv (.t 12)) <|
    o1 89 (.mv (.t 0)) <|
    o1 90 (.mv (.t 13)) <|
    o1 91 (.mv (.t 0)) <|
    o1 92 (.mv (.t 13)) <|
    o1 93 (.iaddr 1 (.t 91) (.t 92)) <|
    o1 94 (.load1 (.t 93)) <|
    o1 95 (.mv (.t 0)) <|
    o1 96 (.mv (.t 12)) <|
    o1 97 (.iaddr 1 (.t 95) (.t 96)) <|
    o1 98 (.load1 (.t 97)) <|
    o1 99 (.iaddr 1 (.t 87) (.t 88)) <|
    .op ⟨none, none, .prim (.store 1 (.t 99) (.t 94))⟩ [] <|
    o1 100 (.iaddr 1 (.t 89) (.t 90)) <|
    .op ⟨none, none, .prim (.store 1 (.t 100) (.t 98))⟩ [] <|
    .done)
  cc_slices_partitionCmpFunc_string_k17)
noncomputable def cc_slices_partitionCmpFunc_string_k19 : CC :=
  (.seq (.region <| o1 86 (.mv (.t 13)) <|
    o1 10 (.mv (.t 86)) <|
    o1 11 (.mv (.c (.bool true))) <|
    .done)
  .ret)
noncomputable def cc_slices_partitionCmpFunc_string_c20 : CC :=
  (.seq (.region <| o1 72 (.mv (.t 0)) <|
    o1 73 (.mv (.t 13)) <|
    o1 74 (.mv (.t 0)) <|
    o1 75 (.mv (.t 1)) <|
    o1 76 (.mv (.t 0)) <|
    o1 77 (.mv (.t 1)) <|
    o1 78 (.iaddr 1 (.t 76) (.t 77)) <|
    o1 79 (.load1 (.t 78)) <|
    o1 80 (.mv (.t 0)) <|
    o1 81 (.mv (.t 13)) <|
    o1 82 (.iaddr 1 (.t 80) (.t 81)) <|
    o1 83 (.load1 (.t 82)) <|
    o1 84 (.iaddr 1 (.t 72) (.t 73)) <|
    .op ⟨none, none, .prim (.store 1 (.t 84) (.t 79))⟩ [] <|
    o1 85 (.iaddr 1 (.t 74) (.t 75)) <|
    .op ⟨none, none, .prim (.store 1 (.t 85) (.t 83))⟩ [] <|
    .done)
  cc_slices_partitionCmpFunc_string_k19)
noncomputable def cc_slices_partitionCmpFunc_string_k21 : CC :=
  (.cond (.t 71) cc_slices_partitionCmpFunc_string_c20 .skip)
noncomputable def cc_slices_partitionCmpFunc_string_k22 : CC :=
  (.seq (.seq (.region <| o1 69 (.mv (.t 12)) <|
    o1 70 (.mv (.t 13)) <|
    o1 71 (.bin .gtr (.t 69) (.t 70)) <|
    .done)
  cc_slices_partitionCmpFunc_string_k21)
  cc_slices_partitionCmpFunc_string_k18)
noncomputable def cc_slices_partitionCmpFunc_string_k23 : CC :=
  (.block 3 (.region <| o1 67 (.mv (.t 13)) <|
    o1 68 (.bin .sub (.t 67) (.c (.int .i64 1))) <|
    o1 13 (.mv (.t 68)) <|
    .done))
noncomputable def cc_slices_partitionCmpFunc_string_k24 : CC :=
  (.cond (.t 66) .skip (.exit 2))
noncomputable def cc_slices_partitionCmpFunc_string_l25 : CC :=
  (.seq (.seq (.region <| o1 50 (.mv (.t 12)) <|
    o1 51 (.mv (.t 13)) <|
    o1 52 (.bin .leq (.t 50) (.t 51)) <|
    o1 53 (.mv (.t 52)) <|
    .op ⟨some 54, some (53, true), .prim (.mv (.t 4))⟩ [] <|
    .op ⟨some 55, some (53, true), .prim (.mv (.t 0))⟩ [] <|
    .op ⟨some 56, some (53, true), .prim (.mv (.t 13))⟩ [] <|
    .op ⟨some 57, some (53, true), .prim (.iaddr 1 (.t 55) (.t 56))⟩ [] <|
    .op ⟨some 58, some (53, true), .prim (.load1 (.t 57))⟩ [] <|
    .op ⟨some 59, some (53, true), .prim (.mv (.t 0))⟩ [] <|
    .op ⟨some 60, some (53, true), .prim (.mv (.t 1))⟩ [] <|
    .op ⟨some 61, some (53, true), .prim (.iaddr 1 (.t 59) (.t 60))⟩ [] <|
    .op ⟨some 62, some (53, true), .prim (.load1 (.t 61))⟩ [] <|
    .op ⟨some 63, some (53, true), .dcall (.t 54) [(.t 58), (.t 62)]⟩ [] <|
    .op ⟨some 64, some (53, true), .prim (.bin .lss (.t 63) (.c (.int .i64 0)))⟩ [] <|
    .op ⟨some 65, some (53, true), .prim (.not (.t 64))⟩ [] <|
    o1 66 (.pick (.t 53) (.t 65) (.c (.bool false))) <|
    .done)
  cc_slices_partitionCmpFunc_string_k24)
  cc_slices_partitionCmpFunc_string_k23)
noncomputable def cc_slices_partitionCmpFunc_string_k26 : CC :=
  (.seq (.block 2 (.loop cc_slices_partitionCmpFunc_string_l25))
  cc_slices_partitionCmpFunc_string_k22)
noncomputable def cc_slices_partitionCmpFunc_string_k27 : CC :=
  (.block 1 (.region <| o1 48 (.mv (.t 12)) <|
    o1 49 (.bin .add (.t 48) (.c (.int .i64 1))) <|
    o1 12 (.mv (.t 49)) <|
    .done))
noncomputable def cc_slices_partitionCmpFunc_string_k28 : CC :=
  (.cond (.t 47) .skip (.exit 0))
noncomputable def cc_slices_partitionCmpFunc_string_l29 : CC :=
  (.seq (.seq (.region <| o1 32 (.mv (.t 12)) <|
    o1 33 (.mv (.t 13)) <|
    o1 34 (.bin .leq (.t 32) (.t 33)) <|
    o1 35 (.mv (.t 34)) <|
    .op ⟨some 36, some (35, true), .prim (.mv (.t 4))⟩ [] <|
    .op ⟨some 37, some (35, true), .prim (.mv (.t 0))⟩ [] <|
    .op ⟨some 38, some (35, true), .prim (.mv (.t 12))⟩ [] <|
    .op ⟨some 39, some (35, true), .prim (.iaddr 1 (.t 37) (.t 38))⟩ [] <|
    .op ⟨some 40, some (35, true), .prim (.load1 (.t 39))⟩ [] <|
    .op ⟨some 41, some (35, true), .prim (.mv (.t 0))⟩ [] <|
    .op ⟨some 42, some (35, true), .prim (.mv (.t 1))⟩ [] <|
    .op ⟨some 43, some (35, true), .prim (.iaddr 1 (.t 41) (.t 42))⟩ [] <|
    .op ⟨some 44, some (35, true), .prim (.load1 (.t 43))⟩ [] <|
    .op ⟨some 45, some (35, true), .dcall (.t 36) [(.t 40), (.t 44)]⟩ [] <|
    .op ⟨some 46, some (35, true), .prim (.bin .lss (.t 45) (.c (.int .i64 0)))⟩ [] <|
    o1 47 (.pick (.t 35) (.t 46) (.c (.bool false))) <|
    .done)
  cc_slices_partitionCmpFunc_string_k28)
  cc_slices_partitionCmpFunc_string_k27)
noncomputable def cc_slices_partitionCmpFunc_string_k30 : CC :=
  (.seq (.block 0 (.loop cc_slices_partitionCmpFunc_string_l29))
  cc_slices_partitionCmpFunc_string_k26)
noncomputable def cc_slices_partitionCmpFunc_string_k31 : CC :=
  (.seq (.region <| o1 28 (.mv (.t 1)) <|
    o1 29 (.bin .add (.t 28) (.c (.int .i64 1))) <|
    o1 30 (.mv (.t 2)) <|
    o1 31 (.bin .sub (.t 30) (.c (.int .i64 1))) <|
    o1 12 (.mv (.t 29)) <|
    o1 13 (.mv (.t 31)) <|
    .done)
  cc_slices_partitionCmpFunc_string_k30)
noncomputable def cc_slices_partitionCmpFunc_string_k32 : CC :=
  (.seq (.region <| o1 14 (.mv (.t 0)) <|
    o1 15 (.mv (.t 1)) <|
    o1 16 (.mv (.t 0)) <|
    o1 17 (.mv (.t 3)) <|
    o1 18 (.mv (.t 0)) <|
    o1 19 (.mv (.t 3)) <|
    o1 20 (.iaddr 1 (.t 18) (.t 19)) <|
    o1 21 (.load1 (.t 20)) <|
    o1 22 (.mv (.t 0)) <|
    o1 23 (.mv (.t 1)) <|
    o1 24 (.iaddr 1 (.t 22) (.t 23)) <|
    o1 25 (.load1 (.t 24)) <|
    o1 26 (.iaddr 1 (.t 14) (.t 15)) <|
    .op ⟨none, none, .prim (.store 1 (.t 26) (.t 21))⟩ [] <|
    o1 27 (.iaddr 1 (.t 16) (.t 17)) <|
    .op ⟨none, none, .prim (.store 1 (.t 27) (.t 25))⟩ [] <|
    .done)
  cc_slices_partitionCmpFunc_string_k31)
noncomputable def cc_slices_partitionCmpFunc_string : CC :=
  (.seq (.region <| o1 10 (.mv (.c (.int .i64 0))) <|
    o1 11 (.mv (.c (.bool false))) <|
    .done)
  cc_slices_partitionCmpFunc_string_k32)
noncomputable def fe_slices_partitionCmpFunc_string : FE := ⟨178, [.tmp 10, .tmp 11], cc_slices_partitionCmpFunc_string⟩
theorem e_slices_partitionCmpFunc_string : compF prog F.slices_partitionCmpFunc_string = some fe_slices_partitionCmpFunc_string := by kernel_rfl

noncomputable def cc_math_bits_Len32_k0 : CC :=
  (.seq (.region <| o1 13 (.mv (.t 2)) <|
    o1 14 (.mv (.t 0)) <|
    o1 15 (.convI .u8 (.t 14)) <|
    o1 16 (.istr (.c (.str [0, 1, 2, 2, 3, 3, 3, 3, 4, 4, 4, 4, 4, 4, 4, 4, 5, 5, 5, 5, 5, 5, 5, 5, 5, 5, 5, 5, 5, 5, 5, 5, 6, 6, 6, 6, 6, 6, 6, 6, 6, 6, 6, 6, 6, 6, 6, 6, 6, 6, 6, 6, 6, 6, 6, 6, 6, 6, 6, 6, 6, 6, 6, 6, 7, 7, 7, 7, 7, 7, 7, 7, 7, 7, 7, 7, 7, 7, 7, 7, 7, 7, 7, 7, 7, 7, 7, 7, 7, 7, 7, 7, 7, 7, 7, 7, 7, 7, 7, 7, 7, 7, 7, 7, 7, 7, 7, 7, 7, 7, 7, 7, 7, 7, 7, 7, 7, 7, 7, 7, 7, 7, 7, 7, 7, 7, 7, 7, 8, 8, 8, 8, 8, 8, 8, 8, 8, 8, 8, 8, 8, 8, 8, 8, 8, 8, 8, 8, 8, 8, 8, 8, 8, 8, 8, 8, 8, 8, 8, 8, 8, 8, 8, 8, 8, 8, 8, 8, 8, 8, 8, 8, 8, 8, 8, 8, 8, 8, 8, 8, 8, 8, 8, 8, 8, 8, 8, 8, 8, 8, 8, 8, 8, 8, 8, 8, 8, 8, 8, 8, 8, 8, 8, 8, 8, 8, 8, 8, 8, 8, 8, 8, 8, 8, 8, 8, 8, 8, 8, 8, 8, 8, 8, 8, 8, 8, 8, 8, 8, 8, 8, 8, 8, 8, 8, 8, 8, 8, 8, 8, 8, 8, 8, 8, 8, 8, 8, 8, 8, 8, 8, 8, 8, 8, 8, 8])) (.t 15)) <|
    o1 17 (.convI .i64 (.t 16)) <|
    o1 18 (.bin .add (.t 13) (.t 17)) <|
    o1 2 (.mv (.t 18)) <|
    .done)
  .ret)
noncomputable def cc_math_bits_Len32_k1 : CC :=
  (.region <| o1 11 (.mv (.t 2)) <|
    o1 12 (.bin .add (.t 11) (.c (.int .i64 8))) <|
    o1 2 (.mv (.t 12)) <|
    .done)
noncomputable def cc_math_bits_Len32_c2 : CC :=
  (.seq (.region <| o1 9 (.mv (.t 0)) <|
    o1 10 (.bin .shr (.t 9) (.c (.int .u64 8))) <|
    o1 0 (.mv (.t 10)) <|
    .done)
  cc_math_bits_Len32_k1)
noncomputable def cc_math_bits_Len32_k3 : CC :=
  (.cond (.t 8) cc_math_bits_Len32_c2 .skip)
noncomputable def cc_math_bits_Len32_k4 : CC :=
  (.seq (.seq (.region <| o1 7 (.mv (.t 0)) <|
    o1 8 (.bin .geq (.t 7) (.c (.int .u32 256))) <|
    .done)
  cc_math_bits_Len32_k3)
  cc_math_bits_Len32_k0)
noncomputable def cc_math_bits_Len32_c5 : CC :=
  (.seq (.region <| o1 5 (.mv (.t 0)) <|
    o1 6 (.bin .shr (.t 5) (.c (.int .u64 16))) <|
    o1 0 (.mv (.t 6)) <|
    .done)
  (.region <| o1 2 (.mv (.c (.int .i64 16))) <|
    .done))
noncomputable def cc_math_bits_Len32_k6 : CC :=
  (.cond (.t 4) cc_math_bits_Len32_c5 .skip)
noncomputable def cc_math_bits_Len32_k7 : CC :=
  (.seq (.seq (.region <| o1 3 (.mv (.t 0)) <|
    o1 4 (.bin .geq (.t 3) (.c (.int .u32 65536))) <|
    .done)
  cc_math_bits_Len32_k6)
  cc_math_bits_Len32_k4)
noncomputable def cc_math_bits_Len32 : CC :=
  (.seq (.region <| o1 2 (.mv (.c (.int .i64 0))) <|
    .done)
  cc_math_bits_Len32_k7)
noncomputable def fe_math_bits_Len32 : FE := ⟨19, [.tmp 2], cc_math_bits_Len32⟩
theorem e_math_bits_Len32 : compF prog F.math_bits_Len32 = some fe_math_bits_Len32 := by kernel_rfl

noncomputable def cc_math_bits_Len64_k0 : CC :=
  (.seq (.region <| o1 19 (.mv (.t 2)) <|
    o1 20 (.mv (.t 0)) <|
    o1 21 (.convI .u8 (.t 20)) <|
    o1 22 (.istr (.c (.str [0, 1, 2, 2, 3, 3, 3, 3, 4, 4, 4, 4, 4, 4, 4, 4, 5, 5, 5, 5, 5, 5, 5, 5, 5, 5, 5, 5, 5, 5, 5, 5, 6, 6, 6, 6, 6, 6, 6, 6, 6, 6, 6, 6, 6, 6, 6, 6, 6, 6, 6, 6, 6, 6, 6, 6, 6, 6, 6, 6, 6, 6, 6, 6, 7, 7, 7, 7, 7, 7, 7, 7, 7, 7, 7, 7, 7, 7, 7, 7, 7, 7, 7, 7, 7, 7, 7, 7, 7, 7, 7, 7, 7, 7, 7, 7, 7, 7, 7, 7, 7, 7, 7, 7, 7, 7, 7, 7, 7, 7, 7, 7, 7, 7, 7, 7, 7, 7, 7, 7, 7, 7, 7, 7, 7, 7, 7, 7, 8, 8, 8, 8, 8, 8, 8, 8, 8, 8, 8, 8, 8, 8, 8, 8, 8, 8, 8, 8, 8, 8, 8, 8, 8, 8, 8, 8, 8, 8, 8, 8, 8, 8, 8, 8, 8, 8, 8, 8, 8, 8, 8, 8, 8, 8, 8, 8, 8, 8, 8, 8, 8, 8, 8, 8, 8, 8, 8, 8, 8, 8, 8, 8, 8, 8, 8, 8, 8, 8, 8, 8, 8, 8, 8, 8, 8, 8, 8, 8, 8, 8, 8, 8, 8, 8, 8, 8, 8, 8, 8, 8, 8, 8, 8, 8, 8, 8, 8, 8, 8, 8, 8, 8, 8, 8, 8, 8, 8, 8, 8, 8, 8, 8, 8, 8, 8, 8, 8, 8, 8, 8, 8, 8, 8, 8, 8, 8])) (.t 21)) <|
    o1 23 (.convI .i64 (.t 22)) <|
    o1 24 (.bin .add (.t 19) (.t 23)) <|
    o1 2 (.mv (.t 24)) <|
    .done)
  .ret)
noncomputable def cc_math_bits_Len64_k1 : CC :=
  (.region <| o1 17 (.mv (.t 2)) <|
    o1 18 (.bin .add (.t 17) (.c (.int .i64 8))) <|
    o1 2 (.mv (.t 18)) <|
    .done)
noncomputable def cc_math_bits_Len64_c2 : CC :=
  (.seq (.region <| o1 15 (.mv (.t 0)) <|
    o1 16 (.bin .shr (.t 15) (.c (.int .u64 8))) <|
    o1 0 (.mv (.t 16)) <|
    .done)
  cc_math_bits_Len64_k1)
noncomputable def cc_math_bits_Len64_k3 : CC :=
  (.cond (.t 14) cc_math_bits_Len64_c2 .skip)
noncomputable def cc_math_bits_Len64_k4 : CC :=
  (.seq (.seq (.region <| o1 13 (.mv (.t 0)) <|
    o1 14 (.bin .geq (.t 13) (.c (.int .u64 256))) <|
    .done)
  cc_math_bits_Len64_k3)
  cc_math_bits_Len64_k0)
noncomputable def cc_math_bits_Len64_k5 : CC :=
  (.region <| o1 11 (.mv (.t 2)) <|
    o1 12 (.bin .add (.t 11) (.c (.int .i64 16))) <|
    o1 2 (.mv (.t 12)) <|
    .done)
noncomputable def cc_math_bits_Len64_c6 : CC :=
  (.seq (.region <| o1 9 (.mv (.t 0)) <|
    o1 10 (.bin .shr (.t 9) (.c (.int .u64 16))) <|
    o1 0 (.mv (.t 10)) <|
    .done)
  cc_math_bits_Len64_k5)
noncomputable def cc_math_bits_Len64_k7 : CC :=
  (.cond (.t 8) cc_math_bits_Len64_c6 .skip)
noncomputable def cc_math_bits_Len64_k8 : CC :=
  (.seq (.seq (.region <| o1 7 (.mv (.t 0)) <|
    o1 8 (.bin .geq (.t 7) (.c (.int .u64 65536))) <|
    .done)
  cc_math_bits_Len64_k7)
  cc_math_bits_Len64_k4)
noncomputable def cc_math_bits_Len64_c9 : CC :=
  (.seq (.region <| o1 5 (.mv (.t 0)) <|
    o1 6 (.bin .shr (.t 5) (.c (.int .u64 32))) <|
    o1 0 (.mv (.t 6)) <|
    .done)
  (.region <| o1 2 (.mv (.c (.int .i64 32))) <|
    .done))
noncomputable def cc_math_bits_Len64_k10 : CC :=
  (.cond (.t 4) cc_math_bits_Len64_c9 .skip)
noncomputable def cc_math_bits_Len64_k11 : CC :=
  (.seq (.seq (.region <| o1 3 (.mv (.t 0)) <|
    o1 4 (.bin .geq (.t 3) (.c (.int .u64 4294967296))) <|
    .done)
  cc_math_bits_Len64_k10)
  cc_math_bits_Len64_k8)
noncomputable def cc_math_bits_Len64 : CC :=
  (.seq (.region <| o1 2 (.mv (.c (.int .i64 0))) <|
    .done)
  cc_math_bits_Len64_k11)
noncomputable def fe_math_bits_Len64 : FE := ⟨25, [.tmp 2], cc_math_bits_Len64⟩
theorem e_math_bits_Len64 : compF prog F.math_bits_Len64 = some fe_math_bits_Len64 := by kernel_rfl

noncomputable def cc_cmp_isNaN_int_k0 : CC :=
  (.seq (.region <| o1 3 (.mv (.t 0)) <|
    o1 4 (.mv (.t 0)) <|
    o1 5 (.bin .neq (.t 3) (.t 4)) <|
    o1 2 (.mv (.t 5)) <|
    .done)
  .ret)
noncomputable def cc_cmp_isNaN_int : CC :=
  (.seq (.region <| o1 2 (.mv (.c (.bool false))) <|
    .done)
  cc_cmp_isNaN_int_k0)
noncomputable def fe_cmp_isNaN_int : FE := ⟨6, [.tmp 2], cc_cmp_isNaN_int⟩
theorem e_cmp_isNaN_int : compF prog F.cmp_isNaN_int = some fe_cmp_isNaN_int := by kernel_rfl

noncomputable def cc_strings_HasPrefix_k0 : CC :=
  (.seq (.region <| o1 5 (.mv (.t 0)) <|
    o1 6 (.mv (.t 1)) <|
    .op ⟨some 7, none, .call F.internal_stringslite_HasPrefix [(.t 5), (.t 6)]⟩ [] <|
    o1 4 (.mv (.t 7)) <|
    .done)
  .ret)
noncomputable def cc_strings_HasPrefix : CC :=
  (.seq (.region <| o1 4 (.mv (.c (.bool false))) <|
    .done)
  cc_strings_HasPrefix_k0)
noncomputable def fe_strings_HasPrefix : FE := ⟨8, [.tmp 4], cc_strings_HasPrefix⟩
theorem e_strings_HasPrefix : compF prog F.strings_HasPrefix = some fe_strings_HasPrefix := by kernel_rfl

noncomputable def cc_slices_Index_Lint_int_k0 : CC :=
  (.region <| o1 18 (.bin .add (.t 8) (.c (.int .i64 1))) <|
    o1 8 (.mv (.t 18)) <|
    .done)
noncomputable def cc_slices_Index_Lint_int_k1 : CC :=
  (.cond (.t 16) (.seq (.region <| o1 17 (.mv (.t 5)) <|
    o1 4 (.mv (.t 17)) <|
    .done)
  .ret) .skip)
noncomputable def cc_slices_Index_Lint_int_k2 : CC :=
  (.seq (.region <| o1 11 (.mv (.t 1)) <|
    o1 12 (.mv (.t 0)) <|
    o1 13 (.mv (.t 5)) <|
    o1 14 (.iaddr 1 (.t 12) (.t 13)) <|
    o1 15 (.load1 (.t 14)) <|
    o1 16 (.bin .eql (.t 11) (.t 15)) <|
    .done)
  cc_slices_Index_Lint_int_k1)
noncomputable def cc_slices_Index_Lint_int_k3 : CC :=
  (.seq (.block 1 (.seq (.region <| o1 10 (.mv (.t 8)) <|
    o1 5 (.mv (.t 10)) <|
    .done)
  cc_slices_Index_Lint_int_k2))
  cc_slices_Index_Lint_int_k0)
noncomputable def cc_slices_Index_Lint_int_k4 : CC :=
  (.seq (.cond (.t 9) .skip (.exit 0))
  cc_slices_Index_Lint_int_k3)
noncomputable def cc_slices_Index_Lint_int_l5 : CC :=
  (.seq (.region <| o1 9 (.bin .lss (.t 8) (.t 7)) <|
    .done)
  cc_slices_Index_Lint_int_k4)
noncomputable def cc_slices_Index_Lint_int_k6 : CC :=
  (.block 0 (.loop cc_slices_Index_Lint_int_l5))
noncomputable def cc_slices_Index_Lint_int_k7 : CC :=
  (.seq (.seq (.region <| o1 6 (.mv (.t 0)) <|
    o1 7 (.lenL (.t 6)) <|
    o1 8 (.mv (.c (.int .i64 0))) <|
    .done)
  cc_slices_Index_Lint_int_k6)
  (.seq (.region <| o1 4 (.mv (.c (.int .i64 (-1)))) <|
    .done)
  .ret))
noncomputable def cc_slices_Index_Lint_int : CC :=
  (.seq (.region <| o1 4 (.mv (.c (.int .i64 0))) <|
    .done)
  cc_slices_Index_Lint_int_k7)
noncomputable def fe_slices_Index_Lint_int : FE := ⟨19, [.tmp 4], cc_slices_Index_Lint_int⟩
theorem e_slices_Index_Lint_int : compF prog F.slices_Index_Lint_int = some fe_slices_Index_Lint_int := by kernel_rfl

noncomputable def cc_slices_pdqsortOrdered_int_k0 : CC :=
  (.region <| o1 122 (.mv (.t 14)) <|
    o1 123 (.bin .add (.t 122) (.c (.int .i64 1))) <|
    o1 1 (.mv (.t 123)) <|
    .done)
noncomputable def cc_slices_pdqsortOrdered_int_k1 : CC :=
  (.seq (.region <| o1 117 (.mv (.t 0)) <|
    o1 118 (.mv (.t 1)) <|
    o1 119 (.mv (.t 14)) <|
    o1 120 (.mv (.t 3)) <|
    .op ⟨some 121, none, .call F.slices_pdqsortOrdered_int [(.t 117), (.t 118), (.t 119), (.t 120)]⟩ [] <|
    .done)
  cc_slices_pdqsortOrdered_int_k0)
noncomputable def cc_slices_pdqsortOrdered_int_c2 : CC :=
  (.seq (.region <| o1 114 (.mv (.t 16)) <|
    o1 115 (.mv (.t 18)) <|
    o1 116 (.bin .geq (.t 114) (.t 115)) <|
    o1 8 (.mv (.t 116)) <|
    .done)
  cc_slices_pdqsortOrdered_int_k1)
noncomputable def cc_slices_pdqsortOrdered_int_k3 : CC :=
  (.region <| o1 133 (.mv (.t 14)) <|
    o1 2 (.mv (.t 133)) <|
    .done)
noncomputable def cc_slices_pdqsortOrdered_int_k4 : CC :=
  (.seq (.region <| o1 127 (.mv (.t 0)) <|
    o1 128 (.mv (.t 14)) <|
    o1 129 (.bin .add (.t 128) (.c (.int .i64 1))) <|
    o1 130 (.mv (.t 2)) <|
    o1 131 (.mv (.t 3)) <|
    .op ⟨some 132, none, .call F.slices_pdqsortOrdered_int [(.t 127), (.t 129), (.t 130), (.t 131)]⟩ [] <|
    .done)
  cc_slices_pdqsortOrdered_int_k3)
noncomputable def cc_slices_pdqsortOrdered_int_c5 : CC :=
  (.seq (.region <| o1 124 (.mv (.t 17)) <|
    o1 125 (.mv (.t 18)) <|
    o1 126 (.bin .geq (.t 124) (.t 125)) <|
    o1 8 (.mv (.t 126)) <|
    .done)
  cc_slices_pdqsortOrdered_int_k4)
noncomputable def cc_slices_pdqsortOrdered_int_k6 : CC :=
  (.cond (.t 113) cc_slices_pdqsortOrdered_int_c2 cc_slices_pdqsortOrdered_int_c5)
noncomputable def cc_slices_pdqsortOrdered_int_k7 : CC :=
  (.seq (.region <| o1 111 (.mv (.t 16)) <|
    o1 112 (.mv (.t 17)) <|
    o1 113 (.bin .lss (.t 111) (.t 112)) <|
    .done)
  cc_slices_pdqsortOrdered_int_k6)
noncomputable def cc_slices_pdqsortOrdered_int_k8 : CC :=
  (.seq (.region <| o1 109 (.mv (.t 10)) <|
    o1 110 (.bin .quo (.t 109) (.c (.int .i64 8))) <|
    o1 18 (.mv (.t 110)) <|
    .done)
  cc_slices_pdqsortOrdered_int_k7)
noncomputable def cc_slices_pdqsortOrdered_int_k9 : CC :=
  (.seq (.region <| o1 103 (.mv (.t 14)) <|
    o1 104 (.mv (.t 1)) <|
    o1 105 (.bin .sub (.t 103) (.t 104)) <|
    o1 106 (.mv (.t 2)) <|
    o1 107 (.mv (.t 14)) <|
    o1 108 (.bin .sub (.t 106) (.t 107)) <|
    o1 16 (.mv (.t 105)) <|
    o1 17 (.mv (.t 108)) <|
    .done)
  cc_slices_pdqsortOrdered_int_k8)
noncomputable def cc_slices_pdqsortOrdered_int_k10 : CC :=
  (.seq (.region <| o1 102 (.mv (.t 15)) <|
    o1 9 (.mv (.t 102)) <|
    .done)
  cc_slices_pdqsortOrdered_int_k9)
noncomputable def cc_slices_pdqsortOrdered_int_k11 : CC :=
  (.seq (.region <| o1 95 (.mv (.t 0)) <|
    o1 96 (.mv (.t 1)) <|
    o1 97 (.mv (.t 2)) <|
    o1 98 (.mv (.t 11)) <|
    .op ⟨some 99, none, .call F.slices_partitionOrdered_int [(.t 95), (.t 96), (.t 97), (.t 98)]⟩ [] <|
    o1 94 (.mv (.t 99)) <|
    o1 100 (.extr (.t 94) 0) <|
    o1 101 (.extr (.t 94) 1) <|
    o1 14 (.mv (.t 100)) <|
    o1 15 (.mv (.t 101)) <|
    .done)
  cc_slices_pdqsortOrdered_int_k10)
noncomputable def cc_slices_pdqsortOrdered_int_k12 : CC :=
  (.seq (.region <| o1 93 (.mv (.t 13)) <|
    o1 1 (.mv (.t 93)) <|
    .done)
  (.exit 1))
noncomputable def cc_slices_pdqsortOrdered_int_c13 : CC :=
  (.seq (.region <| o1 88 (.mv (.t 0)) <|
    o1 89 (.mv (.t 1)) <|
    o1 90 (.mv (.t 2)) <|
    o1 91 (.mv (.t 11)) <|
    .op ⟨some 92, none, .call F.slices_partitionEqualOrdered_int [(.t 88), (.t 89), (.t 90), (.t 91)]⟩ [] <|
    o1 13 (.mv (.t 92)) <|
    .done)
  cc_slices_pdqsortOrdered_int_k12)
noncomputable def cc_slices_pdqsortOrdered_int_k14 : CC :=
  (.cond (.t 87) cc_slices_pdqsortOrdered_int_c13 .skip)
noncomputable def cc_slices_pdqsortOrdered_int_k15 : CC :=
  (.seq (.seq (.region <| o1 73 (.mv (.t 1)) <|
    o1 74 (.bin .gtr (.t 73) (.c (.int .i64 0))) <|
    o1 75 (.mv (.t 74)) <|
    .op ⟨some 76, some (75, true), .prim (.mv (.t 0))⟩ [] <|
    .op ⟨some 77, some (75, true), .prim (.mv (.t 1))⟩ [] <|
    .op ⟨some 78, some (75, true), .prim (.bin .sub (.t 77) (.c (.int .i64 1)))⟩ [] <|
    .op ⟨some 79, some (75, true), .prim (.iaddr 1 (.t 76) (.t 78))⟩ [] <|
    .op ⟨some 80, some (75, true), .prim (.load1 (.t 79))⟩ [] <|
    .op ⟨some 81, some (75, true), .prim (.mv (.t 0))⟩ [] <|
    .op ⟨some 82, some (75, true), .prim (.mv (.t 11))⟩ [] <|
    .op ⟨some 83, some (75, true), .prim (.iaddr 1 (.t 81) (.t 82))⟩ [] <|
    .op ⟨some 84, some (75, true), .prim (.load1 (.t 83))⟩ [] <|
    .op ⟨some 85, some (75, true), .call F.cmp_Less_int [(.t 80), (.t 84)]⟩ [] <|
    .op ⟨some 86, some (75, true), .prim (.not (.t 85))⟩ [] <|
    o1 87 (.pick (.t 75) (.t 86) (.c (.bool false))) <|
    .done)
  cc_slices_pdqsortOrdered_int_k14)
  cc_slices_pdqsortOrdered_int_k11)
noncomputable def cc_slices_pdqsortOrdered_int_k16 : CC :=
  (.cond (.t 72) .ret .skip)
noncomputable def cc_slices_pdqsortOrdered_int_c17 : CC :=
  (.seq (.region <| o1 69 (.mv (.t 0)) <|
    o1 70 (.mv (.t 1)) <|
    o1 71 (.mv (.t 2)) <|
    .op ⟨some 72, none, .call F.slices_partialInsertionSortOrdered_int [(.t 69), (.t 70), (.t 71)]⟩ [] <|
    .done)
  cc_slices_pdqsortOrdered_int_k16)
noncomputable def cc_slices_pdqsortOrdered_int_k18 : CC :=
  (.cond (.t 68) cc_slices_pdqsortOrdered_int_c17 .skip)
noncomputable def cc_slices_pdqsortOrdered_int_k19 : CC :=
  (.seq (.seq (.region <| o1 61 (.mv (.t 8)) <|
    o1 62 (.mv (.t 61)) <|
    .op ⟨some 63, some (62, true), .prim (.mv (.t 9))⟩ [] <|
    o1 64 (.pick (.t 62) (.t 63) (.c (.bool false))) <|
    o1 65 (.mv (.t 64)) <|
    .op ⟨some 66, some (65, true), .prim (.mv (.t 12))⟩ [] <|
    .op ⟨some 67, some (65, true), .prim (.bin .eql (.t 66) (.c (.int .i64 1)))⟩ [] <|
    o1 68 (.pick (.t 65) (.t 67) (.c (.bool false))) <|
    .done)
  cc_slices_pdqsortOrdered_int_k18)
  cc_slices_pdqsortOrdered_int_k15)
noncomputable def cc_slices_pdqsortOrdered_int_k20 : CC :=
  (.seq (.region <| o1 55 (.mv (.t 2)) <|
    o1 56 (.bin .sub (.t 55) (.c (.int .i64 1))) <|
    o1 57 (.mv (.t 11)) <|
    o1 58 (.mv (.t 1)) <|
    o1 59 (.bin .sub (.t 57) (.t 58)) <|
    o1 60 (.bin .sub (.t 56) (.t 59)) <|
    o1 11 (.mv (.t 60)) <|
    .done)
  (.region <| o1 12 (.mv (.c (.int .i64 1))) <|
    .done))
noncomputable def cc_slices_pdqsortOrdered_int_c21 : CC :=
  (.seq (.region <| o1 51 (.mv (.t 0)) <|
    o1 52 (.mv (.t 1)) <|
    o1 53 (.mv (.t 2)) <|
    .op ⟨some 54, none, .call F.slices_reverseRangeOrdered_int [(.t 51), (.t 52), (.t 53)]⟩ [] <|
    .done)
  cc_slices_pdqsortOrdered_int_k20)
noncomputable def cc_slices_pdqsortOrdered_int_k22 : CC :=
  (.cond (.t 50) cc_slices_pdqsortOrdered_int_c21 .skip)
noncomputable def cc_slices_pdqsortOrdered_int_k23 : CC :=
  (.seq (.seq (.region <| o1 49 (.mv (.t 12)) <|
    o1 50 (.bin .eql (.t 49) (.c (.int .i64 2))) <|
    .done)
  cc_slices_pdqsortOrdered_int_k22)
  cc_slices_pdqsortOrdered_int_k19)
noncomputable def cc_slices_pdqsortOrdered_int_k24 : CC :=
  (.seq (.region <| o1 43 (.mv (.t 0)) <|
    o1 44 (.mv (.t 1)) <|
    o1 45 (.mv (.t 2)) <|
    .op ⟨some 46, none, .call F.slices_choosePivotOrdered_int [(.t 43), (.t 44), (.t 45)]⟩ [] <|
    o1 42 (.mv (.t 46)) <|
    o1 47 (.extr (.t 42) 0) <|
    o1 48 (.extr (.t 42) 1) <|
    o1 11 (.mv (.t 47)) <|
    o1 12 (.mv (.t 48)) <|
    .done)
  cc_slices_pdqsortOrdered_int_k23)
noncomputable def cc_slices_pdqsortOrdered_int_k25 : CC :=
  (.region <| o1 40 (.mv (.t 3)) <|
    o1 41 (.bin .sub (.t 40) (.c (.int .i64 1))) <|
    o1 3 (.mv (.t 41)) <|
    .done)
noncomputable def cc_slices_pdqsortOrdered_int_c26 : CC :=
  (.seq (.region <| o1 36 (.mv (.t 0)) <|
    o1 37 (.mv (.t 1)) <|
    o1 38 (.mv (.t 2)) <|
    .op ⟨some 39, none, .call F.slices_breakPatternsOrdered_int [(.t 36), (.t 37), (.t 38)]⟩ [] <|
    .done)
  cc_slices_pdqsortOrdered_int_k25)
noncomputable def cc_slices_pdqsortOrdered_int_k27 : CC :=
  (.cond (.t 35) cc_slices_pdqsortOrdered_int_c26 .skip)
noncomputable def cc_slices_pdqsortOrdered_int_k28 : CC :=
  (.seq (.seq (.region <| o1 34 (.mv (.t 8)) <|
    o1 35 (.not (.t 34)) <|
    .done)
  cc_slices_pdqsortOrdered_int_k27)
  cc_slices_pdqsortOrdered_int_k24)
noncomputable def cc_slices_pdqsortOrdered_int_c29 : CC :=
  (.seq (.region <| o1 30 (.mv (.t 0)) <|
    o1 31 (.mv (.t 1)) <|
    o1 32 (.mv (.t 2)) <|
    .op ⟨some 33, none, .call F.slices_heapSortOrdered_int [(.t 30), (.t 31), (.t 32)]⟩ [] <|
    .done)
  .ret)
noncomputable def cc_slices_pdqsortOrdered_int_k30 : CC :=
  (.cond (.t 29) cc_slices_pdqsortOrdered_int_c29 .skip)
noncomputable def cc_slices_pdqsortOrdered_int_k31 : CC :=
  (.seq (.seq (.region <| o1 28 (.mv (.t 3)) <|
    o1 29 (.bin .eql (.t 28) (.c (.int .i64 0))) <|
    .done)
  cc_slices_pdqsortOrdered_int_k30)
  cc_slices_pdqsortOrdered_int_k28)
noncomputable def cc_slices_pdqsortOrdered_int_c32 : CC :=
  (.seq (.region <| o1 24 (.mv (.t 0)) <|
    o1 25 (.mv (.t 1)) <|
    o1 26 (.mv (.t 2)) <|
    .op ⟨some 27, none, .call F.slices_insertionSortOrdered_int [(.t 24), (.t 25), (.t 26)]⟩ [] <|
    .done)
  .ret)
noncomputable def cc_slices_pdqsortOrdered_int_k33 : CC :=
  (.cond (.t 23) cc_slices_pdqsortOrdered_int_c32 .skip)
noncomputable def cc_slices_pdqsortOrdered_int_k34 : CC :=
  (.seq (.seq (.region <| o1 22 (.mv (.t 10)) <|
    o1 23 (.bin .leq (.t 22) (.c (.int .i64 12))) <|
    .done)
  cc_slices_pdqsortOrdered_int_k33)
  cc_slices_pdqsortOrdered_int_k31)
noncomputable def cc_slices_pdqsortOrdered_int_l35 : CC :=
  (.block 1 (.seq (.region <| o1 19 (.mv (.t 2)) <|
    o1 20 (.mv (.t 1)) <|
    o1 21 (.bin .sub (.t 19) (.t 20)) <|
    o1 10 (.mv (.t 21)) <|
    .done)
  cc_slices_pdqsortOrdered_int_k34))
noncomputable def cc_slices_pdqsortOrdered_int_k36 : CC :=
  (.block 0 (.loop cc_slices_pdqsortOrdered_int_l35))
noncomputable def cc_slices_pdqsortOrdered_int_k37 : CC :=
  (.seq (.region <| o1 9 (.mv (.c (.bool true))) <|
    .done)
  cc_slices_pdqsortOrdered_int_k36)
noncomputable def cc_slices_pdqsortOrdered_int : CC :=
  (.seq (.region <| o1 8 (.mv (.c (.bool true))) <|
    .done)
  cc_slices_pdqsortOrdered_int_k37)
noncomputable def fe_slices_pdqsortOrdered_int : FE := ⟨134, [], cc_slices_pdqsortOrdered_int⟩
theorem e_slices_pdqsortOrdered_int : compF prog F.slices_pdqsortOrdered_int = some fe_slices_pdqsortOrdered_int := by kernel_rfl

noncomputable def cc_slices_DeleteFunc_Lint_int_k0 : CC :=
  (.seq (.region <| o1 39 (.mv (.t 0)) <|
    o1 40 (.mv (.t 5)) <|
    o1 41 (.slsl 1 (.t 39) none (some (.t 40))) <|
    o1 4 (.mv (.t 41)) <|
    .done)
  .ret)
noncomputable def cc_slices_DeleteFunc_Lint_int_k1 : CC :=
  (.seq (.region <| o1 36 (.mv (.t 0)) <|
    o1 37 (.mv (.t 5)) <|
    o1 38 (.slsl 1 (.t 36) (some (.t 37)) none) <|
    .op ⟨none, none, .prim (.clr 1 [(.int .i64 0)] (.t 38))⟩ [] <|
    .done)
  cc_slices_DeleteFunc_Lint_int_k0)
noncomputable def cc_slices_DeleteFunc_Lint_int_k2 : CC :=
  (.region <| o1 20 (.mv (.t 6)) <|
    o1 21 (.bin .add (.t 20) (.c (.int .i64 1))) <|
    o1 6 (.mv (.t 21)) <|
    .done)
noncomputable def cc_slices_DeleteFunc_Lint_int_k3 : CC :=
  (.region <| o1 34 (.mv (.t 5)) <|
    o1 35 (.bin .add (.t 34) (.c (.int .i64 1))) <|
    o1 5 (.mv (.t 35)) <|
    .done)
noncomputable def cc_slices_DeleteFunc_Lint_int_c4 : CC :=
  (.seq (.region <| o1 30 (.mv (.t 0)) <|
    o1 31 (.mv (.t 5)) <|
    o1 32 (.mv (.t 7)) <|
    o1 33 (.iaddr 1 (.t 30) (.t 31)) <|
    .op ⟨none, none, .prim (.store 1 (.t 33) (.t 32))⟩ [] <|
    .done)
  cc_slices_DeleteFunc_Lint_int_k3)
noncomputable def cc_slices_DeleteFunc_Lint_int_k5 : CC :=
  (.cond (.t 29) cc_slices_DeleteFunc_Lint_int_c4 .skip)
noncomputable def cc_slices_DeleteFunc_Lint_int_k6 : CC :=
  (.seq (.region <| o1 26 (.mv (.t 1)) <|
    o1 27 (.mv (.t 7)) <|
    .op ⟨some 28, none, .dcall (.t 26) [(.t 27)]⟩ [] <|
    o1 29 (.not (.t 28)) <|
    .done)
  cc_slices_DeleteFunc_Lint_int_k5)
noncomputable def cc_slices_DeleteFunc_Lint_int_k7 : CC :=
  (.seq (.block 1 (.seq (.region <| o1 22 (.mv (.t 0)) <|
    o1 23 (.mv (.t 6)) <|
    o1 24 (.iaddr 1 (.t 22) (.t 23)) <|
    o1 25 (.load1 (.t 24)) <|
    o1 7 (.mv (.t 25)) <|
    .done)
  cc_slices_DeleteFunc_Lint_int_k6))
  cc_slices_DeleteFunc_Lint_int_k2)
noncomputable def cc_slices_DeleteFunc_Lint_int_k8 : CC :=
  (.cond (.t 19) .skip (.exit 0))
noncomputable def cc_slices_DeleteFunc_Lint_int_l9 : CC :=
  (.seq (.seq (.region <| o1 16 (.mv (.t 6)) <|
    o1 17 (.mv (.t 0)) <|
    o1 18 (.lenL (.t 17)) <|
    o1 19 (.bin .lss (.t 16) (.t 18)) <|
    .done)
  cc_slices_DeleteFunc_Lint_int_k8)
  cc_slices_DeleteFunc_Lint_int_k7)
noncomputable def cc_slices_DeleteFunc_Lint_int_k10 : CC :=
  (.block 0 (.loop cc_slices_DeleteFunc_Lint_int_l9))
noncomputable def cc_slices_DeleteFunc_Lint_int_k11 : CC :=
  (.seq (.seq (.region <| o1 14 (.mv (.t 5)) <|
    o1 15 (.bin .add (.t 14) (.c (.int .i64 1))) <|
    o1 6 (.mv (.t 15)) <|
    .done)
  cc_slices_DeleteFunc_Lint_int_k10)
  cc_slices_DeleteFunc_Lint_int_k1)
noncomputable def cc_slices_DeleteFunc_Lint_int_k12 : CC :=
  (.cond (.t 12) (.seq (.region <| o1 13 (.mv (.t 0)) <|
    o1 4 (.mv (.t 13)) <|
    .done)
  .ret) .skip)
noncomputable def cc_slices_DeleteFunc_Lint_int_k13 : CC :=
  (.seq (.seq (.region <| o1 11 (.mv (.t 5)) <|
    o1 12 (.bin .eql (.t 11) (.c (.int .i64 (-1)))) <|
    .done)
  cc_slices_DeleteFunc_Lint_int_k12)
  cc_slices_DeleteFunc_Lint_int_k11)
noncomputable def cc_slices_DeleteFunc_Lint_int_k14 : CC :=
  (.seq (.region <| o1 8 (.mv (.t 0)) <|
    o1 9 (.mv (.t 1)) <|
    .op ⟨some 10, none, .call F.slices_IndexFunc_Lint_int [(.t 8), (.t 9)]⟩ [] <|
    o1 5 (.mv (.t 10)) <|
    .done)
  cc_slices_DeleteFunc_Lint_int_k13)
noncomputable def cc_slices_DeleteFunc_Lint_int : CC :=
  (.seq (.region <| o1 4 (.mv (.c .snil)) <|
    .done)
  cc_slices_DeleteFunc_Lint_int_k14)
noncomputable def fe_slices_DeleteFunc_Lint_int : FE := ⟨42, [.tmp 4], cc_slices_DeleteFunc_Lint_int⟩
theorem e_slices_DeleteFunc_Lint_int : compF prog F.slices_DeleteFunc_Lint_int = some fe_slices_DeleteFunc_Lint_int := by kernel_rfl

noncomputable def cc_slices_Clone_Lint_int_k0 : CC :=
  (.seq (.region <| o1 5 (.bslice 3 [(.int .i64 0)] 1 0 []) <|
    o1 6 (.mv (.t 0)) <|
    o1 7 (.app 1 (.t 5) (.t 6)) <|
    o1 2 (.mv (.t 7)) <|
    .done)
  .ret)
noncomputable def cc_slices_Clone_Lint_int_k1 : CC :=
  (.cond (.t 4) (.seq (.region <| o1 2 (.mv (.c .snil)) <|
    .done)
  .ret) .skip)
noncomputable def cc_slices_Clone_Lint_int_k2 : CC :=
  (.seq (.seq (.region <| o1 3 (.mv (.t 0)) <|
    o1 4 (.eq2 2 false (.t 3) (.c .snil)) <|
    .done)
  cc_slices_Clone_Lint_int_k1)
  cc_slices_Clone_Lint_int_k0)
noncomputable def cc_slices_Clone_Lint_int : CC :=
  (.seq (.region <| o1 2 (.mv (.c .snil)) <|
    .done)
  cc_slices_Clone_Lint_int_k2)
noncomputable def fe_slices_Clone_Lint_int : FE := ⟨8, [.tmp 2], cc_slices_Clone_Lint_int⟩
theorem e_slices_Clone_Lint_int : compF prog F.slices_Clone_Lint_int = some fe_slices_Clone_Lint_int := by kernel_rfl

noncomputable def cc_view_Both__1_k0 : CC :=
  (.seq (.region <| o1 4 (.load1 (.t 1)) <|
    o1 5 (.mv (.t 0)) <|
    .op ⟨some 6, none, .call F.view_Has [(.t 4), (.t 5)]⟩ [] <|
    o1 7 (.not (.t 6)) <|
    o1 3 (.mv (.t 7)) <|
    .done)
  .ret)
noncomputable def cc_view_Both__1 : CC :=
  (.seq (.region <| o1 3 (.mv (.c (.bool false))) <|
    .done)
  cc_view_Both__1_k0)
noncomputable def fe_view_Both__1 : FE := ⟨8, [.tmp 3], cc_view_Both__1⟩
theorem e_view_Both__1 : compF prog F.view_Both__1 = some fe_view_Both__1 := by kernel_rfl

noncomputable def cc_internal_strconv_small_k0 : CC :=
  (.seq (.region <| o1 9 (.mv (.t 0)) <|
    o1 10 (.bin .mul (.t 9) (.c (.int .i64 2))) <|
    o1 11 (.mv (.t 0)) <|
    o1 12 (.bin .mul (.t 11) (.c (.int .i64 2))) <|
    o1 13 (.bin .add (.t 12) (.c (.int .i64 2))) <|
    o1 14 (.slstr (.c (.str [48, 48, 48, 49, 48, 50, 48, 51, 48, 52, 48, 53, 48, 54, 48, 55, 48, 56, 48, 57, 49, 48, 49, 49, 49, 50, 49, 51, 49, 52, 49, 53, 49, 54, 49, 55, 49, 56, 49, 57, 50, 48, 50, 49, 50, 50, 50, 51, 50, 52, 50, 53, 50, 54, 50, 55, 50, 56, 50, 57, 51, 48, 51, 49, 51, 50, 51, 51, 51, 52, 51, 53, 51, 54, 51, 55, 51, 56, 51, 57, 52, 48, 52, 49, 52, 50, 52, 51, 52, 52, 52, 53, 52, 54, 52, 55, 52, 56, 52, 57, 53, 48, 53, 49, 53, 50, 53, 51, 53, 52, 53, 53, 53, 54, 53, 55, 53, 56, 53, 57, 54, 48, 54, 49, 54, 50, 54, 51, 54, 52, 54, 53, 54, 54, 54, 55, 54, 56, 54, 57, 55, 48, 55, 49, 55, 50, 55, 51, 55, 52, 55, 53, 55, 54, 55, 55, 55, 56, 55, 57, 56, 48, 56, 49, 56, 50, 56, 51, 56, 52, 56, 53, 56, 54, 56, 55, 56, 56, 56, 57, 57, 48, 57, 49, 57, 50, 57, 51, 57, 52, 57, 53, 57, 54, 57, 55, 57, 56, 57, 57])) (some (.t 10)) (some (.t 13))) <|
    o1 2 (.mv (.t 14)) <|
    .done)
  .ret)
noncomputable def cc_internal_strconv_small_c1 : CC :=
  (.seq (.region <| o1 5 (.mv (.t 0)) <|
    o1 6 (.mv (.t 0)) <|
    o1 7 (.bin .add (.t 6) (.c (.int .i64 1))) <|
    o1 8 (.slstr (.c (.str [48, 49, 50, 51, 52, 53, 54, 55, 56, 57, 97, 98, 99, 100, 101, 102, 103, 104, 105, 106, 107, 108, 109, 110, 111, 112, 113, 114, 115, 116, 117, 118, 119, 120, 121, 122])) (some (.t 5)) (some (.t 7))) <|
    o1 2 (.mv (.t 8)) <|
    .done)
  .ret)
noncomputable def cc_internal_strconv_small_k2 : CC :=
  (.cond (.t 4) cc_internal_strconv_small_c1 .skip)
noncomputable def cc_internal_strconv_small_k3 : CC :=
  (.seq (.seq (.region <| o1 3 (.mv (.t 0)) <|
    o1 4 (.bin .lss (.t 3) (.c (.int .i64 10))) <|
    .done)
  cc_internal_strconv_small_k2)
  cc_internal_strconv_small_k0)
noncomputable def cc_internal_strconv_small : CC :=
  (.seq (.region <| o1 2 (.mv (.c (.str []))) <|
    .done)
  cc_internal_strconv_small_k3)
noncomputable def fe_internal_strconv_small : FE := ⟨15, [.tmp 2], cc_internal_strconv_small⟩
theorem e_internal_strconv_small : compF prog F.internal_strconv_small = some fe_internal_strconv_small := by kernel_rfl

noncomputable def cc_internal_strconv_formatBase10_c0 : CC :=
  (.region <| o1 162 (.mv (.t 0)) <|
    o1 163 (.mv (.t 12)) <|
    o1 164 (.bin .add (.c (.int .u32 48)) (.t 163)) <|
    o1 165 (.convI .u8 (.t 164)) <|
    o1 166 (.iaddr 1 (.t 162) (.c (.int .i64 0))) <|
    .op ⟨none, none, .prim (.store 1 (.t 166) (.t 165))⟩ [] <|
    .done)
noncomputable def cc_internal_strconv_formatBase10_k1 : CC :=
  (.cond (.t 161) cc_internal_strconv_formatBase10_c0 .skip)
noncomputable def cc_internal_strconv_formatBase10_k2 : CC :=
  (.seq (.region <| o1 160 (.mv (.t 4)) <|
    o1 161 (.bin .gtr (.t 160) (.c (.int .i64 0))) <|
    .done)
  cc_internal_strconv_formatBase10_k1)
noncomputable def cc_internal_strconv_formatBase10_k3 : CC :=
  (.region <| o1 158 (.mv (.t 4)) <|
    o1 159 (.bin .sub (.t 158) (.c (.int .i64 2))) <|
    o1 4 (.mv (.t 159)) <|
    .done)
noncomputable def cc_internal_strconv_formatBase10_k4 : CC :=
  (.seq (.region <| o1 145 (.mv (.t 0)) <|
    o1 146 (.mv (.t 4)) <|
    o1 147 (.bin .sub (.t 146) (.c (.int .i64 1))) <|
    o1 148 (.mv (.t 0)) <|
    o1 149 (.mv (.t 4)) <|
    o1 150 (.bin .sub (.t 149) (.c (.int .i64 2))) <|
    o1 151 (.mv (.t 16)) <|
    o1 152 (.bin .add (.t 151) (.c (.int .u32 1))) <|
    o1 153 (.istr (.c (.str [48, 48, 48, 49, 48, 50, 48, 51, 48, 52, 48, 53, 48, 54, 48, 55, 48, 56, 48, 57, 49, 48, 49, 49, 49, 50, 49, 51, 49, 52, 49, 53, 49, 54, 49, 55, 49, 56, 49, 57, 50, 48, 50, 49, 50, 50, 50, 51, 50, 52, 50, 53, 50, 54, 50, 55, 50, 56, 50, 57, 51, 48, 51, 49, 51, 50, 51, 51, 51, 52, 51, 53, 51, 54, 51, 55, 51, 56, 51, 57, 52, 48, 52, 49, 52, 50, 52, 51, 52, 52, 52, 53, 52, 54, 52, 55, 52, 56, 52, 57, 53, 48, 53, 49, 53, 50, 53, 51, 53, 52, 53, 53, 53, 54, 53, 55, 53, 56, 53, 57, 54, 48, 54, 49, 54, 50, 54, 51, 54, 52, 54, 53, 54, 54, 54, 55, 54, 56, 54, 57, 55, 48, 55, 49, 55, 50, 55, 51, 55, 52, 55, 53, 55, 54, 55, 55, 55, 56, 55, 57, 56, 48, 56, 49, 56, 50, 56, 51, 56, 52, 56, 53, 56, 54, 56, 55, 56, 56, 56, 57, 57, 48, 57, 49, 57, 50, 57, 51, 57, 52, 57, 53, 57, 54, 57, 55, 57, 56, 57, 57])) (.t 152)) <|
    o1 154 (.mv (.t 16)) <|
    o1 155 (.istr (.c (.str [48, 48, 48, 49, 48, 50, 48, 51, 48, 52, 48, 53, 48, 54, 48, 55, 48, 56, 48, 57, 49, 48, 49, 49, 49, 50, 49, 51, 49, 52, 49, 53, 49, 54, 49, 55, 49, 56, 49, 57, 50, 48, 50, 49, 50, 50, 50, 51, 50, 52, 50, 53, 50, 54, 50, 55, 50, 56, 50, 57, 51, 48, 51, 49, 51, 50, 51, 51, 51, 52, 51, 53, 51, 54, 51, 55, 51, 56, 51, 57, 52, 48, 52, 49, 52, 50, 52, 51, 52, 52, 52, 53, 52, 54, 52, 55, 52, 56, 52, 57, 53, 48, 53, 49, 53, 50, 53, 51, 53, 52, 53, 53, 53, 54, 53, 55, 53, 56, 53, 57, 54, 48, 54, 49, 54, 50, 54, 51, 54, 52, 54, 53, 54, 54, 54, 55, 54, 56, 54, 57, 55, 48, 55, 49, 55, 50, 55, 51, 55, 52, 55, 53, 55, 54, 55, 55, 55, 56, 55, 57, 56, 48, 56, 49, 56, 50, 56, 51, 56, 52, 56, 53, 56, 54, 56, 55, 56, 56, 56, 57, 57, 48, 57, 49, 57, 50, 57, 51, 57, 52, 57, 53, 57, 54, 57, 55, 57, 56, 57, 57])) (.t 154)) <|
    o1 156 (.iaddr 1 (.t 145) (.t 147)) <|
    .op ⟨none, none, .prim (.store 1 (.t 156) (.t 153))⟩ [] <|
    o1 157 (.iaddr 1 (.t 148) (.t 150)) <|
    .op ⟨none, none, .prim (.store 1 (.t 157) (.t 155))⟩ [] <|
    .done)
  cc_internal_strconv_formatBase10_k3)
noncomputable def cc_internal_strconv_formatBase10_k5 : CC :=
  (.seq (.region <| o1 143 (.mv (.t 12)) <|
    o1 144 (.bin .quo (.t 143) (.c (.int .u32 100))) <|
    o1 12 (.mv (.t 144)) <|
    .done)
  cc_internal_strconv_formatBase10_k4)
noncomputable def cc_internal_strconv_formatBase10_c6 : CC :=
  (.seq (.region <| o1 140 (.mv (.t 12)) <|
    o1 141 (.bin .rem (.t 140) (.c (.int .u32 100))) <|
    o1 142 (.bin .mul (.t 141) (.c (.int .u32 2))) <|
    o1 16 (.mv (.t 142)) <|
    .done)
  cc_internal_strconv_formatBase10_k5)
noncomputable def cc_internal_strconv_formatBase10_k7 : CC :=
  (.cond (.t 139) cc_internal_strconv_formatBase10_c6 .skip)
noncomputable def cc_internal_strconv_formatBase10_k8 : CC :=
  (.seq (.seq (.region <| o1 138 (.mv (.t 4)) <|
    o1 139 (.bin .geq (.t 138) (.c (.int .i64 2))) <|
    .done)
  cc_internal_strconv_formatBase10_k7)
  cc_internal_strconv_formatBase10_k2)
noncomputable def cc_internal_strconv_formatBase10_k9 : CC :=
  (.region <| o1 136 (.mv (.t 4)) <|
    o1 137 (.bin .sub (.t 136) (.c (.int .i64 4))) <|
    o1 4 (.mv (.t 137)) <|
    .done)
noncomputable def cc_internal_strconv_formatBase10_k10 : CC :=
  (.seq (.region <| o1 123 (.mv (.t 0)) <|
    o1 124 (.mv (.t 4)) <|
    o1 125 (.bin .sub (.t 124) (.c (.int .i64 3))) <|
    o1 126 (.mv (.t 0)) <|
    o1 127 (.mv (.t 4)) <|
    o1 128 (.bin .sub (.t 127) (.c (.int .i64 4))) <|
    o1 129 (.mv (.t 14)) <|
    o1 130 (.bin .add (.t 129) (.c (.int .u32 1))) <|
    o1 131 (.istr (.c (.str [48, 48, 48, 49, 48, 50, 48, 51, 48, 52, 48, 53, 48, 54, 48, 55, 48, 56, 48, 57, 49, 48, 49, 49, 49, 50, 49, 51, 49, 52, 49, 53, 49, 54, 49, 55, 49, 56, 49, 57, 50, 48, 50, 49, 50, 50, 50, 51, 50, 52, 50, 53, 50, 54, 50, 55, 50, 56, 50, 57, 51, 48, 51, 49, 51, 50, 51, 51, 51, 52, 51, 53, 51, 54, 51, 55, 51, 56, 51, 57, 52, 48, 52, 49, 52, 50, 52, 51, 52, 52, 52, 53, 52, 54, 52, 55, 52, 56, 52, 57, 53, 48, 53, 49, 53, 50, 53, 51, 53, 52, 53, 53, 53, 54, 53, 55, 53, 56, 53, 57, 54, 48, 54, 49, 54, 50, 54, 51, 54, 52, 54, 53, 54, 54, 54, 55, 54, 56, 54, 57, 55, 48, 55, 49, 55, 50, 55, 51, 55, 52, 55, 53, 55, 54, 55, 55, 55, 56, 55, 57, 56, 48, 56, 49, 56, 50, 56, 51, 56, 52, 56, 53, 56, 54, 56, 55, 56, 56, 56, 57, 57, 48, 57, 49, 57, 50, 57, 51, 57, 52, 57, 53, 57, 54, 57, 55, 57, 56, 57, 57])) (.t 130)) <|
    o1 132 (.mv (.t 14)) <|
    o1 133 (.istr (.c (.str [48, 48, 48, 49, 48, 50, 48, 51, 48, 52, 48, 53, 48, 54, 48, 55, 48, 56, 48, 57, 49, 48, 49, 49, 49, 50, 49, 51, 49, 52, 49, 53, 49, 54, 49, 55, 49, 56, 49, 57, 50, 48, 50, 49, 50, 50, 50, 51, 50, 52, 50, 53, 50, 54, 50, 55, 50, 56, 50, 57, 51, 48, 51, 49, 51, 50, 51, 51, 51, 52, 51, 53, 51, 54, 51, 55, 51, 56, 51, 57, 52, 48, 52, 49, 52, 50, 52, 51, 52, 52, 52, 53, 52, 54, 52, 55, 52, 56, 52, 57, 53, 48, 53, 49, 53, 50, 53, 51, 53, 52, 53, 53, 53, 54, 53, 55, 53, 56, 53, 57, 54, 48, 54, 49, 54, 50, 54, 51, 54, 52, 54, 53, 54, 54, 54, 55, 54, 56, 54, 57, 55, 48, 55, 49, 55, 50, 55, 51, 55, 52, 55, 53, 55, 54, 55, 55, 55, 56, 55, 57, 56, 48, 56, 49, 56, 50, 56, 51, 56, 52, 56, 53, 56, 54, 56, 55, 56, 56, 56, 57, 57, 48, 57, 49, 57, 50, 57, 51, 57, 52, 57, 53, 57, 54, 57, 55, 57, 56, 57, 57])) (.t 132)) <|
    o1 134 (.iaddr 1 (.t 123) (.t 125)) <|
    .op ⟨none, none, .prim (.store 1 (.t 134) (.t 131))⟩ [] <|
    o1 135 (.iaddr 1 (.t 126) (.t 128)) <|
    .op ⟨none, none, .prim (.store 1 (.t 135) (.t 133))⟩ [] <|
    .done)
  cc_internal_strconv_formatBase10_k9)
noncomputable def cc_internal_strconv_formatBase10_k11 : CC :=
  (.seq (.region <| o1 110 (.mv (.t 0)) <|
    o1 111 (.mv (.t 4)) <|
    o1 112 (.bin .sub (.t 111) (.c (.int .i64 1))) <|
    o1 113 (.mv (.t 0)) <|
    o1 114 (.mv (.t 4)) <|
    o1 115 (.bin .sub (.t 114) (.c (.int .i64 2))) <|
    o1 116 (.mv (.t 15)) <|
    o1 117 (.bin .add (.t 116) (.c (.int .u32 1))) <|
    o1 118 (.istr (.c (.str [48, 48, 48, 49, 48, 50, 48, 51, 48, 52, 48, 53, 48, 54, 48, 55, 48, 56, 48, 57, 49, 48, 49, 49, 49, 50, 49, 51, 49, 52, 49, 53, 49, 54, 49, 55, 49, 56, 49, 57, 50, 48, 50, 49, 50, 50, 50, 51, 50, 52, 50, 53, 50, 54, 50, 55, 50, 56, 50, 57, 51, 48, 51, 49, 51, 50, 51, 51, 51, 52, 51, 53, 51, 54, 51, 55, 51, 56, 51, 57, 52, 48, 52, 49, 52, 50, 52, 51, 52, 52, 52, 53, 52, 54, 52, 55, 52, 56, 52, 57, 53, 48, 53, 49, 53, 50, 53, 51, 53, 52, 53, 53, 53, 54, 53, 55, 53, 56, 53, 57, 54, 48, 54, 49, 54, 50, 54, 51, 54, 52, 54, 53, 54, 54, 54, 55, 54, 56, 54, 57, 55, 48, 55, 49, 55, 50, 55, 51, 55, 52, 55, 53, 55, 54, 55, 55, 55, 56, 55, 57, 56, 48, 56, 49, 56, 50, 56, 51, 56, 52, 56, 53, 56, 54, 56, 55, 56, 56, 56, 57, 57, 48, 57, 49, 57, 50, 57, 51, 57, 52, 57, 53, 57, 54, 57, 55, 57, 56, 57, 57])) (.t 117)) <|
    o1 119 (.mv (.t 15)) <|
    o1 120 (.istr (.c (.str [48, 48, 48, 49, 48, 50, 48, 51, 48, 52, 48, 53, 48, 54, 48, 55, 48, 56, 48, 57, 49, 48, 49, 49, 49, 50, 49, 51, 49, 52, 49, 53, 49, 54, 49, 55, 49, 56, 49, 57, 50, 48, 50, 49, 50, 50, 50, 51, 50, 52, 50, 53, 50, 54, 50, 55, 50, 56, 50, 57, 51, 48, 51, 49, 51, 50, 51, 51, 51, 52, 51, 53, 51, 54, 51, 55, 51, 56, 51, 57, 52, 48, 52, 49, 52, 50, 52, 51, 52, 52, 52, 53, 52, 54, 52, 55, 52, 56, 52, 57, 53, 48, 53, 49, 53, 50, 53, 51, 53, 52, 53, 53, 53, 54, 53, 55, 53, 56, 53, 57, 54, 48, 54, 49, 54, 50, 54, 51, 54, 52, 54, 53, 54, 54, 54, 55, 54, 56, 54, 57, 55, 48, 55, 49, 55, 50, 55, 51, 55, 52, 55, 53, 55, 54, 55, 55, 55, 56, 55, 57, 56, 48, 56, 49, 56, 50, 56, 51, 56, 52, 56, 53, 56, 54, 56, 55, 56, 56, 56, 57, 57, 48, 57, 49, 57, 50, 57, 51, 57, 52, 57, 53, 57, 54, 57, 55, 57, 56, 57, 57])) (.t 119)) <|
    o1 121 (.iaddr 1 (.t 110) (.t 112)) <|
    .op ⟨none, none, .prim (.store 1 (.t 121) (.t 118))⟩ [] <|
    o1 122 (.iaddr 1 (.t 113) (.t 115)) <|
    .op ⟨none, none, .prim (.store 1 (.t 122) (.t 120))⟩ [] <|
    .done)
  cc_internal_strconv_formatBase10_k10)
noncomputable def cc_internal_strconv_formatBase10_k12 : CC :=
  (.seq (.region <| o1 104 (.mv (.t 13)) <|
    o1 105 (.bin .quo (.t 104) (.c (.int .u32 100))) <|
    o1 106 (.bin .mul (.t 105) (.c (.int .u32 2))) <|
    o1 107 (.mv (.t 13)) <|
    o1 108 (.bin .rem (.t 107) (.c (.int .u32 100))) <|
    o1 109 (.bin .mul (.t 108) (.c (.int .u32 2))) <|
    o1 14 (.mv (.t 106)) <|
    o1 15 (.mv (.t 109)) <|
    .done)
  cc_internal_strconv_formatBase10_k11)
noncomputable def cc_internal_strconv_formatBase10_k13 : CC :=
  (.seq (.region <| o1 102 (.mv (.t 12)) <|
    o1 103 (.bin .quo (.t 102) (.c (.int .u32 10000))) <|
    o1 12 (.mv (.t 103)) <|
    .done)
  cc_internal_strconv_formatBase10_k12)
noncomputable def cc_internal_strconv_formatBase10_c14 : CC :=
  (.seq (.region <| o1 100 (.mv (.t 12)) <|
    o1 101 (.bin .rem (.t 100) (.c (.int .u32 10000))) <|
    o1 13 (.mv (.t 101)) <|
    .done)
  cc_internal_strconv_formatBase10_k13)
noncomputable def cc_internal_strconv_formatBase10_k15 : CC :=
  (.cond (.t 99) cc_internal_strconv_formatBase10_c14 .skip)
noncomputable def cc_internal_strconv_formatBase10_k16 : CC :=
  (.seq (.seq (.region <| o1 98 (.mv (.t 4)) <|
    o1 99 (.bin .geq (.t 98) (.c (.int .i64 4))) <|
    .done)
  cc_internal_strconv_formatBase10_k15)
  cc_internal_strconv_formatBase10_k8)
noncomputable def cc_internal_strconv_formatBase10_k17 : CC :=
  (.seq (.region <| o1 96 (.mv (.t 1)) <|
    o1 97 (.convI .u32 (.t 96)) <|
    o1 12 (.mv (.t 97)) <|
    .done)
  cc_internal_strconv_formatBase10_k16)
noncomputable def cc_internal_strconv_formatBase10_k18 : CC :=
  (.region <| o1 94 (.mv (.t 4)) <|
    o1 95 (.bin .sub (.t 94) (.c (.int .i64 8))) <|
    o1 4 (.mv (.t 95)) <|
    .done)
noncomputable def cc_internal_strconv_formatBase10_k19 : CC :=
  (.seq (.region <| o1 81 (.mv (.t 0)) <|
    o1 82 (.mv (.t 4)) <|
    o1 83 (.bin .sub (.t 82) (.c (.int .i64 7))) <|
    o1 84 (.mv (.t 0)) <|
    o1 85 (.mv (.t 4)) <|
    o1 86 (.bin .sub (.t 85) (.c (.int .i64 8))) <|
    o1 87 (.mv (.t 10)) <|
    o1 88 (.bin .add (.t 87) (.c (.int .u32 1))) <|
    o1 89 (.istr (.c (.str [48, 48, 48, 49, 48, 50, 48, 51, 48, 52, 48, 53, 48, 54, 48, 55, 48, 56, 48, 57, 49, 48, 49, 49, 49, 50, 49, 51, 49, 52, 49, 53, 49, 54, 49, 55, 49, 56, 49, 57, 50, 48, 50, 49, 50, 50, 50, 51, 50, 52, 50, 53, 50, 54, 50, 55, 50, 56, 50, 57, 51, 48, 51, 49, 51, 50, 51, 51, 51, 52, 51, 53, 51, 54, 51, 55, 51, 56, 51, 57, 52, 48, 52, 49, 52, 50, 52, 51, 52, 52, 52, 53, 52, 54, 52, 55, 52, 56, 52, 57, 53, 48, 53, 49, 53, 50, 53, 51, 53, 52, 53, 53, 53, 54, 53, 55, 53, 56, 53, 57, 54, 48, 54, 49, 54, 50, 54, 51, 54, 52, 54, 53, 54, 54, 54, 55, 54, 56, 54, 57, 55, 48, 55, 49, 55, 50, 55, 51, 55, 52, 55, 53, 55, 54, 55, 55, 55, 56, 55, 57, 56, 48, 56, 49, 56, 50, 56, 51, 56, 52, 56, 53, 56, 54, 56, 55, 56, 56, 56, 57, 57, 48, 57, 49, 57, 50, 57, 51, 57, 52, 57, 53, 57, 54, 57, 55, 57, 56, 57, 57])) (.t 88)) <|
    o1 90 (.mv (.t 10)) <|
    o1 91 (.istr (.c (.str [48, 48, 48, 49, 48, 50, 48, 51, 48, 52, 48, 53, 48, 54, 48, 55, 48, 56, 48, 57, 49, 48, 49, 49, 49, 50, 49, 51, 49, 52, 49, 53, 49, 54, 49, 55, 49, 56, 49, 57, 50, 48, 50, 49, 50, 50, 50, 51, 50, 52, 50, 53, 50, 54, 50, 55, 50, 56, 50, 57, 51, 48, 51, 49, 51, 50, 51, 51, 51, 52, 51, 53, 51, 54, 51, 55, 51, 56, 51, 57, 52, 48, 52, 49, 52, 50, 52, 51, 52, 52, 52, 53, 52, 54, 52, 55, 52, 56, 52, 57, 53, 48, 53, 49, 53, 50, 53, 51, 53, 52, 53, 53, 53, 54, 53, 55, 53, 56, 53, 57, 54, 48, 54, 49, 54, 50, 54, 51, 54, 52, 54, 53, 54, 54, 54, 55, 54, 56, 54, 57, 55, 48, 55, 49, 55, 50, 55, 51, 55, 52, 55, 53, 55, 54, 55, 55, 55, 56, 55, 57, 56, 48, 56, 49, 56, 50, 56, 51, 56, 52, 56, 53, 56, 54, 56, 55, 56, 56, 56, 57, 57, 48, 57, 49, 57, 50, 57, 51, 57, 52, 57, 53, 57, 54, 57, 55, 57, 56, 57, 57])) (.t 90)) <|
    o1 92 (.iaddr 1 (.t 81) (.t 83)) <|
    .op ⟨none, none, .prim (.store 1 (.t 92) (.t 89))⟩ [] <|
    o1 93 (.iaddr 1 (.t 84) (.t 86)) <|
    .op ⟨none, none, .prim (.store 1 (.t 93) (.t 91))⟩ [] <|
    .done)
  cc_internal_strconv_formatBase10_k18)
noncomputable def cc_internal_strconv_formatBase10_k20 : CC :=
  (.seq (.region <| o1 68 (.mv (.t 0)) <|
    o1 69 (.mv (.t 4)) <|
    o1 70 (.bin .sub (.t 69) (.c (.int .i64 5))) <|
    o1 71 (.mv (.t 0)) <|
    o1 72 (.mv (.t 4)) <|
    o1 73 (.bin .sub (.t 72) (.c (.int .i64 6))) <|
    o1 74 (.mv (.t 11)) <|
    o1 75 (.bin .add (.t 74) (.c (.int .u32 1))) <|
    o1 76 (.istr (.c (.str [48, 48, 48, 49, 48, 50, 48, 51, 48, 52, 48, 53, 48, 54, 48, 55, 48, 56, 48, 57, 49, 48, 49, 49, 49, 50, 49, 51, 49, 52, 49, 53, 49, 54, 49, 55, 49, 56, 49, 57, 50, 48, 50, 49, 50, 50, 50, 51, 50, 52, 50, 53, 50, 54, 50, 55, 50, 56, 50, 57, 51, 48, 51, 49, 51, 50, 51, 51, 51, 52, 51, 53, 51, 54, 51, 55, 51, 56, 51, 57, 52, 48, 52, 49, 52, 50, 52, 51, 52, 52, 52, 53, 52, 54, 52, 55, 52, 56, 52, 57, 53, 48, 53, 49, 53, 50, 53, 51, 53, 52, 53, 53, 53, 54, 53, 55, 53, 56, 53, 57, 54, 48, 54, 49, 54, 50, 54, 51, 54, 52, 54, 53, 54, 54, 54, 55, 54, 56, 54, 57, 55, 48, 55, 49, 55, 50, 55, 51, 55, 52, 55, 53, 55, 54, 55, 55, 55, 56, 55, 57, 56, 48, 56, 49, 56, 50, 56, 51, 56, 52, 56, 53, 56, 54, 56, 55, 56, 56, 56, 57, 57, 48, 57, 49, 57, 50, 57, 51, 57, 52, 57, 53, 57, 54, 57, 55, 57, 56, 57, 57])) (.t 75)) <|
    o1 77 (.mv (.t 11)) <|
    o1 78 (.istr (.c (.str [48, 48, 48, 49, 48, 50, 48, 51, 48, 52, 48, 53, 48, 54, 48, 55, 48, 56, 48, 57, 49, 48, 49, 49, 49, 50, 49, 51, 49, 52, 49, 53, 49, 54, 49, 55, 49, 56, 49, 57, 50, 48, 50, 49, 50, 50, 50, 51, 50, 52, 50, 53, 50, 54, 50, 55, 50, 56, 50, 57, 51, 48, 51, 49, 51, 50, 51, 51, 51, 52, 51, 53, 51, 54, 51, 55, 51, 56, 51, 57, 52, 48, 52, 49, 52, 50, 52, 51, 52, 52, 52, 53, 52, 54, 52, 55, 52, 56, 52, 57, 53, 48, 53, 49, 53, 50, 53, 51, 53, 52, 53, 53, 53, 54, 53, 55, 53, 56, 53, 57, 54, 48, 54, 49, 54, 50, 54, 51, 54, 52, 54, 53, 54, 54, 54, 55, 54, 56, 54, 57, 55, 48, 55, 49, 55, 50, 55, 51, 55, 52, 55, 53, 55, 54, 55, 55, 55, 56, 55, 57, 56, 48, 56, 49, 56, 50, 56, 51, 56, 52, 56, 53, 56, 54, 56, 55, 56, 56, 56, 57, 57, 48, 57, 49, 57, 50, 57, 51, 57, 52, 57, 53, 57, 54, 57, 55, 57, 56, 57, 57])) (.t 77)) <|
    o1 79 (.iaddr 1 (.t 68) (.t 70)) <|
    .op ⟨none, none, .prim (.store 1 (.t 79) (.t 76))⟩ [] <|
    o1 80 (.iaddr 1 (.t 71) (.t 73)) <|
    .op ⟨none, none, .prim (.store 1 (.t 80) (.t 78))⟩ [] <|
    .done)
  cc_internal_strconv_formatBase10_k19)
noncomputable def cc_internal_strconv_formatBase10_k21 : CC :=
  (.seq (.region <| o1 55 (.mv (.t 0)) <|
    o1 56 (.mv (.t 4)) <|
    o1 57 (.bin .sub (.t 56) (.c (.int .i64 3))) <|
    o1 58 (.mv (.t 0)) <|
    o1 59 (.mv (.t 4)) <|
    o1 60 (.bin .sub (.t 59) (.c (.int .i64 4))) <|
    o1 61 (.mv (.t 8)) <|
    o1 62 (.bin .add (.t 61) (.c (.int .u32 1))) <|
    o1 63 (.istr (.c (.str [48, 48, 48, 49, 48, 50, 48, 51, 48, 52, 48, 53, 48, 54, 48, 55, 48, 56, 48, 57, 49, 48, 49, 49, 49, 50, 49, 51, 49, 52, 49, 53, 49, 54, 49, 55, 49, 56, 49, 57, 50, 48, 50, 49, 50, 50, 50, 51, 50, 52, 50, 53, 50, 54, 50, 55, 50, 56, 50, 57, 51, 48, 51, 49, 51, 50, 51, 51, 51, 52, 51, 53, 51, 54, 51, 55, 51, 56, 51, 57, 52, 48, 52, 49, 52, 50, 52, 51, 52, 52, 52, 53, 52, 54, 52, 55, 52, 56, 52, 57, 53, 48, 53, 49, 53, 50, 53, 51, 53, 52, 53, 53, 53, 54, 53, 55, 53, 56, 53, 57, 54, 48, 54, 49, 54, 50, 54, 51, 54, 52, 54, 53, 54, 54, 54, 55, 54, 56, 54, 57, 55, 48, 55, 49, 55, 50, 55, 51, 55, 52, 55, 53, 55, 54, 55, 55, 55, 56, 55, 57, 56, 48, 56, 49, 56, 50, 56, 51, 56, 52, 56, 53, 56, 54, 56, 55, 56, 56, 56, 57, 57, 48, 57, 49, 57, 50, 57, 51, 57, 52, 57, 53, 57, 54, 57, 55, 57, 56, 57, 57])) (.t 62)) <|
    o1 64 (.mv (.t 8)) <|
    o1 65 (.istr (.c (.str [48, 48, 48, 49, 48, 50, 48, 51, 48, 52, 48, 53, 48, 54, 48, 55, 48, 56, 48, 57, 49, 48, 49, 49, 49, 50, 49, 51, 49, 52, 49, 53, 49, 54, 49, 55, 49, 56, 49, 57, 50, 48, 50, 49, 50, 50, 50, 51, 50, 52, 50, 53, 50, 54, 50, 55, 50, 56, 50, 57, 51, 48, 51, 49, 51, 50, 51, 51, 51, 52, 51, 53, 51, 54, 51, 55, 51, 56, 51, 57, 52, 48, 52, 49, 52, 50, 52, 51, 52, 52, 52, 53, 52, 54, 52, 55, 52, 56, 52, 57, 53, 48, 53, 49, 53, 50, 53, 51, 53, 52, 53, 53, 53, 54, 53, 55, 53, 56, 53, 57, 54, 48, 54, 49, 54, 50, 54, 51, 54, 52, 54, 53, 54, 54, 54, 55, 54, 56, 54, 57, 55, 48, 55, 49, 55, 50, 55, 51, 55, 52, 55, 53, 55, 54, 55, 55, 55, 56, 55, 57, 56, 48, 56, 49, 56, 50, 56, 51, 56, 52, 56, 53, 56, 54, 56, 55, 56, 56, 56, 57, 57, 48, 57, 49, 57, 50, 57, 51, 57, 52, 57, 53, 57, 54, 57, 55, 57, 56, 57, 57])) (.t 64)) <|
    o1 66 (.iaddr 1 (.t 55) (.t 57)) <|
    .op ⟨none, none, .prim (.store 1 (.t 66) (.t 63))⟩ [] <|
    o1 67 (.iaddr 1 (.t 58) (.t 60)) <|
    .op ⟨none, none, .prim (.store 1 (.t 67) (.t 65))⟩ [] <|
    .done)
  cc_internal_strconv_formatBase10_k20)
noncomputable def cc_internal_strconv_formatBase10_k22 : CC :=
  (.seq (.region <| o1 42 (.mv (.t 0)) <|
    o1 43 (.mv (.t 4)) <|
    o1 44 (.bin .sub (.t 43) (.c (.int .i64 1))) <|
    o1 45 (.mv (.t 0)) <|
    o1 46 (.mv (.t 4)) <|
    o1 47 (.bin .sub (.t 46) (.c (.int .i64 2))) <|
    o1 48 (.mv (.t 9)) <|
    o1 49 (.bin .add (.t 48) (.c (.int .u32 1))) <|
    o1 50 (.istr (.c (.str [48, 48, 48, 49, 48, 50, 48, 51, 48, 52, 48, 53, 48, 54, 48, 55, 48, 56, 48, 57, 49, 48, 49, 49, 49, 50, 49, 51, 49, 52, 49, 53, 49, 54, 49, 55, 49, 56, 49, 57, 50, 48, 50, 49, 50, 50, 50, 51, 50, 52, 50, 53, 50, 54, 50, 55, 50, 56, 50, 57, 51, 48, 51, 49, 51, 50, 51, 51, 51, 52, 51, 53, 51, 54, 51, 55, 51, 56, 51, 57, 52, 48, 52, 49, 52, 50, 52, 51, 52, 52, 52, 53, 52, 54, 52, 55, 52, 56, 52, 57, 53, 48, 53, 49, 53, 50, 53, 51, 53, 52, 53, 53, 53, 54, 53, 55, 53, 56, 53, 57, 54, 48, 54, 49, 54, 50, 54, 51, 54, 52, 54, 53, 54, 54, 54, 55, 54, 56, 54, 57, 55, 48, 55, 49, 55, 50, 55, 51, 55, 52, 55, 53, 55, 54, 55, 55, 55, 56, 55, 57, 56, 48, 56, 49, 56, 50, 56, 51, 56, 52, 56, 53, 56, 54, 56, 55, 56, 56, 56, 57, 57, 48, 57, 49, 57, 50, 57, 51, 57, 52, 57, 53, 57, 54, 57, 55, 57, 56, 57, 57])) (.t 49)) <|
    o1 51 (.mv (.t 9)) <|
    o1 52 (.istr (.c (.str [48, 48, 48, 49, 48, 50, 48, 51, 48, 52, 48, 53, 48, 54, 48, 55, 48, 56, 48, 57, 49, 48, 49, 49, 49, 50, 49, 51, 49, 52, 49, 53, 49, 54, 49, 55, 49, 56, 49, 57, 50, 48, 50, 49, 50, 50, 50, 51, 50, 52, 50, 53, 50, 54, 50, 55, 50, 56, 50, 57, 51, 48, 51, 49, 51, 50, 51, 51, 51, 52, 51, 53, 51, 54, 51, 55, 51, 56, 51, 57, 52, 48, 52, 49, 52, 50, 52, 51, 52, 52, 52, 53, 52, 54, 52, 55, 52, 56, 52, 57, 53, 48, 53, 49, 53, 50, 53, 51, 53, 52, 53, 53, 53, 54, 53, 55, 53, 56, 53, 57, 54, 48, 54, 49, 54, 50, 54, 51, 54, 52, 54, 53, 54, 54, 54, 55, 54, 56, 54, 57, 55, 48, 55, 49, 55, 50, 55, 51, 55, 52, 55, 53, 55, 54, 55, 55, 55, 56, 55, 57, 56, 48, 56, 49, 56, 50, 56, 51, 56, 52, 56, 53, 56, 54, 56, 55, 56, 56, 56, 57, 57, 48, 57, 49, 57, 50, 57, 51, 57, 52, 57, 53, 57, 54, 57, 55, 57, 56, 57, 57])) (.t 51)) <|
    o1 53 (.iaddr 1 (.t 42) (.t 44)) <|
    .op ⟨none, none, .prim (.store 1 (.t 53) (.t 50))⟩ [] <|
    o1 54 (.iaddr 1 (.t 45) (.t 47)) <|
    .op ⟨none, none, .prim (.store 1 (.t 54) (.t 52))⟩ [] <|
    .done)
  cc_internal_strconv_formatBase10_k21)
noncomputable def cc_internal_strconv_formatBase10_k23 : CC :=
  (.seq (.region <| o1 36 (.mv (.t 6)) <|
    o1 37 (.bin .quo (.t 36) (.c (.int .u32 100))) <|
    o1 38 (.bin .mul (.t 37) (.c (.int .u32 2))) <|
    o1 39 (.mv (.t 6)) <|
    o1 40 (.bin .rem (.t 39) (.c (.int .u32 100))) <|
    o1 41 (.bin .mul (.t 40) (.c (.int .u32 2))) <|
    o1 10 (.mv (.t 38)) <|
    o1 11 (.mv (.t 41)) <|
    .done)
  cc_internal_strconv_formatBase10_k22)
noncomputable def cc_internal_strconv_formatBase10_k24 : CC :=
  (.seq (.region <| o1 30 (.mv (.t 7)) <|
    o1 31 (.bin .quo (.t 30) (.c (.int .u32 100))) <|
    o1 32 (.bin .mul (.t 31) (.c (.int .u32 2))) <|
    o1 33 (.mv (.t 7)) <|
    o1 34 (.bin .rem (.t 33) (.c (.int .u32 100))) <|
    o1 35 (.bin .mul (.t 34) (.c (.int .u32 2))) <|
    o1 8 (.mv (.t 32)) <|
    o1 9 (.mv (.t 35)) <|
    .done)
  cc_internal_strconv_formatBase10_k23)
noncomputable def cc_internal_strconv_formatBase10_k25 : CC :=
  (.seq (.region <| o1 26 (.mv (.t 5)) <|
    o1 27 (.bin .quo (.t 26) (.c (.int .u32 10000))) <|
    o1 28 (.mv (.t 5)) <|
    o1 29 (.bin .rem (.t 28) (.c (.int .u32 10000))) <|
    o1 6 (.mv (.t 27)) <|
    o1 7 (.mv (.t 29)) <|
    .done)
  cc_internal_strconv_formatBase10_k24)
noncomputable def cc_internal_strconv_formatBase10_k26 : CC :=
  (.seq (.region <| o1 24 (.mv (.t 1)) <|
    o1 25 (.bin .quo (.t 24) (.c (.int .u64 100000000))) <|
    o1 1 (.mv (.t 25)) <|
    .done)
  cc_internal_strconv_formatBase10_k25)
noncomputable def cc_internal_strconv_formatBase10_k27 : CC :=
  (.block 1 (.seq (.region <| o1 21 (.mv (.t 1)) <|
    o1 22 (.bin .rem (.t 21) (.c (.int .u64 100000000))) <|
    o1 23 (.convI .u32 (.t 22)) <|
    o1 5 (.mv (.t 23)) <|
    .done)
  cc_internal_strconv_formatBase10_k26))
noncomputable def cc_internal_strconv_formatBase10_k28 : CC :=
  (.cond (.t 20) .skip (.exit 0))
noncomputable def cc_internal_strconv_formatBase10_l29 : CC :=
  (.seq (.seq (.region <| o1 19 (.mv (.t 4)) <|
    o1 20 (.bin .geq (.t 19) (.c (.int .i64 8))) <|
    .done)
  cc_internal_strconv_formatBase10_k28)
  cc_internal_strconv_formatBase10_k27)
noncomputable def cc_internal_strconv_formatBase10_k30 : CC :=
  (.seq (.block 0 (.loop cc_internal_strconv_formatBase10_l29))
  cc_internal_strconv_formatBase10_k17)
noncomputable def cc_internal_strconv_formatBase10 : CC :=
  (.seq (.region <| o1 17 (.mv (.t 0)) <|
    o1 18 (.lenL (.t 17)) <|
    o1 4 (.mv (.t 18)) <|
    .done)
  cc_internal_strconv_formatBase10_k30)
noncomputable def fe_internal_strconv_formatBase10 : FE := ⟨167, [], cc_internal_strconv_formatBase10⟩
theorem e_internal_strconv_formatBase10 : compF prog F.internal_strconv_formatBase10 = some fe_internal_strconv_formatBase10 := by kernel_rfl

noncomputable def cc_slices_siftDownCmpFunc_string_k0 : CC :=
  (.region <| o1 81 (.mv (.t 11)) <|
    o1 10 (.mv (.t 81)) <|
    .done)
noncomputable def cc_slices_siftDownCmpFunc_string_k1 : CC :=
  (.seq (.region <| o1 59 (.mv (.t 0)) <|
    o1 60 (.mv (.t 3)) <|
    o1 61 (.mv (.t 10)) <|
    o1 62 (.bin .add (.t 60) (.t 61)) <|
    o1 63 (.mv (.t 0)) <|
    o1 64 (.mv (.t 3)) <|
    o1 65 (.mv (.t 11)) <|
    o1 66 (.bin .add (.t 64) (.t 65)) <|
    o1 67 (.mv (.t 0)) <|
    o1 68 (.mv (.t 3)) <|
    o1 69 (.mv (.t 11)) <|
    o1 70 (.bin .add (.t 68) (.t 69)) <|
    o1 71 (.iaddr 1 (.t 67) (.t 70)) <|
    o1 72 (.load1 (.t 71)) <|
    o1 73 (.mv (.t 0)) <|
    o1 74 (.mv (.t 3)) <|
    o1 75 (.mv (.t 10)) <|
    o1 76 (.bin .add (.t 74) (.t 75)) <|
    o1 77 (.iaddr 1 (.t 73) (.t 76)) <|
    o1 78 (.load1 (.t 77)) <|
    o1 79 (.iaddr 1 (.t 59) (.t 62)) <|
    .op ⟨none, none, .prim (.store 1 (.t 79) (.t 72))⟩ [] <|
    o1 80 (.iaddr 1 (.t 63) (.t 66)) <|
    .op ⟨none, none, .prim (.store 1 (.t 80) (.t 78))⟩ [] <|
    .done)
  cc_slices_siftDownCmpFunc_string_k0)
noncomputable def cc_slices_siftDownCmpFunc_string_k2 : CC :=
  (.cond (.t 58) .ret .skip)
noncomputable def cc_slices_siftDownCmpFunc_string_k3 : CC :=
  (.seq (.seq (.region <| o1 43 (.mv (.t 4)) <|
    o1 44 (.mv (.t 0)) <|
    o1 45 (.mv (.t 3)) <|
    o1 46 (.mv (.t 10)) <|
    o1 47 (.bin .add (.t 45) (.t 46)) <|
    o1 48 (.iaddr 1 (.t 44) (.t 47)) <|
    o1 49 (.load1 (.t 48)) <|
    o1 50 (.mv (.t 0)) <|
    o1 51 (.mv (.t 3)) <|
    o1 52 (.mv (.t 11)) <|
    o1 53 (.bin .add (.t 51) (.t 52)) <|
    o1 54 (.iaddr 1 (.t 50) (.t 53)) <|
    o1 55 (.load1 (.t 54)) <|
    .op ⟨some 56, none, .dcall (.t 43) [(.t 49), (.t 55)]⟩ [] <|
    o1 57 (.bin .lss (.t 56) (.c (.int .i64 0))) <|
    o1 58 (.not (.t 57)) <|
    .done)
  cc_slices_siftDownCmpFunc_string_k2)
  cc_slices_siftDownCmpFunc_string_k1)
noncomputable def cc_slices_siftDownCmpFunc_string_c4 : CC :=
  (.region <| o1 41 (.mv (.t 11)) <|
    o1 42 (.bin .add (.t 41) (.c (.int .i64 1))) <|
    o1 11 (.mv (.t 42)) <|
    .done)
noncomputable def cc_slices_siftDownCmpFunc_string_k5 : CC :=
  (.cond (.t 40) cc_slices_siftDownCmpFunc_string_c4 .skip)
noncomputable def cc_slices_siftDownCmpFunc_string_k6 : CC :=
  (.seq (.seq (.region <| o1 19 (.mv (.t 11)) <|
    o1 20 (.bin .add (.t 19) (.c (.int .i64 1))) <|
    o1 21 (.mv (.t 2)) <|
    o1 22 (.bin .lss (.t 20) (.t 21)) <|
    o1 23 (.mv (.t 22)) <|
    .op ⟨some 24, some (23, true), .prim (.mv (.t 4))⟩ [] <|
    .op ⟨some 25, some (23, true), .prim (.mv (.t 0))⟩ [] <|
    .op ⟨some 26, some (23, true), .prim (.mv (.t 3))⟩ [] <|
    .op ⟨some 27, some (23, true), .prim (.mv (.t 11))⟩ [] <|
    .op ⟨some 28, some (23, true), .prim (.bin .add (.t 26) (.t 27))⟩ [] <|
    .op ⟨some 29, some (23, true), .prim (.iaddr 1 (.t 25) (.t 28))⟩ [] <|
    .op ⟨some 30, some (23, true), .prim (.load1 (.t 29))⟩ [] <|
    .op ⟨some 31, some (23, true), .prim (.mv (.t 0))⟩ [] <|
    .op ⟨some 32, some (23, true), .prim (.mv (.t 3))⟩ [] <|
    .op ⟨some 33, some (23, true), .prim (.mv (.t 11))⟩ [] <|
    .op ⟨some 34, some (23, true), .prim (.bin .add (.t 32) (.t 33))⟩ [] <|
    .op ⟨some 35, some (23, true), .prim (.bin .add (.t 34) (.c (.int .i64 1)))⟩ [] <|
    .op ⟨some 36, some (23, true), .prim (.iaddr 1 (.t 31) (.t 35))⟩ [] <|
    .op ⟨some 37, some (23, true), .prim (.load1 (.t 36))⟩ [] <|
    .op ⟨some 38, some (23, true), .dcall (.t 24) [(.t 30), (.t 37)]⟩ [] <|
    .op ⟨some 39, some (23, true), .prim (.bin .lss (.t 38) (.c (.int .i64 0)))⟩ [] <|
    o1 40 (.pick (.t 23) (.t 39) (.c (.bool false))) <|
    .done)
  cc_slices_siftDownCmpFunc_string_k5)
  cc_slices_siftDownCmpFunc_string_k3)
noncomputable def cc_slices_siftDownCmpFunc_string_k7 : CC :=
  (.cond (.t 18) (.exit 0) .skip)
noncomputable def cc_slices_siftDownCmpFunc_string_k8 : CC :=
  (.seq (.seq (.region <| o1 16 (.mv (.t 11)) <|
    o1 17 (.mv (.t 2)) <|
    o1 18 (.bin .geq (.t 16) (.t 17)) <|
    .done)
  cc_slices_siftDownCmpFunc_string_k7)
  cc_slices_siftDownCmpFunc_string_k6)
noncomputable def cc_slices_siftDownCmpFunc_string_l9 : CC :=
  (.block 1 (.seq (.region <| o1 13 (.mv (.t 10)) <|
    o1 14 (.bin .mul (.c (.int .i64 2)) (.t 13)) <|
    o1 15 (.bin .add (.t 14) (.c (.int .i64 1))) <|
    o1 11 (.mv (.t 15)) <|
    .done)
  cc_slices_siftDownCmpFunc_string_k8))
noncomputable def cc_slices_siftDownCmpFunc_string_k10 : CC :=
  (.block 0 (.loop cc_slices_siftDownCmpFunc_string_l9))
noncomputable def cc_slices_siftDownCmpFunc_string : CC :=
  (.seq (.region <| o1 12 (.mv (.t 1)) <|
    o1 10 (.mv (.t 12)) <|
    .done)
  cc_slices_siftDownCmpFunc_string_k10)
noncomputable def fe_slices_siftDownCmpFunc_string : FE := ⟨82, [], cc_slices_siftDownCmpFunc_string⟩
theorem e_slices_siftDownCmpFunc_string : compF prog F.slices_siftDownCmpFunc_string = some fe_slices_siftDownCmpFunc_string := by kernel_rfl

noncomputable def cc_slices_nextPowerOfTwo_k0 : CC :=
  (.seq (.region <| o1 3 (.mv (.t 0)) <|
    o1 4 (.convI .u64 (.t 3)) <|
    .op ⟨some 5, none, .call F.math_bits_Len [(.t 4)]⟩ [] <|
    o1 6 (.bin .shl (.c (.int .u64 1)) (.t 5)) <|
    o1 2 (.mv (.t 6)) <|
    .done)
  .ret)
noncomputable def cc_slices_nextPowerOfTwo : CC :=
  (.seq (.region <| o1 2 (.mv (.c (.int .u64 0))) <|
    .done)
  cc_slices_nextPowerOfTwo_k0)
noncomputable def fe_slices_nextPowerOfTwo : FE := ⟨7, [.tmp 2], cc_slices_nextPowerOfTwo⟩
theorem e_slices_nextPowerOfTwo : compF prog F.slices_nextPowerOfTwo = some fe_slices_nextPowerOfTwo := by kernel_rfl

noncomputable def cc_slices_xorshift_Next_k0 : CC :=
  (.seq (.region <| o1 30 (.mv (.t 0)) <|
    o1 31 (.nilc (.t 30)) <|
    o1 32 (.load1 (.t 31)) <|
    o1 2 (.mv (.t 32)) <|
    .done)
  .ret)
noncomputable def cc_slices_xorshift_Next_k1 : CC :=
  (.seq (.region <| o1 21 (.mv (.t 0)) <|
    o1 22 (.nilc (.t 21)) <|
    o1 23 (.load1 (.t 22)) <|
    o1 24 (.mv (.t 0)) <|
    o1 25 (.nilc (.t 24)) <|
    o1 26 (.load1 (.t 25)) <|
    o1 27 (.bin .shl (.t 26) (.c (.int .u64 17))) <|
    o1 28 (.bin .xor (.t 23) (.t 27)) <|
    o1 29 (.nilc (.t 21)) <|
    .op ⟨none, none, .prim (.store 1 (.t 29) (.t 28))⟩ [] <|
    .done)
  cc_slices_xorshift_Next_k0)
noncomputable def cc_slices_xorshift_Next_k2 : CC :=
  (.seq (.region <| o1 12 (.mv (.t 0)) <|
    o1 13 (.nilc (.t 12)) <|
    o1 14 (.load1 (.t 13)) <|
    o1 15 (.mv (.t 0)) <|
    o1 16 (.nilc (.t 15)) <|
    o1 17 (.load1 (.t 16)) <|
    o1 18 (.bin .shr (.t 17) (.c (.int .u64 7))) <|
    o1 19 (.bin .xor (.t 14) (.t 18)) <|
    o1 20 (.nilc (.t 12)) <|
    .op ⟨none, none, .prim (.store 1 (.t 20) (.t 19))⟩ [] <|
    .done)
  cc_slices_xorshift_Next_k1)
noncomputable def cc_slices_xorshift_Next_k3 : CC :=
  (.seq (.region <| o1 3 (.mv (.t 0)) <|
    o1 4 (.nilc (.t 3)) <|
    o1 5 (.load1 (.t 4)) <|
    o1 6 (.mv (.t 0)) <|
    o1 7 (.nilc (.t 6)) <|
    o1 8 (.load1 (.t 7)) <|
    o1 9 (.bin .shl (.t 8) (.c (.int .u64 13))) <|
    o1 10 (.bin .xor (.t 5) (.t 9)) <|
    o1 11 (.nilc (.t 3)) <|
    .op ⟨none, none, .prim (.store 1 (.t 11) (.t 10))⟩ [] <|
    .done)
  cc_slices_xorshift_Next_k2)
noncomputable def cc_slices_xorshift_Next : CC :=
  (.seq (.region <| o1 2 (.mv (.c (.int .u64 0))) <|
    .done)
  cc_slices_xorshift_Next_k3)
noncomputable def fe_slices_xorshift_Next : FE := ⟨33, [.tmp 2], cc_slices_xorshift_Next⟩
theorem e_slices_xorshift_Next : compF prog F.slices_xorshift_Next = some fe_slices_xorshift_Next := by kernel_rfl

noncomputable def cc_slices_medianAdjacentCmpFunc_string_k0 : CC :=
  (.seq (.region <| o1 9 (.mv (.t 0)) <|
    o1 10 (.mv (.t 1)) <|
    o1 11 (.bin .sub (.t 10) (.c (.int .i64 1))) <|
    o1 12 (.mv (.t 1)) <|
    o1 13 (.mv (.t 1)) <|
    o1 14 (.bin .add (.t 13) (.c (.int .i64 1))) <|
    o1 15 (.mv (.t 2)) <|
    o1 16 (.mv (.t 3)) <|
    .op ⟨some 17, none, .call F.slices_medianCmpFunc_string [(.t 9), (.t 11), (.t 12), (.t 14), (.t 15), (.t 16)]⟩ [] <|
    o1 8 (.mv (.t 17)) <|
    .done)
  .ret)
noncomputable def cc_slices_medianAdjacentCmpFunc_string : CC :=
  (.seq (.region <| o1 8 (.mv (.c (.int .i64 0))) <|
    .done)
  cc_slices_medianAdjacentCmpFunc_string_k0)
noncomputable def fe_slices_medianAdjacentCmpFunc_string : FE := ⟨18, [.tmp 8], cc_slices_medianAdjacentCmpFunc_string⟩
theorem e_slices_medianAdjacentCmpFunc_string : compF prog F.slices_medianAdjacentCmpFunc_string = some fe_slices_medianAdjacentCmpFunc_string := by kernel_rfl

noncomputable def cc_slices_medianCmpFunc_string_k0 : CC :=
  (.seq (.region <| o1 32 (.mv (.t 0)) <|
    o1 33 (.mv (.t 1)) <|
    o1 34 (.mv (.t 2)) <|
    o1 35 (.mv (.t 4)) <|
    o1 36 (.mv (.t 5)) <|
    .op ⟨some 37, none, .call F.slices_order2CmpFunc_string [(.t 32), (.t 33), (.t 34), (.t 35), (.t 36)]⟩ [] <|
    o1 31 (.mv (.t 37)) <|
    o1 38 (.extr (.t 31) 0) <|
    o1 39 (.extr (.t 31) 1) <|
    o1 1 (.mv (.t 38)) <|
    o1 2 (.mv (.t 39)) <|
    .done)
  (.seq (.region <| o1 40 (.mv (.t 2)) <|
    o1 12 (.mv (.t 40)) <|
    .done)
  .ret))
noncomputable def cc_slices_medianCmpFunc_string_k1 : CC :=
  (.seq (.region <| o1 23 (.mv (.t 0)) <|
    o1 24 (.mv (.t 2)) <|
    o1 25 (.mv (.t 3)) <|
    o1 26 (.mv (.t 4)) <|
    o1 27 (.mv (.t 5)) <|
    .op ⟨some 28, none, .call F.slices_order2CmpFunc_string [(.t 23), (.t 24), (.t 25), (.t 26), (.t 27)]⟩ [] <|
    o1 22 (.mv (.t 28)) <|
    o1 29 (.extr (.t 22) 0) <|
    o1 30 (.extr (.t 22) 1) <|
    o1 2 (.mv (.t 29)) <|
    o1 3 (.mv (.t 30)) <|
    .done)
  cc_slices_medianCmpFunc_string_k0)
noncomputable def cc_slices_medianCmpFunc_string_k2 : CC :=
  (.seq (.region <| o1 14 (.mv (.t 0)) <|
    o1 15 (.mv (.t 1)) <|
    o1 16 (.mv (.t 2)) <|
    o1 17 (.mv (.t 4)) <|
    o1 18 (.mv (.t 5)) <|
    .op ⟨some 19, none, .call F.slices_order2CmpFunc_string [(.t 14), (.t 15), (.t 16), (.t 17), (.t 18)]⟩ [] <|
    o1 13 (.mv (.t 19)) <|
    o1 20 (.extr (.t 13) 0) <|
    o1 21 (.extr (.t 13) 1) <|
    o1 1 (.mv (.t 20)) <|
    o1 2 (.mv (.t 21)) <|
    .done)
  cc_slices_medianCmpFunc_string_k1)
noncomputable def cc_slices_medianCmpFunc_string : CC :=
  (.seq (.region <| o1 12 (.mv (.c (.int .i64 0))) <|
    .done)
  cc_slices_medianCmpFunc_string_k2)
noncomputable def fe_slices_medianCmpFunc_string : FE := ⟨41, [.tmp 12], cc_slices_medianCmpFunc_string⟩
theorem e_slices_medianCmpFunc_string : compF prog F.slices_medianCmpFunc_string = some fe_slices_medianCmpFunc_string := by kernel_rfl

noncomputable def cc_internal_stringslite_HasPrefix_k0 : CC :=
  (.seq (.region <| o1 5 (.mv (.t 0)) <|
    o1 6 (.lenS (.t 5)) <|
    o1 7 (.mv (.t 1)) <|
    o1 8 (.lenS (.t 7)) <|
    o1 9 (.bin .geq (.t 6) (.t 8)) <|
    o1 10 (.mv (.t 9)) <|
    .op ⟨some 11, some (10, true), .prim (.mv (.t 0))⟩ [] <|
    .op ⟨some 12, some (10, true), .prim (.mv (.t 1))⟩ [] <|
    .op ⟨some 13, some (10, true), .prim (.lenS (.t 12))⟩ [] <|
    .op ⟨some 14, some (10, true), .prim (.slstr (.t 11) none (some (.t 13)))⟩ [] <|
    .op ⟨some 15, some (10, true), .prim (.mv (.t 1))⟩ [] <|
    .op ⟨some 16, some (10, true), .prim (.bin .eql (.t 14) (.t 15))⟩ [] <|
    o1 17 (.pick (.t 10) (.t 16) (.c (.bool false))) <|
    o1 4 (.mv (.t 17)) <|
    .done)
  .ret)
noncomputable def cc_internal_stringslite_HasPrefix : CC :=
  (.seq (.region <| o1 4 (.mv (.c (.bool false))) <|
    .done)
  cc_internal_stringslite_HasPrefix_k0)
noncomputable def fe_internal_stringslite_HasPrefix : FE := ⟨18, [.tmp 4], cc_internal_stringslite_HasPrefix⟩
theorem e_internal_stringslite_HasPrefix : compF prog F.internal_stringslite_HasPrefix = some fe_internal_stringslite_HasPrefix := by kernel_rfl

noncomputable def cc_slices_insertionSortOrdered_int_k0 : CC :=
  (.region <| o1 13 (.mv (.t 6)) <|
    o1 14 (.bin .add (.t 13) (.c (.int .i64 1))) <|
    o1 6 (.mv (.t 14)) <|
    .done)
noncomputable def cc_slices_insertionSortOrdered_int_k1 : CC :=
  (.region <| o1 31 (.mv (.t 7)) <|
    o1 32 (.bin .sub (.t 31) (.c (.int .i64 1))) <|
    o1 7 (.mv (.t 32)) <|
    .done)
noncomputable def cc_slices_insertionSortOrdered_int_k2 : CC :=
  (.seq (.block 3 (.region <| o1 33 (.mv (.t 0)) <|
    o1 34 (.mv (.t 7)) <|
    o1 35 (.mv (.t 0)) <|
    o1 36 (.mv (.t 7)) <|
    o1 37 (.bin .sub (.t 36) (.c (.int .i64 1))) <|
    o1 38 (.mv (.t 0)) <|
    o1 39 (.mv (.t 7)) <|
    o1 40 (.bin .sub (.t 39) (.c (.int .i64 1))) <|
    o1 41 (.iaddr 1 (.t 38) (.t 40)) <|
    o1 42 (.load1 (.t 41)) <|
    o1 43 (.mv (.t 0)) <|
    o1 44 (.mv (.t 7)) <|
    o1 45 (.iaddr 1 (.t 43) (.t 44)) <|
    o1 46 (.load1 (.t 45)) <|
    o1 47 (.iaddr 1 (.t 33) (.t 34)) <|
    .op ⟨none, none, .prim (.store 1 (.t 47) (.t 42))⟩ [] <|
    o1 48 (.iaddr 1 (.t 35) (.t 37)) <|
    .op ⟨none, none, .prim (.store 1 (.t 48) (.t 46))⟩ [] <|
    .done))
  cc_slices_insertionSortOrdered_int_k1)
noncomputable def cc_slices_insertionSortOrdered_int_k3 : CC :=
  (.cond (.t 30) .skip (.exit 2))
noncomputable def cc_slices_insertionSortOrdered_int_l4 : CC :=
  (.seq (.seq (.region <| o1 16 (.mv (.t 7)) <|
    o1 17 (.mv (.t 1)) <|
    o1 18 (.bin .gtr (.t 16) (.t 17)) <|
    o1 19 (.mv (.t 18)) <|
    .op ⟨some 20, some (19, true), .prim (.mv (.t 0))⟩ [] <|
    .op ⟨some 21, some (19, true), .prim (.mv (.t 7))⟩ [] <|
    .op ⟨some 22, some (19, true), .prim (.iaddr 1 (.t 20) (.t 21))⟩ [] <|
    .op ⟨some 23, some (19, true), .prim (.load1 (.t 22))⟩ [] <|
    .op ⟨some 24, some (19, true), .prim (.mv (.t 0))⟩ [] <|
    .op ⟨some 25, some (19, true), .prim (.mv (.t 7))⟩ [] <|
    .op ⟨some 26, some (19, true), .prim (.bin .sub (.t 25) (.c (.int .i64 1)))⟩ [] <|
    .op ⟨some 27, some (19, true), .prim (.iaddr 1 (.t 24) (.t 26))⟩ [] <|
    .op ⟨some 28, some (19, true), .prim (.load1 (.t 27))⟩ [] <|
    .op ⟨some 29, some (19, true), .call F.cmp_Less_int [(.t 23), (.t 28)]⟩ [] <|
    o1 30 (.pick (.t 19) (.t 29) (.c (.bool false))) <|
    .done)
  cc_slices_insertionSortOrdered_int_k3)
  cc_slices_insertionSortOrdered_int_k2)
noncomputable def cc_slices_insertionSortOrdered_int_k5 : CC :=
  (.block 2 (.loop cc_slices_insertionSortOrdered_int_l4))
noncomputable def cc_slices_insertionSortOrdered_int_k6 : CC :=
  (.seq (.block 1 (.seq (.region <| o1 15 (.mv (.t 6)) <|
    o1 7 (.mv (.t 15)) <|
    .done)
  cc_slices_insertionSortOrdered_int_k5))
  cc_slices_insertionSortOrdered_int_k0)
noncomputable def cc_slices_insertionSortOrdered_int_k7 : CC :=
  (.cond (.t 12) .skip (.exit 0))
noncomputable def cc_slices_insertionSortOrdered_int_l8 : CC :=
  (.seq (.seq (.region <| o1 10 (.mv (.t 6)) <|
    o1 11 (.mv (.t 2)) <|
    o1 12 (.bin .lss (.t 10) (.t 11)) <|
    .done)
  cc_slices_insertionSortOrdered_int_k7)
  cc_slices_insertionSortOrdered_int_k6)
noncomputable def cc_slices_insertionSortOrdered_int_k9 : CC :=
  (.block 0 (.loop cc_slices_insertionSortOrdered_int_l8))
noncomputable def cc_slices_insertionSortOrdered_int : CC :=
  (.seq (.region <| o1 8 (.mv (.t 1)) <|
    o1 9 (.bin .add (.t 8) (.c (.int .i64 1))) <|
    o1 6 (.mv (.t 9)) <|
    .done)
  cc_slices_insertionSortOrdered_int_k9)
noncomputable def fe_slices_insertionSortOrdered_int : FE := ⟨49, [], cc_slices_insertionSortOrdered_int⟩
theorem e_slices_insertionSortOrdered_int : compF prog F.slices_insertionSortOrdered_int = some fe_slices_insertionSortOrdered_int := by kernel_rfl

noncomputable def cc_slices_heapSortOrdered_int_k0 : CC :=
  (.region <| o1 31 (.mv (.t 10)) <|
    o1 32 (.bin .sub (.t 31) (.c (.int .i64 1))) <|
    o1 10 (.mv (.t 32)) <|
    .done)
noncomputable def cc_slices_heapSortOrdered_int_k1 : CC :=
  (.region <| o1 51 (.mv (.t 0)) <|
    o1 52 (.mv (.t 7)) <|
    o1 53 (.mv (.t 10)) <|
    o1 54 (.mv (.t 6)) <|
    .op ⟨some 55, none, .call F.slices_siftDownOrdered_int [(.t 51), (.t 52), (.t 53), (.t 54)]⟩ [] <|
    .done)
noncomputable def cc_slices_heapSortOrdered_int_k2 : CC :=
  (.seq (.block 3 (.seq (.region <| o1 33 (.mv (.t 0)) <|
    o1 34 (.mv (.t 6)) <|
    o1 35 (.mv (.t 0)) <|
    o1 36 (.mv (.t 6)) <|
    o1 37 (.mv (.t 10)) <|
    o1 38 (.bin .add (.t 36) (.t 37)) <|
    o1 39 (.mv (.t 0)) <|
    o1 40 (.mv (.t 6)) <|
    o1 41 (.mv (.t 10)) <|
    o1 42 (.bin .add (.t 40) (.t 41)) <|
    o1 43 (.iaddr 1 (.t 39) (.t 42)) <|
    o1 44 (.load1 (.t 43)) <|
    o1 45 (.mv (.t 0)) <|
    o1 46 (.mv (.t 6)) <|
    o1 47 (.iaddr 1 (.t 45) (.t 46)) <|
    o1 48 (.load1 (.t 47)) <|
    o1 49 (.iaddr 1 (.t 33) (.t 34)) <|
    .op ⟨none, none, .prim (.store 1 (.t 49) (.t 44))⟩ [] <|
    o1 50 (.iaddr 1 (.t 35) (.t 38)) <|
    .op ⟨none, none, .prim (.store 1 (.t 50) (.t 48))⟩ [] <|
    .done)
  cc_slices_heapSortOrdered_int_k1))
  cc_slices_heapSortOrdered_int_k0)
noncomputable def cc_slices_heapSortOrdered_int_k3 : CC :=
  (.cond (.t 30) .skip (.exit 2))
noncomputable def cc_slices_heapSortOrdered_int_l4 : CC :=
  (.seq (.seq (.region <| o1 29 (.mv (.t 10)) <|
    o1 30 (.bin .geq (.t 29) (.c (.int .i64 0))) <|
    .done)
  cc_slices_heapSortOrdered_int_k3)
  cc_slices_heapSortOrdered_int_k2)
noncomputable def cc_slices_heapSortOrdered_int_k5 : CC :=
  (.block 2 (.loop cc_slices_heapSortOrdered_int_l4))
noncomputable def cc_slices_heapSortOrdered_int_k6 : CC :=
  (.seq (.region <| o1 27 (.mv (.t 8)) <|
    o1 28 (.bin .sub (.t 27) (.c (.int .i64 1))) <|
    o1 10 (.mv (.t 28)) <|
    .done)
  cc_slices_heapSortOrdered_int_k5)
noncomputable def cc_slices_heapSortOrdered_int_k7 : CC :=
  (.region <| o1 20 (.mv (.t 9)) <|
    o1 21 (.bin .sub (.t 20) (.c (.int .i64 1))) <|
    o1 9 (.mv (.t 21)) <|
    .done)
noncomputable def cc_slices_heapSortOrdered_int_k8 : CC :=
  (.seq (.block 1 (.region <| o1 22 (.mv (.t 0)) <|
    o1 23 (.mv (.t 9)) <|
    o1 24 (.mv (.t 8)) <|
    o1 25 (.mv (.t 6)) <|
    .op ⟨some 26, none, .call F.slices_siftDownOrdered_int [(.t 22), (.t 23), (.t 24), (.t 25)]⟩ [] <|
    .done))
  cc_slices_heapSortOrdered_int_k7)
noncomputable def cc_slices_heapSortOrdered_int_k9 : CC :=
  (.cond (.t 19) .skip (.exit 0))
noncomputable def cc_slices_heapSortOrdered_int_l10 : CC :=
  (.seq (.seq (.region <| o1 18 (.mv (.t 9)) <|
    o1 19 (.bin .geq (.t 18) (.c (.int .i64 0))) <|
    .done)
  cc_slices_heapSortOrdered_int_k9)
  cc_slices_heapSortOrdered_int_k8)
noncomputable def cc_slices_heapSortOrdered_int_k11 : CC :=
  (.block 0 (.loop cc_slices_heapSortOrdered_int_l10))
noncomputable def cc_slices_heapSortOrdered_int_k12 : CC :=
  (.seq (.seq (.region <| o1 15 (.mv (.t 8)) <|
    o1 16 (.bin .sub (.t 15) (.c (.int .i64 1))) <|
    o1 17 (.bin .quo (.t 16) (.c (.int .i64 2))) <|
    o1 9 (.mv (.t 17)) <|
    .done)
  cc_slices_heapSortOrdered_int_k11)
  cc_slices_heapSortOrdered_int_k6)
noncomputable def cc_slices_heapSortOrdered_int_k13 : CC :=
  (.seq (.region <| o1 12 (.mv (.t 2)) <|
    o1 13 (.mv (.t 1)) <|
    o1 14 (.bin .sub (.t 12) (.t 13)) <|
    o1 8 (.mv (.t 14)) <|
    .done)
  cc_slices_heapSortOrdered_int_k12)
noncomputable def cc_slices_heapSortOrdered_int_k14 : CC :=
  (.seq (.region <| o1 7 (.mv (.c (.int .i64 0))) <|
    .done)
  cc_slices_heapSortOrdered_int_k13)
noncomputable def cc_slices_heapSortOrdered_int : CC :=
  (.seq (.region <| o1 11 (.mv (.t 1)) <|
    o1 6 (.mv (.t 11)) <|
    .done)
  cc_slices_heapSortOrdered_int_k14)
noncomputable def fe_slices_heapSortOrdered_int : FE := ⟨56, [], cc_slices_heapSortOrdered_int⟩
theorem e_slices_heapSortOrdered_int : compF prog F.slices_heapSortOrdered_int = some fe_slices_heapSortOrdered_int := by kernel_rfl

noncomputable def cc_slices_breakPatternsOrdered_int_k0 : CC :=
  (.region <| o1 34 (.mv (.t 9)) <|
    o1 35 (.bin .add (.t 34) (.c (.int .i64 1))) <|
    o1 9 (.mv (.t 35)) <|
    .done)
noncomputable def cc_slices_breakPatternsOrdered_int_k1 : CC :=
  (.region <| o1 47 (.mv (.t 0)) <|
    o1 48 (.mv (.t 9)) <|
    o1 49 (.mv (.t 0)) <|
    o1 50 (.mv (.t 1)) <|
    o1 51 (.mv (.t 10)) <|
    o1 52 (.bin .add (.t 50) (.t 51)) <|
    o1 53 (.mv (.t 0)) <|
    o1 54 (.mv (.t 1)) <|
    o1 55 (.mv (.t 10)) <|
    o1 56 (.bin .add (.t 54) (.t 55)) <|
    o1 57 (.iaddr 1 (.t 53) (.t 56)) <|
    o1 58 (.load1 (.t 57)) <|
    o1 59 (.mv (.t 0)) <|
    o1 60 (.mv (.t 9)) <|
    o1 61 (.iaddr 1 (.t 59) (.t 60)) <|
    o1 62 (.load1 (.t 61)) <|
    o1 63 (.iaddr 1 (.t 47) (.t 48)) <|
    .op ⟨none, none, .prim (.store 1 (.t 63) (.t 58))⟩ [] <|
    o1 64 (.iaddr 1 (.t 49) (.t 52)) <|
    .op ⟨none, none, .prim (.store 1 (.t 64) (.t 62))⟩ [] <|
    .done)
noncomputable def cc_slices_breakPatternsOrdered_int_c2 : CC :=
  (.region <| o1 44 (.mv (.t 10)) <|
    o1 45 (.mv (.t 6)) <|
    o1 46 (.bin .sub (.t 44) (.t 45)) <|
    o1 10 (.mv (.t 46)) <|
    .done)
noncomputable def cc_slices_breakPatternsOrdered_int_k3 : CC :=
  (.cond (.t 43) cc_slices_breakPatternsOrdered_int_c2 .skip)
noncomputable def cc_slices_breakPatternsOrdered_int_k4 : CC :=
  (.seq (.seq (.region <| o1 41 (.mv (.t 10)) <|
    o1 42 (.mv (.t 6)) <|
    o1 43 (.bin .geq (.t 41) (.t 42)) <|
    .done)
  cc_slices_breakPatternsOrdered_int_k3)
  cc_slices_breakPatternsOrdered_int_k1)
noncomputable def cc_slices_breakPatternsOrdered_int_k5 : CC :=
  (.seq (.block 1 (.seq (.region <| .op ⟨some 36, none, .call F.slices_xorshift_Next [(.t 7)]⟩ [] <|
    o1 37 (.mv (.t 8)) <|
    o1 38 (.bin .sub (.t 37) (.c (.int .u64 1))) <|
    o1 39 (.bin .and (.t 36) (.t 38)) <|
    o1 40 (.convI .i64 (.t 39)) <|
    o1 10 (.mv (.t 40)) <|
    .done)
  cc_slices_breakPatternsOrdered_int_k4))
  cc_slices_breakPatternsOrdered_int_k0)
noncomputable def cc_slices_breakPatternsOrdered_int_k6 : CC :=
  (.cond (.t 33) .skip (.exit 0))
noncomputable def cc_slices_breakPatternsOrdered_int_l7 : CC :=
  (.seq (.seq (.region <| o1 26 (.mv (.t 9)) <|
    o1 27 (.mv (.t 1)) <|
    o1 28 (.mv (.t 6)) <|
    o1 29 (.bin .quo (.t 28) (.c (.int .i64 4))) <|
    o1 30 (.bin .mul (.t 29) (.c (.int .i64 2))) <|
    o1 31 (.bin .add (.t 27) (.t 30)) <|
    o1 32 (.bin .add (.t 31) (.c (.int .i64 1))) <|
    o1 33 (.bin .leq (.t 26) (.t 32)) <|
    .done)
  cc_slices_breakPatternsOrdered_int_k6)
  cc_slices_breakPatternsOrdered_int_k5)
noncomputable def cc_slices_breakPatternsOrdered_int_k8 : CC :=
  (.block 0 (.loop cc_slices_breakPatternsOrdered_int_l7))
noncomputable def cc_slices_breakPatternsOrdered_int_k9 : CC :=
  (.seq (.region <| o1 20 (.mv (.t 1)) <|
    o1 21 (.mv (.t 6)) <|
    o1 22 (.bin .quo (.t 21) (.c (.int .i64 4))) <|
    o1 23 (.bin .mul (.t 22) (.c (.int .i64 2))) <|
    o1 24 (.bin .add (.t 20) (.t 23)) <|
    o1 25 (.bin .sub (.t 24) (.c (.int .i64 1))) <|
    o1 9 (.mv (.t 25)) <|
    .done)
  cc_slices_breakPatternsOrdered_int_k8)
noncomputable def cc_slices_breakPatternsOrdered_int_k10 : CC :=
  (.seq (.region <| o1 18 (.mv (.t 6)) <|
    .op ⟨some 19, none, .call F.slices_nextPowerOfTwo [(.t 18)]⟩ [] <|
    o1 8 (.mv (.t 19)) <|
    .done)
  cc_slices_breakPatternsOrdered_int_k9)
noncomputable def cc_slices_breakPatternsOrdered_int_c11 : CC :=
  (.seq (.region <| o1 16 (.mv (.t 6)) <|
    o1 17 (.convI .u64 (.t 16)) <|
    o1 7 (.alloc 96 [(.int .u64 0)]) <|
    .op ⟨none, none, .prim (.store 1 (.t 7) (.t 17))⟩ [] <|
    .done)
  cc_slices_breakPatternsOrdered_int_k10)
noncomputable def cc_slices_breakPatternsOrdered_int_k12 : CC :=
  (.cond (.t 15) cc_slices_breakPatternsOrdered_int_c11 .skip)
noncomputable def cc_slices_breakPatternsOrdered_int_k13 : CC :=
  (.seq (.region <| o1 14 (.mv (.t 6)) <|
    o1 15 (.bin .geq (.t 14) (.c (.int .i64 8))) <|
    .done)
  cc_slices_breakPatternsOrdered_int_k12)
noncomputable def cc_slices_breakPatternsOrdered_int : CC :=
  (.seq (.region <| o1 11 (.mv (.t 2)) <|
    o1 12 (.mv (.t 1)) <|
    o1 13 (.bin .sub (.t 11) (.t 12)) <|
    o1 6 (.mv (.t 13)) <|
    .done)
  cc_slices_breakPatternsOrdered_int_k13)
noncomputable def fe_slices_breakPatternsOrdered_int : FE := ⟨65, [], cc_slices_breakPatternsOrdered_int⟩
theorem e_slices_breakPatternsOrdered_int : compF prog F.slices_breakPatternsOrdered_int = some fe_slices_breakPatternsOrdered_int := by kernel_rfl

noncomputable def cc_slices_choosePivotOrdered_int_c0 : CC :=
  (.seq (.region <| o1 53 (.mv (.t 11)) <|
    o1 6 (.mv (.t 53)) <|
    o1 7 (.mv (.c (.int .i64 1))) <|
    .done)
  .ret)
noncomputable def cc_slices_choosePivotOrdered_int_c1 : CC :=
  (.seq (.region <| o1 56 (.mv (.t 11)) <|
    o1 6 (.mv (.t 56)) <|
    o1 7 (.mv (.c (.int .i64 2))) <|
    .done)
  .ret)
noncomputable def cc_slices_choosePivotOrdered_int_c2 : CC :=
  (.seq (.region <| o1 50 (.mv (.t 11)) <|
    o1 6 (.mv (.t 50)) <|
    o1 7 (.mv (.c (.int .i64 0))) <|
    .done)
  .ret)
noncomputable def cc_slices_choosePivotOrdered_int_k3 : CC :=
  (.cond (.t 54) cc_slices_choosePivotOrdered_int_c1 cc_slices_choosePivotOrdered_int_c2)
noncomputable def cc_slices_choosePivotOrdered_int_c4 : CC :=
  (.seq (.region <| o1 55 (.bin .eql (.t 49) (.c (.int .i64 12))) <|
    o1 54 (.mv (.t 55)) <|
    .done)
  cc_slices_choosePivotOrdered_int_k3)
noncomputable def cc_slices_choosePivotOrdered_int_k5 : CC :=
  (.cond (.t 51) cc_slices_choosePivotOrdered_int_c0 cc_slices_choosePivotOrdered_int_c4)
noncomputable def cc_slices_choosePivotOrdered_int_k6 : CC :=
  (.block 0 (.seq (.region <| o1 52 (.bin .eql (.t 49) (.c (.int .i64 0))) <|
    o1 51 (.mv (.t 52)) <|
    .done)
  cc_slices_choosePivotOrdered_int_k5))
noncomputable def cc_slices_choosePivotOrdered_int_k7 : CC :=
  (.seq (.region <| o1 49 (.load1 (.t 9)) <|
    .done)
  cc_slices_choosePivotOrdered_int_k6)
noncomputable def cc_slices_choosePivotOrdered_int_k8 : CC :=
  (.region <| o1 44 (.mv (.t 0)) <|
    o1 45 (.mv (.t 10)) <|
    o1 46 (.mv (.t 11)) <|
    o1 47 (.mv (.t 12)) <|
    .op ⟨some 48, none, .call F.slices_medianOrdered_int [(.t 44), (.t 45), (.t 46), (.t 47), (.t 9)]⟩ [] <|
    o1 11 (.mv (.t 48)) <|
    .done)
noncomputable def cc_slices_choosePivotOrdered_int_k9 : CC :=
  (.region <| o1 41 (.mv (.t 0)) <|
    o1 42 (.mv (.t 12)) <|
    .op ⟨some 43, none, .call F.slices_medianAdjacentOrdered_int [(.t 41), (.t 42), (.t 9)]⟩ [] <|
    o1 12 (.mv (.t 43)) <|
    .done)
noncomputable def cc_slices_choosePivotOrdered_int_k10 : CC :=
  (.seq (.region <| o1 38 (.mv (.t 0)) <|
    o1 39 (.mv (.t 11)) <|
    .op ⟨some 40, none, .call F.slices_medianAdjacentOrdered_int [(.t 38), (.t 39), (.t 9)]⟩ [] <|
    o1 11 (.mv (.t 40)) <|
    .done)
  cc_slices_choosePivotOrdered_int_k9)
noncomputable def cc_slices_choosePivotOrdered_int_c11 : CC :=
  (.seq (.region <| o1 35 (.mv (.t 0)) <|
    o1 36 (.mv (.t 10)) <|
    .op ⟨some 37, none, .call F.slices_medianAdjacentOrdered_int [(.t 35), (.t 36), (.t 9)]⟩ [] <|
    o1 10 (.mv (.t 37)) <|
    .done)
  cc_slices_choosePivotOrdered_int_k10)
noncomputable def cc_slices_choosePivotOrdered_int_k12 : CC :=
  (.cond (.t 34) cc_slices_choosePivotOrdered_int_c11 .skip)
noncomputable def cc_slices_choosePivotOrdered_int_c13 : CC :=
  (.seq (.seq (.region <| o1 33 (.mv (.t 8)) <|
    o1 34 (.bin .geq (.t 33) (.c (.int .i64 50))) <|
    .done)
  cc_slices_choosePivotOrdered_int_k12)
  cc_slices_choosePivotOrdered_int_k8)
noncomputable def cc_slices_choosePivotOrdered_int_k14 : CC :=
  (.cond (.t 32) cc_slices_choosePivotOrdered_int_c13 .skip)
noncomputable def cc_slices_choosePivotOrdered_int_k15 : CC :=
  (.seq (.seq (.region <| o1 31 (.mv (.t 8)) <|
    o1 32 (.bin .geq (.t 31) (.c (.int .i64 8))) <|
    .done)
  cc_slices_choosePivotOrdered_int_k14)
  cc_slices_choosePivotOrdered_int_k7)
noncomputable def cc_slices_choosePivotOrdered_int_k16 : CC :=
  (.seq (.region <| o1 26 (.mv (.t 1)) <|
    o1 27 (.mv (.t 8)) <|
    o1 28 (.bin .quo (.t 27) (.c (.int .i64 4))) <|
    o1 29 (.bin .mul (.t 28) (.c (.int .i64 3))) <|
    o1 30 (.bin .add (.t 26) (.t 29)) <|
    o1 12 (.mv (.t 30)) <|
    .done)
  cc_slices_choosePivotOrdered_int_k15)
noncomputable def cc_slices_choosePivotOrdered_int_k17 : CC :=
  (.seq (.region <| o1 21 (.mv (.t 1)) <|
    o1 22 (.mv (.t 8)) <|
    o1 23 (.bin .quo (.t 22) (.c (.int .i64 4))) <|
    o1 24 (.bin .mul (.t 23) (.c (.int .i64 2))) <|
    o1 25 (.bin .add (.t 21) (.t 24)) <|
    o1 11 (.mv (.t 25)) <|
    .done)
  cc_slices_choosePivotOrdered_int_k16)
noncomputable def cc_slices_choosePivotOrdered_int_k18 : CC :=
  (.seq (.region <| o1 16 (.mv (.t 1)) <|
    o1 17 (.mv (.t 8)) <|
    o1 18 (.bin .quo (.t 17) (.c (.int .i64 4))) <|
    o1 19 (.bin .mul (.t 18) (.c (.int .i64 1))) <|
    o1 20 (.bin .add (.t 16) (.t 19)) <|
    o1 10 (.mv (.t 20)) <|
    .done)
  cc_slices_choosePivotOrdered_int_k17)
noncomputable def cc_slices_choosePivotOrdered_int_k19 : CC :=
  (.seq (.region <| o1 9 (.alloc 3 [(.int .i64 0)]) <|
    .done)
  cc_slices_choosePivotOrdered_int_k18)
noncomputable def cc_slices_choosePivotOrdered_int_k20 : CC :=
  (.seq (.region <| o1 13 (.mv (.t 2)) <|
    o1 14 (.mv (.t 1)) <|
    o1 15 (.bin .sub (.t 13) (.t 14)) <|
    o1 8 (.mv (.t 15)) <|
    .done)
  cc_slices_choosePivotOrdered_int_k19)
noncomputable def cc_slices_choosePivotOrdered_int : CC :=
  (.seq (.region <| o1 6 (.mv (.c (.int .i64 0))) <|
    o1 7 (.mv (.c (.int .i64 0))) <|
    .done)
  cc_slices_choosePivotOrdered_int_k20)
noncomputable def fe_slices_choosePivotOrdered_int : FE := ⟨57, [.tmp 6, .tmp 7], cc_slices_choosePivotOrdered_int⟩
theorem e_slices_choosePivotOrdered_int : compF prog F.slices_choosePivotOrdered_int = some fe_slices_choosePivotOrdered_int := by kernel_rfl

noncomputable def cc_slices_reverseRangeOrdered_int_k0 : CC :=
  (.region <| o1 30 (.mv (.t 7)) <|
    o1 31 (.bin .sub (.t 30) (.c (.int .i64 1))) <|
    o1 7 (.mv (.t 31)) <|
    .done)
noncomputable def cc_slices_reverseRangeOrdered_int_k1 : CC :=
  (.seq (.region <| o1 28 (.mv (.t 6)) <|
    o1 29 (.bin .add (.t 28) (.c (.int .i64 1))) <|
    o1 6 (.mv (.t 29)) <|
    .done)
  cc_slices_reverseRangeOrdered_int_k0)
noncomputable def cc_slices_reverseRangeOrdered_int_k2 : CC :=
  (.block 1 (.seq (.region <| o1 14 (.mv (.t 0)) <|
    o1 15 (.mv (.t 6)) <|
    o1 16 (.mv (.t 0)) <|
    o1 17 (.mv (.t 7)) <|
    o1 18 (.mv (.t 0)) <|
    o1 19 (.mv (.t 7)) <|
    o1 20 (.iaddr 1 (.t 18) (.t 19)) <|
    o1 21 (.load1 (.t 20)) <|
    o1 22 (.mv (.t 0)) <|
    o1 23 (.mv (.t 6)) <|
    o1 24 (.iaddr 1 (.t 22) (.t 23)) <|
    o1 25 (.load1 (.t 24)) <|
    o1 26 (.iaddr 1 (.t 14) (.t 15)) <|
    .op ⟨none, none, .prim (.store 1 (.t 26) (.t 21))⟩ [] <|
    o1 27 (.iaddr 1 (.t 16) (.t 17)) <|
    .op ⟨none, none, .prim (.store 1 (.t 27) (.t 25))⟩ [] <|
    .done)
  cc_slices_reverseRangeOrdered_int_k1))
noncomputable def cc_slices_reverseRangeOrdered_int_k3 : CC :=
  (.cond (.t 13) .skip (.exit 0))
noncomputable def cc_slices_reverseRangeOrdered_int_l4 : CC :=
  (.seq (.seq (.region <| o1 11 (.mv (.t 6)) <|
    o1 12 (.mv (.t 7)) <|
    o1 13 (.bin .lss (.t 11) (.t 12)) <|
    .done)
  cc_slices_reverseRangeOrdered_int_k3)
  cc_slices_reverseRangeOrdered_int_k2)
noncomputable def cc_slices_reverseRangeOrdered_int_k5 : CC :=
  (.block 0 (.loop cc_slices_reverseRangeOrdered_int_l4))
noncomputable def cc_slices_reverseRangeOrdered_int_k6 : CC :=
  (.seq (.region <| o1 9 (.mv (.t 2)) <|
    o1 10 (.bin .sub (.t 9) (.c (.int .i64 1))) <|
    o1 7 (.mv (.t 10)) <|
    .done)
  cc_slices_reverseRangeOrdered_int_k5)
noncomputable def cc_slices_reverseRangeOrdered_int : CC :=
  (.seq (.region <| o1 8 (.mv (.t 1)) <|
    o1 6 (.mv (.t 8)) <|
    .done)
  cc_slices_reverseRangeOrdered_int_k6)
noncomputable def fe_slices_reverseRangeOrdered_int : FE := ⟨32, [], cc_slices_reverseRangeOrdered_int⟩
theorem e_slices_reverseRangeOrdered_int : compF prog F.slices_reverseRangeOrdered_int = some fe_slices_reverseRangeOrdered_int := by kernel_rfl

noncomputable def cc_slices_partialInsertionSortOrdered_int_k0 : CC :=
  (.region <| o1 15 (.mv (.t 8)) <|
    o1 16 (.bin .add (.t 15) (.c (.int .i64 1))) <|
    o1 8 (.mv (.t 16)) <|
    .done)
noncomputable def cc_slices_partialInsertionSortOrdered_int_k1 : CC :=
  (.region <| o1 104 (.mv (.t 10)) <|
    o1 105 (.bin .add (.t 104) (.c (.int .i64 1))) <|
    o1 10 (.mv (.t 105)) <|
    .done)
noncomputable def cc_slices_partialInsertionSortOrdered_int_k2 : CC :=
  (.region <| o1 117 (.mv (.t 0)) <|
    o1 118 (.mv (.t 10)) <|
    o1 119 (.mv (.t 0)) <|
    o1 120 (.mv (.t 10)) <|
    o1 121 (.bin .sub (.t 120) (.c (.int .i64 1))) <|
    o1 122 (.mv (.t 0)) <|
    o1 123 (.mv (.t 10)) <|
    o1 124 (.bin .sub (.t 123) (.c (.int .i64 1))) <|
    o1 125 (.iaddr 1 (.t 122) (.t 124)) <|
    o1 126 (.load1 (.t 125)) <|
    o1 127 (.mv (.t 0)) <|
    o1 128 (.mv (.t 10)) <|
    o1 129 (.iaddr 1 (.t 127) (.t 128)) <|
    o1 130 (.load1 (.t 129)) <|
    o1 131 (.iaddr 1 (.t 117) (.t 118)) <|
    .op ⟨none, none, .prim (.store 1 (.t 131) (.t 126))⟩ [] <|
    o1 132 (.iaddr 1 (.t 119) (.t 121)) <|
    .op ⟨none, none, .prim (.store 1 (.t 132) (.t 130))⟩ [] <|
    .done)
noncomputable def cc_slices_partialInsertionSortOrdered_int_k3 : CC :=
  (.cond (.t 116) (.exit 6) .skip)
noncomputable def cc_slices_partialInsertionSortOrdered_int_k4 : CC :=
  (.seq (.block 7 (.seq (.seq (.region <| o1 106 (.mv (.t 0)) <|
    o1 107 (.mv (.t 10)) <|
    o1 108 (.iaddr 1 (.t 106) (.t 107)) <|
    o1 109 (.load1 (.t 108)) <|
    o1 110 (.mv (.t 0)) <|
    o1 111 (.mv (.t 10)) <|
    o1 112 (.bin .sub (.t 111) (.c (.int .i64 1))) <|
    o1 113 (.iaddr 1 (.t 110) (.t 112)) <|
    o1 114 (.load1 (.t 113)) <|
    .op ⟨some 115, none, .call F.cmp_Less_int [(.t 109), (.t 114)]⟩ [] <|
    o1 116 (.not (.t 115)) <|
    .done)
  cc_slices_partialInsertionSortOrdered_int_k3)
  cc_slices_partialInsertionSortOrdered_int_k2))
  cc_slices_partialInsertionSortOrdered_int_k1)
noncomputable def cc_slices_partialInsertionSortOrdered_int_k5 : CC :=
  (.cond (.t 103) .skip (.exit 6))
noncomputable def cc_slices_partialInsertionSortOrdered_int_l6 : CC :=
  (.seq (.seq (.region <| o1 101 (.mv (.t 10)) <|
    o1 102 (.mv (.t 2)) <|
    o1 103 (.bin .lss (.t 101) (.t 102)) <|
    .done)
  cc_slices_partialInsertionSortOrdered_int_k5)
  cc_slices_partialInsertionSortOrdered_int_k4)
noncomputable def cc_slices_partialInsertionSortOrdered_int_k7 : CC :=
  (.block 6 (.loop cc_slices_partialInsertionSortOrdered_int_l6))
noncomputable def cc_slices_partialInsertionSortOrdered_int_c8 : CC :=
  (.seq (.region <| o1 99 (.mv (.t 7)) <|
    o1 100 (.bin .add (.t 99) (.c (.int .i64 1))) <|
    o1 10 (.mv (.t 100)) <|
    .done)
  cc_slices_partialInsertionSortOrdered_int_k7)
noncomputable def cc_slices_partialInsertionSortOrdered_int_k9 : CC :=
  (.cond (.t 98) cc_slices_partialInsertionSortOrdered_int_c8 .skip)
noncomputable def cc_slices_partialInsertionSortOrdered_int_k10 : CC :=
  (.seq (.region <| o1 95 (.mv (.t 2)) <|
    o1 96 (.mv (.t 7)) <|
    o1 97 (.bin .sub (.t 95) (.t 96)) <|
    o1 98 (.bin .geq (.t 97) (.c (.int .i64 2))) <|
    .done)
  cc_slices_partialInsertionSortOrdered_int_k9)
noncomputable def cc_slices_partialInsertionSortOrdered_int_k11 : CC :=
  (.region <| o1 66 (.mv (.t 9)) <|
    o1 67 (.bin .sub (.t 66) (.c (.int .i64 1))) <|
    o1 9 (.mv (.t 67)) <|
    .done)
noncomputable def cc_slices_partialInsertionSortOrdered_int_k12 : CC :=
  (.region <| o1 79 (.mv (.t 0)) <|
    o1 80 (.mv (.t 9)) <|
    o1 81 (.mv (.t 0)) <|
    o1 82 (.mv (.t 9)) <|
    o1 83 (.bin .sub (.t 82) (.c (.int .i64 1))) <|
    o1 84 (.mv (.t 0)) <|
    o1 85 (.mv (.t 9)) <|
    o1 86 (.bin .sub (.t 85) (.c (.int .i64 1))) <|
    o1 87 (.iaddr 1 (.t 84) (.t 86)) <|
    o1 88 (.load1 (.t 87)) <|
    o1 89 (.mv (.t 0)) <|
    o1 90 (.mv (.t 9)) <|
    o1 91 (.iaddr 1 (.t 89) (.t 90)) <|
    o1 92 (.load1 (.t 91)) <|
    o1 93 (.iaddr 1 (.t 79) (.t 80)) <|
    .op ⟨none, none, .prim (.store 1 (.t 93) (.t 88))⟩ [] <|
    o1 94 (.iaddr 1 (.t 81) (.t 83)) <|
    .op ⟨none, none, .prim (.store 1 (.t 94) (.t 92))⟩ [] <|
    .done)
noncomputable def cc_slices_partialInsertionSortOrdered_int_k13 : CC :=
  (.cond (.t 78) (.exit 4) .skip)
noncomputable def cc_slices_partialInsertionSortOrdered_int_k14 : CC :=
  (.seq (.block 5 (.seq (.seq (.region <| o1 68 (.mv (.t 0)) <|
    o1 69 (.mv (.t 9)) <|
    o1 70 (.iaddr 1 (.t 68) (.t 69)) <|
    o1 71 (.load1 (.t 70)) <|
    o1 72 (.mv (.t 0)) <|
    o1 73 (.mv (.t 9)) <|
    o1 74 (.bin .sub (.t 73) (.c (.int .i64 1))) <|
    o1 75 (.iaddr 1 (.t 72) (.t 74)) <|
    o1 76 (.load1 (.t 75)) <|
    .op ⟨some 77, none, .call F.cmp_Less_int [(.t 71), (.t 76)]⟩ [] <|
    o1 78 (.not (.t 77)) <|
    .done)
  cc_slices_partialInsertionSortOrdered_int_k13)
  cc_slices_partialInsertionSortOrdered_int_k12))
  cc_slices_partialInsertionSortOrdered_int_k11)
noncomputable def cc_slices_partialInsertionSortOrdered_int_k15 : CC :=
  (.cond (.t 65) .skip (.exit 4))
noncomputable def cc_slices_partialInsertionSortOrdered_int_l16 : CC :=
  (.seq (.seq (.region <| o1 64 (.mv (.t 9)) <|
    o1 65 (.bin .geq (.t 64) (.c (.int .i64 1))) <|
    .done)
  cc_slices_partialInsertionSortOrdered_int_k15)
  cc_slices_partialInsertionSortOrdered_int_k14)
noncomputable def cc_slices_partialInsertionSortOrdered_int_k17 : CC :=
  (.block 4 (.loop cc_slices_partialInsertionSortOrdered_int_l16))
noncomputable def cc_slices_partialInsertionSortOrdered_int_c18 : CC :=
  (.seq (.region <| o1 62 (.mv (.t 7)) <|
    o1 63 (.bin .sub (.t 62) (.c (.int .i64 1))) <|
    o1 9 (.mv (.t 63)) <|
    .done)
  cc_slices_partialInsertionSortOrdered_int_k17)
noncomputable def cc_slices_partialInsertionSortOrdered_int_k19 : CC :=
  (.cond (.t 61) cc_slices_partialInsertionSortOrdered_int_c18 .skip)
noncomputable def cc_slices_partialInsertionSortOrdered_int_k20 : CC :=
  (.seq (.seq (.region <| o1 58 (.mv (.t 7)) <|
    o1 59 (.mv (.t 1)) <|
    o1 60 (.bin .sub (.t 58) (.t 59)) <|
    o1 61 (.bin .geq (.t 60) (.c (.int .i64 2))) <|
    .done)
  cc_slices_partialInsertionSortOrdered_int_k19)
  cc_slices_partialInsertionSortOrdered_int_k10)
noncomputable def cc_slices_partialInsertionSortOrdered_int_k21 : CC :=
  (.seq (.region <| o1 42 (.mv (.t 0)) <|
    o1 43 (.mv (.t 7)) <|
    o1 44 (.mv (.t 0)) <|
    o1 45 (.mv (.t 7)) <|
    o1 46 (.bin .sub (.t 45) (.c (.int .i64 1))) <|
    o1 47 (.mv (.t 0)) <|
    o1 48 (.mv (.t 7)) <|
    o1 49 (.bin .sub (.t 48) (.c (.int .i64 1))) <|
    o1 50 (.iaddr 1 (.t 47) (.t 49)) <|
    o1 51 (.load1 (.t 50)) <|
    o1 52 (.mv (.t 0)) <|
    o1 53 (.mv (.t 7)) <|
    o1 54 (.iaddr 1 (.t 52) (.t 53)) <|
    o1 55 (.load1 (.t 54)) <|
    o1 56 (.iaddr 1 (.t 42) (.t 43)) <|
    .op ⟨none, none, .prim (.store 1 (.t 56) (.t 51))⟩ [] <|
    o1 57 (.iaddr 1 (.t 44) (.t 46)) <|
    .op ⟨none, none, .prim (.store 1 (.t 57) (.t 55))⟩ [] <|
    .done)
  cc_slices_partialInsertionSortOrdered_int_k20)
noncomputable def cc_slices_partialInsertionSortOrdered_int_k22 : CC :=
  (.cond (.t 41) (.seq (.region <| o1 6 (.mv (.c (.bool false))) <|
    .done)
  .ret) .skip)
noncomputable def cc_slices_partialInsertionSortOrdered_int_k23 : CC :=
  (.seq (.seq (.region <| o1 38 (.mv (.t 2)) <|
    o1 39 (.mv (.t 1)) <|
    o1 40 (.bin .sub (.t 38) (.t 39)) <|
    o1 41 (.bin .lss (.t 40) (.c (.int .i64 50))) <|
    .done)
  cc_slices_partialInsertionSortOrdered_int_k22)
  cc_slices_partialInsertionSortOrdered_int_k21)
noncomputable def cc_slices_partialInsertionSortOrdered_int_k24 : CC :=
  (.cond (.t 37) (.seq (.region <| o1 6 (.mv (.c (.bool true))) <|
    .done)
  .ret) .skip)
noncomputable def cc_slices_partialInsertionSortOrdered_int_k25 : CC :=
  (.seq (.seq (.region <| o1 35 (.mv (.t 7)) <|
    o1 36 (.mv (.t 2)) <|
    o1 37 (.bin .eql (.t 35) (.t 36)) <|
    .done)
  cc_slices_partialInsertionSortOrdered_int_k24)
  cc_slices_partialInsertionSortOrdered_int_k23)
noncomputable def cc_slices_partialInsertionSortOrdered_int_k26 : CC :=
  (.block 3 (.region <| o1 33 (.mv (.t 7)) <|
    o1 34 (.bin .add (.t 33) (.c (.int .i64 1))) <|
    o1 7 (.mv (.t 34)) <|
    .done))
noncomputable def cc_slices_partialInsertionSortOrdered_int_k27 : CC :=
  (.cond (.t 32) .skip (.exit 2))
noncomputable def cc_slices_partialInsertionSortOrdered_int_l28 : CC :=
  (.seq (.seq (.region <| o1 17 (.mv (.t 7)) <|
    o1 18 (.mv (.t 2)) <|
    o1 19 (.bin .lss (.t 17) (.t 18)) <|
    o1 20 (.mv (.t 19)) <|
    .op ⟨some 21, some (20, true), .prim (.mv (.t 0))⟩ [] <|
    .op ⟨some 22, some (20, true), .prim (.mv (.t 7))⟩ [] <|
    .op ⟨some 23, some (20, true), .prim (.iaddr 1 (.t 21) (.t 22))⟩ [] <|
    .op ⟨some 24, some (20, true), .prim (.load1 (.t 23))⟩ [] <|
    .op ⟨some 25, some (20, true), .prim (.mv (.t 0))⟩ [] <|
    .op ⟨some 26, some (20, true), .prim (.mv (.t 7))⟩ [] <|
    .op ⟨some 27, some (20, true), .prim (.bin .sub (.t 26) (.c (.int .i64 1)))⟩ [] <|
    .op ⟨some 28, some (20, true), .prim (.iaddr 1 (.t 25) (.t 27))⟩ [] <|
    .op ⟨some 29, some (20, true), .prim (.load1 (.t 28))⟩ [] <|
    .op ⟨some 30, some (20, true), .call F.cmp_Less_int [(.t 24), (.t 29)]⟩ [] <|
    .op ⟨some 31, some (20, true), .prim (.not (.t 30))⟩ [] <|
    o1 32 (.pick (.t 20) (.t 31) (.c (.bool false))) <|
    .done)
  cc_slices_partialInsertionSortOrdered_int_k27)
  cc_slices_partialInsertionSortOrdered_int_k26)
noncomputable def cc_slices_partialInsertionSortOrdered_int_k29 : CC :=
  (.seq (.block 1 (.seq (.block 2 (.loop cc_slices_partialInsertionSortOrdered_int_l28))
  cc_slices_partialInsertionSortOrdered_int_k25))
  cc_slices_partialInsertionSortOrdered_int_k0)
noncomputable def cc_slices_partialInsertionSortOrdered_int_k30 : CC :=
  (.cond (.t 14) .skip (.exit 0))
noncomputable def cc_slices_partialInsertionSortOrdered_int_l31 : CC :=
  (.seq (.seq (.region <| o1 13 (.mv (.t 8)) <|
    o1 14 (.bin .lss (.t 13) (.c (.int .i64 5))) <|
    .done)
  cc_slices_partialInsertionSortOrdered_int_k30)
  cc_slices_partialInsertionSortOrdered_int_k29)
noncomputable def cc_slices_partialInsertionSortOrdered_int_k32 : CC :=
  (.block 0 (.loop cc_slices_partialInsertionSortOrdered_int_l31))
noncomputable def cc_slices_partialInsertionSortOrdered_int_k33 : CC :=
  (.seq (.seq (.region <| o1 8 (.mv (.c (.int .i64 0))) <|
    .done)
  cc_slices_partialInsertionSortOrdered_int_k32)
  (.seq (.region <| o1 6 (.mv (.c (.bool false))) <|
    .done)
  .ret))
noncomputable def cc_slices_partialInsertionSortOrdered_int_k34 : CC :=
  (.seq (.region <| o1 11 (.mv (.t 1)) <|
    o1 12 (.bin .add (.t 11) (.c (.int .i64 1))) <|
    o1 7 (.mv (.t 12)) <|
    .done)
  cc_slices_partialInsertionSortOrdered_int_k33)
noncomputable def cc_slices_partialInsertionSortOrdered_int : CC :=
  (.seq (.region <| o1 6 (.mv (.c (.bool false))) <|
    .done)
  cc_slices_partialInsertionSortOrdered_int_k34)
noncomputable def fe_slices_partialInsertionSortOrdered_int : FE := ⟨133, [.tmp 6], cc_slices_partialInsertionSortOrdered_int⟩
theorem e_slices_partialInsertionSortOrdered_int : compF prog F.slices_partialInsertionSortOrdered_int = some fe_slices_partialInsertionSortOrdered_int := by kernel_rfl

noncomputable def cc_cmp_Less_int_k0 : CC :=
  (.seq (.region <| o1 5 (.mv (.t 0)) <|
    .op ⟨some 6, none, .call F.cmp_isNaN_int [(.t 5)]⟩ [] <|
    o1 7 (.mv (.t 6)) <|
    .op ⟨some 8, some (7, true), .prim (.mv (.t 1))⟩ [] <|
    .op ⟨some 9, some (7, true), .call F.cmp_isNaN_int [(.t 8)]⟩ [] <|
    .op ⟨some 10, some (7, true), .prim (.not (.t 9))⟩ [] <|
    o1 11 (.pick (.t 7) (.t 10) (.c (.bool false))) <|
    o1 12 (.mv (.t 11)) <|
    .op ⟨some 13, some (12, false), .prim (.mv (.t 0))⟩ [] <|
    .op ⟨some 14, some (12, false), .prim (.mv (.t 1))⟩ [] <|
    .op ⟨some 15, some (12, false), .prim (.bin .lss (.t 13) (.t 14))⟩ [] <|
    o1 16 (.pick (.t 12) (.c (.bool true)) (.t 15)) <|
    o1 4 (.mv (.t 16)) <|
    .done)
  .ret)
noncomputable def cc_cmp_Less_int : CC :=
  (.seq (.region <| o1 4 (.mv (.c (.bool false))) <|
    .done)
  cc_cmp_Less_int_k0)
noncomputable def fe_cmp_Less_int : FE := ⟨17, [.tmp 4], cc_cmp_Less_int⟩
theorem e_cmp_Less_int : compF prog F.cmp_Less_int = some fe_cmp_Less_int := by kernel_rfl

noncomputable def cc_slices_partitionEqualOrdered_int_k0 : CC :=
  (.region <| o1 81 (.mv (.t 10)) <|
    o1 82 (.bin .sub (.t 81) (.c (.int .i64 1))) <|
    o1 10 (.mv (.t 82)) <|
    .done)
noncomputable def cc_slices_partitionEqualOrdered_int_k1 : CC :=
  (.seq (.region <| o1 79 (.mv (.t 9)) <|
    o1 80 (.bin .add (.t 79) (.c (.int .i64 1))) <|
    o1 9 (.mv (.t 80)) <|
    .done)
  cc_slices_partitionEqualOrdered_int_k0)
noncomputable def cc_slices_partitionEqualOrdered_int_k2 : CC :=
  (.seq (.region <| o1 65 (.mv (.t 0)) <|
    o1 66 (.mv (.t 9)) <|
    o1 67 (.mv (.t 0)) <|
    o1 68 (.mv (.t 10)) <|
    o1 69 (.mv (.t 0)) <|
    o1 70 (.mv (.t 10)) <|
    o1 71 (.iaddr 1 (.t 69) (.t 70)) <|
    o1 72 (.load1 (.t 71)) <|
    o1 73 (.mv (.t 0)) <|
    o1 74 (.mv (.t 9)) <|
    o1 75 (.iaddr 1 (.t 73) (.t 74)) <|
    o1 76 (.load1 (.t 75)) <|
    o1 77 (.iaddr 1 (.t 65) (.t 66)) <|
    .op ⟨none, none, .prim (.store 1 (.t 77) (.t 72))⟩ [] <|
    o1 78 (.iaddr 1 (.t 67) (.t 68)) <|
    .op ⟨none, none, .prim (.store 1 (.t 78) (.t 76))⟩ [] <|
    .done)
  cc_slices_partitionEqualOrdered_int_k1)
noncomputable def cc_slices_partitionEqualOrdered_int_k3 : CC :=
  (.cond (.t 64) (.exit 0) .skip)
noncomputable def cc_slices_partitionEqualOrdered_int_k4 : CC :=
  (.seq (.seq (.region <| o1 62 (.mv (.t 9)) <|
    o1 63 (.mv (.t 10)) <|
    o1 64 (.bin .gtr (.t 62) (.t 63)) <|
    .done)
  cc_slices_partitionEqualOrdered_int_k3)
  cc_slices_partitionEqualOrdered_int_k2)
noncomputable def cc_slices_partitionEqualOrdered_int_k5 : CC :=
  (.block 5 (.region <| o1 60 (.mv (.t 10)) <|
    o1 61 (.bin .sub (.t 60) (.c (.int .i64 1))) <|
    o1 10 (.mv (.t 61)) <|
    .done))
noncomputable def cc_slices_partitionEqualOrdered_int_k6 : CC :=
  (.cond (.t 59) .skip (.exit 4))
noncomputable def cc_slices_partitionEqualOrdered_int_l7 : CC :=
  (.seq (.seq (.region <| o1 46 (.mv (.t 9)) <|
    o1 47 (.mv (.t 10)) <|
    o1 48 (.bin .leq (.t 46) (.t 47)) <|
    o1 49 (.mv (.t 48)) <|
    .op ⟨some 50, some (49, true), .prim (.mv (.t 0))⟩ [] <|
    .op ⟨some 51, some (49, true), .prim (.mv (.t 1))⟩ [] <|
    .op ⟨some 52, some (49, true), .prim (.iaddr 1 (.t 50) (.t 51))⟩ [] <|
    .op ⟨some 53, some (49, true), .prim (.load1 (.t 52))⟩ [] <|
    .op ⟨some 54, some (49, true), .prim (.mv (.t 0))⟩ [] <|
    .op ⟨some 55, some (49, true), .prim (.mv (.t 10))⟩ [] <|
    .op ⟨some 56, some (49, true), .prim (.iaddr 1 (.t 54) (.t 55))⟩ [] <|
    .op ⟨some 57, some (49, true), .prim (.load1 (.t 56))⟩ [] <|
    .op ⟨some 58, some (49, true), .call F.cmp_Less_int [(.t 53), (.t 57)]⟩ [] <|
    o1 59 (.pick (.t 49) (.t 58) (.c (.bool false))) <|
    .done)
  cc_slices_partitionEqualOrdered_int_k6)
  cc_slices_partitionEqualOrdered_int_k5)
noncomputable def cc_slices_partitionEqualOrdered_int_k8 : CC :=
  (.seq (.block 4 (.loop cc_slices_partitionEqualOrdered_int_l7))
  cc_slices_partitionEqualOrdered_int_k4)
noncomputable def cc_slices_partitionEqualOrdered_int_k9 : CC :=
  (.block 3 (.region <| o1 44 (.mv (.t 9)) <|
    o1 45 (.bin .add (.t 44) (.c (.int .i64 1))) <|
    o1 9 (.mv (.t 45)) <|
    .done))
noncomputable def cc_slices_partitionEqualOrdered_int_k10 : CC :=
  (.cond (.t 43) .skip (.exit 2))
noncomputable def cc_slices_partitionEqualOrdered_int_l11 : CC :=
  (.seq (.seq (.region <| o1 29 (.mv (.t 9)) <|
    o1 30 (.mv (.t 10)) <|
    o1 31 (.bin .leq (.t 29) (.t 30)) <|
    o1 32 (.mv (.t 31)) <|
    .op ⟨some 33, some (32, true), .prim (.mv (.t 0))⟩ [] <|
    .op ⟨some 34, some (32, true), .prim (.mv (.t 1))⟩ [] <|
    .op ⟨some 35, some (32, true), .prim (.iaddr 1 (.t 33) (.t 34))⟩ [] <|
    .op ⟨some 36, some (32, true), .prim (.load1 (.t 35))⟩ [] <|
    .op ⟨some 37, some (32, true), .prim (.mv (.t 0))⟩ [] <|
    .op ⟨some 38, some (32, true), .prim (.mv (.t 9))⟩ [] <|
    .op ⟨some 39, some (32, true), .prim (.iaddr 1 (.t 37) (.t 38))⟩ [] <|
    .op ⟨some 40, some (32, true), .prim (.load1 (.t 39))⟩ [] <|
    .op ⟨some 41, some (32, true), .call F.cmp_Less_int [(.t 36), (.t 40)]⟩ [] <|
    .op ⟨some 42, some (32, true), .prim (.not (.t 41))⟩ [] <|
    o1 43 (.pick (.t 32) (.t 42) (.c (.bool false))) <|
    .done)
  cc_slices_partitionEqualOrdered_int_k10)
  cc_slices_partitionEqualOrdered_int_k9)
noncomputable def cc_slices_partitionEqualOrdered_int_l12 : CC :=
  (.block 1 (.seq (.block 2 (.loop cc_slices_partitionEqualOrdered_int_l11))
  cc_slices_partitionEqualOrdered_int_k8))
noncomputable def cc_slices_partitionEqualOrdered_int_k13 : CC :=
  (.seq (.block 0 (.loop cc_slices_partitionEqualOrdered_int_l12))
  (.seq (.region <| o1 83 (.mv (.t 9)) <|
    o1 8 (.mv (.t 83)) <|
    .done)
  .ret))
noncomputable def cc_slices_partitionEqualOrdered_int_k14 : CC :=
  (.seq (.region <| o1 25 (.mv (.t 1)) <|
    o1 26 (.bin .add (.t 25) (.c (.int .i64 1))) <|
    o1 27 (.mv (.t 2)) <|
    o1 28 (.bin .sub (.t 27) (.c (.int .i64 1))) <|
    o1 9 (.mv (.t 26)) <|
    o1 10 (.mv (.t 28)) <|
    .done)
  cc_slices_partitionEqualOrdered_int_k13)
noncomputable def cc_slices_partitionEqualOrdered_int_k15 : CC :=
  (.seq (.region <| o1 11 (.mv (.t 0)) <|
    o1 12 (.mv (.t 1)) <|
    o1 13 (.mv (.t 0)) <|
    o1 14 (.mv (.t 3)) <|
    o1 15 (.mv (.t 0)) <|
    o1 16 (.mv (.t 3)) <|
    o1 17 (.iaddr 1 (.t 15) (.t 16)) <|
    o1 18 (.load1 (.t 17)) <|
    o1 19 (.mv (.t 0)) <|
    o1 20 (.mv (.t 1)) <|
    o1 21 (.iaddr 1 (.t 19) (.t 20)) <|
    o1 22 (.load1 (.t 21)) <|
    o1 23 (.iaddr 1 (.t 11) (.t 12)) <|
    .op ⟨none, none, .prim (.store 1 (.t 23) (.t 18))⟩ [] <|
    o1 24 (.iaddr 1 (.t 13) (.t 14)) <|
    .op ⟨none, none, .prim (.store 1 (.t 24) (.t 22))⟩ [] <|
    .done)
  cc_slices_partitionEqualOrdered_int_k14)
noncomputable def cc_slices_partitionEqualOrdered_int : CC :=
  (.seq (.region <| o1 8 (.mv (.c (.int .i64 0))) <|
    .done)
  cc_slices_partitionEqualOrdered_int_k15)
noncomputable def fe_slices_partitionEqualOrdered_int : FE := ⟨84, [.tmp 8], cc_slices_partitionEqualOrdered_int⟩
theorem e_slices_partitionEqualOrdered_int : compF prog F.slices_partitionEqualOrdered_int = some fe_slices_partitionEqualOrdered_int := by kernel_rfl
end Go.Proofs.Tryd
