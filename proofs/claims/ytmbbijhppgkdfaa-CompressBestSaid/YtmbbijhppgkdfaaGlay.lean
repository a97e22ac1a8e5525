/- The library's functions that compress.Best calls, laid at this program's numbers. -/
import Derived.Test.YtmbbijhppgkdfaaGsort
import Derived.Shelf.SlLaysF
import Derived.Shelf.SlLaysZ
namespace Go.Proofs.Ytmbbijhppgkdfaa.P14
open Go.RowKit Go.Proofs.YtmbbijhppgkdfaaW.PrintWords
set_option linter.unusedVariables false
set_option linter.unusedSimpArgs false
open Go.Sort Go.Proofs Go.Maps
def sortS_ren : Shelf.Ren := ⟨fun | 6 => 86 | 14 => 100 | 15 => 91 | 20 => 108 | 21 => 109 | 22 => 110 | 23 => 111 | 24 => 112 | 25 => 113 | 26 => 114 | 27 => 115 | 28 => 102 | 29 => 103 | 46 => 116 | 47 => 117 | 48 => 118 | 49 => 119 | 50 => 120 | 57 => 121 | n => n, fun | 0 => 0 | 3 => 3 | 4 => 4 | 5 => 5 | 9 => 9 | 22 => 74 | 24 => 9 | 25 => 81 | 39 => 115 | 45 => 127 | 46 => 128 | 50 => 35 | 53 => 123 | 55 => 116 | 66 => 133 | 70 => 137 | 76 => 139 | 77 => 102 | n => n, fun | n => n⟩
theorem sortS_lay : SlLaysF.n6 Try.prog sortS_ren where
  mixed := by kernel_rfl
  f6 := ⟨"slices.SortFunc[[]string,string]", by decide, Try.func86.trans (congrArg some (by kernel_rfl))⟩
  f14 := ⟨"slices.pdqsortCmpFunc[string]", by decide, Try.func100.trans (congrArg some (by kernel_rfl))⟩
  f15 := Try.func91.trans (congrArg some (by kernel_rfl))
  f20 := ⟨"slices.insertionSortCmpFunc[string]", by decide, Try.func108.trans (congrArg some (by kernel_rfl))⟩
  f21 := ⟨"slices.heapSortCmpFunc[string]", by decide, Try.func109.trans (congrArg some (by kernel_rfl))⟩
  f22 := ⟨"slices.breakPatternsCmpFunc[string]", by decide, Try.func110.trans (congrArg some (by kernel_rfl))⟩
  f23 := ⟨"slices.choosePivotCmpFunc[string]", by decide, Try.func111.trans (congrArg some (by kernel_rfl))⟩
  f24 := ⟨"slices.reverseRangeCmpFunc[string]", by decide, Try.func112.trans (congrArg some (by kernel_rfl))⟩
  f25 := ⟨"slices.partialInsertionSortCmpFunc[string]", by decide, Try.func113.trans (congrArg some (by kernel_rfl))⟩
  f26 := ⟨"slices.partitionEqualCmpFunc[string]", by decide, Try.func114.trans (congrArg some (by kernel_rfl))⟩
  f27 := ⟨"slices.partitionCmpFunc[string]", by decide, Try.func115.trans (congrArg some (by kernel_rfl))⟩
  f28 := Try.func102.trans (congrArg some (by kernel_rfl))
  f29 := Try.func103.trans (congrArg some (by kernel_rfl))
  f46 := ⟨"slices.siftDownCmpFunc[string]", by decide, Try.func116.trans (congrArg some (by kernel_rfl))⟩
  f47 := Try.func117.trans (congrArg some (by kernel_rfl))
  f48 := Try.func118.trans (congrArg some (by kernel_rfl))
  f49 := ⟨"slices.medianAdjacentCmpFunc[string]", by decide, Try.func119.trans (congrArg some (by kernel_rfl))⟩
  f50 := ⟨"slices.medianCmpFunc[string]", by decide, Try.func120.trans (congrArg some (by kernel_rfl))⟩
  f57 := ⟨"slices.order2CmpFunc[string]", by decide, Try.func121.trans (congrArg some (by kernel_rfl))⟩
  t0 := Try.underlying0
  a0 := Try.isAgg0
  z0 := Try.sizeOf0
  v0 := Try.zeroValue0
  t3 := Try.underlying3
  a3 := Try.isAgg3
  z3 := Try.sizeOf3
  v3 := Try.zeroValue3
  t4 := Try.underlying4
  a4 := Try.isAgg4
  z4 := Try.sizeOf4
  v4 := Try.zeroValue4
  t5 := Try.underlying5
  a5 := Try.isAgg5
  z5 := Try.sizeOf5
  v5 := Try.zeroValue5
  t9 := Try.underlying9
  a9 := Try.isAgg9
  z9 := Try.sizeOf9
  v9 := Try.zeroValue9
  t22 := Try.underlying74
  a22 := Try.isAgg74
  z22 := Try.sizeOf74
  v22 := Try.zeroValue74
  a24 := Try.isAgg9
  z24 := Try.sizeOf9
  t25 := Try.underlying81
  a25 := Try.isAgg81
  z25 := Try.sizeOf81
  v25 := Try.zeroValue81
  t39 := Try.underlying115
  a39 := Try.isAgg115
  z39 := Try.sizeOf115
  v39 := Try.zeroValue115
  t45 := Try.underlying127
  a45 := Try.isAgg127
  z45 := Try.sizeOf127
  v45 := Try.zeroValue127
  t46 := Try.underlying128
  a46 := Try.isAgg128
  z46 := Try.sizeOf128
  v46 := Try.zeroValue128
  t50 := Try.underlying35
  a50 := Try.isAgg35
  z50 := Try.sizeOf35
  v50 := Try.zeroValue35
  t53 := Try.underlying123
  a53 := Try.isAgg123
  z53 := Try.sizeOf123
  v53 := Try.zeroValue123
  t55 := Try.underlying116
  a55 := Try.isAgg116
  z55 := Try.sizeOf116
  v55 := Try.zeroValue116
  t66 := Try.underlying133
  a66 := Try.isAgg133
  z66 := Try.sizeOf133
  v66 := Try.zeroValue133
  t70 := Try.underlying137
  a70 := Try.isAgg137
  z70 := Try.sizeOf137
  v70 := Try.zeroValue137
  t76 := Try.underlying139
  a76 := Try.isAgg139
  z76 := Try.sizeOf139
  v76 := Try.zeroValue139
  t77 := Try.underlying102
  a77 := Try.isAgg102
  z77 := Try.sizeOf102
  v77 := Try.zeroValue102
def keys10_ren : Shelf.Ren := ⟨fun | 10 => 87 | n => n, fun | 0 => 0 | 4 => 4 | 23 => 73 | 26 => 9 | 3 => 3 | 33 => 111 | n => n, fun | n => n⟩
theorem keys10_lay : SlLaysZ.n10 Try.prog keys10_ren where
  mixed := by kernel_rfl
  f10 := ⟨"maps.Keys[map[string]int,string,int]$1", by decide, Try.func87.trans (congrArg some (by kernel_rfl))⟩
  t0 := Try.underlying0
  a0 := Try.isAgg0
  z0 := Try.sizeOf0
  v0 := Try.zeroValue0
  t4 := Try.underlying4
  a4 := Try.isAgg4
  z4 := Try.sizeOf4
  v4 := Try.zeroValue4
  t23 := Try.underlying73
  a23 := Try.isAgg73
  z23 := Try.sizeOf73
  v23 := Try.zeroValue73
  t26 := Try.underlying9
  a26 := Try.isAgg9
  z26 := Try.sizeOf9
  v26 := Try.zeroValue9
  t33 := Try.underlying111
  a33 := Try.isAgg111
  z33 := Try.sizeOf111
  v33 := Try.zeroValue111
def keys11_ren : Shelf.Ren := ⟨fun | 11 => 99 | n => n, fun | 0 => 0 | 24 => 74 | 26 => 9 | 28 => 77 | 33 => 111 | n => n, fun | n => n⟩
theorem keys11_lay : SlLaysZ.n11 Try.prog keys11_ren where
  mixed := by kernel_rfl
  f11 := ⟨"slices.AppendSeq[[]string,string]", by decide, Try.func99.trans (congrArg some (by kernel_rfl))⟩
  t0 := Try.underlying0
  a0 := Try.isAgg0
  z0 := Try.sizeOf0
  v0 := Try.zeroValue0
  t24 := Try.underlying74
  a24 := Try.isAgg74
  z24 := Try.sizeOf74
  v24 := Try.zeroValue74
  t26 := Try.underlying9
  a26 := Try.isAgg9
  z26 := Try.sizeOf9
  v26 := Try.zeroValue9
  t28 := Try.underlying77
  a28 := Try.isAgg77
  z28 := Try.sizeOf77
  v28 := Try.zeroValue77
  i26 := by kernel_rfl
def keys7_ren : Shelf.Ren := ⟨fun | 7 => 52 | 10 => 87 | n => n, fun | 0 => 0 | 4 => 4 | 23 => 73 | 26 => 9 | 3 => 3 | 27 => 76 | 33 => 111 | 28 => 77 | n => n, fun | n => n⟩
theorem keys7_lay : SlLaysZ.n7 Try.prog keys7_ren where
  mixed := by kernel_rfl
  f7 := ⟨"maps.Keys[map[string]int,string,int]", by decide, Try.func52.trans (congrArg some (by kernel_rfl))⟩
  f10 := ⟨"maps.Keys[map[string]int,string,int]$1", by decide, Try.func87.trans (congrArg some (by kernel_rfl))⟩
  t0 := Try.underlying0
  a0 := Try.isAgg0
  z0 := Try.sizeOf0
  v0 := Try.zeroValue0
  t4 := Try.underlying4
  a4 := Try.isAgg4
  z4 := Try.sizeOf4
  v4 := Try.zeroValue4
  t23 := Try.underlying73
  a23 := Try.isAgg73
  z23 := Try.sizeOf73
  v23 := Try.zeroValue73
  t26 := Try.underlying9
  a26 := Try.isAgg9
  z26 := Try.sizeOf9
  v26 := Try.zeroValue9
  t27 := Try.underlying76
  a27 := Try.isAgg76
  z27 := Try.sizeOf76
  v27 := Try.zeroValue76
  t28 := Try.underlying77
  a28 := Try.isAgg77
  z28 := Try.sizeOf77
  v28 := Try.zeroValue77
  t33 := Try.underlying111
  a33 := Try.isAgg111
  z33 := Try.sizeOf111
  v33 := Try.zeroValue111
end Go.Proofs.Ytmbbijhppgkdfaa.P14
