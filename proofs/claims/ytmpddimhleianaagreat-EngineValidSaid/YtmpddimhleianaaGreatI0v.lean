/- Joined. -/
import Derived.Test.YtmpddimhleianaaGreatChecked
import Derived.Shelf.SortM.Plain
import Derived.Shelf.SortM.SortNone
import Derived.Ground.SlgmProg
import Derived.KernelRfl
namespace Go.Proofs
open Go.Shelf
def Tryz.mSort_ren:Go.Shelf.Ren:=⟨fun|5=>264|8=>332|7=>331|19=>360|20=>361|10=>352|11=>353|12=>354|13=>355|14=>356|15=>357|16=>265|17=>358|18=>359|30=>368|31=>369|32=>370|33=>371|34=>372|35=>333|40=>374|n=>n,fun|23=>22|25=>3|3=>3|32=>34|22=>22|0=>0|44=>343|46=>23|4=>4|36=>338|35=>337|41=>238|5=>5|9=>9|53=>348|57=>352|63=>355|64=>311|n=>n,fun|n=>n⟩
theorem Tryz.mSort:Go.Proofs.SlLaysM.n5 Tryz.prog Tryz.mSort_ren where
 mixed:=by kernel_rfl
 f5 := ⟨ "slices.Sort[[]int,int]", by decide, Tryz.func264.trans (congrArg some (by kernel_rfl))⟩
 f7 := ⟨ "slices.pdqsortOrdered[int]", by decide, Tryz.func331.trans (congrArg some (by kernel_rfl))⟩
 f8:=Tryz.func332.trans (congrArg some (by kernel_rfl))
 f10 := ⟨ "slices.insertionSortOrdered[int]", by decide, Tryz.func352.trans (congrArg some (by kernel_rfl))⟩
 f11 := ⟨ "slices.heapSortOrdered[int]", by decide, Tryz.func353.trans (congrArg some (by kernel_rfl))⟩
 f12 := ⟨ "slices.breakPatternsOrdered[int]", by decide, Tryz.func354.trans (congrArg some (by kernel_rfl))⟩
 f13 := ⟨ "slices.choosePivotOrdered[int]", by decide, Tryz.func355.trans (congrArg some (by kernel_rfl))⟩
 f14 := ⟨ "slices.reverseRangeOrdered[int]", by decide, Tryz.func356.trans (congrArg some (by kernel_rfl))⟩
 f15 := ⟨ "slices.partialInsertionSortOrdered[int]", by decide, Tryz.func357.trans (congrArg some (by kernel_rfl))⟩
 f16 := ⟨ "cmp.Less[int]", by decide, Tryz.func265.trans (congrArg some (by kernel_rfl))⟩
 f17 := ⟨ "slices.partitionEqualOrdered[int]", by decide, Tryz.func358.trans (congrArg some (by kernel_rfl))⟩
 f18 := ⟨ "slices.partitionOrdered[int]", by decide, Tryz.func359.trans (congrArg some (by kernel_rfl))⟩
 f19:=Tryz.func360.trans (congrArg some (by kernel_rfl))
 f20:=Tryz.func361.trans (congrArg some (by kernel_rfl))
 f30 := ⟨ "slices.siftDownOrdered[int]", by decide, Tryz.func368.trans (congrArg some (by kernel_rfl))⟩
 f31:=Tryz.func369.trans (congrArg some (by kernel_rfl))
 f32:=Tryz.func370.trans (congrArg some (by kernel_rfl))
 f33 := ⟨ "slices.medianAdjacentOrdered[int]", by decide, Tryz.func371.trans (congrArg some (by kernel_rfl))⟩
 f34 := ⟨ "slices.medianOrdered[int]", by decide, Tryz.func372.trans (congrArg some (by kernel_rfl))⟩
 f35 := ⟨ "cmp.isNaN[int]", by decide, Tryz.func333.trans (congrArg some (by kernel_rfl))⟩
 f40 := ⟨ "slices.order2Ordered[int]", by decide, Tryz.func374.trans (congrArg some (by kernel_rfl))⟩
 t0:=Tryz.underlying0
 a0:=Tryz.isAgg0
 z0:=Tryz.sizeOf0
 v0:=Tryz.zeroValue0
 t3:=Tryz.underlying3
 a3:=Tryz.isAgg3
 z3:=Tryz.sizeOf3
 v3:=Tryz.zeroValue3
 t4:=Tryz.underlying4
 a4:=Tryz.isAgg4
 z4:=Tryz.sizeOf4
 v4:=Tryz.zeroValue4
 t5:=Tryz.underlying5
 a5:=Tryz.isAgg5
 z5:=Tryz.sizeOf5
 v5:=Tryz.zeroValue5
 t9:=Tryz.underlying9
 a9:=Tryz.isAgg9
 z9:=Tryz.sizeOf9
 v9:=Tryz.zeroValue9
 t22:=Tryz.underlying22
 a22:=Tryz.isAgg22
 z22:=Tryz.sizeOf22
 v22:=Tryz.zeroValue22
 t23:=Tryz.underlying22
 a23:=Tryz.isAgg22
 z23:=Tryz.sizeOf22
 v23:=Tryz.zeroValue22
 t25:=Tryz.underlying3
 a25:=Tryz.isAgg3
 z25:=Tryz.sizeOf3
 v25:=Tryz.zeroValue3
 t32:=Tryz.underlying34
 a32:=Tryz.isAgg34
 z32:=Tryz.sizeOf34
 v32:=Tryz.zeroValue34
 t35:=Tryz.underlying337
 a35:=Tryz.isAgg337
 z35:=Tryz.sizeOf337
 v35:=Tryz.zeroValue337
 t36:=Tryz.underlying338
 a36:=Tryz.isAgg338
 z36:=Tryz.sizeOf338
 v36:=Tryz.zeroValue338
 t41:=Tryz.underlying238
 a41:=Tryz.isAgg238
 z41:=Tryz.sizeOf238
 v41:=Tryz.zeroValue238
 t44:=Tryz.underlying343
 a44:=Tryz.isAgg343
 z44:=Tryz.sizeOf343
 v44:=Tryz.zeroValue343
 t46:=Tryz.underlying23
 a46:=Tryz.isAgg23
 z46:=Tryz.sizeOf23
 v46:=Tryz.zeroValue23
 t53:=Tryz.underlying348
 a53:=Tryz.isAgg348
 z53:=Tryz.sizeOf348
 v53:=Tryz.zeroValue348
 t57:=Tryz.underlying352
 a57:=Tryz.isAgg352
 z57:=Tryz.sizeOf352
 v57:=Tryz.zeroValue352
 t63:=Tryz.underlying355
 a63:=Tryz.isAgg355
 z63:=Tryz.sizeOf355
 v63:=Tryz.zeroValue355
 t64:=Tryz.underlying311
 a64:=Tryz.isAgg311
 z64:=Tryz.sizeOf311
 v64:=Tryz.zeroValue311
end Go.Proofs
