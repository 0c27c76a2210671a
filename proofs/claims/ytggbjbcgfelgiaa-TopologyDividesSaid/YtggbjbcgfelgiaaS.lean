/- The library's sort, laid at this program. No condition. -/
import Derived.Test.YtggbjbcgfelgiaaF
import Derived.Test.YtggbjbcgfelgiaaA12
import Derived.Shelf.Sort.Plain
namespace Go.Proofs.Ytggbjbcgfelgiaa
set_option linter.all false
open Go
def Try.sRen : Shelf.Ren :=
  {   f := fun x =>     match x with | 189 => 90 | 125 => 96 | 257 => 95 | 128 => 107 | 129 => 108 | 294 => 98 | 295 => 99 | 296 => 100 | 297 => 101 | 298 => 102 | 299 => 103 | 216 => 104 | 300 => 105 | 301 => 106 | 328 => 110 | 329 => 111 | 330 => 112 | 331 => 113 | 332 => 114 | 215 => 94 | 343 => 115 | n => n,   t := fun x =>     match x with | 28 => 22 | 3 => 3 | 46 => 104 | 0 => 0 | 51 => 124 | 53 => 126 | 4 => 4 | 183 => 118 | 182 => 117 | 131 => 67 | 5 => 5 | 9 => 9 | 218 => 128 | 222 => 132 | 228 => 134 | 229 => 135 | n => n,   g := fun n => n }
theorem Try.sLays : Lays.n189 Try.prog Try.sRen :=
  { mixed := by kernel_rfl, f125 := Eq.trans Try.func96 (congrArg some (by kernel_rfl)), f128 := Eq.trans Try.func107 (congrArg some (by kernel_rfl)),
     f129 := Eq.trans Try.func108 (congrArg some (by kernel_rfl)), f189 := Eq.trans Try.func90 (congrArg some (by kernel_rfl)), f215 := Eq.trans Try.func94 (congrArg some (by kernel_rfl)),
     f216 := Eq.trans Try.func104 (congrArg some (by kernel_rfl)), f257 := Eq.trans Try.func95 (congrArg some (by kernel_rfl)), f294 := Eq.trans Try.func98 (congrArg some (by kernel_rfl)),
     f295 := Eq.trans Try.func99 (congrArg some (by kernel_rfl)), f296 := Eq.trans Try.func100 (congrArg some (by kernel_rfl)), f297 := Eq.trans Try.func101 (congrArg some (by kernel_rfl)),
     f298 := Eq.trans Try.func102 (congrArg some (by kernel_rfl)), f299 := Eq.trans Try.func103 (congrArg some (by kernel_rfl)), f300 := Eq.trans Try.func105 (congrArg some (by kernel_rfl)),
     f301 := Eq.trans Try.func106 (congrArg some (by kernel_rfl)), f328 := Eq.trans Try.func110 (congrArg some (by kernel_rfl)), f329 := Eq.trans Try.func111 (congrArg some (by kernel_rfl)),
     f330 := Eq.trans Try.func112 (congrArg some (by kernel_rfl)), f331 := Eq.trans Try.func113 (congrArg some (by kernel_rfl)), f332 := Eq.trans Try.func114 (congrArg some (by kernel_rfl)),
     f343 := Eq.trans Try.func115 (congrArg some (by kernel_rfl)), t0 := Try.underlying0, a0 := Try.isAgg0, z0 := Try.sizeOf0, v0 := Try.zeroValue0, t3 := Try.underlying3, a3 := Try.isAgg3,
     z3 := Try.sizeOf3, v3 := Try.zeroValue3, t4 := Try.underlying4, a4 := Try.isAgg4, z4 := Try.sizeOf4, v4 := Try.zeroValue4, t5 := Try.underlying5, a5 := Try.isAgg5, z5 := Try.sizeOf5,
     v5 := Try.zeroValue5, t9 := Try.underlying9, a9 := Try.isAgg9, z9 := Try.sizeOf9, v9 := Try.zeroValue9, t28 := Try.underlying22, a28 := Try.isAgg22, z28 := Try.sizeOf22, v28 := Try.zeroValue22,
     t46 := Try.underlying104, a46 := Try.isAgg104, z46 := Try.sizeOf104, v46 := Try.zeroValue104, t51 := Try.underlying124, a51 := Try.isAgg124, z51 := Try.sizeOf124, v51 := Try.zeroValue124,
     t53 := Try.underlying126, a53 := Try.isAgg126, z53 := Try.sizeOf126, v53 := Try.zeroValue126, t131 := Try.underlying67, a131 := Try.isAgg67, z131 := Try.sizeOf67, v131 := Try.zeroValue67,
     t182 := Try.underlying117, a182 := Try.isAgg117, z182 := Try.sizeOf117, v182 := Try.zeroValue117, t183 := Try.underlying118, a183 := Try.isAgg118, z183 := Try.sizeOf118, v183 := Try.zeroValue118,
     t218 := Try.underlying128, a218 := Try.isAgg128, z218 := Try.sizeOf128, v218 := Try.zeroValue128, t222 := Try.underlying132, a222 := Try.isAgg132, z222 := Try.sizeOf132, v222 := Try.zeroValue132,
     t228 := Try.underlying134, a228 := Try.isAgg134, z228 := Try.sizeOf134, v228 := Try.zeroValue134, t229 := Try.underlying135, a229 := Try.isAgg135, z229 := Try.sizeOf135, v229 := Try.zeroValue135 }
theorem sortSaid : SortSaid Try.prog 90 := fun blk off cap zs w h1 h2 h3 => Any.slices_Sort_int Try.sLays blk off cap zs w h1 h2 h3
end Go.Proofs.Ytggbjbcgfelgiaa
