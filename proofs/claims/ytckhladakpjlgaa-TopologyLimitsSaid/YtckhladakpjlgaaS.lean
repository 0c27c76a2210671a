/- The library's sort, laid at this program. No condition. -/
import Derived.Test.YtckhladakpjlgaaF
import Derived.Test.YtckhladakpjlgaaAB
import Derived.Shelf.Sort.Plain
namespace Go.Proofs.Ytckhladakpjlgaa
set_option linter.all false
open Go
def Try.sRen : Shelf.Ren :=
  {   f := fun x =>     match x with | 189 => 65 | 125 => 69 | 257 => 68 | 128 => 80 | 129 => 81 | 294 => 71 | 295 => 72 | 296 => 73 | 297 => 74 | 298 => 75 | 299 => 76 | 216 => 77 | 300 => 78 | 301 => 79 | 328 => 82 | 329 => 83 | 330 => 84 | 331 => 85 | 332 => 86 | 215 => 61 | 343 => 87 | n => n,   t := fun x =>     match x with | 28 => 22 | 3 => 3 | 46 => 80 | 0 => 0 | 51 => 109 | 53 => 111 | 4 => 4 | 183 => 102 | 182 => 101 | 131 => 55 | 5 => 5 | 9 => 9 | 218 => 112 | 222 => 116 | 228 => 118 | 229 => 119 | n => n,   g := fun n => n }
theorem Try.sLays : Lays.n189 Try.prog Try.sRen :=
  { mixed := by kernel_rfl, f125 := Eq.trans Try.func69 (congrArg some (by kernel_rfl)), f128 := Eq.trans Try.func80 (congrArg some (by kernel_rfl)),
     f129 := Eq.trans Try.func81 (congrArg some (by kernel_rfl)), f189 := Eq.trans Try.func65 (congrArg some (by kernel_rfl)), f215 := Eq.trans Try.func61 (congrArg some (by kernel_rfl)),
     f216 := Eq.trans Try.func77 (congrArg some (by kernel_rfl)), f257 := Eq.trans Try.func68 (congrArg some (by kernel_rfl)), f294 := Eq.trans Try.func71 (congrArg some (by kernel_rfl)),
     f295 := Eq.trans Try.func72 (congrArg some (by kernel_rfl)), f296 := Eq.trans Try.func73 (congrArg some (by kernel_rfl)), f297 := Eq.trans Try.func74 (congrArg some (by kernel_rfl)),
     f298 := Eq.trans Try.func75 (congrArg some (by kernel_rfl)), f299 := Eq.trans Try.func76 (congrArg some (by kernel_rfl)), f300 := Eq.trans Try.func78 (congrArg some (by kernel_rfl)),
     f301 := Eq.trans Try.func79 (congrArg some (by kernel_rfl)), f328 := Eq.trans Try.func82 (congrArg some (by kernel_rfl)), f329 := Eq.trans Try.func83 (congrArg some (by kernel_rfl)),
     f330 := Eq.trans Try.func84 (congrArg some (by kernel_rfl)), f331 := Eq.trans Try.func85 (congrArg some (by kernel_rfl)), f332 := Eq.trans Try.func86 (congrArg some (by kernel_rfl)),
     f343 := Eq.trans Try.func87 (congrArg some (by kernel_rfl)), t0 := Try.underlying0, a0 := Try.isAgg0, z0 := Try.sizeOf0, v0 := Try.zeroValue0, t3 := Try.underlying3, a3 := Try.isAgg3,
     z3 := Try.sizeOf3, v3 := Try.zeroValue3, t4 := Try.underlying4, a4 := Try.isAgg4, z4 := Try.sizeOf4, v4 := Try.zeroValue4, t5 := Try.underlying5, a5 := Try.isAgg5, z5 := Try.sizeOf5,
     v5 := Try.zeroValue5, t9 := Try.underlying9, a9 := Try.isAgg9, z9 := Try.sizeOf9, v9 := Try.zeroValue9, t28 := Try.underlying22, a28 := Try.isAgg22, z28 := Try.sizeOf22, v28 := Try.zeroValue22,
     t46 := Try.underlying80, a46 := Try.isAgg80, z46 := Try.sizeOf80, v46 := Try.zeroValue80, t51 := Try.underlying109, a51 := Try.isAgg109, z51 := Try.sizeOf109, v51 := Try.zeroValue109,
     t53 := Try.underlying111, a53 := Try.isAgg111, z53 := Try.sizeOf111, v53 := Try.zeroValue111, t131 := Try.underlying55, a131 := Try.isAgg55, z131 := Try.sizeOf55, v131 := Try.zeroValue55,
     t182 := Try.underlying101, a182 := Try.isAgg101, z182 := Try.sizeOf101, v182 := Try.zeroValue101, t183 := Try.underlying102, a183 := Try.isAgg102, z183 := Try.sizeOf102, v183 := Try.zeroValue102,
     t218 := Try.underlying112, a218 := Try.isAgg112, z218 := Try.sizeOf112, v218 := Try.zeroValue112, t222 := Try.underlying116, a222 := Try.isAgg116, z222 := Try.sizeOf116, v222 := Try.zeroValue116,
     t228 := Try.underlying118, a228 := Try.isAgg118, z228 := Try.sizeOf118, v228 := Try.zeroValue118, t229 := Try.underlying119, a229 := Try.isAgg119, z229 := Try.sizeOf119, v229 := Try.zeroValue119 }
theorem sortSaid : SortSaid Try.prog 65 := fun blk off cap zs w h1 h2 h3 => Any.slices_Sort_int Try.sLays blk off cap zs w h1 h2 h3
end Go.Proofs.Ytckhladakpjlgaa
