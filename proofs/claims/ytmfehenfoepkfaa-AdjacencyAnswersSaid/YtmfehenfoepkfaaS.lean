/- The uU sort, laid at this program. No condition. -/
import Derived.Test.YtmfehenfoepkfaaF
import Derived.Test.YtmfehenfoepkfaaAB
import Derived.Shelf.Sort.Plain
namespace Go.Proofs.Ytmfehenfoepkfaa
set_option linter.all false
open Go
def Try.sRen : Shelf.Ren :=
 {   f := fun x =>     match x with | 189 => 50 | 125 => 73 | 257 => 72 | 128 => 105 | 129 => 106 | 294 => 97 | 295 => 98 | 296 => 99 | 297 => 100 | 298 => 101 | 299 => 102 | 216 => 74 | 300 => 103 | 301 => 104 | 328 => 109 | 329 => 110 | 330 => 111 | 331 => 112 | 332 => 113 | 215 => 71 | 343 => 114 | n => n,   t := fun x =>     match x with | 28 => 22 | 3 => 3 | 46 => 59 | 0 => 0 | 51 => 135 | 53 => 50 | 4 => 4 | 183 => 129 | 182 => 128 | 131 => 65 | 5 => 5 | 9 => 9 | 218 => 139 | 222 => 143 | 228 => 145 | 229 => 146 | n => n,   g := fun n => n }
theorem Try.anH : Lays.n189 Try.prog Try.sRen :=
  { mixed := by kernel_rfl, f125 := Eq.trans Try.func73 (congrArg some (by kernel_rfl)), f128 := Eq.trans Try.func105 (congrArg some (by kernel_rfl)),
     f129 := Eq.trans Try.func106 (congrArg some (by kernel_rfl)), f189 := Eq.trans Try.func50 (congrArg some (by kernel_rfl)), f215 := Eq.trans Try.func71 (congrArg some (by kernel_rfl)),
     f216 := Eq.trans Try.func74 (congrArg some (by kernel_rfl)), f257 := Eq.trans Try.func72 (congrArg some (by kernel_rfl)), f294 := Eq.trans Try.func97 (congrArg some (by kernel_rfl)),
     f295 := Eq.trans Try.func98 (congrArg some (by kernel_rfl)), f296 := Eq.trans Try.func99 (congrArg some (by kernel_rfl)), f297 := Eq.trans Try.func100 (congrArg some (by kernel_rfl)),
     f298 := Eq.trans Try.func101 (congrArg some (by kernel_rfl)), f299 := Eq.trans Try.func102 (congrArg some (by kernel_rfl)), f300 := Eq.trans Try.func103 (congrArg some (by kernel_rfl)),
     f301 := Eq.trans Try.func104 (congrArg some (by kernel_rfl)), f328 := Eq.trans Try.func109 (congrArg some (by kernel_rfl)), f329 := Eq.trans Try.func110 (congrArg some (by kernel_rfl)),
     f330 := Eq.trans Try.func111 (congrArg some (by kernel_rfl)), f331 := Eq.trans Try.func112 (congrArg some (by kernel_rfl)), f332 := Eq.trans Try.func113 (congrArg some (by kernel_rfl)),
     f343 := Eq.trans Try.func114 (congrArg some (by kernel_rfl)), t0 := Try.underlying0, a0 := Try.isAgg0, z0 := Try.sizeOf0, v0 := Try.zeroValue0, t3 := Try.underlying3, a3 := Try.isAgg3,
     z3 := Try.sizeOf3, v3 := Try.zeroValue3, t4 := Try.underlying4, a4 := Try.isAgg4, z4 := Try.sizeOf4, v4 := Try.zeroValue4, t5 := Try.underlying5, a5 := Try.isAgg5, z5 := Try.sizeOf5,
     v5 := Try.zeroValue5, t9 := Try.underlying9, a9 := Try.isAgg9, z9 := Try.sizeOf9, v9 := Try.zeroValue9, t28 := Try.underlying22, a28 := Try.isAgg22, z28 := Try.sizeOf22, v28 := Try.zeroValue22,
     t46 := Try.underlying59, a46 := Try.isAgg59, z46 := Try.sizeOf59, v46 := Try.zeroValue59, t51 := Try.underlying135, a51 := Try.isAgg135, z51 := Try.sizeOf135, v51 := Try.zeroValue135,
     t53 := Try.underlying50, a53 := Try.isAgg50, z53 := Try.sizeOf50, v53 := Try.zeroValue50, t131 := Try.underlying65, a131 := Try.isAgg65, z131 := Try.sizeOf65, v131 := Try.zeroValue65,
     t182 := Try.underlying128, a182 := Try.isAgg128, z182 := Try.sizeOf128, v182 := Try.zeroValue128, t183 := Try.underlying129, a183 := Try.isAgg129, z183 := Try.sizeOf129, v183 := Try.zeroValue129,
     t218 := Try.underlying139, a218 := Try.isAgg139, z218 := Try.sizeOf139, v218 := Try.zeroValue139, t222 := Try.underlying143, a222 := Try.isAgg143, z222 := Try.sizeOf143, v222 := Try.zeroValue143,
     t228 := Try.underlying145, a228 := Try.isAgg145, z228 := Try.sizeOf145, v228 := Try.zeroValue145, t229 := Try.underlying146, a229 := Try.isAgg146, z229 := Try.sizeOf146, v229 := Try.zeroValue146 }
theorem ae6 : zV Try.prog 50 := fun blk off cap zs w h1 h2 h3 => Any.slices_Sort_int Try.anH blk off cap zs w h1 h2 h3
end Go.Proofs.Ytmfehenfoepkfaa
