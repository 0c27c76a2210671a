/- The uy sort, laid at this program. No condition. -/
import Derived.Test.YtpmifmdidfgpdaaGreatF
import Derived.Test.YtpmifmdidfgpdaaGreatAB
import Derived.Shelf.Sort.Plain
namespace Go.Proofs.YtpmifmdidfgpdaaGreat
set_option linter.all false
open Go
def Tryz.sRen : Shelf.Ren :=
 {   f := fun x =>     match x with | 189 => 154 | 125 => 164 | 257 => 163 | 128 => 179 | 129 => 180 | 294 => 170 | 295 => 171 | 296 => 172 | 297 => 173 | 298 => 174 | 299 => 175 | 216 => 176 | 300 => 177 | 301 => 178 | 328 => 189 | 329 => 190 | 330 => 191 | 331 => 192 | 332 => 193 | 215 => 162 | 343 => 202 | n => n,   t := fun x =>     match x with | 28 => 22 | 3 => 3 | 46 => 165 | 0 => 0 | 51 => 194 | 53 => 196 | 4 => 4 | 183 => 187 | 182 => 186 | 131 => 97 | 5 => 5 | 9 => 9 | 218 => 207 | 222 => 211 | 228 => 220 | 229 => 221 | n => n,   g := fun n => n }
theorem Tryz.aud : Lays.n189 Tryz.prog Tryz.sRen :=
  { mixed := by kernel_rfl, f125 := Eq.trans Tryz.func164 (congrArg some (by kernel_rfl)), f128 := Eq.trans Tryz.func179 (congrArg some (by kernel_rfl)),
     f129 := Eq.trans Tryz.func180 (congrArg some (by kernel_rfl)), f189 := Eq.trans Tryz.func154 (congrArg some (by kernel_rfl)), f215 := Eq.trans Tryz.func162 (congrArg some (by kernel_rfl)),
     f216 := Eq.trans Tryz.func176 (congrArg some (by kernel_rfl)), f257 := Eq.trans Tryz.func163 (congrArg some (by kernel_rfl)), f294 := Eq.trans Tryz.func170 (congrArg some (by kernel_rfl)),
     f295 := Eq.trans Tryz.func171 (congrArg some (by kernel_rfl)), f296 := Eq.trans Tryz.func172 (congrArg some (by kernel_rfl)), f297 := Eq.trans Tryz.func173 (congrArg some (by kernel_rfl)),
     f298 := Eq.trans Tryz.func174 (congrArg some (by kernel_rfl)), f299 := Eq.trans Tryz.func175 (congrArg some (by kernel_rfl)), f300 := Eq.trans Tryz.func177 (congrArg some (by kernel_rfl)),
     f301 := Eq.trans Tryz.func178 (congrArg some (by kernel_rfl)), f328 := Eq.trans Tryz.func189 (congrArg some (by kernel_rfl)), f329 := Eq.trans Tryz.func190 (congrArg some (by kernel_rfl)),
     f330 := Eq.trans Tryz.func191 (congrArg some (by kernel_rfl)), f331 := Eq.trans Tryz.func192 (congrArg some (by kernel_rfl)), f332 := Eq.trans Tryz.func193 (congrArg some (by kernel_rfl)),
     f343 := Eq.trans Tryz.func202 (congrArg some (by kernel_rfl)), t0 := Tryz.underlying0, a0 := Tryz.isAgg0, z0 := Tryz.sizeOf0, v0 := Tryz.zeroValue0, t3 := Tryz.underlying3, a3 := Tryz.isAgg3,
     z3 := Tryz.sizeOf3, v3 := Tryz.zeroValue3, t4 := Tryz.underlying4, a4 := Tryz.isAgg4, z4 := Tryz.sizeOf4, v4 := Tryz.zeroValue4, t5 := Tryz.underlying5, a5 := Tryz.isAgg5, z5 := Tryz.sizeOf5,
     v5 := Tryz.zeroValue5, t9 := Tryz.underlying9, a9 := Tryz.isAgg9, z9 := Tryz.sizeOf9, v9 := Tryz.zeroValue9, t28 := Tryz.underlying22, a28 := Tryz.isAgg22, z28 := Tryz.sizeOf22, v28 := Tryz.zeroValue22,
     t46 := Tryz.underlying165, a46 := Tryz.isAgg165, z46 := Tryz.sizeOf165, v46 := Tryz.zeroValue165, t51 := Tryz.underlying194, a51 := Tryz.isAgg194, z51 := Tryz.sizeOf194, v51 := Tryz.zeroValue194,
     t53 := Tryz.underlying196, a53 := Tryz.isAgg196, z53 := Tryz.sizeOf196, v53 := Tryz.zeroValue196, t131 := Tryz.underlying97, a131 := Tryz.isAgg97, z131 := Tryz.sizeOf97, v131 := Tryz.zeroValue97,
     t182 := Tryz.underlying186, a182 := Tryz.isAgg186, z182 := Tryz.sizeOf186, v182 := Tryz.zeroValue186, t183 := Tryz.underlying187, a183 := Tryz.isAgg187, z183 := Tryz.sizeOf187, v183 := Tryz.zeroValue187,
     t218 := Tryz.underlying207, a218 := Tryz.isAgg207, z218 := Tryz.sizeOf207, v218 := Tryz.zeroValue207, t222 := Tryz.underlying211, a222 := Tryz.isAgg211, z222 := Tryz.sizeOf211, v222 := Tryz.zeroValue211,
     t228 := Tryz.underlying220, a228 := Tryz.isAgg220, z228 := Tryz.sizeOf220, v228 := Tryz.zeroValue220, t229 := Tryz.underlying221, a229 := Tryz.isAgg221, z229 := Tryz.sizeOf221, v229 := Tryz.zeroValue221 }
theorem ahQ : abT Tryz.prog 154 := fun blk off cap zs w h1 h2 h3 => Any.slices_Sort_int Tryz.aud blk off cap zs w h1 h2 h3
end Go.Proofs.YtpmifmdidfgpdaaGreat
