/- The wD sort, laid at this program. No condition. -/
import Derived.Test.YtjdopimopgpagaaGreatF
import Derived.Shelf.Sort.Plain
namespace Go.Proofs.YtjdopimopgpagaaGreat
set_option linter.all false
open Go Go.Proofs.Tryz
def Tryz.sRen:Shelf.Ren:=
 {  f:=λx=>match x with|189=>162|125=>173|257=>172|128=>188|129=>189|294=>179|295=>180|296=>181|297=>182|298=>183|299=>184|216=>185|300=>186|301=>187|328=>198|329=>199|330=>200|331=>201|332=>202|215=>171|343=>211|n=>n,t:=λx=>match x with|28=>22|3=>3|46=>178|0=>0|51=>201|53=>203|4=>4|183=>194|182=>193|131=>114|5=>5|9=>9|218=>214|222=>218|228=>227|229=>228|n=>n,g:=λn=>n}
theorem Tryz.att:Lays.n189 prog Tryz.sRen:=
  {mixed:=by kernel_rfl,f125:=Eq.trans func173 (congrArg some (by kernel_rfl)),f128:=Eq.trans func188 (congrArg some (by kernel_rfl)),
     f129:=Eq.trans func189 (congrArg some (by kernel_rfl)),f189:=Eq.trans func162 (congrArg some (by kernel_rfl)),f215:=Eq.trans func171 (congrArg some (by kernel_rfl)),
     f216:=Eq.trans func185 (congrArg some (by kernel_rfl)),f257:=Eq.trans func172 (congrArg some (by kernel_rfl)),f294:=Eq.trans func179 (congrArg some (by kernel_rfl)),
     f295:=Eq.trans func180 (congrArg some (by kernel_rfl)),f296:=Eq.trans func181 (congrArg some (by kernel_rfl)),f297:=Eq.trans func182 (congrArg some (by kernel_rfl)),
     f298:=Eq.trans func183 (congrArg some (by kernel_rfl)),f299:=Eq.trans func184 (congrArg some (by kernel_rfl)),f300:=Eq.trans func186 (congrArg some (by kernel_rfl)),
     f301:=Eq.trans func187 (congrArg some (by kernel_rfl)),f328:=Eq.trans func198 (congrArg some (by kernel_rfl)),f329:=Eq.trans func199 (congrArg some (by kernel_rfl)),
     f330:=Eq.trans func200 (congrArg some (by kernel_rfl)),f331:=Eq.trans func201 (congrArg some (by kernel_rfl)),f332:=Eq.trans func202 (congrArg some (by kernel_rfl)),
     f343:=Eq.trans func211 (congrArg some (by kernel_rfl)),t0:=underlying0,a0:=isAgg0,z0:=sizeOf0,v0:=zeroValue0,t3:=underlying3,a3:=isAgg3,
     z3:=sizeOf3,v3:=zeroValue3,t4:=underlying4,a4:=isAgg4,z4:=sizeOf4,v4:=zeroValue4,t5:=underlying5,a5:=isAgg5,z5:=sizeOf5,
     v5:=zeroValue5,t9:=underlying9,a9:=isAgg9,z9:=sizeOf9,v9:=zeroValue9,t28:=underlying22,a28:=isAgg22,z28:=sizeOf22,v28:=zeroValue22,
     t46:=underlying178,a46:=isAgg178,z46:=sizeOf178,v46:=zeroValue178,t51:=underlying201,a51:=isAgg201,z51:=sizeOf201,v51:=zeroValue201,
     t53:=underlying203,a53:=isAgg203,z53:=sizeOf203,v53:=zeroValue203,t131:=underlying114,a131:=isAgg114,z131:=sizeOf114,v131:=zeroValue114,
     t182:=underlying193,a182:=isAgg193,z182:=sizeOf193,v182:=zeroValue193,t183:=underlying194,a183:=isAgg194,z183:=sizeOf194,v183:=zeroValue194,
     t218:=underlying214,a218:=isAgg214,z218:=sizeOf214,v218:=zeroValue214,t222:=underlying218,a222:=isAgg218,z222:=sizeOf218,v222:=zeroValue218,
     t228:=underlying227,a228:=isAgg227,z228:=sizeOf227,v228:=zeroValue227,t229:=underlying228,a229:=isAgg228,z229:=sizeOf228,v229:=zeroValue228}
theorem ajd:ad8 prog 162:=λblk off cap zs w h1 h2 h3=>Any.slices_Sort_int Tryz.att blk off cap zs w h1 h2 h3
end Go.Proofs.YtjdopimopgpagaaGreat
