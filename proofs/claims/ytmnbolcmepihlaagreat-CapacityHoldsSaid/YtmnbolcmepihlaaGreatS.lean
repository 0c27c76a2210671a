/- gw F9 sort, oi at this program. bM bN. -/
import Derived.Test.YtmnbolcmepihlaaGreatF
import Derived.Shelf.Sort.Plain
namespace Go.Proofs.YtmnbolcmepihlaaGreat
set_option linter.all false
open Go Go.Proofs.Tryz
def Tryz.aje:Shelf.Ren:=
 {  f:=λx=>match x with|189=>145|125=>178|257=>182|128=>206|129=>207|294=>216|295=>217|296=>218|297=>219|298=>220|299=>221|216=>185|300=>222|301=>223|328=>243|329=>236|330=>237|331=>244|332=>245|215=>164|343=>260|n=>n,t:=λx=>match x with|28=>22|3=>3|46=>178|0=>0|51=>252|53=>254|4=>4|183=>246|182=>245|131=>89|5=>5|9=>9|218=>272|222=>276|228=>289|229=>290|n=>n,g:=λn=>n}
theorem Tryz.aeQ:Lays.n189 prog Tryz.aje:=
  {mixed:=by kernel_rfl,f125:=Eq.trans func178 (congrArg some (by kernel_rfl)),f128:=Eq.trans func206 (congrArg some (by kernel_rfl)),
     f129:=Eq.trans func207 (congrArg some (by kernel_rfl)),f189:=Eq.trans func145 (congrArg some (by kernel_rfl)),f215:=Eq.trans func164 (congrArg some (by kernel_rfl)),
     f216:=Eq.trans func185 (congrArg some (by kernel_rfl)),f257:=Eq.trans func182 (congrArg some (by kernel_rfl)),f294:=Eq.trans func216 (congrArg some (by kernel_rfl)),
     f295:=Eq.trans func217 (congrArg some (by kernel_rfl)),f296:=Eq.trans func218 (congrArg some (by kernel_rfl)),f297:=Eq.trans func219 (congrArg some (by kernel_rfl)),
     f298:=Eq.trans func220 (congrArg some (by kernel_rfl)),f299:=Eq.trans func221 (congrArg some (by kernel_rfl)),f300:=Eq.trans func222 (congrArg some (by kernel_rfl)),
     f301:=Eq.trans func223 (congrArg some (by kernel_rfl)),f328:=Eq.trans func243 (congrArg some (by kernel_rfl)),f329:=Eq.trans func236 (congrArg some (by kernel_rfl)),
     f330:=Eq.trans func237 (congrArg some (by kernel_rfl)),f331:=Eq.trans func244 (congrArg some (by kernel_rfl)),f332:=Eq.trans func245 (congrArg some (by kernel_rfl)),
     f343:=Eq.trans func260 (congrArg some (by kernel_rfl)),t0:=underlying0,a0:=isAgg0,z0:=sizeOf0,v0:=zeroValue0,t3:=underlying3,a3:=isAgg3,
     z3:=sizeOf3,v3:=zeroValue3,t4:=underlying4,a4:=isAgg4,z4:=sizeOf4,v4:=zeroValue4,t5:=underlying5,a5:=isAgg5,z5:=sizeOf5,
     v5:=zeroValue5,t9:=underlying9,a9:=isAgg9,z9:=sizeOf9,v9:=zeroValue9,t28:=underlying22,a28:=isAgg22,z28:=sizeOf22,v28:=zeroValue22,
     t46:=underlying178,a46:=isAgg178,z46:=sizeOf178,v46:=zeroValue178,t51:=underlying252,a51:=isAgg252,z51:=sizeOf252,v51:=zeroValue252,
     t53:=underlying254,a53:=isAgg254,z53:=sizeOf254,v53:=zeroValue254,t131:=underlying89,a131:=isAgg89,z131:=sizeOf89,v131:=zeroValue89,
     t182:=underlying245,a182:=isAgg245,z182:=sizeOf245,v182:=zeroValue245,t183:=underlying246,a183:=isAgg246,z183:=sizeOf246,v183:=zeroValue246,
     t218:=underlying272,a218:=isAgg272,z218:=sizeOf272,v218:=zeroValue272,t222:=underlying276,a222:=isAgg276,z222:=sizeOf276,v222:=zeroValue276,
     t228:=underlying289,a228:=isAgg289,z228:=sizeOf289,v228:=zeroValue289,t229:=underlying290,a229:=isAgg290,z229:=sizeOf290,v229:=zeroValue290}
theorem Xa:NB prog 145:=λbV off aF zs w h1 D ak=>Any.slices_Sort_int Tryz.aeQ bV off aF zs w h1 D ak
end Go.Proofs.YtmnbolcmepihlaaGreat
