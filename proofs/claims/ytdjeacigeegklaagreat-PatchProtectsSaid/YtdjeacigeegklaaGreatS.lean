/- The zQ sort, laid at this program. No condition. -/
import Derived.Test.YtdjeacigeegklaaGreatF
import Derived.Shelf.Sort.Plain
namespace Go.Proofs.YtdjeacigeegklaaGreat
set_option linter.all false
open Go Go.Proofs.Tryz
def Tryz.sRen:Shelf.Ren:=
 {  f:=λx=>match x with|189=>146|125=>164|257=>163|128=>176|129=>177|294=>168|295=>169|296=>170|297=>171|298=>172|299=>173|216=>147|300=>174|301=>175|328=>186|329=>187|330=>188|331=>189|332=>190|215=>158|343=>194|n=>n,t:=λx=>match x with|28=>22|3=>3|46=>40|0=>0|51=>235|53=>34|4=>4|183=>229|182=>228|131=>112|5=>5|9=>9|218=>242|222=>246|228=>250|229=>251|n=>n,g:=λn=>n}
theorem Tryz.axU:Lays.n189 prog Tryz.sRen:=
  {mixed:=by kernel_rfl,f125:=Eq.trans func164 (congrArg some (by kernel_rfl)),f128:=Eq.trans func176 (congrArg some (by kernel_rfl)),
     f129:=Eq.trans func177 (congrArg some (by kernel_rfl)),f189:=Eq.trans func146 (congrArg some (by kernel_rfl)),f215:=Eq.trans func158 (congrArg some (by kernel_rfl)),
     f216:=Eq.trans func147 (congrArg some (by kernel_rfl)),f257:=Eq.trans func163 (congrArg some (by kernel_rfl)),f294:=Eq.trans func168 (congrArg some (by kernel_rfl)),
     f295:=Eq.trans func169 (congrArg some (by kernel_rfl)),f296:=Eq.trans func170 (congrArg some (by kernel_rfl)),f297:=Eq.trans func171 (congrArg some (by kernel_rfl)),
     f298:=Eq.trans func172 (congrArg some (by kernel_rfl)),f299:=Eq.trans func173 (congrArg some (by kernel_rfl)),f300:=Eq.trans func174 (congrArg some (by kernel_rfl)),
     f301:=Eq.trans func175 (congrArg some (by kernel_rfl)),f328:=Eq.trans func186 (congrArg some (by kernel_rfl)),f329:=Eq.trans func187 (congrArg some (by kernel_rfl)),
     f330:=Eq.trans func188 (congrArg some (by kernel_rfl)),f331:=Eq.trans func189 (congrArg some (by kernel_rfl)),f332:=Eq.trans func190 (congrArg some (by kernel_rfl)),
     f343:=Eq.trans func194 (congrArg some (by kernel_rfl)),t0:=underlying0,a0:=isAgg0,z0:=sizeOf0,v0:=zeroValue0,t3:=underlying3,a3:=isAgg3,
     z3:=sizeOf3,v3:=zeroValue3,t4:=underlying4,a4:=isAgg4,z4:=sizeOf4,v4:=zeroValue4,t5:=underlying5,a5:=isAgg5,z5:=sizeOf5,
     v5:=zeroValue5,t9:=underlying9,a9:=isAgg9,z9:=sizeOf9,v9:=zeroValue9,t28:=underlying22,a28:=isAgg22,z28:=sizeOf22,v28:=zeroValue22,
     t46:=underlying40,a46:=isAgg40,z46:=sizeOf40,v46:=zeroValue40,t51:=underlying235,a51:=isAgg235,z51:=sizeOf235,v51:=zeroValue235,
     t53:=underlying34,a53:=isAgg34,z53:=sizeOf34,v53:=zeroValue34,t131:=underlying112,a131:=isAgg112,z131:=sizeOf112,v131:=zeroValue112,
     t182:=underlying228,a182:=isAgg228,z182:=sizeOf228,v182:=zeroValue228,t183:=underlying229,a183:=isAgg229,z183:=sizeOf229,v183:=zeroValue229,
     t218:=underlying242,a218:=isAgg242,z218:=sizeOf242,v218:=zeroValue242,t222:=underlying246,a222:=isAgg246,z222:=sizeOf246,v222:=zeroValue246,
     t228:=underlying250,a228:=isAgg250,z228:=sizeOf250,v228:=zeroValue250,t229:=underlying251,a229:=isAgg251,z229:=sizeOf251,v229:=zeroValue251}
theorem alP:afN prog 146:=λblk off cap zs w h1 h2 h3=>Any.slices_Sort_int Tryz.axU blk off cap zs w h1 h2 h3
end Go.Proofs.YtdjeacigeegklaaGreat
