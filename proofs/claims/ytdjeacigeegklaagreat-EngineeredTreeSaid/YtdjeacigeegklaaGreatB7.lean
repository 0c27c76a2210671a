/- Bound methods, and slices of what is no plain data, as the cells of an object; loops of a known number of rounds. No condition but br aM stand in each. -/
import Derived.Test.YtdjeacigeegklaaGreatBA
import Derived.LoopN
namespace Go.Proofs.YtdjeacigeegklaaGreat
set_option linter.all false
open Go
theorem yQ{P:Program}(op:BinOp)(t:TypeId)(x y:Operand)(a b:ByteArray)(w:World):(eqGuard op t x y (.string a) (.string b)).run P w=.ok () w:=by
 unfold eqGuard;cases op<;>rfl
theorem agh{P:Program}{T:TypeId}(x y:Operand)(a b:ByteArray)(w:World)(hT:P.underlying T=some .string):(do eqGuard .neq T x y (.string a) (.string b);binOp .neq T (.string a) (.string b):Sem Value).run P w=.ok (.bool (!(a.toList==b.toList))) w:=by
 rw[Sem.run_bind,yQ]
 simp only[Result.andThen_ok]
 rfl
variable {P:Program}{tb:Tb}
end Go.Proofs.YtdjeacigeegklaaGreat
