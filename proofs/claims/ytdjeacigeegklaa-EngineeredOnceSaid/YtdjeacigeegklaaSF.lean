/- The sorts of slices of structs aY the call aae. No condition but bL aY stand in each. -/
import Derived.Test.YtdjeacigeegklaaA17
import Derived.Test.YtdjeacigeegklaaF
import Derived.Test.YtdjeacigeegklaaVC
namespace Go.Proofs.Ytdjeacigeegklaa
set_option linter.all false
open Go Go.Sort Go.Lib Go.Shelf Go.RowKit
set_option maxRecDepth 100000
def ab9 (x y : Int) : Int := if x < y then -1 else if y < x then 1 else 0
theorem akw (x y : Int) : eo x y = some (ab9 x y) := by
 unfold eo iJ ab9
 by_cases h : x < y
 ·simp [h, bnd]
 ·by_cases h2 : y < x <;> simp [h, h2, bnd]
def Try.akx : Shelf.Ren :=
 {   f := fun x =>     match x with | 6 => 72 | 15 => 75 | 14 => 74 | 28 => 84 | 29 => 85 | 20 => 76 | 21 => 77 | 22 => 78 | 23 => 79 | 24 => 80 | 25 => 81 | 26 => 82 | 27 => 83 | 46 => 86 | 47 => 87 | 48 => 88 | 49 => 89 | 50 => 90 | 57 => 91 | n => n,   t := fun x =>     match x with | 22 => 133 | 24 => 135 | 25 => 137 | 3 => 3 | 39 => 40 | 0 => 0 | 53 => 149 | 55 => 34 | 4 => 4 | 46 => 143 | 45 => 142 | 50 => 56 | 5 => 5 | 9 => 9 | 66 => 151 | 70 => 155 | 76 => 157 | 77 => 158 | n => n,   g := fun n => n }
theorem Try.aog : SlLaysF0.n6 Try.prog Try.akx :=
  { mixed := by kernel_rfl, f6 := ⟨ "slices.SortFunc[[]bitcast/shortest.step,bitcast/shortest.step]", of_decide_eq_true (by kernel_rfl), Try.func72.trans (by kernel_rfl)⟩, 
    f14 := ⟨ "slices.pdqsortCmpFunc[bitcast/shortest.step]", of_decide_eq_true (by kernel_rfl), Try.func74.trans (by kernel_rfl)⟩, f15 := Try.func75.trans (by kernel_rfl), 
    f20 := ⟨ "slices.insertionSortCmpFunc[bitcast/shortest.step]", of_decide_eq_true (by kernel_rfl), Try.func76.trans (by kernel_rfl)⟩, f21 := ⟨ "slices.heapSortCmpFunc[bitcast/shortest.step]", 
    of_decide_eq_true (by kernel_rfl), Try.func77.trans (by kernel_rfl)⟩, f22 := ⟨ "slices.breakPatternsCmpFunc[bitcast/shortest.step]", of_decide_eq_true (by kernel_rfl), 
    Try.func78.trans (by kernel_rfl)⟩, f23 := ⟨ "slices.choosePivotCmpFunc[bitcast/shortest.step]", of_decide_eq_true (by kernel_rfl), Try.func79.trans (by kernel_rfl)⟩, 
    f24 := ⟨ "slices.reverseRangeCmpFunc[bitcast/shortest.step]", of_decide_eq_true (by kernel_rfl), Try.func80.trans (by kernel_rfl)⟩, f25 := ⟨ "slices.partialInsertionSortCmpFunc[bitcast/shortest.step]", 
    of_decide_eq_true (by kernel_rfl), Try.func81.trans (by kernel_rfl)⟩, f26 := ⟨ "slices.partitionEqualCmpFunc[bitcast/shortest.step]", of_decide_eq_true (by kernel_rfl), 
    Try.func82.trans (by kernel_rfl)⟩, f27 := ⟨ "slices.partitionCmpFunc[bitcast/shortest.step]", of_decide_eq_true (by kernel_rfl), Try.func83.trans (by kernel_rfl)⟩, 
    f28 := Try.func84.trans (by kernel_rfl), f29 := Try.func85.trans (by kernel_rfl), f46 := ⟨ "slices.siftDownCmpFunc[bitcast/shortest.step]", of_decide_eq_true (by kernel_rfl), 
    Try.func86.trans (by kernel_rfl)⟩, f47 := Try.func87.trans (by kernel_rfl), f48 := Try.func88.trans (by kernel_rfl), f49 := ⟨ "slices.medianAdjacentCmpFunc[bitcast/shortest.step]", 
    of_decide_eq_true (by kernel_rfl), Try.func89.trans (by kernel_rfl)⟩, f50 := ⟨ "slices.medianCmpFunc[bitcast/shortest.step]", of_decide_eq_true (by kernel_rfl), Try.func90.trans (by kernel_rfl)⟩, 
    f57 := ⟨ "slices.order2CmpFunc[bitcast/shortest.step]", of_decide_eq_true (by kernel_rfl), Try.func91.trans (by kernel_rfl)⟩, t0 := Try.underlying0, a0 := Try.isAgg0, z0 := Try.sizeOf0, 
    v0 := Try.zeroValue0, t3 := Try.underlying3, a3 := Try.isAgg3, z3 := Try.sizeOf3, v3 := Try.zeroValue3, t4 := Try.underlying4, a4 := Try.isAgg4, z4 := Try.sizeOf4, v4 := Try.zeroValue4, 
    t5 := Try.underlying5, a5 := Try.isAgg5, z5 := Try.sizeOf5, v5 := Try.zeroValue5, t9 := Try.underlying9, a9 := Try.isAgg9, z9 := Try.sizeOf9, v9 := Try.zeroValue9, t22 := Try.underlying133, 
    a22 := Try.isAgg133, z22 := Try.sizeOf133, v22 := Try.zeroValue133, t25 := Try.underlying137, a25 := Try.isAgg137, z25 := Try.sizeOf137, v25 := Try.zeroValue137, t39 := Try.underlying40, 
    a39 := Try.isAgg40, z39 := Try.sizeOf40, v39 := Try.zeroValue40, t45 := Try.underlying142, a45 := Try.isAgg142, z45 := Try.sizeOf142, v45 := Try.zeroValue142, t46 := Try.underlying143, 
    a46 := Try.isAgg143, z46 := Try.sizeOf143, v46 := Try.zeroValue143, t50 := Try.underlying56, a50 := Try.isAgg56, z50 := Try.sizeOf56, v50 := Try.zeroValue56, t53 := Try.underlying149, 
    a53 := Try.isAgg149, z53 := Try.sizeOf149, v53 := Try.zeroValue149, t55 := Try.underlying34, a55 := Try.isAgg34, z55 := Try.sizeOf34, v55 := Try.zeroValue34, t66 := Try.underlying151, 
    a66 := Try.isAgg151, z66 := Try.sizeOf151, v66 := Try.zeroValue151, t70 := Try.underlying155, a70 := Try.isAgg155, z70 := Try.sizeOf155, v70 := Try.zeroValue155, t76 := Try.underlying157, 
    a76 := Try.isAgg157, z76 := Try.sizeOf157, v76 := Try.zeroValue157, t77 := Try.underlying158, a77 := Try.isAgg158, z77 := Try.sizeOf158, v77 := Try.zeroValue158 }
def qq (x : az) : List Value := [.int .i64 x.to_, .int .i64 x.eY]
theorem arn (I : Imm) (x : az) (vs : List Value) : bJ I (aq.enc x) vs ↔ vs = qq x := by
 show bJ I [.int .i64 x.to_, .int .i64 x.eY] vs ↔ vs = _
 simp only [bJ, aF]
 constructor
 ·rintro ⟨_, _, rfl, rfl, ⟨_, _, rfl, rfl, rfl⟩⟩
  rfl
 ·rintro rfl
  exact ⟨_, _, rfl, rfl, ⟨_, _, rfl, rfl, rfl⟩⟩
theorem aro (I : Imm) (β : Nat → Value) (x : az) : aZ I β (aq.enc x) (qq x) := by
 show aZ I β [.int .i64 x.to_, .int .i64 x.eY] _
 simp only [aZ, Rep, aF]
 exact ⟨_, _, rfl, rfl, ⟨_, _, rfl, rfl, rfl⟩⟩
theorem arp (x : az) : ∀ v ∈ qq x, v.oneCell' = true := by
 intro v hv
 simp only [qq, List.mem_cons, List.not_mem_nil, or_false] at hv
 rcases hv with rfl | rfl <;> rfl
theorem cf73 (a b : az) : kg a b = some (jk [fun x : az => x.to_] a b) := by
 unfold kg
 simp only [akw]
 unfold ab9 jk
 simp only [bnd, jk]
theorem aoh : agc Try.prog 72 73 qq 2 (jk [fun x : az => x.to_]) := fun blk off cap d w hH hb hs =>
 AnyQ.slices_SortFunc Try.aog 2 Try.isAgg135 Try.sizeOf135 qq (fun _ => rfl) arp _ (afj _) 73 #[] blk off cap d w (enters_of Try.func73 (by kernel_rfl) rfl)
  (abX aro (fun x y => tK (cf73 x y)) blk off d.size w) hH hb hs
theorem aky {d T : Nat} {zs ys : List az} (h : oz (jk [fun x : az => x.to_]) zs = some ys) : dH Try.prog 72 [(d, .slice T 2 (ml aq zs) 0 false)] [.own d, .fn 73 []] (fun r σ' => r = .tup [] ∧ σ' = [(d, .slice T 2 (ml aq ys) 0 false)]) :=
 ac1 arn (by decide) (fun _ => rfl) (fun _ => rfl) (qi _) aoh (fun p cap fv w => AnyF.slices_SortFunc_none Try.aog p cap fv w) h
end Go.Proofs.Ytdjeacigeegklaa
