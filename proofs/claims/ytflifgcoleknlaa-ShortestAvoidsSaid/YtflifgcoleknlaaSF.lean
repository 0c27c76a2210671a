/- The sorts of slices of structs that the call owns. No condition but those that stand in each. -/
import Derived.Test.YtflifgcoleknlaaA17
import Derived.Test.YtflifgcoleknlaaF
import Derived.Test.YtflifgcoleknlaaVC
namespace Go.Proofs.Ytflifgcoleknlaa
set_option linter.all false
open Go Go.Sort Go.Lib Go.Shelf Go.RowKit
set_option maxRecDepth 100000
def cmpI_ (x y : Int) : Int := if x < y then -1 else if y < x then 1 else 0
theorem cmpI_ok (x y : Int) : m_cmp_Compare_int x y = some (cmpI_ x y) := by
 unfold m_cmp_Compare_int m_cmp_isNaN_int cmpI_
 by_cases h : x < y
 ·simp [h, bnd]
 ·by_cases h2 : y < x <;> simp [h, h2, bnd]
def Try.sf64Ren : Shelf.Ren :=
 {   f := fun x =>     match x with | 6 => 64 | 15 => 86 | 14 => 85 | 28 => 99 | 29 => 100 | 20 => 91 | 21 => 92 | 22 => 93 | 23 => 94 | 24 => 95 | 25 => 96 | 26 => 97 | 27 => 98 | 46 => 101 | 47 => 102 | 48 => 103 | 49 => 104 | 50 => 105 | 57 => 106 | n => n,   t := fun x =>     match x with | 22 => 86 | 24 => 88 | 25 => 90 | 3 => 3 | 39 => 106 | 0 => 0 | 53 => 118 | 55 => 120 | 4 => 4 | 46 => 112 | 45 => 111 | 50 => 48 | 5 => 5 | 9 => 9 | 66 => 121 | 70 => 125 | 76 => 127 | 77 => 128 | n => n,   g := fun n => n }
theorem Try.sf64 : SlLaysF0.n6 Try.prog Try.sf64Ren :=
  { mixed := by kernel_rfl, f6 := ⟨ "slices.SortFunc[[]bitcast/shortest.step,bitcast/shortest.step]", of_decide_eq_true (by kernel_rfl), Try.func64.trans (by kernel_rfl)⟩, 
    f14 := ⟨ "slices.pdqsortCmpFunc[bitcast/shortest.step]", of_decide_eq_true (by kernel_rfl), Try.func85.trans (by kernel_rfl)⟩, f15 := Try.func86.trans (by kernel_rfl), 
    f20 := ⟨ "slices.insertionSortCmpFunc[bitcast/shortest.step]", of_decide_eq_true (by kernel_rfl), Try.func91.trans (by kernel_rfl)⟩, f21 := ⟨ "slices.heapSortCmpFunc[bitcast/shortest.step]", 
    of_decide_eq_true (by kernel_rfl), Try.func92.trans (by kernel_rfl)⟩, f22 := ⟨ "slices.breakPatternsCmpFunc[bitcast/shortest.step]", of_decide_eq_true (by kernel_rfl), 
    Try.func93.trans (by kernel_rfl)⟩, f23 := ⟨ "slices.choosePivotCmpFunc[bitcast/shortest.step]", of_decide_eq_true (by kernel_rfl), Try.func94.trans (by kernel_rfl)⟩, 
    f24 := ⟨ "slices.reverseRangeCmpFunc[bitcast/shortest.step]", of_decide_eq_true (by kernel_rfl), Try.func95.trans (by kernel_rfl)⟩, f25 := ⟨ "slices.partialInsertionSortCmpFunc[bitcast/shortest.step]", 
    of_decide_eq_true (by kernel_rfl), Try.func96.trans (by kernel_rfl)⟩, f26 := ⟨ "slices.partitionEqualCmpFunc[bitcast/shortest.step]", of_decide_eq_true (by kernel_rfl), 
    Try.func97.trans (by kernel_rfl)⟩, f27 := ⟨ "slices.partitionCmpFunc[bitcast/shortest.step]", of_decide_eq_true (by kernel_rfl), Try.func98.trans (by kernel_rfl)⟩, 
    f28 := Try.func99.trans (by kernel_rfl), f29 := Try.func100.trans (by kernel_rfl), f46 := ⟨ "slices.siftDownCmpFunc[bitcast/shortest.step]", of_decide_eq_true (by kernel_rfl), 
    Try.func101.trans (by kernel_rfl)⟩, f47 := Try.func102.trans (by kernel_rfl), f48 := Try.func103.trans (by kernel_rfl), f49 := ⟨ "slices.medianAdjacentCmpFunc[bitcast/shortest.step]", 
    of_decide_eq_true (by kernel_rfl), Try.func104.trans (by kernel_rfl)⟩, f50 := ⟨ "slices.medianCmpFunc[bitcast/shortest.step]", of_decide_eq_true (by kernel_rfl), Try.func105.trans (by kernel_rfl)⟩, 
    f57 := ⟨ "slices.order2CmpFunc[bitcast/shortest.step]", of_decide_eq_true (by kernel_rfl), Try.func106.trans (by kernel_rfl)⟩, t0 := Try.underlying0, a0 := Try.isAgg0, z0 := Try.sizeOf0, 
    v0 := Try.zeroValue0, t3 := Try.underlying3, a3 := Try.isAgg3, z3 := Try.sizeOf3, v3 := Try.zeroValue3, t4 := Try.underlying4, a4 := Try.isAgg4, z4 := Try.sizeOf4, v4 := Try.zeroValue4, 
    t5 := Try.underlying5, a5 := Try.isAgg5, z5 := Try.sizeOf5, v5 := Try.zeroValue5, t9 := Try.underlying9, a9 := Try.isAgg9, z9 := Try.sizeOf9, v9 := Try.zeroValue9, t22 := Try.underlying86, 
    a22 := Try.isAgg86, z22 := Try.sizeOf86, v22 := Try.zeroValue86, t25 := Try.underlying90, a25 := Try.isAgg90, z25 := Try.sizeOf90, v25 := Try.zeroValue90, t39 := Try.underlying106, a39 := Try.isAgg106, 
    z39 := Try.sizeOf106, v39 := Try.zeroValue106, t45 := Try.underlying111, a45 := Try.isAgg111, z45 := Try.sizeOf111, v45 := Try.zeroValue111, t46 := Try.underlying112, a46 := Try.isAgg112, 
    z46 := Try.sizeOf112, v46 := Try.zeroValue112, t50 := Try.underlying48, a50 := Try.isAgg48, z50 := Try.sizeOf48, v50 := Try.zeroValue48, t53 := Try.underlying118, a53 := Try.isAgg118, 
    z53 := Try.sizeOf118, v53 := Try.zeroValue118, t55 := Try.underlying120, a55 := Try.isAgg120, z55 := Try.sizeOf120, v55 := Try.zeroValue120, t66 := Try.underlying121, a66 := Try.isAgg121, 
    z66 := Try.sizeOf121, v66 := Try.zeroValue121, t70 := Try.underlying125, a70 := Try.isAgg125, z70 := Try.sizeOf125, v70 := Try.zeroValue125, t76 := Try.underlying127, a76 := Try.isAgg127, 
    z76 := Try.sizeOf127, v76 := Try.zeroValue127, t77 := Try.underlying128, a77 := Try.isAgg128, z77 := Try.sizeOf128, v77 := Try.zeroValue128 }
def vals88 (x : GShortest_step) : List Value := [.int .i64 x.to_, .int .i64 x.cost_]
theorem vc88 (I : Imm) (x : GShortest_step) (vs : List Value) : RepCs I (eGShortest_step.enc x) vs ↔ vs = vals88 x := by
 show RepCs I [.int .i64 x.to_, .int .i64 x.cost_] vs ↔ vs = _
 simp only [RepCs, RepC]
 constructor
 ·rintro ⟨_, _, rfl, rfl, ⟨_, _, rfl, rfl, rfl⟩⟩
  rfl
 ·rintro rfl
  exact ⟨_, _, rfl, rfl, ⟨_, _, rfl, rfl, rfl⟩⟩
theorem vl88 (I : Imm) (β : Nat → Value) (x : GShortest_step) : RepL I β (eGShortest_step.enc x) (vals88 x) := by
 show RepL I β [.int .i64 x.to_, .int .i64 x.cost_] _
 simp only [RepL, Rep, RepC]
 exact ⟨_, _, rfl, rfl, ⟨_, _, rfl, rfl, rfl⟩⟩
theorem v188 (x : GShortest_step) : ∀ v ∈ vals88 x, v.oneCell' = true := by
 intro v hv
 simp only [vals88, List.mem_cons, List.not_mem_nil, or_false] at hv
 rcases hv with rfl | rfl <;> rfl
theorem cf65 (a b : GShortest_step) : m_shortest_read_1 a b = some (lexK [fun x : GShortest_step => x.to_] a b) := by
 unfold m_shortest_read_1
 simp only [cmpI_ok]
 unfold cmpI_ lexK
 simp only [bnd, lexK]
theorem said65 : SaidF Try.prog 64 65 vals88 2 (lexK [fun x : GShortest_step => x.to_]) := fun blk off cap d w hH hb hs =>
 AnyQ.slices_SortFunc Try.sf64 2 Try.isAgg88 Try.sizeOf88 vals88 (fun _ => rfl) v188 _ (lexK_swo _) 65 #[] blk off cap d w (enters_of Try.func65 (by kernel_rfl) rfl)
  (cmpLays_of vl88 (fun x y => m_shortest_read_1_ok (cf65 x y)) blk off d.size w) hH hb hs
theorem sort_65 {d T : Nat} {zs ys : List GShortest_step} (h : sortM (lexK [fun x : GShortest_step => x.to_]) zs = some ys) : SCalls Try.prog 64 [(d, .slice T 2 (ml eGShortest_step zs) 0 false)] [.own d, .fn 65 []] (fun r σ' => r = .tup [] ∧ σ' = [(d, .slice T 2 (ml eGShortest_step ys) 0 false)]) :=
 sortF_own vc88 (by decide) (fun _ => rfl) (fun _ => rfl) (lexK_trans _) said65 (fun p cap fv w => AnyF.slices_SortFunc_none Try.sf64 p cap fv w) h
end Go.Proofs.Ytflifgcoleknlaa
