/- The sorts of slices of structs that the call owns. No condition but those that stand in each. -/
import Derived.Test.YtmcjffllahcclaaA17
import Derived.Test.YtmcjffllahcclaaF
import Derived.Test.YtmcjffllahcclaaVC
namespace Go.Proofs.Ytmcjffllahcclaa
set_option linter.all false
open Go Go.Sort Go.Lib Go.Shelf Go.RowKit
set_option maxRecDepth 100000
def cmpI_ (x y : Int) : Int := if x < y then -1 else if y < x then 1 else 0
theorem cmpI_ok (x y : Int) : m_cmp_Compare_int x y = some (cmpI_ x y) := by
  unfold m_cmp_Compare_int m_cmp_isNaN_int cmpI_
  by_cases h : x < y
  · simp [h, bnd]
  · by_cases h2 : y < x <;> simp [h, h2, bnd]
def Try.sf23Ren : Shelf.Ren :=
  {   f := fun x =>     match x with | 6 => 23 | 15 => 42 | 14 => 41 | 28 => 71 | 29 => 72 | 20 => 63 | 21 => 64 | 22 => 65 | 23 => 66 | 24 => 67 | 25 => 68 | 26 => 69 | 27 => 70 | 46 => 87 | 47 => 88 | 48 => 89 | 49 => 90 | 50 => 91 | 57 => 99 | n => n,   t := fun x =>     match x with | 22 => 37 | 24 => 62 | 25 => 71 | 3 => 3 | 39 => 86 | 0 => 0 | 53 => 111 | 55 => 113 | 4 => 4 | 46 => 105 | 45 => 104 | 50 => 79 | 5 => 5 | 9 => 9 | 66 => 128 | 70 => 132 | 76 => 142 | 77 => 143 | n => n,   g := fun n => n }
theorem Try.sf23 : SlLaysF0.n6 Try.prog Try.sf23Ren :=
  { mixed := by kernel_rfl, f6 := ⟨ "slices.SortFunc[[]bitcast/api.Router,bitcast/api.Router]", of_decide_eq_true (by kernel_rfl), Try.func23.trans (by kernel_rfl)⟩, 
    f14 := ⟨ "slices.pdqsortCmpFunc[bitcast/api.Router]", of_decide_eq_true (by kernel_rfl), Try.func41.trans (by kernel_rfl)⟩, f15 := Try.func42.trans (by kernel_rfl), 
    f20 := ⟨ "slices.insertionSortCmpFunc[bitcast/api.Router]", of_decide_eq_true (by kernel_rfl), Try.func63.trans (by kernel_rfl)⟩, f21 := ⟨ "slices.heapSortCmpFunc[bitcast/api.Router]", 
    of_decide_eq_true (by kernel_rfl), Try.func64.trans (by kernel_rfl)⟩, f22 := ⟨ "slices.breakPatternsCmpFunc[bitcast/api.Router]", of_decide_eq_true (by kernel_rfl), Try.func65.trans (by kernel_rfl)⟩, 
    f23 := ⟨ "slices.choosePivotCmpFunc[bitcast/api.Router]", of_decide_eq_true (by kernel_rfl), Try.func66.trans (by kernel_rfl)⟩, f24 := ⟨ "slices.reverseRangeCmpFunc[bitcast/api.Router]", 
    of_decide_eq_true (by kernel_rfl), Try.func67.trans (by kernel_rfl)⟩, f25 := ⟨ "slices.partialInsertionSortCmpFunc[bitcast/api.Router]", of_decide_eq_true (by kernel_rfl), 
    Try.func68.trans (by kernel_rfl)⟩, f26 := ⟨ "slices.partitionEqualCmpFunc[bitcast/api.Router]", of_decide_eq_true (by kernel_rfl), Try.func69.trans (by kernel_rfl)⟩, 
    f27 := ⟨ "slices.partitionCmpFunc[bitcast/api.Router]", of_decide_eq_true (by kernel_rfl), Try.func70.trans (by kernel_rfl)⟩, f28 := Try.func71.trans (by kernel_rfl), 
    f29 := Try.func72.trans (by kernel_rfl), f46 := ⟨ "slices.siftDownCmpFunc[bitcast/api.Router]", of_decide_eq_true (by kernel_rfl), Try.func87.trans (by kernel_rfl)⟩, 
    f47 := Try.func88.trans (by kernel_rfl), f48 := Try.func89.trans (by kernel_rfl), f49 := ⟨ "slices.medianAdjacentCmpFunc[bitcast/api.Router]", of_decide_eq_true (by kernel_rfl), 
    Try.func90.trans (by kernel_rfl)⟩, f50 := ⟨ "slices.medianCmpFunc[bitcast/api.Router]", of_decide_eq_true (by kernel_rfl), Try.func91.trans (by kernel_rfl)⟩, 
    f57 := ⟨ "slices.order2CmpFunc[bitcast/api.Router]", of_decide_eq_true (by kernel_rfl), Try.func99.trans (by kernel_rfl)⟩, t0 := Try.underlying0, a0 := Try.isAgg0, z0 := Try.sizeOf0, 
    v0 := Try.zeroValue0, t3 := Try.underlying3, a3 := Try.isAgg3, z3 := Try.sizeOf3, v3 := Try.zeroValue3, t4 := Try.underlying4, a4 := Try.isAgg4, z4 := Try.sizeOf4, v4 := Try.zeroValue4, 
    t5 := Try.underlying5, a5 := Try.isAgg5, z5 := Try.sizeOf5, v5 := Try.zeroValue5, t9 := Try.underlying9, a9 := Try.isAgg9, z9 := Try.sizeOf9, v9 := Try.zeroValue9, t22 := Try.underlying37, 
    a22 := Try.isAgg37, z22 := Try.sizeOf37, v22 := Try.zeroValue37, t25 := Try.underlying71, a25 := Try.isAgg71, z25 := Try.sizeOf71, v25 := Try.zeroValue71, t39 := Try.underlying86, a39 := Try.isAgg86, 
    z39 := Try.sizeOf86, v39 := Try.zeroValue86, t45 := Try.underlying104, a45 := Try.isAgg104, z45 := Try.sizeOf104, v45 := Try.zeroValue104, t46 := Try.underlying105, a46 := Try.isAgg105, 
    z46 := Try.sizeOf105, v46 := Try.zeroValue105, t50 := Try.underlying79, a50 := Try.isAgg79, z50 := Try.sizeOf79, v50 := Try.zeroValue79, t53 := Try.underlying111, a53 := Try.isAgg111, 
    z53 := Try.sizeOf111, v53 := Try.zeroValue111, t55 := Try.underlying113, a55 := Try.isAgg113, z55 := Try.sizeOf113, v55 := Try.zeroValue113, t66 := Try.underlying128, a66 := Try.isAgg128, 
    z66 := Try.sizeOf128, v66 := Try.zeroValue128, t70 := Try.underlying132, a70 := Try.isAgg132, z70 := Try.sizeOf132, v70 := Try.zeroValue132, t76 := Try.underlying142, a76 := Try.isAgg142, 
    z76 := Try.sizeOf142, v76 := Try.zeroValue142, t77 := Try.underlying143, a77 := Try.isAgg143, z77 := Try.sizeOf143, v77 := Try.zeroValue143 }
def vals62 (x : GRouter) : List Value := [.int .i64 x.ID, .bool x.Capable]
theorem vc62 (I : Imm) (x : GRouter) (vs : List Value) : RepCs I (eGRouter.enc x) vs ↔ vs = vals62 x := by
  show RepCs I [.int .i64 x.ID, .bool x.Capable] vs ↔ vs = _
  simp only [RepCs, RepC]
  constructor
  · rintro ⟨_, _, rfl, rfl, ⟨_, _, rfl, rfl, rfl⟩⟩
    rfl
  · rintro rfl
    exact ⟨_, _, rfl, rfl, ⟨_, _, rfl, rfl, rfl⟩⟩
theorem vl62 (I : Imm) (β : Nat → Value) (x : GRouter) : RepL I β (eGRouter.enc x) (vals62 x) := by
  show RepL I β [.int .i64 x.ID, .bool x.Capable] _
  simp only [RepL, Rep, RepC]
  exact ⟨_, _, rfl, rfl, ⟨_, _, rfl, rfl, rfl⟩⟩
theorem v162 (x : GRouter) : ∀ v ∈ vals62 x, v.oneCell' = true := by
  intro v hv
  simp only [vals62, List.mem_cons, List.not_mem_nil, or_false] at hv
  rcases hv with rfl | rfl <;> rfl
theorem cf24 (a b : GRouter) : m_database_View_1 a b = some (lexK [fun x : GRouter => x.ID] a b) := by
  unfold m_database_View_1
  simp only [cmpI_ok]
  unfold cmpI_ lexK
  simp only [bnd, lexK]
theorem said24 : SaidF Try.prog 23 24 vals62 2 (lexK [fun x : GRouter => x.ID]) := fun blk off cap d w hH hb hs =>
  AnyQ.slices_SortFunc Try.sf23 2 Try.isAgg62 Try.sizeOf62 vals62 (fun _ => rfl) v162 _ (lexK_swo _) 24 #[] blk off cap d w (enters_of Try.func24 (by kernel_rfl) rfl)
    (cmpLays_of vl62 (fun x y => m_database_View_1_ok (cf24 x y)) blk off d.size w) hH hb hs
theorem sort_24 {d T : Nat} {zs ys : List GRouter} (h : sortM (lexK [fun x : GRouter => x.ID]) zs = some ys) : SCalls Try.prog 23 [(d, .slice T 2 (ml eGRouter zs) 0 false)] [.own d, .fn 24 []] (fun r σ' => r = .tup [] ∧ σ' = [(d, .slice T 2 (ml eGRouter ys) 0 false)]) :=
  sortF_own vc62 (by decide) (fun _ => rfl) (fun _ => rfl) (lexK_trans _) said24 (fun p cap fv w => AnyF.slices_SortFunc_none Try.sf23 p cap fv w) h
def Try.sf26Ren : Shelf.Ren :=
  {   f := fun x =>     match x with | 6 => 26 | 15 => 42 | 14 => 44 | 28 => 71 | 29 => 72 | 20 => 73 | 21 => 74 | 22 => 75 | 23 => 76 | 24 => 77 | 25 => 78 | 26 => 79 | 27 => 80 | 46 => 92 | 47 => 88 | 48 => 89 | 49 => 93 | 50 => 94 | 57 => 100 | n => n,   t := fun x =>     match x with | 22 => 38 | 24 => 64 | 25 => 74 | 3 => 3 | 39 => 86 | 0 => 0 | 53 => 111 | 55 => 113 | 4 => 4 | 46 => 105 | 45 => 104 | 50 => 79 | 5 => 5 | 9 => 9 | 66 => 128 | 70 => 132 | 76 => 142 | 77 => 143 | n => n,   g := fun n => n }
theorem Try.sf26 : SlLaysF0.n6 Try.prog Try.sf26Ren :=
  { mixed := by kernel_rfl, f6 := ⟨ "slices.SortFunc[[]bitcast/api.Link,bitcast/api.Link]", of_decide_eq_true (by kernel_rfl), Try.func26.trans (by kernel_rfl)⟩, 
    f14 := ⟨ "slices.pdqsortCmpFunc[bitcast/api.Link]", of_decide_eq_true (by kernel_rfl), Try.func44.trans (by kernel_rfl)⟩, f15 := Try.func42.trans (by kernel_rfl), 
    f20 := ⟨ "slices.insertionSortCmpFunc[bitcast/api.Link]", of_decide_eq_true (by kernel_rfl), Try.func73.trans (by kernel_rfl)⟩, f21 := ⟨ "slices.heapSortCmpFunc[bitcast/api.Link]", 
    of_decide_eq_true (by kernel_rfl), Try.func74.trans (by kernel_rfl)⟩, f22 := ⟨ "slices.breakPatternsCmpFunc[bitcast/api.Link]", of_decide_eq_true (by kernel_rfl), Try.func75.trans (by kernel_rfl)⟩, 
    f23 := ⟨ "slices.choosePivotCmpFunc[bitcast/api.Link]", of_decide_eq_true (by kernel_rfl), Try.func76.trans (by kernel_rfl)⟩, f24 := ⟨ "slices.reverseRangeCmpFunc[bitcast/api.Link]", 
    of_decide_eq_true (by kernel_rfl), Try.func77.trans (by kernel_rfl)⟩, f25 := ⟨ "slices.partialInsertionSortCmpFunc[bitcast/api.Link]", of_decide_eq_true (by kernel_rfl), 
    Try.func78.trans (by kernel_rfl)⟩, f26 := ⟨ "slices.partitionEqualCmpFunc[bitcast/api.Link]", of_decide_eq_true (by kernel_rfl), Try.func79.trans (by kernel_rfl)⟩, 
    f27 := ⟨ "slices.partitionCmpFunc[bitcast/api.Link]", of_decide_eq_true (by kernel_rfl), Try.func80.trans (by kernel_rfl)⟩, f28 := Try.func71.trans (by kernel_rfl), 
    f29 := Try.func72.trans (by kernel_rfl), f46 := ⟨ "slices.siftDownCmpFunc[bitcast/api.Link]", of_decide_eq_true (by kernel_rfl), Try.func92.trans (by kernel_rfl)⟩, 
    f47 := Try.func88.trans (by kernel_rfl), f48 := Try.func89.trans (by kernel_rfl), f49 := ⟨ "slices.medianAdjacentCmpFunc[bitcast/api.Link]", of_decide_eq_true (by kernel_rfl), 
    Try.func93.trans (by kernel_rfl)⟩, f50 := ⟨ "slices.medianCmpFunc[bitcast/api.Link]", of_decide_eq_true (by kernel_rfl), Try.func94.trans (by kernel_rfl)⟩, 
    f57 := ⟨ "slices.order2CmpFunc[bitcast/api.Link]", of_decide_eq_true (by kernel_rfl), Try.func100.trans (by kernel_rfl)⟩, t0 := Try.underlying0, a0 := Try.isAgg0, z0 := Try.sizeOf0, 
    v0 := Try.zeroValue0, t3 := Try.underlying3, a3 := Try.isAgg3, z3 := Try.sizeOf3, v3 := Try.zeroValue3, t4 := Try.underlying4, a4 := Try.isAgg4, z4 := Try.sizeOf4, v4 := Try.zeroValue4, 
    t5 := Try.underlying5, a5 := Try.isAgg5, z5 := Try.sizeOf5, v5 := Try.zeroValue5, t9 := Try.underlying9, a9 := Try.isAgg9, z9 := Try.sizeOf9, v9 := Try.zeroValue9, t22 := Try.underlying38, 
    a22 := Try.isAgg38, z22 := Try.sizeOf38, v22 := Try.zeroValue38, t25 := Try.underlying74, a25 := Try.isAgg74, z25 := Try.sizeOf74, v25 := Try.zeroValue74, t39 := Try.underlying86, a39 := Try.isAgg86, 
    z39 := Try.sizeOf86, v39 := Try.zeroValue86, t45 := Try.underlying104, a45 := Try.isAgg104, z45 := Try.sizeOf104, v45 := Try.zeroValue104, t46 := Try.underlying105, a46 := Try.isAgg105, 
    z46 := Try.sizeOf105, v46 := Try.zeroValue105, t50 := Try.underlying79, a50 := Try.isAgg79, z50 := Try.sizeOf79, v50 := Try.zeroValue79, t53 := Try.underlying111, a53 := Try.isAgg111, 
    z53 := Try.sizeOf111, v53 := Try.zeroValue111, t55 := Try.underlying113, a55 := Try.isAgg113, z55 := Try.sizeOf113, v55 := Try.zeroValue113, t66 := Try.underlying128, a66 := Try.isAgg128, 
    z66 := Try.sizeOf128, v66 := Try.zeroValue128, t70 := Try.underlying132, a70 := Try.isAgg132, z70 := Try.sizeOf132, v70 := Try.zeroValue132, t76 := Try.underlying142, a76 := Try.isAgg142, 
    z76 := Try.sizeOf142, v76 := Try.zeroValue142, t77 := Try.underlying143, a77 := Try.isAgg143, z77 := Try.sizeOf143, v77 := Try.zeroValue143 }
def vals64 (x : GLink) : List Value := [.int .i64 x.A, .int .i64 x.B, .int .i64 x.CostA, .int .i64 x.CostB, .int .i64 x.Capacity]
theorem vc64 (I : Imm) (x : GLink) (vs : List Value) : RepCs I (eGLink.enc x) vs ↔ vs = vals64 x := by
  show RepCs I [.int .i64 x.A, .int .i64 x.B, .int .i64 x.CostA, .int .i64 x.CostB, .int .i64 x.Capacity] vs ↔ vs = _
  simp only [RepCs, RepC]
  constructor
  · rintro ⟨_, _, rfl, rfl, ⟨_, _, rfl, rfl, ⟨_, _, rfl, rfl, ⟨_, _, rfl, rfl, ⟨_, _, rfl, rfl, rfl⟩⟩⟩⟩⟩
    rfl
  · rintro rfl
    exact ⟨_, _, rfl, rfl, ⟨_, _, rfl, rfl, ⟨_, _, rfl, rfl, ⟨_, _, rfl, rfl, ⟨_, _, rfl, rfl, rfl⟩⟩⟩⟩⟩
theorem vl64 (I : Imm) (β : Nat → Value) (x : GLink) : RepL I β (eGLink.enc x) (vals64 x) := by
  show RepL I β [.int .i64 x.A, .int .i64 x.B, .int .i64 x.CostA, .int .i64 x.CostB, .int .i64 x.Capacity] _
  simp only [RepL, Rep, RepC]
  exact ⟨_, _, rfl, rfl, ⟨_, _, rfl, rfl, ⟨_, _, rfl, rfl, ⟨_, _, rfl, rfl, ⟨_, _, rfl, rfl, rfl⟩⟩⟩⟩⟩
theorem v164 (x : GLink) : ∀ v ∈ vals64 x, v.oneCell' = true := by
  intro v hv
  simp only [vals64, List.mem_cons, List.not_mem_nil, or_false] at hv
  rcases hv with rfl | rfl | rfl | rfl | rfl <;> rfl
theorem cf27 (a b : GLink) : m_database_View_2 a b = some (lexK [fun x : GLink => x.A, fun x : GLink => x.B] a b) := by
  unfold m_database_View_2 m_cmp_Or_int
  simp only [cmpI_ok, cmpI_, lexK]
  rcases Int.lt_trichotomy a.A b.A with h0 | h0 | h0 <;> rcases Int.lt_trichotomy a.B b.B with h1 | h1 | h1 <;> simp [bnd, forI, h0, h1] <;> (repeat (first | rw [if_neg (by omega)] | rw [if_pos (by omega)])) <;> simp
theorem said27 : SaidF Try.prog 26 27 vals64 5 (lexK [fun x : GLink => x.A, fun x : GLink => x.B]) := fun blk off cap d w hH hb hs =>
  AnyQ.slices_SortFunc Try.sf26 5 Try.isAgg64 Try.sizeOf64 vals64 (fun _ => rfl) v164 _ (lexK_swo _) 27 #[] blk off cap d w (enters_of Try.func27 (by kernel_rfl) rfl)
    (cmpLays_of vl64 (fun x y => m_database_View_2_ok (cf27 x y)) blk off d.size w) hH hb hs
theorem sort_27 {d T : Nat} {zs ys : List GLink} (h : sortM (lexK [fun x : GLink => x.A, fun x : GLink => x.B]) zs = some ys) : SCalls Try.prog 26 [(d, .slice T 5 (ml eGLink zs) 0 false)] [.own d, .fn 27 []] (fun r σ' => r = .tup [] ∧ σ' = [(d, .slice T 5 (ml eGLink ys) 0 false)]) :=
  sortF_own vc64 (by decide) (fun _ => rfl) (fun _ => rfl) (lexK_trans _) said27 (fun p cap fv w => AnyF.slices_SortFunc_none Try.sf26 p cap fv w) h
end Go.Proofs.Ytmcjffllahcclaa
