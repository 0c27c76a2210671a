/- The sorts of slices of structs that the call owns. No condition but those that stand in each. -/
import Derived.Test.YtjckghpceekieaaA17
import Derived.Test.YtjckghpceekieaaF
import Derived.Test.YtjckghpceekieaaVC
namespace Go.Proofs.Ytjckghpceekieaa
set_option linter.all false
open Go Go.Sort Go.Lib Go.Shelf Go.RowKit
set_option maxRecDepth 100000
def cmpI_ (x y : Int) : Int := if x < y then -1 else if y < x then 1 else 0
theorem cmpI_ok (x y : Int) : m_cmp_Compare_int x y = some (cmpI_ x y) := by
  unfold m_cmp_Compare_int m_cmp_isNaN_int cmpI_
  by_cases h : x < y
  · simp [h, bnd]
  · by_cases h2 : y < x <;> simp [h, h2, bnd]
def Try.sf34Ren : Shelf.Ren :=
  {   f := fun x =>     match x with | 6 => 34 | 15 => 60 | 14 => 59 | 28 => 97 | 29 => 98 | 20 => 89 | 21 => 90 | 22 => 91 | 23 => 92 | 24 => 93 | 25 => 94 | 26 => 95 | 27 => 96 | 46 => 115 | 47 => 116 | 48 => 117 | 49 => 118 | 50 => 119 | 57 => 127 | n => n,   t := fun x =>     match x with | 22 => 30 | 24 => 46 | 25 => 78 | 3 => 3 | 39 => 96 | 0 => 0 | 53 => 124 | 55 => 126 | 4 => 4 | 46 => 118 | 45 => 117 | 50 => 101 | 5 => 5 | 9 => 9 | 66 => 141 | 70 => 145 | 76 => 156 | 77 => 157 | n => n,   g := fun n => n }
theorem Try.sf34 : SlLaysF0.n6 Try.prog Try.sf34Ren :=
  { mixed := by kernel_rfl, f6 := ⟨ "slices.SortFunc[[]bitcast/api.Router,bitcast/api.Router]", of_decide_eq_true (by kernel_rfl), Try.func34.trans (by kernel_rfl)⟩, 
    f14 := ⟨ "slices.pdqsortCmpFunc[bitcast/api.Router]", of_decide_eq_true (by kernel_rfl), Try.func59.trans (by kernel_rfl)⟩, f15 := Try.func60.trans (by kernel_rfl), 
    f20 := ⟨ "slices.insertionSortCmpFunc[bitcast/api.Router]", of_decide_eq_true (by kernel_rfl), Try.func89.trans (by kernel_rfl)⟩, f21 := ⟨ "slices.heapSortCmpFunc[bitcast/api.Router]", 
    of_decide_eq_true (by kernel_rfl), Try.func90.trans (by kernel_rfl)⟩, f22 := ⟨ "slices.breakPatternsCmpFunc[bitcast/api.Router]", of_decide_eq_true (by kernel_rfl), Try.func91.trans (by kernel_rfl)⟩, 
    f23 := ⟨ "slices.choosePivotCmpFunc[bitcast/api.Router]", of_decide_eq_true (by kernel_rfl), Try.func92.trans (by kernel_rfl)⟩, f24 := ⟨ "slices.reverseRangeCmpFunc[bitcast/api.Router]", 
    of_decide_eq_true (by kernel_rfl), Try.func93.trans (by kernel_rfl)⟩, f25 := ⟨ "slices.partialInsertionSortCmpFunc[bitcast/api.Router]", of_decide_eq_true (by kernel_rfl), 
    Try.func94.trans (by kernel_rfl)⟩, f26 := ⟨ "slices.partitionEqualCmpFunc[bitcast/api.Router]", of_decide_eq_true (by kernel_rfl), Try.func95.trans (by kernel_rfl)⟩, 
    f27 := ⟨ "slices.partitionCmpFunc[bitcast/api.Router]", of_decide_eq_true (by kernel_rfl), Try.func96.trans (by kernel_rfl)⟩, f28 := Try.func97.trans (by kernel_rfl), 
    f29 := Try.func98.trans (by kernel_rfl), f46 := ⟨ "slices.siftDownCmpFunc[bitcast/api.Router]", of_decide_eq_true (by kernel_rfl), Try.func115.trans (by kernel_rfl)⟩, 
    f47 := Try.func116.trans (by kernel_rfl), f48 := Try.func117.trans (by kernel_rfl), f49 := ⟨ "slices.medianAdjacentCmpFunc[bitcast/api.Router]", of_decide_eq_true (by kernel_rfl), 
    Try.func118.trans (by kernel_rfl)⟩, f50 := ⟨ "slices.medianCmpFunc[bitcast/api.Router]", of_decide_eq_true (by kernel_rfl), Try.func119.trans (by kernel_rfl)⟩, 
    f57 := ⟨ "slices.order2CmpFunc[bitcast/api.Router]", of_decide_eq_true (by kernel_rfl), Try.func127.trans (by kernel_rfl)⟩, t0 := Try.underlying0, a0 := Try.isAgg0, z0 := Try.sizeOf0, 
    v0 := Try.zeroValue0, t3 := Try.underlying3, a3 := Try.isAgg3, z3 := Try.sizeOf3, v3 := Try.zeroValue3, t4 := Try.underlying4, a4 := Try.isAgg4, z4 := Try.sizeOf4, v4 := Try.zeroValue4, 
    t5 := Try.underlying5, a5 := Try.isAgg5, z5 := Try.sizeOf5, v5 := Try.zeroValue5, t9 := Try.underlying9, a9 := Try.isAgg9, z9 := Try.sizeOf9, v9 := Try.zeroValue9, t22 := Try.underlying30, 
    a22 := Try.isAgg30, z22 := Try.sizeOf30, v22 := Try.zeroValue30, t25 := Try.underlying78, a25 := Try.isAgg78, z25 := Try.sizeOf78, v25 := Try.zeroValue78, t39 := Try.underlying96, a39 := Try.isAgg96, 
    z39 := Try.sizeOf96, v39 := Try.zeroValue96, t45 := Try.underlying117, a45 := Try.isAgg117, z45 := Try.sizeOf117, v45 := Try.zeroValue117, t46 := Try.underlying118, a46 := Try.isAgg118, 
    z46 := Try.sizeOf118, v46 := Try.zeroValue118, t50 := Try.underlying101, a50 := Try.isAgg101, z50 := Try.sizeOf101, v50 := Try.zeroValue101, t53 := Try.underlying124, a53 := Try.isAgg124, 
    z53 := Try.sizeOf124, v53 := Try.zeroValue124, t55 := Try.underlying126, a55 := Try.isAgg126, z55 := Try.sizeOf126, v55 := Try.zeroValue126, t66 := Try.underlying141, a66 := Try.isAgg141, 
    z66 := Try.sizeOf141, v66 := Try.zeroValue141, t70 := Try.underlying145, a70 := Try.isAgg145, z70 := Try.sizeOf145, v70 := Try.zeroValue145, t76 := Try.underlying156, a76 := Try.isAgg156, 
    z76 := Try.sizeOf156, v76 := Try.zeroValue156, t77 := Try.underlying157, a77 := Try.isAgg157, z77 := Try.sizeOf157, v77 := Try.zeroValue157 }
def vals46 (x : GRouter) : List Value := [.int .i64 x.ID, .bool x.Capable]
theorem vc46 (I : Imm) (x : GRouter) (vs : List Value) : RepCs I (eGRouter.enc x) vs ↔ vs = vals46 x := by
  show RepCs I [.int .i64 x.ID, .bool x.Capable] vs ↔ vs = _
  simp only [RepCs, RepC]
  constructor
  · rintro ⟨_, _, rfl, rfl, ⟨_, _, rfl, rfl, rfl⟩⟩
    rfl
  · rintro rfl
    exact ⟨_, _, rfl, rfl, ⟨_, _, rfl, rfl, rfl⟩⟩
theorem vl46 (I : Imm) (β : Nat → Value) (x : GRouter) : RepL I β (eGRouter.enc x) (vals46 x) := by
  show RepL I β [.int .i64 x.ID, .bool x.Capable] _
  simp only [RepL, Rep, RepC]
  exact ⟨_, _, rfl, rfl, ⟨_, _, rfl, rfl, rfl⟩⟩
theorem v146 (x : GRouter) : ∀ v ∈ vals46 x, v.oneCell' = true := by
  intro v hv
  simp only [vals46, List.mem_cons, List.not_mem_nil, or_false] at hv
  rcases hv with rfl | rfl <;> rfl
theorem cf35 (a b : GRouter) : m_database_View_1 a b = some (lexK [fun x : GRouter => x.ID] a b) := by
  unfold m_database_View_1
  simp only [cmpI_ok]
  unfold cmpI_ lexK
  simp only [bnd, lexK]
theorem said35 : SaidF Try.prog 34 35 vals46 2 (lexK [fun x : GRouter => x.ID]) := fun blk off cap d w hH hb hs =>
  AnyQ.slices_SortFunc Try.sf34 2 Try.isAgg46 Try.sizeOf46 vals46 (fun _ => rfl) v146 _ (lexK_swo _) 35 #[] blk off cap d w (enters_of Try.func35 (by kernel_rfl) rfl)
    (cmpLays_of vl46 (fun x y => m_database_View_1_ok (cf35 x y)) blk off d.size w) hH hb hs
theorem sort_35 {d T : Nat} {zs ys : List GRouter} (h : sortM (lexK [fun x : GRouter => x.ID]) zs = some ys) : SCalls Try.prog 34 [(d, .slice T 2 (ml eGRouter zs) 0 false)] [.own d, .fn 35 []] (fun r σ' => r = .tup [] ∧ σ' = [(d, .slice T 2 (ml eGRouter ys) 0 false)]) :=
  sortF_own vc46 (by decide) (fun _ => rfl) (fun _ => rfl) (lexK_trans _) said35 (fun p cap fv w => AnyF.slices_SortFunc_none Try.sf34 p cap fv w) h
def Try.sf37Ren : Shelf.Ren :=
  {   f := fun x =>     match x with | 6 => 37 | 15 => 60 | 14 => 62 | 28 => 97 | 29 => 98 | 20 => 99 | 21 => 100 | 22 => 101 | 23 => 102 | 24 => 103 | 25 => 104 | 26 => 105 | 27 => 106 | 46 => 120 | 47 => 116 | 48 => 117 | 49 => 121 | 50 => 122 | 57 => 128 | n => n,   t := fun x =>     match x with | 22 => 31 | 24 => 49 | 25 => 81 | 3 => 3 | 39 => 96 | 0 => 0 | 53 => 124 | 55 => 126 | 4 => 4 | 46 => 118 | 45 => 117 | 50 => 101 | 5 => 5 | 9 => 9 | 66 => 141 | 70 => 145 | 76 => 156 | 77 => 157 | n => n,   g := fun n => n }
theorem Try.sf37 : SlLaysF0.n6 Try.prog Try.sf37Ren :=
  { mixed := by kernel_rfl, f6 := ⟨ "slices.SortFunc[[]bitcast/api.Link,bitcast/api.Link]", of_decide_eq_true (by kernel_rfl), Try.func37.trans (by kernel_rfl)⟩, 
    f14 := ⟨ "slices.pdqsortCmpFunc[bitcast/api.Link]", of_decide_eq_true (by kernel_rfl), Try.func62.trans (by kernel_rfl)⟩, f15 := Try.func60.trans (by kernel_rfl), 
    f20 := ⟨ "slices.insertionSortCmpFunc[bitcast/api.Link]", of_decide_eq_true (by kernel_rfl), Try.func99.trans (by kernel_rfl)⟩, f21 := ⟨ "slices.heapSortCmpFunc[bitcast/api.Link]", 
    of_decide_eq_true (by kernel_rfl), Try.func100.trans (by kernel_rfl)⟩, f22 := ⟨ "slices.breakPatternsCmpFunc[bitcast/api.Link]", of_decide_eq_true (by kernel_rfl), Try.func101.trans (by kernel_rfl)⟩, 
    f23 := ⟨ "slices.choosePivotCmpFunc[bitcast/api.Link]", of_decide_eq_true (by kernel_rfl), Try.func102.trans (by kernel_rfl)⟩, f24 := ⟨ "slices.reverseRangeCmpFunc[bitcast/api.Link]", 
    of_decide_eq_true (by kernel_rfl), Try.func103.trans (by kernel_rfl)⟩, f25 := ⟨ "slices.partialInsertionSortCmpFunc[bitcast/api.Link]", of_decide_eq_true (by kernel_rfl), 
    Try.func104.trans (by kernel_rfl)⟩, f26 := ⟨ "slices.partitionEqualCmpFunc[bitcast/api.Link]", of_decide_eq_true (by kernel_rfl), Try.func105.trans (by kernel_rfl)⟩, 
    f27 := ⟨ "slices.partitionCmpFunc[bitcast/api.Link]", of_decide_eq_true (by kernel_rfl), Try.func106.trans (by kernel_rfl)⟩, f28 := Try.func97.trans (by kernel_rfl), 
    f29 := Try.func98.trans (by kernel_rfl), f46 := ⟨ "slices.siftDownCmpFunc[bitcast/api.Link]", of_decide_eq_true (by kernel_rfl), Try.func120.trans (by kernel_rfl)⟩, 
    f47 := Try.func116.trans (by kernel_rfl), f48 := Try.func117.trans (by kernel_rfl), f49 := ⟨ "slices.medianAdjacentCmpFunc[bitcast/api.Link]", of_decide_eq_true (by kernel_rfl), 
    Try.func121.trans (by kernel_rfl)⟩, f50 := ⟨ "slices.medianCmpFunc[bitcast/api.Link]", of_decide_eq_true (by kernel_rfl), Try.func122.trans (by kernel_rfl)⟩, 
    f57 := ⟨ "slices.order2CmpFunc[bitcast/api.Link]", of_decide_eq_true (by kernel_rfl), Try.func128.trans (by kernel_rfl)⟩, t0 := Try.underlying0, a0 := Try.isAgg0, z0 := Try.sizeOf0, 
    v0 := Try.zeroValue0, t3 := Try.underlying3, a3 := Try.isAgg3, z3 := Try.sizeOf3, v3 := Try.zeroValue3, t4 := Try.underlying4, a4 := Try.isAgg4, z4 := Try.sizeOf4, v4 := Try.zeroValue4, 
    t5 := Try.underlying5, a5 := Try.isAgg5, z5 := Try.sizeOf5, v5 := Try.zeroValue5, t9 := Try.underlying9, a9 := Try.isAgg9, z9 := Try.sizeOf9, v9 := Try.zeroValue9, t22 := Try.underlying31, 
    a22 := Try.isAgg31, z22 := Try.sizeOf31, v22 := Try.zeroValue31, t25 := Try.underlying81, a25 := Try.isAgg81, z25 := Try.sizeOf81, v25 := Try.zeroValue81, t39 := Try.underlying96, a39 := Try.isAgg96, 
    z39 := Try.sizeOf96, v39 := Try.zeroValue96, t45 := Try.underlying117, a45 := Try.isAgg117, z45 := Try.sizeOf117, v45 := Try.zeroValue117, t46 := Try.underlying118, a46 := Try.isAgg118, 
    z46 := Try.sizeOf118, v46 := Try.zeroValue118, t50 := Try.underlying101, a50 := Try.isAgg101, z50 := Try.sizeOf101, v50 := Try.zeroValue101, t53 := Try.underlying124, a53 := Try.isAgg124, 
    z53 := Try.sizeOf124, v53 := Try.zeroValue124, t55 := Try.underlying126, a55 := Try.isAgg126, z55 := Try.sizeOf126, v55 := Try.zeroValue126, t66 := Try.underlying141, a66 := Try.isAgg141, 
    z66 := Try.sizeOf141, v66 := Try.zeroValue141, t70 := Try.underlying145, a70 := Try.isAgg145, z70 := Try.sizeOf145, v70 := Try.zeroValue145, t76 := Try.underlying156, a76 := Try.isAgg156, 
    z76 := Try.sizeOf156, v76 := Try.zeroValue156, t77 := Try.underlying157, a77 := Try.isAgg157, z77 := Try.sizeOf157, v77 := Try.zeroValue157 }
def vals49 (x : GLink) : List Value := [.int .i64 x.A, .int .i64 x.B, .int .i64 x.CostA, .int .i64 x.CostB, .int .i64 x.Capacity]
theorem vc49 (I : Imm) (x : GLink) (vs : List Value) : RepCs I (eGLink.enc x) vs ↔ vs = vals49 x := by
  show RepCs I [.int .i64 x.A, .int .i64 x.B, .int .i64 x.CostA, .int .i64 x.CostB, .int .i64 x.Capacity] vs ↔ vs = _
  simp only [RepCs, RepC]
  constructor
  · rintro ⟨_, _, rfl, rfl, ⟨_, _, rfl, rfl, ⟨_, _, rfl, rfl, ⟨_, _, rfl, rfl, ⟨_, _, rfl, rfl, rfl⟩⟩⟩⟩⟩
    rfl
  · rintro rfl
    exact ⟨_, _, rfl, rfl, ⟨_, _, rfl, rfl, ⟨_, _, rfl, rfl, ⟨_, _, rfl, rfl, ⟨_, _, rfl, rfl, rfl⟩⟩⟩⟩⟩
theorem vl49 (I : Imm) (β : Nat → Value) (x : GLink) : RepL I β (eGLink.enc x) (vals49 x) := by
  show RepL I β [.int .i64 x.A, .int .i64 x.B, .int .i64 x.CostA, .int .i64 x.CostB, .int .i64 x.Capacity] _
  simp only [RepL, Rep, RepC]
  exact ⟨_, _, rfl, rfl, ⟨_, _, rfl, rfl, ⟨_, _, rfl, rfl, ⟨_, _, rfl, rfl, ⟨_, _, rfl, rfl, rfl⟩⟩⟩⟩⟩
theorem v149 (x : GLink) : ∀ v ∈ vals49 x, v.oneCell' = true := by
  intro v hv
  simp only [vals49, List.mem_cons, List.not_mem_nil, or_false] at hv
  rcases hv with rfl | rfl | rfl | rfl | rfl <;> rfl
theorem cf38 (a b : GLink) : m_database_View_2 a b = some (lexK [fun x : GLink => x.A, fun x : GLink => x.B] a b) := by
  unfold m_database_View_2 m_cmp_Or_int
  simp only [cmpI_ok, cmpI_, lexK]
  rcases Int.lt_trichotomy a.A b.A with h0 | h0 | h0 <;> rcases Int.lt_trichotomy a.B b.B with h1 | h1 | h1 <;> simp [bnd, forI, h0, h1] <;> (repeat (first | rw [if_neg (by omega)] | rw [if_pos (by omega)])) <;> simp
theorem said38 : SaidF Try.prog 37 38 vals49 5 (lexK [fun x : GLink => x.A, fun x : GLink => x.B]) := fun blk off cap d w hH hb hs =>
  AnyQ.slices_SortFunc Try.sf37 5 Try.isAgg49 Try.sizeOf49 vals49 (fun _ => rfl) v149 _ (lexK_swo _) 38 #[] blk off cap d w (enters_of Try.func38 (by kernel_rfl) rfl)
    (cmpLays_of vl49 (fun x y => m_database_View_2_ok (cf38 x y)) blk off d.size w) hH hb hs
theorem sort_38 {d T : Nat} {zs ys : List GLink} (h : sortM (lexK [fun x : GLink => x.A, fun x : GLink => x.B]) zs = some ys) : SCalls Try.prog 37 [(d, .slice T 5 (ml eGLink zs) 0 false)] [.own d, .fn 38 []] (fun r σ' => r = .tup [] ∧ σ' = [(d, .slice T 5 (ml eGLink ys) 0 false)]) :=
  sortF_own vc49 (by decide) (fun _ => rfl) (fun _ => rfl) (lexK_trans _) said38 (fun p cap fv w => AnyF.slices_SortFunc_none Try.sf37 p cap fv w) h
end Go.Proofs.Ytjckghpceekieaa
