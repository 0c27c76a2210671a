/- The sorts of slices of structs that the call owns. No condition but those that stand in each. -/
import Derived.Test.YtmcjffllahcclaaGreatA17
import Derived.Test.YtmcjffllahcclaaGreatF
import Derived.Test.YtmcjffllahcclaaGreatVC
namespace Go.Proofs.YtmcjffllahcclaaGreat
set_option linter.all false
open Go Go.Sort Go.Lib Go.Shelf Go.RowKit
set_option maxRecDepth 100000
def cmpI_ (x y : Int) : Int := if x < y then -1 else if y < x then 1 else 0
theorem cmpI_ok (x y : Int) : m_cmp_Compare_int x y = some (cmpI_ x y) := by
  unfold m_cmp_Compare_int m_cmp_isNaN_int cmpI_
  by_cases h : x < y
  · simp [h, bnd]
  · by_cases h2 : y < x <;> simp [h, h2, bnd]
def Tryz.sf52Ren : Shelf.Ren :=
  {   f := fun x =>     match x with | 6 => 52 | 15 => 76 | 14 => 75 | 28 => 110 | 29 => 111 | 20 => 102 | 21 => 103 | 22 => 104 | 23 => 105 | 24 => 106 | 25 => 107 | 26 => 108 | 27 => 109 | 46 => 130 | 47 => 131 | 48 => 132 | 49 => 133 | 50 => 134 | 57 => 142 | n => n,   t := fun x =>     match x with | 22 => 43 | 24 => 52 | 25 => 95 | 3 => 3 | 39 => 113 | 0 => 0 | 53 => 145 | 55 => 128 | 4 => 4 | 46 => 139 | 45 => 138 | 50 => 88 | 5 => 5 | 9 => 9 | 66 => 161 | 70 => 165 | 76 => 172 | 77 => 173 | n => n,   g := fun n => n }
theorem Tryz.sf52 : SlLaysF0.n6 Tryz.prog Tryz.sf52Ren :=
  { mixed := by kernel_rfl, f6 := ⟨ "slices.SortFunc[[]bitcast/api.Router,bitcast/api.Router]", of_decide_eq_true (by kernel_rfl), Tryz.func52.trans (by kernel_rfl)⟩, 
    f14 := ⟨ "slices.pdqsortCmpFunc[bitcast/api.Router]", of_decide_eq_true (by kernel_rfl), Tryz.func75.trans (by kernel_rfl)⟩, f15 := Tryz.func76.trans (by kernel_rfl), 
    f20 := ⟨ "slices.insertionSortCmpFunc[bitcast/api.Router]", of_decide_eq_true (by kernel_rfl), Tryz.func102.trans (by kernel_rfl)⟩, f21 := ⟨ "slices.heapSortCmpFunc[bitcast/api.Router]", 
    of_decide_eq_true (by kernel_rfl), Tryz.func103.trans (by kernel_rfl)⟩, f22 := ⟨ "slices.breakPatternsCmpFunc[bitcast/api.Router]", of_decide_eq_true (by kernel_rfl), Tryz.func104.trans (by kernel_rfl)⟩, 
    f23 := ⟨ "slices.choosePivotCmpFunc[bitcast/api.Router]", of_decide_eq_true (by kernel_rfl), Tryz.func105.trans (by kernel_rfl)⟩, f24 := ⟨ "slices.reverseRangeCmpFunc[bitcast/api.Router]", 
    of_decide_eq_true (by kernel_rfl), Tryz.func106.trans (by kernel_rfl)⟩, f25 := ⟨ "slices.partialInsertionSortCmpFunc[bitcast/api.Router]", of_decide_eq_true (by kernel_rfl), 
    Tryz.func107.trans (by kernel_rfl)⟩, f26 := ⟨ "slices.partitionEqualCmpFunc[bitcast/api.Router]", of_decide_eq_true (by kernel_rfl), Tryz.func108.trans (by kernel_rfl)⟩, 
    f27 := ⟨ "slices.partitionCmpFunc[bitcast/api.Router]", of_decide_eq_true (by kernel_rfl), Tryz.func109.trans (by kernel_rfl)⟩, f28 := Tryz.func110.trans (by kernel_rfl), 
    f29 := Tryz.func111.trans (by kernel_rfl), f46 := ⟨ "slices.siftDownCmpFunc[bitcast/api.Router]", of_decide_eq_true (by kernel_rfl), Tryz.func130.trans (by kernel_rfl)⟩, 
    f47 := Tryz.func131.trans (by kernel_rfl), f48 := Tryz.func132.trans (by kernel_rfl), f49 := ⟨ "slices.medianAdjacentCmpFunc[bitcast/api.Router]", of_decide_eq_true (by kernel_rfl), 
    Tryz.func133.trans (by kernel_rfl)⟩, f50 := ⟨ "slices.medianCmpFunc[bitcast/api.Router]", of_decide_eq_true (by kernel_rfl), Tryz.func134.trans (by kernel_rfl)⟩, 
    f57 := ⟨ "slices.order2CmpFunc[bitcast/api.Router]", of_decide_eq_true (by kernel_rfl), Tryz.func142.trans (by kernel_rfl)⟩, t0 := Tryz.underlying0, a0 := Tryz.isAgg0, z0 := Tryz.sizeOf0, 
    v0 := Tryz.zeroValue0, t3 := Tryz.underlying3, a3 := Tryz.isAgg3, z3 := Tryz.sizeOf3, v3 := Tryz.zeroValue3, t4 := Tryz.underlying4, a4 := Tryz.isAgg4, z4 := Tryz.sizeOf4, v4 := Tryz.zeroValue4, 
    t5 := Tryz.underlying5, a5 := Tryz.isAgg5, z5 := Tryz.sizeOf5, v5 := Tryz.zeroValue5, t9 := Tryz.underlying9, a9 := Tryz.isAgg9, z9 := Tryz.sizeOf9, v9 := Tryz.zeroValue9, t22 := Tryz.underlying43, 
    a22 := Tryz.isAgg43, z22 := Tryz.sizeOf43, v22 := Tryz.zeroValue43, t25 := Tryz.underlying95, a25 := Tryz.isAgg95, z25 := Tryz.sizeOf95, v25 := Tryz.zeroValue95, t39 := Tryz.underlying113, a39 := Tryz.isAgg113, 
    z39 := Tryz.sizeOf113, v39 := Tryz.zeroValue113, t45 := Tryz.underlying138, a45 := Tryz.isAgg138, z45 := Tryz.sizeOf138, v45 := Tryz.zeroValue138, t46 := Tryz.underlying139, a46 := Tryz.isAgg139, 
    z46 := Tryz.sizeOf139, v46 := Tryz.zeroValue139, t50 := Tryz.underlying88, a50 := Tryz.isAgg88, z50 := Tryz.sizeOf88, v50 := Tryz.zeroValue88, t53 := Tryz.underlying145, a53 := Tryz.isAgg145, 
    z53 := Tryz.sizeOf145, v53 := Tryz.zeroValue145, t55 := Tryz.underlying128, a55 := Tryz.isAgg128, z55 := Tryz.sizeOf128, v55 := Tryz.zeroValue128, t66 := Tryz.underlying161, a66 := Tryz.isAgg161, 
    z66 := Tryz.sizeOf161, v66 := Tryz.zeroValue161, t70 := Tryz.underlying165, a70 := Tryz.isAgg165, z70 := Tryz.sizeOf165, v70 := Tryz.zeroValue165, t76 := Tryz.underlying172, a76 := Tryz.isAgg172, 
    z76 := Tryz.sizeOf172, v76 := Tryz.zeroValue172, t77 := Tryz.underlying173, a77 := Tryz.isAgg173, z77 := Tryz.sizeOf173, v77 := Tryz.zeroValue173 }
def vals52 (x : GRouter) : List Value := [.int .i64 x.ID, .bool x.Capable]
theorem vc52 (I : Imm) (x : GRouter) (vs : List Value) : RepCs I (eGRouter.enc x) vs ↔ vs = vals52 x := by
  show RepCs I [.int .i64 x.ID, .bool x.Capable] vs ↔ vs = _
  simp only [RepCs, RepC]
  constructor
  · rintro ⟨_, _, rfl, rfl, ⟨_, _, rfl, rfl, rfl⟩⟩
    rfl
  · rintro rfl
    exact ⟨_, _, rfl, rfl, ⟨_, _, rfl, rfl, rfl⟩⟩
theorem vl52 (I : Imm) (β : Nat → Value) (x : GRouter) : RepL I β (eGRouter.enc x) (vals52 x) := by
  show RepL I β [.int .i64 x.ID, .bool x.Capable] _
  simp only [RepL, Rep, RepC]
  exact ⟨_, _, rfl, rfl, ⟨_, _, rfl, rfl, rfl⟩⟩
theorem v152 (x : GRouter) : ∀ v ∈ vals52 x, v.oneCell' = true := by
  intro v hv
  simp only [vals52, List.mem_cons, List.not_mem_nil, or_false] at hv
  rcases hv with rfl | rfl <;> rfl
theorem cf53 (a b : GRouter) : m_database_View_1 a b = some (lexK [fun x : GRouter => x.ID] a b) := by
  unfold m_database_View_1
  simp only [cmpI_ok]
  unfold cmpI_ lexK
  simp only [bnd, lexK]
theorem said53 : SaidF Tryz.prog 52 53 vals52 2 (lexK [fun x : GRouter => x.ID]) := fun blk off cap d w hH hb hs =>
  AnyQ.slices_SortFunc Tryz.sf52 2 Tryz.isAgg52 Tryz.sizeOf52 vals52 (fun _ => rfl) v152 _ (lexK_swo _) 53 #[] blk off cap d w (enters_of Tryz.func53 (by kernel_rfl) rfl)
    (cmpLays_of vl52 (fun x y => m_database_View_1_ok (cf53 x y)) blk off d.size w) hH hb hs
theorem sort_53 {d T : Nat} {zs ys : List GRouter} (h : sortM (lexK [fun x : GRouter => x.ID]) zs = some ys) : SCalls Tryz.prog 52 [(d, .slice T 2 (ml eGRouter zs) 0 false)] [.own d, .fn 53 []] (fun r σ' => r = .tup [] ∧ σ' = [(d, .slice T 2 (ml eGRouter ys) 0 false)]) :=
  sortF_own vc52 (by decide) (fun _ => rfl) (fun _ => rfl) (lexK_trans _) said53 (fun p cap fv w => AnyF.slices_SortFunc_none Tryz.sf52 p cap fv w) h
def Tryz.sf55Ren : Shelf.Ren :=
  {   f := fun x =>     match x with | 6 => 55 | 15 => 76 | 14 => 78 | 28 => 110 | 29 => 111 | 20 => 112 | 21 => 113 | 22 => 114 | 23 => 115 | 24 => 116 | 25 => 117 | 26 => 118 | 27 => 119 | 46 => 135 | 47 => 131 | 48 => 132 | 49 => 136 | 50 => 137 | 57 => 143 | n => n,   t := fun x =>     match x with | 22 => 44 | 24 => 84 | 25 => 98 | 3 => 3 | 39 => 113 | 0 => 0 | 53 => 145 | 55 => 128 | 4 => 4 | 46 => 139 | 45 => 138 | 50 => 88 | 5 => 5 | 9 => 9 | 66 => 161 | 70 => 165 | 76 => 172 | 77 => 173 | n => n,   g := fun n => n }
theorem Tryz.sf55 : SlLaysF0.n6 Tryz.prog Tryz.sf55Ren :=
  { mixed := by kernel_rfl, f6 := ⟨ "slices.SortFunc[[]bitcast/api.Link,bitcast/api.Link]", of_decide_eq_true (by kernel_rfl), Tryz.func55.trans (by kernel_rfl)⟩, 
    f14 := ⟨ "slices.pdqsortCmpFunc[bitcast/api.Link]", of_decide_eq_true (by kernel_rfl), Tryz.func78.trans (by kernel_rfl)⟩, f15 := Tryz.func76.trans (by kernel_rfl), 
    f20 := ⟨ "slices.insertionSortCmpFunc[bitcast/api.Link]", of_decide_eq_true (by kernel_rfl), Tryz.func112.trans (by kernel_rfl)⟩, f21 := ⟨ "slices.heapSortCmpFunc[bitcast/api.Link]", 
    of_decide_eq_true (by kernel_rfl), Tryz.func113.trans (by kernel_rfl)⟩, f22 := ⟨ "slices.breakPatternsCmpFunc[bitcast/api.Link]", of_decide_eq_true (by kernel_rfl), Tryz.func114.trans (by kernel_rfl)⟩, 
    f23 := ⟨ "slices.choosePivotCmpFunc[bitcast/api.Link]", of_decide_eq_true (by kernel_rfl), Tryz.func115.trans (by kernel_rfl)⟩, f24 := ⟨ "slices.reverseRangeCmpFunc[bitcast/api.Link]", 
    of_decide_eq_true (by kernel_rfl), Tryz.func116.trans (by kernel_rfl)⟩, f25 := ⟨ "slices.partialInsertionSortCmpFunc[bitcast/api.Link]", of_decide_eq_true (by kernel_rfl), 
    Tryz.func117.trans (by kernel_rfl)⟩, f26 := ⟨ "slices.partitionEqualCmpFunc[bitcast/api.Link]", of_decide_eq_true (by kernel_rfl), Tryz.func118.trans (by kernel_rfl)⟩, 
    f27 := ⟨ "slices.partitionCmpFunc[bitcast/api.Link]", of_decide_eq_true (by kernel_rfl), Tryz.func119.trans (by kernel_rfl)⟩, f28 := Tryz.func110.trans (by kernel_rfl), 
    f29 := Tryz.func111.trans (by kernel_rfl), f46 := ⟨ "slices.siftDownCmpFunc[bitcast/api.Link]", of_decide_eq_true (by kernel_rfl), Tryz.func135.trans (by kernel_rfl)⟩, 
    f47 := Tryz.func131.trans (by kernel_rfl), f48 := Tryz.func132.trans (by kernel_rfl), f49 := ⟨ "slices.medianAdjacentCmpFunc[bitcast/api.Link]", of_decide_eq_true (by kernel_rfl), 
    Tryz.func136.trans (by kernel_rfl)⟩, f50 := ⟨ "slices.medianCmpFunc[bitcast/api.Link]", of_decide_eq_true (by kernel_rfl), Tryz.func137.trans (by kernel_rfl)⟩, 
    f57 := ⟨ "slices.order2CmpFunc[bitcast/api.Link]", of_decide_eq_true (by kernel_rfl), Tryz.func143.trans (by kernel_rfl)⟩, t0 := Tryz.underlying0, a0 := Tryz.isAgg0, z0 := Tryz.sizeOf0, 
    v0 := Tryz.zeroValue0, t3 := Tryz.underlying3, a3 := Tryz.isAgg3, z3 := Tryz.sizeOf3, v3 := Tryz.zeroValue3, t4 := Tryz.underlying4, a4 := Tryz.isAgg4, z4 := Tryz.sizeOf4, v4 := Tryz.zeroValue4, 
    t5 := Tryz.underlying5, a5 := Tryz.isAgg5, z5 := Tryz.sizeOf5, v5 := Tryz.zeroValue5, t9 := Tryz.underlying9, a9 := Tryz.isAgg9, z9 := Tryz.sizeOf9, v9 := Tryz.zeroValue9, t22 := Tryz.underlying44, 
    a22 := Tryz.isAgg44, z22 := Tryz.sizeOf44, v22 := Tryz.zeroValue44, t25 := Tryz.underlying98, a25 := Tryz.isAgg98, z25 := Tryz.sizeOf98, v25 := Tryz.zeroValue98, t39 := Tryz.underlying113, a39 := Tryz.isAgg113, 
    z39 := Tryz.sizeOf113, v39 := Tryz.zeroValue113, t45 := Tryz.underlying138, a45 := Tryz.isAgg138, z45 := Tryz.sizeOf138, v45 := Tryz.zeroValue138, t46 := Tryz.underlying139, a46 := Tryz.isAgg139, 
    z46 := Tryz.sizeOf139, v46 := Tryz.zeroValue139, t50 := Tryz.underlying88, a50 := Tryz.isAgg88, z50 := Tryz.sizeOf88, v50 := Tryz.zeroValue88, t53 := Tryz.underlying145, a53 := Tryz.isAgg145, 
    z53 := Tryz.sizeOf145, v53 := Tryz.zeroValue145, t55 := Tryz.underlying128, a55 := Tryz.isAgg128, z55 := Tryz.sizeOf128, v55 := Tryz.zeroValue128, t66 := Tryz.underlying161, a66 := Tryz.isAgg161, 
    z66 := Tryz.sizeOf161, v66 := Tryz.zeroValue161, t70 := Tryz.underlying165, a70 := Tryz.isAgg165, z70 := Tryz.sizeOf165, v70 := Tryz.zeroValue165, t76 := Tryz.underlying172, a76 := Tryz.isAgg172, 
    z76 := Tryz.sizeOf172, v76 := Tryz.zeroValue172, t77 := Tryz.underlying173, a77 := Tryz.isAgg173, z77 := Tryz.sizeOf173, v77 := Tryz.zeroValue173 }
def vals84 (x : GLink) : List Value := [.int .i64 x.A, .int .i64 x.B, .int .i64 x.CostA, .int .i64 x.CostB, .int .i64 x.Capacity]
theorem vc84 (I : Imm) (x : GLink) (vs : List Value) : RepCs I (eGLink.enc x) vs ↔ vs = vals84 x := by
  show RepCs I [.int .i64 x.A, .int .i64 x.B, .int .i64 x.CostA, .int .i64 x.CostB, .int .i64 x.Capacity] vs ↔ vs = _
  simp only [RepCs, RepC]
  constructor
  · rintro ⟨_, _, rfl, rfl, ⟨_, _, rfl, rfl, ⟨_, _, rfl, rfl, ⟨_, _, rfl, rfl, ⟨_, _, rfl, rfl, rfl⟩⟩⟩⟩⟩
    rfl
  · rintro rfl
    exact ⟨_, _, rfl, rfl, ⟨_, _, rfl, rfl, ⟨_, _, rfl, rfl, ⟨_, _, rfl, rfl, ⟨_, _, rfl, rfl, rfl⟩⟩⟩⟩⟩
theorem vl84 (I : Imm) (β : Nat → Value) (x : GLink) : RepL I β (eGLink.enc x) (vals84 x) := by
  show RepL I β [.int .i64 x.A, .int .i64 x.B, .int .i64 x.CostA, .int .i64 x.CostB, .int .i64 x.Capacity] _
  simp only [RepL, Rep, RepC]
  exact ⟨_, _, rfl, rfl, ⟨_, _, rfl, rfl, ⟨_, _, rfl, rfl, ⟨_, _, rfl, rfl, ⟨_, _, rfl, rfl, rfl⟩⟩⟩⟩⟩
theorem v184 (x : GLink) : ∀ v ∈ vals84 x, v.oneCell' = true := by
  intro v hv
  simp only [vals84, List.mem_cons, List.not_mem_nil, or_false] at hv
  rcases hv with rfl | rfl | rfl | rfl | rfl <;> rfl
theorem cf56 (a b : GLink) : m_database_View_2 a b = some (lexK [fun x : GLink => x.A, fun x : GLink => x.B] a b) := by
  unfold m_database_View_2 m_cmp_Or_int
  simp only [cmpI_ok, cmpI_, lexK]
  rcases Int.lt_trichotomy a.A b.A with h0 | h0 | h0 <;> rcases Int.lt_trichotomy a.B b.B with h1 | h1 | h1 <;> simp [bnd, forI, h0, h1] <;> (repeat (first | rw [if_neg (by omega)] | rw [if_pos (by omega)])) <;> simp
theorem said56 : SaidF Tryz.prog 55 56 vals84 5 (lexK [fun x : GLink => x.A, fun x : GLink => x.B]) := fun blk off cap d w hH hb hs =>
  AnyQ.slices_SortFunc Tryz.sf55 5 Tryz.isAgg84 Tryz.sizeOf84 vals84 (fun _ => rfl) v184 _ (lexK_swo _) 56 #[] blk off cap d w (enters_of Tryz.func56 (by kernel_rfl) rfl)
    (cmpLays_of vl84 (fun x y => m_database_View_2_ok (cf56 x y)) blk off d.size w) hH hb hs
theorem sort_56 {d T : Nat} {zs ys : List GLink} (h : sortM (lexK [fun x : GLink => x.A, fun x : GLink => x.B]) zs = some ys) : SCalls Tryz.prog 55 [(d, .slice T 5 (ml eGLink zs) 0 false)] [.own d, .fn 56 []] (fun r σ' => r = .tup [] ∧ σ' = [(d, .slice T 5 (ml eGLink ys) 0 false)]) :=
  sortF_own vc84 (by decide) (fun _ => rfl) (fun _ => rfl) (lexK_trans _) said56 (fun p cap fv w => AnyF.slices_SortFunc_none Tryz.sf55 p cap fv w) h
end Go.Proofs.YtmcjffllahcclaaGreat
