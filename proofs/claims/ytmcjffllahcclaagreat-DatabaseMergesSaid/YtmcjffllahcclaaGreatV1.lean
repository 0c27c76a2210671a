/- The walks of functions of the program. No condition but those that stand in each. -/
import Derived.Test.YtmcjffllahcclaaGreatDA
namespace Go.Proofs.YtmcjffllahcclaaGreat
open Go
set_option maxRecDepth 100000
set_option linter.all false
theorem m_mk_Cut_ok {xa0 : Int} {n : Int} {r : Int} (hm : m_mk_Cut xa0 n = some r) : RO Tryz.prog 34 [] [.int .i64 xa0, .int .i64 n] (.int .i64 r) := by
  refine enterA Tryz.func34 rfl rfl ?_
  unfold m_mk_Cut at hm
  refine A.RS W0 [] [] [(0, .int .i64 xa0), (1, .int .i64 n)] [] (by kernel_rfl) ?_
  refine A.seq ?_
  refine A.RS W0 [] [] [(0, .int .i64 xa0), (1, .int .i64 n), (6, .bool (decide (n < (1:Int))))] [] (by kernel_rfl) ?_
  rcases cs_some hm with ⟨c1, hm⟩ | ⟨c1, hm⟩
  · skip
    refine A.cT rfl c1 ?_
    refine A.RS W0 [] [] [(4, .int .i64 (0:Int))] [] (by kernel_rfl) ?_
    refine A.ret ?_
    obtain rfl := some_inj hm
    exact A.fin W0 [] rfl (by kernel_rfl)
  refine A.cF rfl c1 ?_
  refine A.skip ?_
  show acode _ _ _ _ _
  obtain ⟨h1, hm⟩ := chk_some hm
  refine A.RS W0 [] [(2, .qr n (of_decide_eq_true h1))] [(0, .int .i64 (Int.tmod xa0 n)), (1, .int .i64 n)] [] (by kernel_rfl) ?_
  obtain ⟨J1, hJ1, hm⟩ := jn_some hm
  refine A.J (J := J1) (r := r) (fun vx_1 => [(0, .int .i64 vx_1)]) (fun vx_1 => []) ?_ ?_
  · skip
    refine A.RS W0 [] [] [(0, .int .i64 (Int.tmod xa0 n)), (1, .int .i64 n), (11, .bool (decide (Int.tmod xa0 n < (0:Int))))] [] (by kernel_rfl) ?_
    rcases cs_some hm with ⟨c2, hm⟩ | ⟨c2, hm⟩
    · skip
      refine A.cT rfl c2 ?_
      refine A.R W0 [] [] [(0, .int .i64 (w64 ((Int.tmod xa0 n) + n)))] [] (by kernel_rfl) ?_
      exact Exists.intro (w64 ((Int.tmod xa0 n) + n)) (And.intro hm (Weak.go [] [] (by kernel_rfl)))
    refine A.cF rfl c2 ?_
    refine A.skip ?_
    exact Exists.intro (Int.tmod xa0 n) (And.intro hm (Weak.go [] [] (by kernel_rfl)))
  rintro vx_1 hm
  rw [hJ1] at hm
  refine A.RS W0 [] [] [(4, .int .i64 vx_1)] [] (by kernel_rfl) ?_
  refine A.ret ?_
  obtain rfl := some_inj hm
  exact A.fin W0 [] rfl (by kernel_rfl)
theorem m_mk_Tape_Raw_ok {t : GTape} {r : Int × GTape} (hm : m_mk_Tape_Raw t = some r) : SCalls Tryz.prog 35 [(900000071, .cells 71 [.lst false (ml eInt t.L), .int .i64 t.At])] [.ptr 900000071 0] (fun a σ' => a = .int .i64 r.1 ∧ σ' = [(900000071, .cells 71 [.lst false (ml eInt r.2.L), .int .i64 r.2.At])]) := by
  refine enterA Tryz.func35 rfl rfl ?_
  unfold m_mk_Tape_Raw at hm
  refine A.RS W0 [] [] [(0, .ptr 900000071 0)] [(900000071, .cells 71 [.lst false (ml eInt t.L), .int .i64 t.At])] (by kernel_rfl) ?_
  refine A.seq ?_
  refine A.RS W0 [] [(8, hto (lnE eInt t.L))] [(0, .ptr 900000071 0), (12, .bool (decide ((t.L.length:Int) ≤ t.At)))] [(900000071, .cells 71 [.lst false (ml eInt t.L), .int .i64 t.At])] (by kernel_rfl) ?_
  rcases cs_some hm with ⟨c1, hm⟩ | ⟨c1, hm⟩
  · skip
    refine A.cT rfl c1 ?_
    refine A.RS W0 [] [] [(2, .int .i64 (0:Int))] [(900000071, .cells 71 [.lst false (ml eInt t.L), .int .i64 t.At])] (by kernel_rfl) ?_
    refine A.ret ?_
    obtain rfl := some_inj hm
    exact A.fin W0 [] rfl (by kernel_rfl)
  refine A.cF rfl c1 ?_
  refine A.skip ?_
  show acode _ _ _ _ _
  refine A.RS W0 [] [] [(0, .ptr 900000071 0)] [(900000071, .cells 71 [.lst false (ml eInt t.L), .int .i64 (w64 (t.At + (1:Int)))])] (by kernel_rfl) ?_
  obtain ⟨e_1, h1, hm⟩ := bnd_some hm
  refine A.RS W0 [] [(9, hix (ix eInt h1))] [(2, .int .i64 e_1)] [(900000071, .cells 71 [.lst false (ml eInt t.L), .int .i64 (w64 (t.At + (1:Int)))])] (by kernel_rfl) ?_
  refine A.ret ?_
  obtain rfl := some_inj hm
  exact A.fin W0 [] rfl (by kernel_rfl)
theorem m_mk_Tape_Next_ok {t : GTape} {n : Int} {r : Int × GTape} (hm : m_mk_Tape_Next t n = some r) : SCalls Tryz.prog 12 [(900000071, .cells 71 [.lst false (ml eInt t.L), .int .i64 t.At])] [.ptr 900000071 0, .int .i64 n] (fun a σ' => a = .int .i64 r.1 ∧ σ' = [(900000071, .cells 71 [.lst false (ml eInt r.2.L), .int .i64 r.2.At])]) := by
  refine enterA Tryz.func12 rfl rfl ?_
  unfold m_mk_Tape_Next at hm
  refine A.RS W0 [] [] [(0, .ptr 900000071 0), (1, .int .i64 n)] [(900000071, .cells 71 [.lst false (ml eInt t.L), .int .i64 t.At])] (by kernel_rfl) ?_
  obtain ⟨vx_1, h1, hm⟩ := bnd_some hm
  obtain ⟨vx_2, h2, hm⟩ := bnd_some hm
  refine A.RS W0 [] [(1, hdc [] (m_mk_Tape_Raw_ok h1) ck35), (3, hro (m_mk_Cut_ok h2) ck34)] [(4, .int .i64 vx_2)] [(900000071, .cells 71 [.lst false (ml eInt vx_1.2.L), .int .i64 vx_1.2.At])] (by kernel_rfl) ?_
  refine A.ret ?_
  obtain rfl := some_inj hm
  exact A.fin W0 [] rfl (by kernel_rfl)
theorem m_mk_Tape_Range_ok {t : GTape} {low : Int} {high : Int} {r : Int × GTape} (hm : m_mk_Tape_Range t low high = some r) : SCalls Tryz.prog 10 [(900000071, .cells 71 [.lst false (ml eInt t.L), .int .i64 t.At])] [.ptr 900000071 0, .int .i64 low, .int .i64 high] (fun a σ' => a = .int .i64 r.1 ∧ σ' = [(900000071, .cells 71 [.lst false (ml eInt r.2.L), .int .i64 r.2.At])]) := by
  refine enterA Tryz.func10 rfl rfl ?_
  unfold m_mk_Tape_Range at hm
  refine A.RS W0 [] [] [(0, .ptr 900000071 0), (1, .int .i64 low), (2, .int .i64 high)] [(900000071, .cells 71 [.lst false (ml eInt t.L), .int .i64 t.At])] (by kernel_rfl) ?_
  obtain ⟨vx_1, h1, hm⟩ := bnd_some hm
  refine A.RS W0 [] [(6, hdc [] (m_mk_Tape_Next_ok h1) ck12)] [(6, .int .i64 (w64 (low + vx_1.1)))] [(900000071, .cells 71 [.lst false (ml eInt vx_1.2.L), .int .i64 vx_1.2.At])] (by kernel_rfl) ?_
  refine A.ret ?_
  obtain rfl := some_inj hm
  exact A.fin W0 [] rfl (by kernel_rfl)
end Go.Proofs.YtmcjffllahcclaaGreat
