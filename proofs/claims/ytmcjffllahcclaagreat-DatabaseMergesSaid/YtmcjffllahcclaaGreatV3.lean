/- The walks of functions of the program. No condition but those that stand in each. -/
import Derived.Test.YtmcjffllahcclaaGreatDA
import Derived.Test.YtmcjffllahcclaaGreatV1
namespace Go.Proofs.YtmcjffllahcclaaGreat
open Go
set_option maxRecDepth 100000
set_option linter.all false
theorem m_mk_Tape_Pick_ok {t : GTape} {l : List Int} {r : Int × GTape} (hm : m_mk_Tape_Pick t l = some r) : SCalls Tryz.prog 31 [(900000071, .cells 71 [.lst false (ml eInt t.L), .int .i64 t.At])] [.ptr 900000071 0, .lst false (ml eInt l)] (fun a σ' => a = .int .i64 r.1 ∧ σ' = [(900000071, .cells 71 [.lst false (ml eInt r.2.L), .int .i64 r.2.At])]) := by
  refine enterA Tryz.func31 rfl rfl ?_
  unfold m_mk_Tape_Pick at hm
  refine A.RS W0 [] [] [(0, .ptr 900000071 0), (1, .lst false (ml eInt l))] [(900000071, .cells 71 [.lst false (ml eInt t.L), .int .i64 t.At])] (by kernel_rfl) ?_
  obtain ⟨vx_1, h1, hm⟩ := bnd_some hm
  obtain ⟨e_1, h2, hm⟩ := bnd_some hm
  refine A.RS W0 [] [(3, hto (lnE eInt l)), (4, hdc [] (m_mk_Tape_Next_ok h1) ck12), (5, hix (ix eInt h2))] [(4, .int .i64 e_1)] [(900000071, .cells 71 [.lst false (ml eInt vx_1.2.L), .int .i64 vx_1.2.At])] (by kernel_rfl) ?_
  refine A.ret ?_
  obtain rfl := some_inj hm
  exact A.fin W0 [] rfl (by kernel_rfl)
theorem m_mk_Tape_One_ok {t : GTape} {n : Int} {r : Bool × GTape} (hm : m_mk_Tape_One t n = some r) : SCalls Tryz.prog 11 [(900000071, .cells 71 [.lst false (ml eInt t.L), .int .i64 t.At])] [.ptr 900000071 0, .int .i64 n] (fun a σ' => a = .bool r.1 ∧ σ' = [(900000071, .cells 71 [.lst false (ml eInt r.2.L), .int .i64 r.2.At])]) := by
  refine enterA Tryz.func11 rfl rfl ?_
  unfold m_mk_Tape_One at hm
  refine A.RS W0 [] [] [(0, .ptr 900000071 0), (1, .int .i64 n)] [(900000071, .cells 71 [.lst false (ml eInt t.L), .int .i64 t.At])] (by kernel_rfl) ?_
  obtain ⟨vx_1, h1, hm⟩ := bnd_some hm
  refine A.RS W0 [] [(2, hdc [] (m_mk_Tape_Next_ok h1) ck12)] [(4, .bool (decide (vx_1.1 = w64 (n - (1:Int)))))] [(900000071, .cells 71 [.lst false (ml eInt vx_1.2.L), .int .i64 vx_1.2.At])] (by kernel_rfl) ?_
  refine A.ret ?_
  obtain rfl := some_inj hm
  exact A.fin W0 [] rfl (by kernel_rfl)
theorem m_mk_Tape_Wild_ok {t : GTape} {r : Int × GTape} (hm : m_mk_Tape_Wild t = some r) : SCalls Tryz.prog 33 [(900000071, .cells 71 [.lst false (ml eInt t.L), .int .i64 t.At])] [.ptr 900000071 0] (fun a σ' => a = .int .i64 r.1 ∧ σ' = [(900000071, .cells 71 [.lst false (ml eInt r.2.L), .int .i64 r.2.At])]) := by
  refine enterA Tryz.func33 rfl rfl ?_
  unfold m_mk_Tape_Wild at hm
  refine A.RS W0 [] [] [(0, .ptr 900000071 0)] [(900000071, .cells 71 [.lst false (ml eInt t.L), .int .i64 t.At])] (by kernel_rfl) ?_
  obtain ⟨vx_1, h1, hm⟩ := bnd_some hm
  refine A.RS W0 [] [(2, hdc [] (m_mk_Tape_Pick_ok h1) ck31)] [(2, .int .i64 vx_1.1)] [(900000071, .cells 71 [.lst false (ml eInt vx_1.2.L), .int .i64 vx_1.2.At])] (by kernel_rfl) ?_
  refine A.ret ?_
  obtain rfl := some_inj hm
  exact A.fin W0 [] rfl (by kernel_rfl)
theorem m_mk_Tape_Length_ok {t : GTape} {r : Int × GTape} (hm : m_mk_Tape_Length t = some r) : SCalls Tryz.prog 32 [(900000071, .cells 71 [.lst false (ml eInt t.L), .int .i64 t.At])] [.ptr 900000071 0] (fun a σ' => a = .int .i64 r.1 ∧ σ' = [(900000071, .cells 71 [.lst false (ml eInt r.2.L), .int .i64 r.2.At])]) := by
  refine enterA Tryz.func32 rfl rfl ?_
  unfold m_mk_Tape_Length at hm
  refine A.RS W0 [] [] [(0, .ptr 900000071 0)] [(900000071, .cells 71 [.lst false (ml eInt t.L), .int .i64 t.At])] (by kernel_rfl) ?_
  obtain ⟨vx_1, h1, hm⟩ := bnd_some hm
  refine A.RS W0 [] [(2, hdc [] (m_mk_Tape_Pick_ok h1) ck31)] [(2, .int .i64 vx_1.1)] [(900000071, .cells 71 [.lst false (ml eInt vx_1.2.L), .int .i64 vx_1.2.At])] (by kernel_rfl) ?_
  refine A.ret ?_
  obtain rfl := some_inj hm
  exact A.fin W0 [] rfl (by kernel_rfl)
theorem m_mk_New_ok {l : List Int} {r : GTape} (hm : m_mk_New l = some r) : SCalls Tryz.prog 7 [] [.lst false (ml eInt l)] (fun a σ' => a = .ptr 900000071 0 ∧ σ' = [(900000071, .cells 71 [.lst false (ml eInt r.L), .int .i64 r.At])]) := by
  refine enterA Tryz.func7 rfl rfl ?_
  unfold m_mk_New at hm
  refine A.RS W0 [] [] [(0, .lst false (ml eInt l))] [] (by kernel_rfl) ?_
  obtain ⟨J1, hJ1, hm⟩ := jn_some hm
  refine A.J (J := J1) (r := r) (fun l_1 => [(0, .lst false (ml eInt l_1))]) (fun l_1 => []) ?_ ?_
  · skip
    refine A.RS W0 [] [(1, hto (lnE eInt l))] [(0, .lst false (ml eInt l)), (5, .bool (decide ((600:Int) < (l.length:Int))))] [] (by kernel_rfl) ?_
    rcases cs_some hm with ⟨c1, hm⟩ | ⟨c1, hm⟩
    · skip
      refine A.cT rfl c1 ?_
      obtain ⟨l_2, h1, hm⟩ := bnd_some hm
      refine A.R W0 [] [(1, hsl (sl eInt h1))] [(0, .lst false (ml eInt l_2))] [] (by kernel_rfl) ?_
      exact Exists.intro l_2 (And.intro hm (Weak.go [] [0] (by kernel_rfl)))
    refine A.cF rfl c1 ?_
    refine A.skip ?_
    exact Exists.intro l (And.intro hm (Weak.go [] [0] (by kernel_rfl)))
  rintro l_1 hm
  rw [hJ1] at hm
  refine A.RS W0 [] [(2, .al 7010)] [(2, .ptr 7010 0)] [(7010, .cells 71 [.lst false (ml eInt l_1), .int .i64 (0:Int)])] (by kernel_rfl) ?_
  refine A.ret ?_
  obtain rfl := some_inj hm
  exact A.fin W0 [.sw 7010 900000071] rfl (by kernel_rfl)
end Go.Proofs.YtmcjffllahcclaaGreat
