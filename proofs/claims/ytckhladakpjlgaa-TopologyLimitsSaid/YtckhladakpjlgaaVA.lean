/- The walks of functions of the program. No condition but those that stand in each. -/
import Derived.Test.YtckhladakpjlgaaDA
import Derived.Test.YtckhladakpjlgaaV4
import Derived.Test.YtckhladakpjlgaaV5
import Derived.Test.YtckhladakpjlgaaIN
namespace Go.Proofs.Ytckhladakpjlgaa
open Go
set_option maxRecDepth 100000
set_option linter.all false
theorem m_slices_Clone_Lapi_Router_api_Router_l_ok {sa0 : List GRouter} (hne_sa0 : ml eGRouter sa0 ≠ []) {r : (List GRouter)} (hm : m_slices_Clone_Lapi_Router_api_Router_l sa0 = some r) : SCalls Try.prog 24 [] [.lst false (ml eGRouter sa0)] (fun a σ' => a = .own 500002400 ∧ σ' = [(500002400, .slice 42 2 (ml eGRouter r) 0 false)]) := by
  refine enterA Try.func24 rfl rfl ?_
  unfold m_slices_Clone_Lapi_Router_api_Router_l at hm
  refine A.RS W0 [] [] [(0, .lst false (ml eGRouter sa0))] [] (by kernel_rfl) ?_
  refine A.seq ?_
  refine A.RS W0 [] [(1, .sn false (.lst false (ml eGRouter sa0)) (nnil_lst hne_sa0))] [(0, .lst false (ml eGRouter sa0)), (4, .bool false)] [] (by kernel_rfl) ?_
  refine A.cF rfl rfl ?_
  refine A.skip ?_
  show acode _ _ _ _ _
  obtain ⟨l_1, h1, hm⟩ := bnd_some hm
  refine A.RS W0 [] [(0, .al 24005), (2, hap 24507 (ap eGRouter (bytes := 16) (by decide) h1))] [(2, .own 24507)] [(24507, .slice 42 2 (ml eGRouter l_1) 0 false)] (by kernel_rfl) ?_
  refine A.ret ?_
  obtain rfl := some_inj hm
  exact A.fin W0 [.sw 24507 500002400] rfl (by kernel_rfl)
theorem m_slices_Clone_Lapi_Router_api_Router_0_ok  {r : (List GRouter)} (hm : m_slices_Clone_Lapi_Router_api_Router_0 = some r) : SCalls Try.prog 24 [] [.sl0] (fun a σ' => a = .own 500002400 ∧ σ' = [(500002400, .slice 42 2 (ml eGRouter r) 0 false)]) := by
  refine enterA Try.func24 rfl rfl ?_
  unfold m_slices_Clone_Lapi_Router_api_Router_0 at hm
  refine A.RS W0 [] [] [(0, .sl0)] [] (by kernel_rfl) ?_
  refine A.seq ?_
  refine A.RS W0 [] [(1, .sn false .sl0 (nnil_sl0))] [(0, .sl0), (4, .bool false)] [] (by kernel_rfl) ?_
  refine A.cF rfl rfl ?_
  refine A.skip ?_
  show acode _ _ _ _ _
  obtain ⟨l_1, h1, hm⟩ := bnd_some hm
  refine A.RS W0 [] [(0, .al 24005), (2, hap 24507 (ap eGRouter (bytes := 16) (by decide) h1))] [(2, .own 24507)] [(24507, .slice 42 2 (ml eGRouter l_1) 0 false)] (by kernel_rfl) ?_
  refine A.ret ?_
  obtain rfl := some_inj hm
  exact A.fin W0 [.sw 24507 500002400] rfl (by kernel_rfl)
theorem m_slices_Clone_Lapi_Router_api_Router_n (n c : Nat) (w : World) : Calls Try.prog 24 #[.slice none n c] w fun e w' => e = .returned (.slice none 0 0) ∧ w' = w := by
  have q : ∀ (w : World) (a : Option Addr) (n c n' c' : Nat), (binOp .eql 27 (.slice a n c) (.slice none n' c')).run Try.prog w = .ok (.bool a.isNone) w := fun w a n c n' c' => Lib.run_eql_slice_nil w _ _ a n c n' c' Try.underlying27
  go_enter Try.func24, Try.ntmps24
  go_wp2
  go_ret
  exact ⟨rfl, rfl⟩
theorem m_slices_Clone_Lapi_Router_api_Router_ok {s r : List GRouter} (hm : m_slices_Clone_Lapi_Router_api_Router s = some r) : SCalls Try.prog 24 [] [.lst false (ml eGRouter s)] (fun a σ' => a = .own 500002400 ∧ σ' = [(500002400, .slice 42 2 (ml eGRouter r) 0 false)]) := by
  obtain rfl : s = r := by
    unfold m_slices_Clone_Lapi_Router_api_Router m_slices_Clone_Lapi_Router_api_Router_l at hm
    obtain ⟨l, h, hm⟩ := bnd_some hm
    have := (appO_eq h).symm
    simp at this; subst this
    exact some_inj hm
  refine clone_own m_slices_Clone_Lapi_Router_api_Router_n (fun h => m_slices_Clone_Lapi_Router_api_Router_l_ok h hm) (fun h => ?_) (fun h => h)
  have h0 : s = [] := by cases s with | nil => rfl | cons a b => simp [ml] at h
  subst h0
  exact m_slices_Clone_Lapi_Router_api_Router_0_ok hm
theorem m_slices_Clone_Lapi_Link_api_Link_l_ok {sa0 : List GLink} (hne_sa0 : ml eGLink sa0 ≠ []) {r : (List GLink)} (hm : m_slices_Clone_Lapi_Link_api_Link_l sa0 = some r) : SCalls Try.prog 25 [] [.lst false (ml eGLink sa0)] (fun a σ' => a = .own 500002500 ∧ σ' = [(500002500, .slice 44 5 (ml eGLink r) 0 false)]) := by
  refine enterA Try.func25 rfl rfl ?_
  unfold m_slices_Clone_Lapi_Link_api_Link_l at hm
  refine A.RS W0 [] [] [(0, .lst false (ml eGLink sa0))] [] (by kernel_rfl) ?_
  refine A.seq ?_
  refine A.RS W0 [] [(1, .sn false (.lst false (ml eGLink sa0)) (nnil_lst hne_sa0))] [(0, .lst false (ml eGLink sa0)), (4, .bool false)] [] (by kernel_rfl) ?_
  refine A.cF rfl rfl ?_
  refine A.skip ?_
  show acode _ _ _ _ _
  obtain ⟨l_1, h1, hm⟩ := bnd_some hm
  refine A.RS W0 [] [(0, .al 25005), (2, hap 25507 (ap eGLink (bytes := 40) (by decide) h1))] [(2, .own 25507)] [(25507, .slice 44 5 (ml eGLink l_1) 0 false)] (by kernel_rfl) ?_
  refine A.ret ?_
  obtain rfl := some_inj hm
  exact A.fin W0 [.sw 25507 500002500] rfl (by kernel_rfl)
theorem m_slices_Clone_Lapi_Link_api_Link_0_ok  {r : (List GLink)} (hm : m_slices_Clone_Lapi_Link_api_Link_0 = some r) : SCalls Try.prog 25 [] [.sl0] (fun a σ' => a = .own 500002500 ∧ σ' = [(500002500, .slice 44 5 (ml eGLink r) 0 false)]) := by
  refine enterA Try.func25 rfl rfl ?_
  unfold m_slices_Clone_Lapi_Link_api_Link_0 at hm
  refine A.RS W0 [] [] [(0, .sl0)] [] (by kernel_rfl) ?_
  refine A.seq ?_
  refine A.RS W0 [] [(1, .sn false .sl0 (nnil_sl0))] [(0, .sl0), (4, .bool false)] [] (by kernel_rfl) ?_
  refine A.cF rfl rfl ?_
  refine A.skip ?_
  show acode _ _ _ _ _
  obtain ⟨l_1, h1, hm⟩ := bnd_some hm
  refine A.RS W0 [] [(0, .al 25005), (2, hap 25507 (ap eGLink (bytes := 40) (by decide) h1))] [(2, .own 25507)] [(25507, .slice 44 5 (ml eGLink l_1) 0 false)] (by kernel_rfl) ?_
  refine A.ret ?_
  obtain rfl := some_inj hm
  exact A.fin W0 [.sw 25507 500002500] rfl (by kernel_rfl)
theorem m_slices_Clone_Lapi_Link_api_Link_n (n c : Nat) (w : World) : Calls Try.prog 25 #[.slice none n c] w fun e w' => e = .returned (.slice none 0 0) ∧ w' = w := by
  have q : ∀ (w : World) (a : Option Addr) (n c n' c' : Nat), (binOp .eql 28 (.slice a n c) (.slice none n' c')).run Try.prog w = .ok (.bool a.isNone) w := fun w a n c n' c' => Lib.run_eql_slice_nil w _ _ a n c n' c' Try.underlying28
  go_enter Try.func25, Try.ntmps25
  go_wp2
  go_ret
  exact ⟨rfl, rfl⟩
theorem m_slices_Clone_Lapi_Link_api_Link_ok {s r : List GLink} (hm : m_slices_Clone_Lapi_Link_api_Link s = some r) : SCalls Try.prog 25 [] [.lst false (ml eGLink s)] (fun a σ' => a = .own 500002500 ∧ σ' = [(500002500, .slice 44 5 (ml eGLink r) 0 false)]) := by
  obtain rfl : s = r := by
    unfold m_slices_Clone_Lapi_Link_api_Link m_slices_Clone_Lapi_Link_api_Link_l at hm
    obtain ⟨l, h, hm⟩ := bnd_some hm
    have := (appO_eq h).symm
    simp at this; subst this
    exact some_inj hm
  refine clone_own m_slices_Clone_Lapi_Link_api_Link_n (fun h => m_slices_Clone_Lapi_Link_api_Link_l_ok h hm) (fun h => ?_) (fun h => h)
  have h0 : s = [] := by cases s with | nil => rfl | cons a b => simp [ml] at h
  subst h0
  exact m_slices_Clone_Lapi_Link_api_Link_0_ok hm
theorem m_topology_Apply_ok {t : GTopology} {c : GChange} {r : GTopology × Int} (hm : m_topology_Apply t c = some r) : RO Try.prog 8 [] [.agg [.lst false (ml eGRouter t.Routers), .lst false (ml eGLink t.Links)], .agg [.int .i64 c.A, .int .i64 c.B, .int .i64 c.CostA, .int .i64 c.CostB]] (.tup [.agg [.lst false (ml eGRouter r.1.Routers), .lst false (ml eGLink r.1.Links)], .int .i64 r.2]) := by
  refine enterA Try.func8 rfl rfl ?_
  unfold m_topology_Apply at hm
  refine A.RS W0 [] [(0, .al 8002), (1, .al 8003), (2, .al 8004)] [(2, .ptr 8002 0), (3, .ptr 8003 0), (4, .ptr 8004 0)] [(8002, .cells 30 [.lst false (ml eGRouter t.Routers), .lst false (ml eGLink t.Links)]), (8003, .cells 24 [.int .i64 c.A, .int .i64 c.B, .int .i64 c.CostA, .int .i64 c.CostB]), (8004, .cells 30 [.nils, .nils])] (by kernel_rfl) ?_
  refine A.seq ?_
  obtain ⟨vx_1, h1, hm⟩ := bnd_some hm
  refine A.RS W0 [] [(1, hro (m_topology_valid_ok h1) ck19)] [(2, .ptr 8002 0), (3, .ptr 8003 0), (4, .ptr 8004 0), (13, .bool (!vx_1))] [(8002, .cells 30 [.lst false (ml eGRouter t.Routers), .lst false (ml eGLink t.Links)]), (8003, .cells 24 [.int .i64 c.A, .int .i64 c.B, .int .i64 c.CostA, .int .i64 c.CostB]), (8004, .cells 30 [.nils, .nils])] (by kernel_rfl) ?_
  rcases cs_some hm with ⟨c1, hm⟩ | ⟨c1, hm⟩
  · skip
    refine A.cT rfl c1 ?_
    refine A.RS W0 [] [] [(4, .ptr 8004 0), (5, .int .i64 (1:Int))] [(8004, .cells 30 [.nils, .nils])] (by kernel_rfl) ?_
    refine A.ret ?_
    obtain rfl := some_inj hm
    exact A.fin W0 [] rfl (by kernel_rfl)
  refine A.cF rfl c1 ?_
  refine A.skip ?_
  show acode _ _ _ _ _
  refine A.RS W0 [] [(9, .al 8006)] [(2, .ptr 8002 0), (3, .ptr 8003 0), (4, .ptr 8004 0), (6, .ptr 8006 0)] [(8002, .cells 30 [.lst false (ml eGRouter t.Routers), .lst false (ml eGLink t.Links)]), (8003, .cells 24 [.int .i64 c.A, .int .i64 c.B, .int .i64 c.CostA, .int .i64 c.CostB]), (8004, .cells 30 [.nils, .nils]), (8006, .cells 44 [.int .i64 c.A, .int .i64 c.B, .int .i64 c.CostA, .int .i64 c.CostB, .int .i64 (0:Int)])] (by kernel_rfl) ?_
  obtain ⟨J1, hJ1, hm⟩ := jn_some hm
  refine A.J (J := J1) (r := r) (fun sg => match sg with | (m_1, m_2, m_3, m_4) => [(2, .ptr 8002 0), (3, .ptr 8003 0), (4, .ptr 8004 0), (6, .ptr 8006 0)]) (fun sg => match sg with | (m_1, m_2, m_3, m_4) => [(8002, .cells 30 [.lst false (ml eGRouter t.Routers), .lst false (ml eGLink t.Links)]), (8003, .cells 24 [.int .i64 c.A, .int .i64 c.B, .int .i64 c.CostA, .int .i64 c.CostB]), (8004, .cells 30 [.nils, .nils]), (8006, .cells 44 [.int .i64 m_1, .int .i64 m_2, .int .i64 m_3, .int .i64 m_4, .int .i64 (0:Int)])]) ?_ ?_
  · skip
    refine A.RS W0 [] [] [(2, .ptr 8002 0), (3, .ptr 8003 0), (4, .ptr 8004 0), (6, .ptr 8006 0), (28, .bool (decide (c.B < c.A)))] [(8002, .cells 30 [.lst false (ml eGRouter t.Routers), .lst false (ml eGLink t.Links)]), (8003, .cells 24 [.int .i64 c.A, .int .i64 c.B, .int .i64 c.CostA, .int .i64 c.CostB]), (8004, .cells 30 [.nils, .nils]), (8006, .cells 44 [.int .i64 c.A, .int .i64 c.B, .int .i64 c.CostA, .int .i64 c.CostB, .int .i64 (0:Int)])] (by kernel_rfl) ?_
    rcases cs_some hm with ⟨c2, hm⟩ | ⟨c2, hm⟩
    · skip
      refine A.cT rfl c2 ?_
      refine A.R W0 [] [] [(2, .ptr 8002 0), (3, .ptr 8003 0), (4, .ptr 8004 0), (6, .ptr 8006 0)] [(8002, .cells 30 [.lst false (ml eGRouter t.Routers), .lst false (ml eGLink t.Links)]), (8003, .cells 24 [.int .i64 c.A, .int .i64 c.B, .int .i64 c.CostA, .int .i64 c.CostB]), (8004, .cells 30 [.nils, .nils]), (8006, .cells 44 [.int .i64 c.B, .int .i64 c.A, .int .i64 c.CostB, .int .i64 c.CostA, .int .i64 (0:Int)])] (by kernel_rfl) ?_
      exact Exists.intro (c.B, c.A, c.CostB, c.CostA) (And.intro hm (Weak.go [] [] (by kernel_rfl)))
    refine A.cF rfl c2 ?_
    refine A.skip ?_
    exact Exists.intro (c.A, c.B, c.CostA, c.CostB) (And.intro hm (Weak.go [] [] (by kernel_rfl)))
  rintro ⟨m_1, m_2, m_3, m_4⟩ hm
  rw [hJ1] at hm
  refine A.mid [(2, .ptr 8002 0), (3, .ptr 8003 0), (4, .ptr 8004 0), (6, .ptr 8006 0), (7, .bool ((decide (c.CostA = (0:Int))) && (decide (c.CostB = (0:Int)))))] [(8002, .cells 30 [.lst false (ml eGRouter t.Routers), .lst false (ml eGLink t.Links)]), (8003, .cells 24 [.int .i64 c.A, .int .i64 c.B, .int .i64 c.CostA, .int .i64 c.CostB]), (8004, .cells 30 [.nils, .nils]), (8006, .cells 44 [.int .i64 m_1, .int .i64 m_2, .int .i64 m_3, .int .i64 m_4, .int .i64 (0:Int)])] (fun hk => ?_) ?_
  · skip
    rcases tf (decide (c.CostA = (0:Int))) with c3 | c3
    · skip
      exact A.RS W0 [] [(3, hto (bE c3)), (8, hto (andT (q := decide (c.CostB = (0:Int))) c3))] _ _ (by kernel_rfl) hk
    exact A.RS W0 [] [(3, hto (bE c3)), (8, hto (andF (q := decide (c.CostB = (0:Int))) c3))] _ _ (by kernel_rfl) hk
  obtain ⟨vx_2, h2, hm⟩ := bnd_some hm
  refine A.RS W0 [] [(3, hro (m_slices_BinarySearchFunc_Lapi_Link_api_Link_api_Link_ok (cmp_g := 21) (cmp_c := []) (cmp_k := ck21) (cmp_f := fun _ _ _ h => m_topology_compare_ok h) h2) ck20)] [(2, .ptr 8002 0), (3, .ptr 8003 0), (4, .ptr 8004 0), (6, .ptr 8006 0), (7, .bool ((decide (c.CostA = (0:Int))) && (decide (c.CostB = (0:Int))))), (8, .int .i64 vx_2.1), (9, .bool vx_2.2)] [(8002, .cells 30 [.lst false (ml eGRouter t.Routers), .lst false (ml eGLink t.Links)]), (8003, .cells 24 [.int .i64 c.A, .int .i64 c.B, .int .i64 c.CostA, .int .i64 c.CostB]), (8004, .cells 30 [.nils, .nils]), (8006, .cells 44 [.int .i64 m_1, .int .i64 m_2, .int .i64 m_3, .int .i64 m_4, .int .i64 (0:Int)])] (by kernel_rfl) ?_
  refine A.seq ?_
  refine A.block ?_
  obtain ⟨J2, hJ2, hm⟩ := jn_some hm
  refine A.J (J := J2) (r := r) (fun v_1 => [(2, .ptr 8002 0), (3, .ptr 8003 0), (4, .ptr 8004 0), (6, .ptr 8006 0), (7, .bool ((decide (c.CostA = (0:Int))) && (decide (c.CostB = (0:Int))))), (8, .int .i64 vx_2.1), (9, .bool vx_2.2), (53, .bool v_1)]) (fun v_1 => [(8002, .cells 30 [.lst false (ml eGRouter t.Routers), .lst false (ml eGLink t.Links)]), (8003, .cells 24 [.int .i64 c.A, .int .i64 c.B, .int .i64 c.CostA, .int .i64 c.CostB]), (8004, .cells 30 [.nils, .nils]), (8006, .cells 44 [.int .i64 m_1, .int .i64 m_2, .int .i64 m_3, .int .i64 m_4, .int .i64 (0:Int)])]) ?_ ?_
  · skip
    obtain ⟨vx_3, h3, hm⟩ := bnd_some hm
    rcases cs_some hm with ⟨c4, hm⟩ | ⟨c4, hm⟩
    · skip
      refine A.R W0 [] [(3, hro (m_topology_Has_ok h3) ck22), (5, hto (bE c4))] [(2, .ptr 8002 0), (3, .ptr 8003 0), (4, .ptr 8004 0), (6, .ptr 8006 0), (7, .bool ((decide (c.CostA = (0:Int))) && (decide (c.CostB = (0:Int))))), (8, .int .i64 vx_2.1), (9, .bool vx_2.2), (53, .bool true)] [(8002, .cells 30 [.lst false (ml eGRouter t.Routers), .lst false (ml eGLink t.Links)]), (8003, .cells 24 [.int .i64 c.A, .int .i64 c.B, .int .i64 c.CostA, .int .i64 c.CostB]), (8004, .cells 30 [.nils, .nils]), (8006, .cells 44 [.int .i64 m_1, .int .i64 m_2, .int .i64 m_3, .int .i64 m_4, .int .i64 (0:Int)])] (by kernel_rfl) ?_
      exact Exists.intro true (And.intro hm (Weak.go [] [] (by kernel_rfl)))
    obtain ⟨vx_4, h4, hm⟩ := bnd_some hm
    refine A.R W0 [] [(3, hro (m_topology_Has_ok h3) ck22), (5, hto (bE c4)), (9, hro (m_topology_Has_ok h4) ck22)] [(2, .ptr 8002 0), (3, .ptr 8003 0), (4, .ptr 8004 0), (6, .ptr 8006 0), (7, .bool ((decide (c.CostA = (0:Int))) && (decide (c.CostB = (0:Int))))), (8, .int .i64 vx_2.1), (9, .bool vx_2.2), (53, .bool (!vx_4))] [(8002, .cells 30 [.lst false (ml eGRouter t.Routers), .lst false (ml eGLink t.Links)]), (8003, .cells 24 [.int .i64 c.A, .int .i64 c.B, .int .i64 c.CostA, .int .i64 c.CostB]), (8004, .cells 30 [.nils, .nils]), (8006, .cells 44 [.int .i64 m_1, .int .i64 m_2, .int .i64 m_3, .int .i64 m_4, .int .i64 (0:Int)])] (by kernel_rfl) ?_
    exact Exists.intro (!vx_4) (And.intro hm (Weak.go [] [] (by kernel_rfl)))
  rintro v_1 hm
  rw [hJ2] at hm
  rcases cs_some hm with ⟨c5, hm⟩ | ⟨c5, hm⟩
  · skip
    refine A.cT rfl c5 ?_
    refine A.RS W0 [] [] [(4, .ptr 8004 0), (5, .int .i64 (4:Int))] [(8004, .cells 30 [.nils, .nils])] (by kernel_rfl) ?_
    refine A.ret ?_
    obtain rfl := some_inj hm
    exact A.fin W0 [] rfl (by kernel_rfl)
  refine A.cF rfl c5 ?_
  refine A.RS W0 [] [] [(2, .ptr 8002 0), (3, .ptr 8003 0), (4, .ptr 8004 0), (6, .ptr 8006 0), (7, .bool ((decide (c.CostA = (0:Int))) && (decide (c.CostB = (0:Int))))), (8, .int .i64 vx_2.1), (9, .bool vx_2.2), (67, .bool (decide (c.A = c.B)))] [(8002, .cells 30 [.lst false (ml eGRouter t.Routers), .lst false (ml eGLink t.Links)]), (8003, .cells 24 [.int .i64 c.A, .int .i64 c.B, .int .i64 c.CostA, .int .i64 c.CostB]), (8004, .cells 30 [.nils, .nils]), (8006, .cells 44 [.int .i64 m_1, .int .i64 m_2, .int .i64 m_3, .int .i64 m_4, .int .i64 (0:Int)])] (by kernel_rfl) ?_
  rcases cs_some hm with ⟨c6, hm⟩ | ⟨c6, hm⟩
  · skip
    refine A.cT rfl c6 ?_
    refine A.RS W0 [] [] [(4, .ptr 8004 0), (5, .int .i64 (8:Int))] [(8004, .cells 30 [.nils, .nils])] (by kernel_rfl) ?_
    refine A.ret ?_
    obtain rfl := some_inj hm
    exact A.fin W0 [] rfl (by kernel_rfl)
  refine A.cF rfl c6 ?_
  obtain ⟨J3, hJ3, hm⟩ := jn_some hm
  refine A.J (J := J3) (r := r) (fun v_2 => [(2, .ptr 8002 0), (4, .ptr 8004 0), (6, .ptr 8006 0), (7, .bool ((decide (c.CostA = (0:Int))) && (decide (c.CostB = (0:Int))))), (8, .int .i64 vx_2.1), (9, .bool vx_2.2), (74, .bool v_2)]) (fun v_2 => [(8002, .cells 30 [.lst false (ml eGRouter t.Routers), .lst false (ml eGLink t.Links)]), (8004, .cells 30 [.nils, .nils]), (8006, .cells 44 [.int .i64 m_1, .int .i64 m_2, .int .i64 m_3, .int .i64 m_4, .int .i64 (0:Int)])]) ?_ ?_
  · skip
    rcases cs_some hm with ⟨c7, hm⟩ | ⟨c7, hm⟩
    · skip
      obtain ⟨vx_5, h5, hm⟩ := bnd_some hm
      rcases cs_some hm with ⟨c8, hm⟩ | ⟨c8, hm⟩
      · skip
        refine A.R W0 [] [(2, hto (bE c7)), (5, hro (m_topology_in_ok h5) ck23), (7, hto (bE c8))] [(2, .ptr 8002 0), (4, .ptr 8004 0), (6, .ptr 8006 0), (7, .bool ((decide (c.CostA = (0:Int))) && (decide (c.CostB = (0:Int))))), (8, .int .i64 vx_2.1), (9, .bool vx_2.2), (74, .bool true)] [(8002, .cells 30 [.lst false (ml eGRouter t.Routers), .lst false (ml eGLink t.Links)]), (8004, .cells 30 [.nils, .nils]), (8006, .cells 44 [.int .i64 m_1, .int .i64 m_2, .int .i64 m_3, .int .i64 m_4, .int .i64 (0:Int)])] (by kernel_rfl) ?_
        exact Exists.intro true (And.intro hm (Weak.go [] [] (by kernel_rfl)))
      obtain ⟨vx_6, h6, hm⟩ := bnd_some hm
      refine A.R W0 [] [(2, hto (bE c7)), (5, hro (m_topology_in_ok h5) ck23), (7, hto (bE c8)), (10, hro (m_topology_in_ok h6) ck23)] [(2, .ptr 8002 0), (4, .ptr 8004 0), (6, .ptr 8006 0), (7, .bool ((decide (c.CostA = (0:Int))) && (decide (c.CostB = (0:Int))))), (8, .int .i64 vx_2.1), (9, .bool vx_2.2), (74, .bool (!vx_6))] [(8002, .cells 30 [.lst false (ml eGRouter t.Routers), .lst false (ml eGLink t.Links)]), (8004, .cells 30 [.nils, .nils]), (8006, .cells 44 [.int .i64 m_1, .int .i64 m_2, .int .i64 m_3, .int .i64 m_4, .int .i64 (0:Int)])] (by kernel_rfl) ?_
      exact Exists.intro (!vx_6) (And.intro hm (Weak.go [] [] (by kernel_rfl)))
    refine A.R W0 [] [(2, hto (bE c7))] [(2, .ptr 8002 0), (4, .ptr 8004 0), (6, .ptr 8006 0), (7, .bool ((decide (c.CostA = (0:Int))) && (decide (c.CostB = (0:Int))))), (8, .int .i64 vx_2.1), (9, .bool vx_2.2), (74, .bool false)] [(8002, .cells 30 [.lst false (ml eGRouter t.Routers), .lst false (ml eGLink t.Links)]), (8004, .cells 30 [.nils, .nils]), (8006, .cells 44 [.int .i64 m_1, .int .i64 m_2, .int .i64 m_3, .int .i64 m_4, .int .i64 (0:Int)])] (by kernel_rfl) ?_
    exact Exists.intro false (And.intro hm (Weak.go [] [] (by kernel_rfl)))
  rintro v_2 hm
  rw [hJ3] at hm
  rcases cs_some hm with ⟨c9, hm⟩ | ⟨c9, hm⟩
  · skip
    refine A.cT rfl c9 ?_
    refine A.RS W0 [] [] [(4, .ptr 8004 0), (5, .int .i64 (2:Int))] [(8004, .cells 30 [.nils, .nils])] (by kernel_rfl) ?_
    refine A.ret ?_
    obtain rfl := some_inj hm
    exact A.fin W0 [] rfl (by kernel_rfl)
  refine A.cF rfl c9 ?_
  refine A.mid [(2, .ptr 8002 0), (4, .ptr 8004 0), (6, .ptr 8006 0), (7, .bool ((decide (c.CostA = (0:Int))) && (decide (c.CostB = (0:Int))))), (8, .int .i64 vx_2.1), (9, .bool vx_2.2), (90, .bool (((decide (c.CostA = (0:Int))) && (decide (c.CostB = (0:Int)))) && (!vx_2.2)))] [(8002, .cells 30 [.lst false (ml eGRouter t.Routers), .lst false (ml eGLink t.Links)]), (8004, .cells 30 [.nils, .nils]), (8006, .cells 44 [.int .i64 m_1, .int .i64 m_2, .int .i64 m_3, .int .i64 m_4, .int .i64 (0:Int)])] (fun hk => ?_) ?_
  · skip
    rcases tf ((decide (c.CostA = (0:Int))) && (decide (c.CostB = (0:Int)))) with c10 | c10
    · skip
      exact A.RS W0 [] [(1, hto (bE c10)), (5, hto (andT (q := !vx_2.2) c10))] _ _ (by kernel_rfl) hk
    exact A.RS W0 [] [(1, hto (bE c10)), (5, hto (andF (q := !vx_2.2) c10))] _ _ (by kernel_rfl) hk
  rcases cs_some hm with ⟨c11, hm⟩ | ⟨c11, hm⟩
  · skip
    refine A.cT rfl c11 ?_
    refine A.RS W0 [] [] [(4, .ptr 8004 0), (5, .int .i64 (9:Int))] [(8004, .cells 30 [.nils, .nils])] (by kernel_rfl) ?_
    refine A.ret ?_
    obtain rfl := some_inj hm
    exact A.fin W0 [] rfl (by kernel_rfl)
  refine A.cF rfl c11 ?_
  refine A.mid [(2, .ptr 8002 0), (4, .ptr 8004 0), (6, .ptr 8006 0), (7, .bool ((decide (c.CostA = (0:Int))) && (decide (c.CostB = (0:Int))))), (8, .int .i64 vx_2.1), (9, .bool vx_2.2), (97, .bool ((!vx_2.2) && (decide ((t.Links.length:Int) = (60:Int)))))] [(8002, .cells 30 [.lst false (ml eGRouter t.Routers), .lst false (ml eGLink t.Links)]), (8004, .cells 30 [.nils, .nils]), (8006, .cells 44 [.int .i64 m_1, .int .i64 m_2, .int .i64 m_3, .int .i64 m_4, .int .i64 (0:Int)])] (fun hk => ?_) ?_
  · skip
    rcases tf (!vx_2.2) with c12 | c12
    · skip
      exact A.RS W0 [] [(2, hto (bE c12)), (5, hto (lnE eGLink t.Links)), (8, hto (andT (q := decide ((t.Links.length:Int) = (60:Int))) c12))] _ _ (by kernel_rfl) hk
    exact A.RS W0 [] [(2, hto (bE c12)), (8, hto (andF (q := decide ((t.Links.length:Int) = (60:Int))) c12))] _ _ (by kernel_rfl) hk
  rcases cs_some hm with ⟨c13, hm⟩ | ⟨c13, hm⟩
  · skip
    refine A.cT rfl c13 ?_
    refine A.RS W0 [] [] [(4, .ptr 8004 0), (5, .int .i64 (3:Int))] [(8004, .cells 30 [.nils, .nils])] (by kernel_rfl) ?_
    refine A.ret ?_
    obtain rfl := some_inj hm
    exact A.fin W0 [] rfl (by kernel_rfl)
  refine A.cF rfl c13 ?_
  refine A.skip ?_
  show acode _ _ _ _ _
  obtain ⟨vx_7, h7, hm⟩ := bnd_some hm
  obtain ⟨vx_8, h8, hm⟩ := bnd_some hm
  refine A.RS W0 [] [(2, hdc [500002400] (m_slices_Clone_Lapi_Router_api_Router_ok h7) ck24), (5, hdc [500002500] (m_slices_Clone_Lapi_Link_api_Link_ok h8) ck25), (7, .al 8010)] [(4, .ptr 8004 0), (6, .ptr 8006 0), (7, .bool ((decide (c.CostA = (0:Int))) && (decide (c.CostB = (0:Int))))), (8, .int .i64 vx_2.1), (9, .bool vx_2.2), (10, .ptr 8010 0)] [(8004, .cells 30 [.nils, .nils]), (8006, .cells 44 [.int .i64 m_1, .int .i64 m_2, .int .i64 m_3, .int .i64 m_4, .int .i64 (0:Int)]), (8010, .cells 30 [.own 500002400, .own 500002500]), (500002400, .slice 42 2 (ml eGRouter vx_7) 0 false), (500002500, .slice 44 5 (ml eGLink vx_8) 0 false)] (by kernel_rfl) ?_
  obtain ⟨J4, hJ4, hm⟩ := jn_some hm
  refine A.J (J := J4) (r := r) (fun m_5 => [(4, .ptr 8004 0), (10, .ptr 8010 0)]) (fun m_5 => [(8004, .cells 30 [.nils, .nils]), (8010, .cells 30 [.own 500002400, .own 700801001]), (500002400, .slice 42 2 (ml eGRouter vx_7) 0 false), (700801001, .slice 44 5 (ml eGLink m_5) 0 false)]) ?_ ?_
  · skip
    refine A.block ?_
    refine A.RS W0 [] [] [(4, .ptr 8004 0), (6, .ptr 8006 0), (8, .int .i64 vx_2.1), (9, .bool vx_2.2), (10, .ptr 8010 0), (121, .bool ((decide (c.CostA = (0:Int))) && (decide (c.CostB = (0:Int)))))] [(8004, .cells 30 [.nils, .nils]), (8006, .cells 44 [.int .i64 m_1, .int .i64 m_2, .int .i64 m_3, .int .i64 m_4, .int .i64 (0:Int)]), (8010, .cells 30 [.own 500002400, .own 500002500]), (500002400, .slice 42 2 (ml eGRouter vx_7) 0 false), (500002500, .slice 44 5 (ml eGLink vx_8) 0 false)] (by kernel_rfl) ?_
    rcases cs_some hm with ⟨c14, hm⟩ | ⟨c14, hm⟩
    · skip
      refine A.cT rfl c14 ?_
      obtain ⟨l_1, h9, hm⟩ := bnd_some hm
      refine A.R W0 [] [(5, hdc [520008001] (delown26 (d := 500002500) (D := 520008001) h9 (by decide)) ck26)] [(4, .ptr 8004 0), (10, .ptr 8010 0)] [(8004, .cells 30 [.nils, .nils]), (8010, .cells 30 [.own 500002400, .own 520008001]), (500002400, .slice 42 2 (ml eGRouter vx_7) 0 false), (520008001, .slice 44 5 (ml eGLink l_1) 0 false)] (by kernel_rfl) ?_
      exact Exists.intro l_1 (And.intro hm (Weak.go [.sw 520008001 700801001] [] (by kernel_rfl)))
    refine A.cF rfl c14 ?_
    refine A.RS W0 [] [] [(4, .ptr 8004 0), (6, .ptr 8006 0), (8, .int .i64 vx_2.1), (10, .ptr 8010 0), (130, .bool vx_2.2)] [(8004, .cells 30 [.nils, .nils]), (8006, .cells 44 [.int .i64 m_1, .int .i64 m_2, .int .i64 m_3, .int .i64 m_4, .int .i64 (0:Int)]), (8010, .cells 30 [.own 500002400, .own 500002500]), (500002400, .slice 42 2 (ml eGRouter vx_7) 0 false), (500002500, .slice 44 5 (ml eGLink vx_8) 0 false)] (by kernel_rfl) ?_
    rcases cs_some hm with ⟨c15, hm⟩ | ⟨c15, hm⟩
    · skip
      refine A.cT rfl c15 ?_
      obtain ⟨e_1, h10, hm⟩ := bnd_some hm
      refine A.RS W0 [] [(3, hix (ix eGLink h10)), (5, hlo 500002500 4 (ix eGLink h10))] [(4, .ptr 8004 0), (6, .ptr 8006 0), (8, .int .i64 vx_2.1), (10, .ptr 8010 0)] [(8004, .cells 30 [.nils, .nils]), (8006, .cells 44 [.int .i64 m_1, .int .i64 m_2, .int .i64 m_3, .int .i64 m_4, .int .i64 e_1.Capacity]), (8010, .cells 30 [.own 500002400, .own 500002500]), (500002400, .slice 42 2 (ml eGRouter vx_7) 0 false), (500002500, .slice 44 5 (ml eGLink vx_8) 0 false)] (by kernel_rfl) ?_
      obtain ⟨l_2, h11, hm⟩ := bnd_some hm
      refine A.R W0 [] [(4, hix (ix eGLink h10)), (5, hso 500002500 (st eGLink (off := 0) (ca := [.int .i64 m_1, .int .i64 m_2, .int .i64 m_3, .int .i64 m_4, .int .i64 e_1.Capacity]) h10 h11 rfl) (elO_some h10).1.1)] [(4, .ptr 8004 0), (10, .ptr 8010 0)] [(8004, .cells 30 [.nils, .nils]), (8010, .cells 30 [.own 500002400, .own 500002500]), (500002400, .slice 42 2 (ml eGRouter vx_7) 0 false), (500002500, .slice 44 5 (ml eGLink l_2) 0 false)] (by kernel_rfl) ?_
      exact Exists.intro l_2 (And.intro hm (Weak.go [.sw 500002500 700801001] [] (by kernel_rfl)))
    refine A.cF rfl c15 ?_
    obtain ⟨l_3, h12, hm⟩ := bnd_some hm
    refine A.R W0 [] [(4, .al 8118), (5, hdc [520008002] (insown27 (d := 500002500) (d2 := 8118) (D := 520008002) h12 (by decide) (by decide)) ck27)] [(4, .ptr 8004 0), (10, .ptr 8010 0)] [(8004, .cells 30 [.nils, .nils]), (8010, .cells 30 [.own 500002400, .own 520008002]), (500002400, .slice 42 2 (ml eGRouter vx_7) 0 false), (520008002, .slice 44 5 (ml eGLink l_3) 0 false)] (by kernel_rfl) ?_
    exact Exists.intro l_3 (And.intro hm (Weak.go [.sw 520008002 700801001] [] (by kernel_rfl)))
  rintro m_5 hm
  rw [hJ4] at hm
  refine A.RS W0 [] [] [(4, .ptr 8004 0), (5, .int .i64 (0:Int))] [(8004, .cells 30 [.own 500002400, .own 700801001]), (500002400, .slice 42 2 (ml eGRouter vx_7) 0 false), (700801001, .slice 44 5 (ml eGLink m_5) 0 false)] (by kernel_rfl) ?_
  refine A.ret ?_
  obtain rfl := some_inj hm
  exact A.fin W0 [.fz [500002400, 700801001]] rfl (by kernel_rfl)
end Go.Proofs.Ytckhladakpjlgaa
