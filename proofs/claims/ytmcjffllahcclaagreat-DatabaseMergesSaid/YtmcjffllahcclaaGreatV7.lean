/- The walks of functions of the program. No condition but those that stand in each. -/
import Derived.Test.YtmcjffllahcclaaGreatDA
namespace Go.Proofs.YtmcjffllahcclaaGreat
open Go
set_option maxRecDepth 100000
set_option linter.all false
theorem m_ref01_ValidLength_ok {n : Int} {r : Bool} (hm : m_ref01_ValidLength n = some r) : RO Tryz.prog 101 [] [.int .i64 n] (.bool r) := by
  refine enterA Tryz.func101 rfl rfl ?_
  unfold m_ref01_ValidLength at hm
  refine A.RS W0 [] [] [(0, .int .i64 n)] [] (by kernel_rfl) ?_
  refine A.mid [(2, .bool ((decide (n = (8:Int))) || ((decide (n = (16:Int))) || ((decide (n = (32:Int))) || (decide (n = (64:Int)))))))] [] (fun hk => ?_) ?_
  · skip
    rcases tf (decide (n = (8:Int))) with c1 | c1
    · skip
      exact A.RS W0 [] [(2, hto (bE c1)), (14, hto (orT (q := ((decide (n = (16:Int))) || ((decide (n = (32:Int))) || (decide (n = (64:Int)))))) c1))] _ _ (by kernel_rfl) hk
    rcases tf (decide (n = (16:Int))) with c2 | c2
    · skip
      exact A.RS W0 [] [(2, hto (bE c1)), (6, hto (bE c2)), (14, hto ((orT (q := ((decide (n = (32:Int))) || (decide (n = (64:Int))))) c2).trans (orF (q := ((decide (n = (16:Int))) || ((decide (n = (32:Int))) || (decide (n = (64:Int)))))) c1)))] _ _ (by kernel_rfl) hk
    rcases tf (decide (n = (32:Int))) with c3 | c3
    · skip
      exact A.RS W0 [] [(2, hto (bE c1)), (6, hto (bE c2)), (10, hto (bE c3)), (14, hto (((orT (q := decide (n = (64:Int))) c3).trans (orF (q := ((decide (n = (32:Int))) || (decide (n = (64:Int))))) c2)).trans (orF (q := ((decide (n = (16:Int))) || ((decide (n = (32:Int))) || (decide (n = (64:Int)))))) c1)))] _ _ (by kernel_rfl) hk
    exact A.RS W0 [] [(2, hto (bE c1)), (6, hto (bE c2)), (10, hto (bE c3)), (14, hto (((orF (q := decide (n = (64:Int))) c3).trans (orF (q := ((decide (n = (32:Int))) || (decide (n = (64:Int))))) c2)).trans (orF (q := ((decide (n = (16:Int))) || ((decide (n = (32:Int))) || (decide (n = (64:Int)))))) c1)))] _ _ (by kernel_rfl) hk
  refine A.ret ?_
  obtain rfl := some_inj hm
  exact A.fin W0 [] rfl (by kernel_rfl)
theorem m_ref07_inside_ok {n : Int} {low : Int} {high : Int} {r : Bool} (hm : m_ref07_inside n low high = some r) : RO Tryz.prog 70 [] [.int .i64 n, .int .i64 low, .int .i64 high] (.bool r) := by
  refine enterA Tryz.func70 rfl rfl ?_
  unfold m_ref07_inside at hm
  refine A.RS W0 [] [] [(0, .int .i64 n), (1, .int .i64 low), (2, .int .i64 high)] [] (by kernel_rfl) ?_
  refine A.mid [(6, .bool ((decide (low ≤ n)) && (decide (n ≤ high))))] [] (fun hk => ?_) ?_
  · skip
    rcases tf (decide (low ≤ n)) with c1 | c1
    · skip
      exact A.RS W0 [] [(3, hto (bE c1)), (8, hto (andT (q := decide (n ≤ high)) c1))] _ _ (by kernel_rfl) hk
    exact A.RS W0 [] [(3, hto (bE c1)), (8, hto (andF (q := decide (n ≤ high)) c1))] _ _ (by kernel_rfl) hk
  refine A.ret ?_
  obtain rfl := some_inj hm
  exact A.fin W0 [] rfl (by kernel_rfl)
theorem m_ref07_ValidClaims_ok {l : List GClaim} {r : Bool} (hm : m_ref07_ValidClaims l = some r) : RO Tryz.prog 71 [] [.lst false (ml eGClaim l)] (.bool r) := by
  refine enterA Tryz.func71 rfl rfl ?_
  unfold m_ref07_ValidClaims at hm
  refine A.RS W0 [] [] [(0, .lst false (ml eGClaim l))] [] (by kernel_rfl) ?_
  refine A.seq ?_
  refine A.RS W0 [] [(1, hto (lnE eGClaim l))] [(0, .lst false (ml eGClaim l)), (6, .bool (decide ((8:Int) < (l.length:Int))))] [] (by kernel_rfl) ?_
  rcases cs_some hm with ⟨c1, hm⟩ | ⟨c1, hm⟩
  · skip
    refine A.cT rfl c1 ?_
    refine A.RS W0 [] [] [(2, .bool false)] [] (by kernel_rfl) ?_
    refine A.ret ?_
    obtain rfl := some_inj hm
    exact A.fin W0 [] rfl (by kernel_rfl)
  refine A.cF rfl c1 ?_
  refine A.skip ?_
  show acode _ _ _ _ _
  refine A.seq ?_
  refine A.RS W0 [] [] [(0, .lst false (ml eGClaim l)), (3, .int .i64 (0:Int))] [] (by kernel_rfl) ?_
  refine A.block ?_
  refine A.bS 0 rfl fun hb1 => ?_
  obtain ⟨B1, K1, hB1, hK1, hm⟩ := forI_some hm
  refine A.lpI (l := l) (j0 := 0) (B := B1) (K := K1) hm (fun j1 => fun sg => match sg with | () => [(0, .lst false (ml eGClaim l)), (3, .int .i64 (j1 : Int))]) (fun j1 => fun sg => match sg with | () => []) ?_ ?_ ?_
  · exact Weak.go [] [] (by kernel_rfl)
  · skip
    rintro j1 e1 Z1 ⟨⟩ hj1 hx1 hm
    rw [hB1] at hm
    refine A.seq ?_
    refine A.RS W0 [] [(2, hto (lnE eGClaim l))] [(0, .lst false (ml eGClaim l)), (3, .int .i64 (j1 : Int)), (10, .bool (decide ((j1 : Int) < (l.length:Int))))] [] (by kernel_rfl) ?_
    refine A.cT rfl (ltT hx1) ?_
    refine A.skip ?_
    show acode _ _ _ _ _
    refine A.seq ?_
    refine A.block ?_
    obtain ⟨J1, hJ1, hm⟩ := jn_some hm
    refine A.J (J := J1) (r := r) (fun v_1 => [(0, .lst false (ml eGClaim l)), (3, .int .i64 (j1 : Int)), (55, .bool v_1)]) (fun v_1 => []) ?_ ?_
    · skip
      obtain ⟨vx_1, h1, hm⟩ := bnd_some hm
      rcases cs_some hm with ⟨c2, hm⟩ | ⟨c2, hm⟩
      · skip
        refine A.R W0 [] [(2, hix (ix eGClaim (elO_nat hx1))), (5, hro (m_ref07_inside_ok h1) ck70), (7, hto (bE c2))] [(0, .lst false (ml eGClaim l)), (3, .int .i64 (j1 : Int)), (55, .bool true)] [] (by kernel_rfl) ?_
        exact Exists.intro true (And.intro hm (Weak.go [] [] (by kernel_rfl)))
      obtain ⟨vx_2, h2, hm⟩ := bnd_some hm
      rcases cs_some hm with ⟨c3, hm⟩ | ⟨c3, hm⟩
      · skip
        refine A.R W0 [] [(2, hix (ix eGClaim (elO_nat hx1))), (5, hro (m_ref07_inside_ok h1) ck70), (7, hto (bE c2)), (10, hix (ix eGClaim (elO_nat hx1))), (13, hro (m_ref07_inside_ok h2) ck70), (16, hto (bE c3))] [(0, .lst false (ml eGClaim l)), (3, .int .i64 (j1 : Int)), (55, .bool true)] [] (by kernel_rfl) ?_
        exact Exists.intro true (And.intro hm (Weak.go [] [] (by kernel_rfl)))
      obtain ⟨vx_3, h3, hm⟩ := bnd_some hm
      rcases cs_some hm with ⟨c4, hm⟩ | ⟨c4, hm⟩
      · skip
        refine A.R W0 [] [(2, hix (ix eGClaim (elO_nat hx1))), (5, hro (m_ref07_inside_ok h1) ck70), (7, hto (bE c2)), (10, hix (ix eGClaim (elO_nat hx1))), (13, hro (m_ref07_inside_ok h2) ck70), (16, hto (bE c3)), (19, hix (ix eGClaim (elO_nat hx1))), (22, hro (m_ref01_ValidLength_ok h3) ck101), (25, hto (bE c4))] [(0, .lst false (ml eGClaim l)), (3, .int .i64 (j1 : Int)), (55, .bool true)] [] (by kernel_rfl) ?_
        exact Exists.intro true (And.intro hm (Weak.go [] [] (by kernel_rfl)))
      rcases cs_some hm with ⟨c5, hm⟩ | ⟨c5, hm⟩
      · skip
        obtain ⟨e_1, h4, hm⟩ := bnd_some hm
        refine A.R W0 [] [(2, hix (ix eGClaim (elO_nat hx1))), (5, hro (m_ref07_inside_ok h1) ck70), (7, hto (bE c2)), (10, hix (ix eGClaim (elO_nat hx1))), (13, hro (m_ref07_inside_ok h2) ck70), (16, hto (bE c3)), (19, hix (ix eGClaim (elO_nat hx1))), (22, hro (m_ref01_ValidLength_ok h3) ck101), (25, hto (bE c4)), (28, hto (bE c5)), (32, hix (ix eGClaim h4)), (37, hix (ix eGClaim (elO_nat hx1)))] [(0, .lst false (ml eGClaim l)), (3, .int .i64 (j1 : Int)), (55, .bool (decide (e1.Subdomain ≤ e_1.Subdomain)))] [] (by kernel_rfl) ?_
        exact Exists.intro (decide (e1.Subdomain ≤ e_1.Subdomain)) (And.intro hm (Weak.go [] [] (by kernel_rfl)))
      refine A.R W0 [] [(2, hix (ix eGClaim (elO_nat hx1))), (5, hro (m_ref07_inside_ok h1) ck70), (7, hto (bE c2)), (10, hix (ix eGClaim (elO_nat hx1))), (13, hro (m_ref07_inside_ok h2) ck70), (16, hto (bE c3)), (19, hix (ix eGClaim (elO_nat hx1))), (22, hro (m_ref01_ValidLength_ok h3) ck101), (25, hto (bE c4)), (28, hto (bE c5))] [(0, .lst false (ml eGClaim l)), (3, .int .i64 (j1 : Int)), (55, .bool false)] [] (by kernel_rfl) ?_
      exact Exists.intro false (And.intro hm (Weak.go [] [] (by kernel_rfl)))
    rintro v_1 hm
    rw [hJ1] at hm
    rcases cs_some hm with ⟨c6, hm⟩ | ⟨c6, hm⟩
    · skip
      refine A.cT rfl c6 ?_
      refine A.RS W0 [] [] [(2, .bool false)] [] (by kernel_rfl) ?_
      refine A.ret ?_
      obtain rfl := some_inj hm
      exact A.fin W0 [] rfl (by kernel_rfl)
    refine A.cF rfl c6 ?_
    refine A.skip ?_
    show acode _ _ _ _ _
    refine A.R W0 [] [(1, hto (inc hx1 hb1))] [(0, .lst false (ml eGClaim l)), (3, .int .i64 ((j1 + 1 : Nat) : Int))] [] (by kernel_rfl) ?_
    exact Exists.intro () (And.intro hm (Weak.go [] [] (by kernel_rfl)))
  rintro j1 ⟨⟩ hj1 hl1 hm
  rw [hK1] at hm
  refine A.seq ?_
  refine A.RS W0 [] [(2, hto (lnE eGClaim l))] [(0, .lst false (ml eGClaim l)), (3, .int .i64 (j1 : Int)), (10, .bool (decide ((j1 : Int) < (l.length:Int))))] [] (by kernel_rfl) ?_
  refine A.cF rfl (ltF hl1) ?_
  refine A.exit ?_
  show acode _ _ _ _ _
  refine A.RS W0 [] [] [(2, .bool true)] [] (by kernel_rfl) ?_
  refine A.ret ?_
  obtain rfl := some_inj hm
  exact A.fin W0 [] rfl (by kernel_rfl)
theorem m_ref07_Valid_ok {a : GAdvert} {r : Bool} (hm : m_ref07_Valid a = some r) : RO Tryz.prog 40 [] [.agg [.int .i64 a.Router, .int .i64 a.Seq, .bool a.Capable, .lst false (ml eGReach a.Links), .lst false (ml eGClaim a.Claims)]] (.bool r) := by
  refine enterA Tryz.func40 rfl rfl ?_
  unfold m_ref07_Valid at hm
  refine A.RS W0 [] [(0, .al 40001)] [(1, .ptr 40001 0)] [(40001, .cells 29 [.int .i64 a.Router, .int .i64 a.Seq, .bool a.Capable, .lst false (ml eGReach a.Links), .lst false (ml eGClaim a.Claims)])] (by kernel_rfl) ?_
  refine A.seq ?_
  obtain ⟨J1, hJ1, hm⟩ := jn_some hm
  refine A.J (J := J1) (r := r) (fun v_1 => [(1, .ptr 40001 0), (20, .bool v_1)]) (fun v_1 => [(40001, .cells 29 [.int .i64 a.Router, .int .i64 a.Seq, .bool a.Capable, .lst false (ml eGReach a.Links), .lst false (ml eGClaim a.Claims)])]) ?_ ?_
  · skip
    obtain ⟨vx_1, h1, hm⟩ := bnd_some hm
    rcases cs_some hm with ⟨c1, hm⟩ | ⟨c1, hm⟩
    · skip
      refine A.R W0 [] [(2, hro (m_ref07_inside_ok h1) ck70), (4, hto (bE c1))] [(1, .ptr 40001 0), (20, .bool true)] [(40001, .cells 29 [.int .i64 a.Router, .int .i64 a.Seq, .bool a.Capable, .lst false (ml eGReach a.Links), .lst false (ml eGClaim a.Claims)])] (by kernel_rfl) ?_
      exact Exists.intro true (And.intro hm (Weak.go [] [] (by kernel_rfl)))
    obtain ⟨vx_2, h2, hm⟩ := bnd_some hm
    rcases cs_some hm with ⟨c2, hm⟩ | ⟨c2, hm⟩
    · skip
      refine A.R W0 [] [(2, hro (m_ref07_inside_ok h1) ck70), (4, hto (bE c1)), (7, hro (m_ref07_inside_ok h2) ck70), (10, hto (bE c2))] [(1, .ptr 40001 0), (20, .bool true)] [(40001, .cells 29 [.int .i64 a.Router, .int .i64 a.Seq, .bool a.Capable, .lst false (ml eGReach a.Links), .lst false (ml eGClaim a.Claims)])] (by kernel_rfl) ?_
      exact Exists.intro true (And.intro hm (Weak.go [] [] (by kernel_rfl)))
    refine A.R W0 [] [(2, hro (m_ref07_inside_ok h1) ck70), (4, hto (bE c1)), (7, hro (m_ref07_inside_ok h2) ck70), (10, hto (bE c2)), (13, hto (lnE eGReach a.Links))] [(1, .ptr 40001 0), (20, .bool (decide ((23:Int) < (a.Links.length:Int))))] [(40001, .cells 29 [.int .i64 a.Router, .int .i64 a.Seq, .bool a.Capable, .lst false (ml eGReach a.Links), .lst false (ml eGClaim a.Claims)])] (by kernel_rfl) ?_
    exact Exists.intro (decide ((23:Int) < (a.Links.length:Int))) (And.intro hm (Weak.go [] [] (by kernel_rfl)))
  rintro v_1 hm
  rw [hJ1] at hm
  rcases cs_some hm with ⟨c3, hm⟩ | ⟨c3, hm⟩
  · skip
    refine A.cT rfl c3 ?_
    refine A.RS W0 [] [] [(2, .bool false)] [] (by kernel_rfl) ?_
    refine A.ret ?_
    obtain rfl := some_inj hm
    exact A.fin W0 [] rfl (by kernel_rfl)
  refine A.cF rfl c3 ?_
  refine A.skip ?_
  show acode _ _ _ _ _
  refine A.seq ?_
  refine A.RS W0 [] [] [(1, .ptr 40001 0), (3, .int .i64 (0:Int))] [(40001, .cells 29 [.int .i64 a.Router, .int .i64 a.Seq, .bool a.Capable, .lst false (ml eGReach a.Links), .lst false (ml eGClaim a.Claims)])] (by kernel_rfl) ?_
  refine A.block ?_
  refine A.bC 1 3 rfl rfl rfl fun hb1 => ?_
  obtain ⟨B1, K1, hB1, hK1, hm⟩ := forI_some hm
  refine A.lpI (l := a.Links) (j0 := 0) (B := B1) (K := K1) hm (fun j1 => fun sg => match sg with | () => [(1, .ptr 40001 0), (3, .int .i64 (j1 : Int))]) (fun j1 => fun sg => match sg with | () => [(40001, .cells 29 [.int .i64 a.Router, .int .i64 a.Seq, .bool a.Capable, .lst false (ml eGReach a.Links), .lst false (ml eGClaim a.Claims)])]) ?_ ?_ ?_
  · exact Weak.go [] [] (by kernel_rfl)
  · skip
    rintro j1 e1 Z1 ⟨⟩ hj1 hx1 hm
    rw [hB1] at hm
    refine A.seq ?_
    refine A.RS W0 [] [(3, hto (lnE eGReach a.Links))] [(1, .ptr 40001 0), (3, .int .i64 (j1 : Int)), (25, .bool (decide ((j1 : Int) < (a.Links.length:Int))))] [(40001, .cells 29 [.int .i64 a.Router, .int .i64 a.Seq, .bool a.Capable, .lst false (ml eGReach a.Links), .lst false (ml eGClaim a.Claims)])] (by kernel_rfl) ?_
    refine A.cT rfl (ltT hx1) ?_
    refine A.skip ?_
    show acode _ _ _ _ _
    refine A.seq ?_
    refine A.block ?_
    refine A.RS W0 [] [(3, hix (ix eGReach (elO_nat hx1))), (5, .al 40004)] [(1, .ptr 40001 0), (3, .int .i64 (j1 : Int)), (4, .ptr 40004 0)] [(40001, .cells 29 [.int .i64 a.Router, .int .i64 a.Seq, .bool a.Capable, .lst false (ml eGReach a.Links), .lst false (ml eGClaim a.Claims)]), (40004, .cells 74 [.int .i64 e1.Neighbour, .int .i64 e1.Cost, .int .i64 e1.Capacity])] (by kernel_rfl) ?_
    obtain ⟨J2, hJ2, hm⟩ := jn_some hm
    refine A.J (J := J2) (r := r) (fun v_2 => [(1, .ptr 40001 0), (3, .int .i64 (j1 : Int)), (71, .bool v_2)]) (fun v_2 => [(40001, .cells 29 [.int .i64 a.Router, .int .i64 a.Seq, .bool a.Capable, .lst false (ml eGReach a.Links), .lst false (ml eGClaim a.Claims)])]) ?_ ?_
    · skip
      obtain ⟨vx_3, h3, hm⟩ := bnd_some hm
      rcases cs_some hm with ⟨c4, hm⟩ | ⟨c4, hm⟩
      · skip
        refine A.R W0 [] [(2, hro (m_ref07_inside_ok h3) ck70), (4, hto (bE c4))] [(1, .ptr 40001 0), (3, .int .i64 (j1 : Int)), (71, .bool true)] [(40001, .cells 29 [.int .i64 a.Router, .int .i64 a.Seq, .bool a.Capable, .lst false (ml eGReach a.Links), .lst false (ml eGClaim a.Claims)])] (by kernel_rfl) ?_
        exact Exists.intro true (And.intro hm (Weak.go [] [] (by kernel_rfl)))
      rcases cs_some hm with ⟨c5, hm⟩ | ⟨c5, hm⟩
      · skip
        refine A.R W0 [] [(2, hro (m_ref07_inside_ok h3) ck70), (4, hto (bE c4)), (11, hto (bE c5))] [(1, .ptr 40001 0), (3, .int .i64 (j1 : Int)), (71, .bool true)] [(40001, .cells 29 [.int .i64 a.Router, .int .i64 a.Seq, .bool a.Capable, .lst false (ml eGReach a.Links), .lst false (ml eGClaim a.Claims)])] (by kernel_rfl) ?_
        exact Exists.intro true (And.intro hm (Weak.go [] [] (by kernel_rfl)))
      obtain ⟨vx_4, h4, hm⟩ := bnd_some hm
      rcases cs_some hm with ⟨c6, hm⟩ | ⟨c6, hm⟩
      · skip
        refine A.R W0 [] [(2, hro (m_ref07_inside_ok h3) ck70), (4, hto (bE c4)), (11, hto (bE c5)), (14, hro (m_ref07_inside_ok h4) ck70), (17, hto (bE c6))] [(1, .ptr 40001 0), (3, .int .i64 (j1 : Int)), (71, .bool true)] [(40001, .cells 29 [.int .i64 a.Router, .int .i64 a.Seq, .bool a.Capable, .lst false (ml eGReach a.Links), .lst false (ml eGClaim a.Claims)])] (by kernel_rfl) ?_
        exact Exists.intro true (And.intro hm (Weak.go [] [] (by kernel_rfl)))
      obtain ⟨vx_5, h5, hm⟩ := bnd_some hm
      rcases cs_some hm with ⟨c7, hm⟩ | ⟨c7, hm⟩
      · skip
        refine A.R W0 [] [(2, hro (m_ref07_inside_ok h3) ck70), (4, hto (bE c4)), (11, hto (bE c5)), (14, hro (m_ref07_inside_ok h4) ck70), (17, hto (bE c6)), (20, hro (m_ref07_inside_ok h5) ck70), (23, hto (bE c7))] [(1, .ptr 40001 0), (3, .int .i64 (j1 : Int)), (71, .bool true)] [(40001, .cells 29 [.int .i64 a.Router, .int .i64 a.Seq, .bool a.Capable, .lst false (ml eGReach a.Links), .lst false (ml eGClaim a.Claims)])] (by kernel_rfl) ?_
        exact Exists.intro true (And.intro hm (Weak.go [] [] (by kernel_rfl)))
      rcases cs_some hm with ⟨c8, hm⟩ | ⟨c8, hm⟩
      · skip
        obtain ⟨e_1, h6, hm⟩ := bnd_some hm
        refine A.R W0 [] [(2, hro (m_ref07_inside_ok h3) ck70), (4, hto (bE c4)), (11, hto (bE c5)), (14, hro (m_ref07_inside_ok h4) ck70), (17, hto (bE c6)), (20, hro (m_ref07_inside_ok h5) ck70), (23, hto (bE c7)), (26, hto (bE c8)), (31, hix (ix eGReach h6))] [(1, .ptr 40001 0), (3, .int .i64 (j1 : Int)), (71, .bool (decide (e1.Neighbour ≤ e_1.Neighbour)))] [(40001, .cells 29 [.int .i64 a.Router, .int .i64 a.Seq, .bool a.Capable, .lst false (ml eGReach a.Links), .lst false (ml eGClaim a.Claims)])] (by kernel_rfl) ?_
        exact Exists.intro (decide (e1.Neighbour ≤ e_1.Neighbour)) (And.intro hm (Weak.go [] [] (by kernel_rfl)))
      refine A.R W0 [] [(2, hro (m_ref07_inside_ok h3) ck70), (4, hto (bE c4)), (11, hto (bE c5)), (14, hro (m_ref07_inside_ok h4) ck70), (17, hto (bE c6)), (20, hro (m_ref07_inside_ok h5) ck70), (23, hto (bE c7)), (26, hto (bE c8))] [(1, .ptr 40001 0), (3, .int .i64 (j1 : Int)), (71, .bool false)] [(40001, .cells 29 [.int .i64 a.Router, .int .i64 a.Seq, .bool a.Capable, .lst false (ml eGReach a.Links), .lst false (ml eGClaim a.Claims)])] (by kernel_rfl) ?_
      exact Exists.intro false (And.intro hm (Weak.go [] [] (by kernel_rfl)))
    rintro v_2 hm
    rw [hJ2] at hm
    rcases cs_some hm with ⟨c9, hm⟩ | ⟨c9, hm⟩
    · skip
      refine A.cT rfl c9 ?_
      refine A.RS W0 [] [] [(2, .bool false)] [] (by kernel_rfl) ?_
      refine A.ret ?_
      obtain rfl := some_inj hm
      exact A.fin W0 [] rfl (by kernel_rfl)
    refine A.cF rfl c9 ?_
    refine A.skip ?_
    show acode _ _ _ _ _
    refine A.R W0 [] [(1, hto (inc hx1 hb1))] [(1, .ptr 40001 0), (3, .int .i64 ((j1 + 1 : Nat) : Int))] [(40001, .cells 29 [.int .i64 a.Router, .int .i64 a.Seq, .bool a.Capable, .lst false (ml eGReach a.Links), .lst false (ml eGClaim a.Claims)])] (by kernel_rfl) ?_
    exact Exists.intro () (And.intro hm (Weak.go [] [] (by kernel_rfl)))
  rintro j1 ⟨⟩ hj1 hl1 hm
  rw [hK1] at hm
  refine A.seq ?_
  refine A.RS W0 [] [(3, hto (lnE eGReach a.Links))] [(1, .ptr 40001 0), (3, .int .i64 (j1 : Int)), (25, .bool (decide ((j1 : Int) < (a.Links.length:Int))))] [(40001, .cells 29 [.int .i64 a.Router, .int .i64 a.Seq, .bool a.Capable, .lst false (ml eGReach a.Links), .lst false (ml eGClaim a.Claims)])] (by kernel_rfl) ?_
  refine A.cF rfl (ltF hl1) ?_
  refine A.exit ?_
  show acode _ _ _ _ _
  obtain ⟨vx_6, h7, hm⟩ := bnd_some hm
  refine A.RS W0 [] [(2, hro (m_ref07_ValidClaims_ok h7) ck71)] [(2, .bool vx_6)] [] (by kernel_rfl) ?_
  refine A.ret ?_
  obtain rfl := some_inj hm
  exact A.fin W0 [] rfl (by kernel_rfl)
theorem m_ref07_Same_ok {a : GAdvert} {b : GAdvert} {r : Bool} (hm : m_ref07_Same a b = some r) : RO Tryz.prog 43 [] [.agg [.int .i64 a.Router, .int .i64 a.Seq, .bool a.Capable, .lst false (ml eGReach a.Links), .lst false (ml eGClaim a.Claims)], .agg [.int .i64 b.Router, .int .i64 b.Seq, .bool b.Capable, .lst false (ml eGReach b.Links), .lst false (ml eGClaim b.Claims)]] (.bool r) := by
  refine enterA Tryz.func43 rfl rfl ?_
  unfold m_ref07_Same at hm
  refine A.RS W0 [] [(0, .al 43002), (1, .al 43003)] [(2, .ptr 43002 0), (3, .ptr 43003 0)] [(43002, .cells 29 [.int .i64 a.Router, .int .i64 a.Seq, .bool a.Capable, .lst false (ml eGReach a.Links), .lst false (ml eGClaim a.Claims)]), (43003, .cells 29 [.int .i64 b.Router, .int .i64 b.Seq, .bool b.Capable, .lst false (ml eGReach b.Links), .lst false (ml eGClaim b.Claims)])] (by kernel_rfl) ?_
  refine A.seq ?_
  refine A.mid [(2, .ptr 43002 0), (3, .ptr 43003 0), (43, .bool ((!decide (a.Router = b.Router)) || ((!decide (a.Seq = b.Seq)) || ((!(a.Capable == b.Capable)) || ((!decide ((a.Links.length:Int) = (b.Links.length:Int))) || (!decide ((a.Claims.length:Int) = (b.Claims.length:Int))))))))] [(43002, .cells 29 [.int .i64 a.Router, .int .i64 a.Seq, .bool a.Capable, .lst false (ml eGReach a.Links), .lst false (ml eGClaim a.Claims)]), (43003, .cells 29 [.int .i64 b.Router, .int .i64 b.Seq, .bool b.Capable, .lst false (ml eGReach b.Links), .lst false (ml eGClaim b.Claims)])] (fun hk => ?_) ?_
  · skip
    rcases tf (!decide (a.Router = b.Router)) with c1 | c1
    · skip
      exact A.RS W0 [] [(5, hto (bE c1)), (36, hto (orT (q := ((!decide (a.Seq = b.Seq)) || ((!(a.Capable == b.Capable)) || ((!decide ((a.Links.length:Int) = (b.Links.length:Int))) || (!decide ((a.Claims.length:Int) = (b.Claims.length:Int))))))) c1))] _ _ (by kernel_rfl) hk
    rcases tf (!decide (a.Seq = b.Seq)) with c2 | c2
    · skip
      exact A.RS W0 [] [(5, hto (bE c1)), (12, hto (bE c2)), (36, hto ((orT (q := ((!(a.Capable == b.Capable)) || ((!decide ((a.Links.length:Int) = (b.Links.length:Int))) || (!decide ((a.Claims.length:Int) = (b.Claims.length:Int)))))) c2).trans (orF (q := ((!decide (a.Seq = b.Seq)) || ((!(a.Capable == b.Capable)) || ((!decide ((a.Links.length:Int) = (b.Links.length:Int))) || (!decide ((a.Claims.length:Int) = (b.Claims.length:Int))))))) c1)))] _ _ (by kernel_rfl) hk
    rcases tf (!(a.Capable == b.Capable)) with c3 | c3
    · skip
      exact A.RS W0 [] [(5, hto (bE c1)), (12, hto (bE c2)), (19, hto (bE c3)), (36, hto (((orT (q := ((!decide ((a.Links.length:Int) = (b.Links.length:Int))) || (!decide ((a.Claims.length:Int) = (b.Claims.length:Int))))) c3).trans (orF (q := ((!(a.Capable == b.Capable)) || ((!decide ((a.Links.length:Int) = (b.Links.length:Int))) || (!decide ((a.Claims.length:Int) = (b.Claims.length:Int)))))) c2)).trans (orF (q := ((!decide (a.Seq = b.Seq)) || ((!(a.Capable == b.Capable)) || ((!decide ((a.Links.length:Int) = (b.Links.length:Int))) || (!decide ((a.Claims.length:Int) = (b.Claims.length:Int))))))) c1)))] _ _ (by kernel_rfl) hk
    rcases tf (!decide ((a.Links.length:Int) = (b.Links.length:Int))) with c4 | c4
    · skip
      exact A.RS W0 [] [(5, hto (bE c1)), (12, hto (bE c2)), (19, hto (bE c3)), (22, hto (lnE eGReach a.Links)), (25, hto (lnE eGReach b.Links)), (28, hto (bE c4)), (36, hto ((((orT (q := !decide ((a.Claims.length:Int) = (b.Claims.length:Int))) c4).trans (orF (q := ((!decide ((a.Links.length:Int) = (b.Links.length:Int))) || (!decide ((a.Claims.length:Int) = (b.Claims.length:Int))))) c3)).trans (orF (q := ((!(a.Capable == b.Capable)) || ((!decide ((a.Links.length:Int) = (b.Links.length:Int))) || (!decide ((a.Claims.length:Int) = (b.Claims.length:Int)))))) c2)).trans (orF (q := ((!decide (a.Seq = b.Seq)) || ((!(a.Capable == b.Capable)) || ((!decide ((a.Links.length:Int) = (b.Links.length:Int))) || (!decide ((a.Claims.length:Int) = (b.Claims.length:Int))))))) c1)))] _ _ (by kernel_rfl) hk
    exact A.RS W0 [] [(5, hto (bE c1)), (12, hto (bE c2)), (19, hto (bE c3)), (22, hto (lnE eGReach a.Links)), (25, hto (lnE eGReach b.Links)), (28, hto (bE c4)), (31, hto (lnE eGClaim a.Claims)), (34, hto (lnE eGClaim b.Claims)), (36, hto ((((orF (q := !decide ((a.Claims.length:Int) = (b.Claims.length:Int))) c4).trans (orF (q := ((!decide ((a.Links.length:Int) = (b.Links.length:Int))) || (!decide ((a.Claims.length:Int) = (b.Claims.length:Int))))) c3)).trans (orF (q := ((!(a.Capable == b.Capable)) || ((!decide ((a.Links.length:Int) = (b.Links.length:Int))) || (!decide ((a.Claims.length:Int) = (b.Claims.length:Int)))))) c2)).trans (orF (q := ((!decide (a.Seq = b.Seq)) || ((!(a.Capable == b.Capable)) || ((!decide ((a.Links.length:Int) = (b.Links.length:Int))) || (!decide ((a.Claims.length:Int) = (b.Claims.length:Int))))))) c1)))] _ _ (by kernel_rfl) hk
  rcases cs_some hm with ⟨c5, hm⟩ | ⟨c5, hm⟩
  · skip
    refine A.cT rfl c5 ?_
    refine A.RS W0 [] [] [(4, .bool false)] [] (by kernel_rfl) ?_
    refine A.ret ?_
    obtain rfl := some_inj hm
    exact A.fin W0 [] rfl (by kernel_rfl)
  refine A.cF rfl c5 ?_
  refine A.skip ?_
  show acode _ _ _ _ _
  refine A.seq ?_
  refine A.RS W0 [] [] [(2, .ptr 43002 0), (3, .ptr 43003 0), (5, .int .i64 (0:Int))] [(43002, .cells 29 [.int .i64 a.Router, .int .i64 a.Seq, .bool a.Capable, .lst false (ml eGReach a.Links), .lst false (ml eGClaim a.Claims)]), (43003, .cells 29 [.int .i64 b.Router, .int .i64 b.Seq, .bool b.Capable, .lst false (ml eGReach b.Links), .lst false (ml eGClaim b.Claims)])] (by kernel_rfl) ?_
  refine A.block ?_
  refine A.bC 2 3 rfl rfl rfl fun hb1 => ?_
  obtain ⟨B1, K1, hB1, hK1, hm⟩ := forI_some hm
  refine A.lpI (l := a.Links) (j0 := 0) (B := B1) (K := K1) hm (fun j1 => fun sg => match sg with | () => [(2, .ptr 43002 0), (3, .ptr 43003 0), (5, .int .i64 (j1 : Int))]) (fun j1 => fun sg => match sg with | () => [(43002, .cells 29 [.int .i64 a.Router, .int .i64 a.Seq, .bool a.Capable, .lst false (ml eGReach a.Links), .lst false (ml eGClaim a.Claims)]), (43003, .cells 29 [.int .i64 b.Router, .int .i64 b.Seq, .bool b.Capable, .lst false (ml eGReach b.Links), .lst false (ml eGClaim b.Claims)])]) ?_ ?_ ?_
  · exact Weak.go [] [] (by kernel_rfl)
  · skip
    rintro j1 e1 Z1 ⟨⟩ hj1 hx1 hm
    rw [hB1] at hm
    refine A.seq ?_
    refine A.RS W0 [] [(3, hto (lnE eGReach a.Links))] [(2, .ptr 43002 0), (3, .ptr 43003 0), (5, .int .i64 (j1 : Int)), (48, .bool (decide ((j1 : Int) < (a.Links.length:Int))))] [(43002, .cells 29 [.int .i64 a.Router, .int .i64 a.Seq, .bool a.Capable, .lst false (ml eGReach a.Links), .lst false (ml eGClaim a.Claims)]), (43003, .cells 29 [.int .i64 b.Router, .int .i64 b.Seq, .bool b.Capable, .lst false (ml eGReach b.Links), .lst false (ml eGClaim b.Claims)])] (by kernel_rfl) ?_
    refine A.cT rfl (ltT hx1) ?_
    refine A.skip ?_
    show acode _ _ _ _ _
    refine A.seq ?_
    refine A.block ?_
    obtain ⟨e_1, h1, hm⟩ := bnd_some hm
    refine A.RS W0 [] [(3, hix (ix eGReach (elO_nat hx1))), (8, hix (ix eGReach h1)), (10, .sq true 74 (.agg [.int .i64 e1.Neighbour, .int .i64 e1.Cost, .int .i64 e1.Capacity]) (.agg [.int .i64 e_1.Neighbour, .int .i64 e_1.Cost, .int .i64 e_1.Capacity]) (!(eqGReach e1 e_1)) (fun x y w => eq74_neq x y _ _ _ _ _ _ w))] [(2, .ptr 43002 0), (3, .ptr 43003 0), (5, .int .i64 (j1 : Int)), (61, .bool (!(eqGReach e1 e_1)))] [(43002, .cells 29 [.int .i64 a.Router, .int .i64 a.Seq, .bool a.Capable, .lst false (ml eGReach a.Links), .lst false (ml eGClaim a.Claims)]), (43003, .cells 29 [.int .i64 b.Router, .int .i64 b.Seq, .bool b.Capable, .lst false (ml eGReach b.Links), .lst false (ml eGClaim b.Claims)])] (by kernel_rfl) ?_
    rcases cs_some hm with ⟨c6, hm⟩ | ⟨c6, hm⟩
    · skip
      refine A.cT rfl c6 ?_
      refine A.RS W0 [] [] [(4, .bool false)] [] (by kernel_rfl) ?_
      refine A.ret ?_
      obtain rfl := some_inj hm
      exact A.fin W0 [] rfl (by kernel_rfl)
    refine A.cF rfl c6 ?_
    refine A.skip ?_
    show acode _ _ _ _ _
    refine A.R W0 [] [(1, hto (inc hx1 hb1))] [(2, .ptr 43002 0), (3, .ptr 43003 0), (5, .int .i64 ((j1 + 1 : Nat) : Int))] [(43002, .cells 29 [.int .i64 a.Router, .int .i64 a.Seq, .bool a.Capable, .lst false (ml eGReach a.Links), .lst false (ml eGClaim a.Claims)]), (43003, .cells 29 [.int .i64 b.Router, .int .i64 b.Seq, .bool b.Capable, .lst false (ml eGReach b.Links), .lst false (ml eGClaim b.Claims)])] (by kernel_rfl) ?_
    exact Exists.intro () (And.intro hm (Weak.go [] [] (by kernel_rfl)))
  rintro j1 ⟨⟩ hj1 hl1 hm
  rw [hK1] at hm
  refine A.seq ?_
  refine A.RS W0 [] [(3, hto (lnE eGReach a.Links))] [(2, .ptr 43002 0), (3, .ptr 43003 0), (5, .int .i64 (j1 : Int)), (48, .bool (decide ((j1 : Int) < (a.Links.length:Int))))] [(43002, .cells 29 [.int .i64 a.Router, .int .i64 a.Seq, .bool a.Capable, .lst false (ml eGReach a.Links), .lst false (ml eGClaim a.Claims)]), (43003, .cells 29 [.int .i64 b.Router, .int .i64 b.Seq, .bool b.Capable, .lst false (ml eGReach b.Links), .lst false (ml eGClaim b.Claims)])] (by kernel_rfl) ?_
  refine A.cF rfl (ltF hl1) ?_
  refine A.exit ?_
  show acode _ _ _ _ _
  refine A.seq ?_
  refine A.RS W0 [] [] [(2, .ptr 43002 0), (3, .ptr 43003 0), (6, .int .i64 (0:Int))] [(43002, .cells 29 [.int .i64 a.Router, .int .i64 a.Seq, .bool a.Capable, .lst false (ml eGReach a.Links), .lst false (ml eGClaim a.Claims)]), (43003, .cells 29 [.int .i64 b.Router, .int .i64 b.Seq, .bool b.Capable, .lst false (ml eGReach b.Links), .lst false (ml eGClaim b.Claims)])] (by kernel_rfl) ?_
  refine A.block ?_
  refine A.bC 2 4 rfl rfl rfl fun hb2 => ?_
  obtain ⟨B2, K2, hB2, hK2, hm⟩ := forI_some hm
  refine A.lpI (l := a.Claims) (j0 := 0) (B := B2) (K := K2) hm (fun j2 => fun sg => match sg with | () => [(2, .ptr 43002 0), (3, .ptr 43003 0), (6, .int .i64 (j2 : Int))]) (fun j2 => fun sg => match sg with | () => [(43002, .cells 29 [.int .i64 a.Router, .int .i64 a.Seq, .bool a.Capable, .lst false (ml eGReach a.Links), .lst false (ml eGClaim a.Claims)]), (43003, .cells 29 [.int .i64 b.Router, .int .i64 b.Seq, .bool b.Capable, .lst false (ml eGReach b.Links), .lst false (ml eGClaim b.Claims)])]) ?_ ?_ ?_
  · exact Weak.go [] [] (by kernel_rfl)
  · skip
    rintro j2 e2 Z2 ⟨⟩ hj2 hx2 hm
    rw [hB2] at hm
    refine A.seq ?_
    refine A.RS W0 [] [(3, hto (lnE eGClaim a.Claims))] [(2, .ptr 43002 0), (3, .ptr 43003 0), (6, .int .i64 (j2 : Int)), (66, .bool (decide ((j2 : Int) < (a.Claims.length:Int))))] [(43002, .cells 29 [.int .i64 a.Router, .int .i64 a.Seq, .bool a.Capable, .lst false (ml eGReach a.Links), .lst false (ml eGClaim a.Claims)]), (43003, .cells 29 [.int .i64 b.Router, .int .i64 b.Seq, .bool b.Capable, .lst false (ml eGReach b.Links), .lst false (ml eGClaim b.Claims)])] (by kernel_rfl) ?_
    refine A.cT rfl (ltT hx2) ?_
    refine A.skip ?_
    show acode _ _ _ _ _
    refine A.seq ?_
    refine A.block ?_
    obtain ⟨e_2, h2, hm⟩ := bnd_some hm
    refine A.RS W0 [] [(3, hix (ix eGClaim (elO_nat hx2))), (8, hix (ix eGClaim h2)), (10, .sq true 77 (.agg [.int .i64 e2.Subdomain, .int .i64 e2.ID, .int .i64 e2.Length]) (.agg [.int .i64 e_2.Subdomain, .int .i64 e_2.ID, .int .i64 e_2.Length]) (!(eqGClaim e2 e_2)) (fun x y w => eq77_neq x y _ _ _ _ _ _ w))] [(2, .ptr 43002 0), (3, .ptr 43003 0), (6, .int .i64 (j2 : Int)), (79, .bool (!(eqGClaim e2 e_2)))] [(43002, .cells 29 [.int .i64 a.Router, .int .i64 a.Seq, .bool a.Capable, .lst false (ml eGReach a.Links), .lst false (ml eGClaim a.Claims)]), (43003, .cells 29 [.int .i64 b.Router, .int .i64 b.Seq, .bool b.Capable, .lst false (ml eGReach b.Links), .lst false (ml eGClaim b.Claims)])] (by kernel_rfl) ?_
    rcases cs_some hm with ⟨c7, hm⟩ | ⟨c7, hm⟩
    · skip
      refine A.cT rfl c7 ?_
      refine A.RS W0 [] [] [(4, .bool false)] [] (by kernel_rfl) ?_
      refine A.ret ?_
      obtain rfl := some_inj hm
      exact A.fin W0 [] rfl (by kernel_rfl)
    refine A.cF rfl c7 ?_
    refine A.skip ?_
    show acode _ _ _ _ _
    refine A.R W0 [] [(1, hto (inc hx2 hb2))] [(2, .ptr 43002 0), (3, .ptr 43003 0), (6, .int .i64 ((j2 + 1 : Nat) : Int))] [(43002, .cells 29 [.int .i64 a.Router, .int .i64 a.Seq, .bool a.Capable, .lst false (ml eGReach a.Links), .lst false (ml eGClaim a.Claims)]), (43003, .cells 29 [.int .i64 b.Router, .int .i64 b.Seq, .bool b.Capable, .lst false (ml eGReach b.Links), .lst false (ml eGClaim b.Claims)])] (by kernel_rfl) ?_
    exact Exists.intro () (And.intro hm (Weak.go [] [] (by kernel_rfl)))
  rintro j2 ⟨⟩ hj2 hl2 hm
  rw [hK2] at hm
  refine A.seq ?_
  refine A.RS W0 [] [(3, hto (lnE eGClaim a.Claims))] [(2, .ptr 43002 0), (3, .ptr 43003 0), (6, .int .i64 (j2 : Int)), (66, .bool (decide ((j2 : Int) < (a.Claims.length:Int))))] [(43002, .cells 29 [.int .i64 a.Router, .int .i64 a.Seq, .bool a.Capable, .lst false (ml eGReach a.Links), .lst false (ml eGClaim a.Claims)]), (43003, .cells 29 [.int .i64 b.Router, .int .i64 b.Seq, .bool b.Capable, .lst false (ml eGReach b.Links), .lst false (ml eGClaim b.Claims)])] (by kernel_rfl) ?_
  refine A.cF rfl (ltF hl2) ?_
  refine A.exit ?_
  show acode _ _ _ _ _
  refine A.RS W0 [] [] [(4, .bool true)] [] (by kernel_rfl) ?_
  refine A.ret ?_
  obtain rfl := some_inj hm
  exact A.fin W0 [] rfl (by kernel_rfl)
end Go.Proofs.YtmcjffllahcclaaGreat
