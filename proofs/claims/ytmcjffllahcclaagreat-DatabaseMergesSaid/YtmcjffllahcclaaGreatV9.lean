/- The walks of functions of the program. No condition but those that stand in each. -/
import Derived.Test.YtmcjffllahcclaaGreatDA
import Derived.Test.YtmcjffllahcclaaGreatV4
import Derived.Test.YtmcjffllahcclaaGreatVC
import Derived.Test.YtmcjffllahcclaaGreatSF
namespace Go.Proofs.YtmcjffllahcclaaGreat
open Go
set_option maxRecDepth 100000
set_option linter.all false
theorem m_bitset_ValidLength_ok {n : Int} {r : Bool} (hm : m_bitset_ValidLength n = some r) : RO Tryz.prog 65 [] [.int .i64 n] (.bool r) := by
  refine enterA Tryz.func65 rfl rfl ?_
  unfold m_bitset_ValidLength at hm
  refine A.RS W0 [] [] [(0, .int .i64 n)] [] (by kernel_rfl) ?_
  refine A.mid [(2, .bool ((decide (n = (8:Int))) || ((decide (n = (16:Int))) || ((decide (n = (32:Int))) || (decide (n = (64:Int)))))))] [] (fun hk => ?_) ?_
  · skip
    rcases tf (decide (n = (8:Int))) with c1 | c1
    · skip
      exact A.RS W0 [] [(2, hto (bE c1)), (14, hto (orT (q := ((decide (n = (16:Int))) || ((decide (n = (32:Int))) || (decide (n = (64:Int)))))) c1))] _ _ (by kernel_rfl) hk
    rcases tf (decide (n = (16:Int))) with c2 | c2
    · skip
      exact A.RS W0 [] [(2, hto (bE c1)), (6, hto (bE c2)), (14, hto ((orT (q := ((decide (n = (32:Int))) || (decide (n = (64:Int))))) c2).trans (orF (q := ((decide (n = (16:Int))) || ((decide (n = (32:Int))) || (decide (n = (64:Int)))))) c1)))] _ _ (by kernel_rfl) hk
    rcases tf (decide (n = (32:Int))) with c3 | c3
    · skip
      exact A.RS W0 [] [(2, hto (bE c1)), (6, hto (bE c2)), (10, hto (bE c3)), (14, hto (((orT (q := decide (n = (64:Int))) c3).trans (orF (q := ((decide (n = (32:Int))) || (decide (n = (64:Int))))) c2)).trans (orF (q := ((decide (n = (16:Int))) || ((decide (n = (32:Int))) || (decide (n = (64:Int)))))) c1)))] _ _ (by kernel_rfl) hk
    exact A.RS W0 [] [(2, hto (bE c1)), (6, hto (bE c2)), (10, hto (bE c3)), (14, hto (((orF (q := decide (n = (64:Int))) c3).trans (orF (q := ((decide (n = (32:Int))) || (decide (n = (64:Int))))) c2)).trans (orF (q := ((decide (n = (16:Int))) || ((decide (n = (32:Int))) || (decide (n = (64:Int)))))) c1)))] _ _ (by kernel_rfl) hk
  refine A.ret ?_
  obtain rfl := some_inj hm
  exact A.fin W0 [] rfl (by kernel_rfl)
theorem m_advert_in_ok {n : Int} {least : Int} {most : Int} {r : Bool} (hm : m_advert_in n least most = some r) : RO Tryz.prog 64 [] [.int .i64 n, .int .i64 least, .int .i64 most] (.bool r) := by
  refine enterA Tryz.func64 rfl rfl ?_
  unfold m_advert_in at hm
  refine A.RS W0 [] [] [(0, .int .i64 n), (1, .int .i64 least), (2, .int .i64 most)] [] (by kernel_rfl) ?_
  refine A.mid [(6, .bool ((decide (least ≤ n)) && (decide (n ≤ most))))] [] (fun hk => ?_) ?_
  · skip
    rcases tf (decide (least ≤ n)) with c1 | c1
    · skip
      exact A.RS W0 [] [(3, hto (bE c1)), (8, hto (andT (q := decide (n ≤ most)) c1))] _ _ (by kernel_rfl) hk
    exact A.RS W0 [] [(3, hto (bE c1)), (8, hto (andF (q := decide (n ≤ most)) c1))] _ _ (by kernel_rfl) hk
  refine A.ret ?_
  obtain rfl := some_inj hm
  exact A.fin W0 [] rfl (by kernel_rfl)
theorem m_advert_Valid_ok {a : GAdvert} {r : Bool} (hm : m_advert_Valid a = some r) : RO Tryz.prog 37 [] [.agg [.int .i64 a.Router, .int .i64 a.Seq, .bool a.Capable, .lst false (ml eGReach a.Links), .lst false (ml eGClaim a.Claims)]] (.bool r) := by
  refine enterA Tryz.func37 rfl rfl ?_
  unfold m_advert_Valid at hm
  refine A.RS W0 [] [(0, .al 37001)] [(1, .ptr 37001 0)] [(37001, .cells 29 [.int .i64 a.Router, .int .i64 a.Seq, .bool a.Capable, .lst false (ml eGReach a.Links), .lst false (ml eGClaim a.Claims)])] (by kernel_rfl) ?_
  refine A.seq ?_
  obtain ⟨J1, hJ1, hm⟩ := jn_some hm
  refine A.J (J := J1) (r := r) (fun v_1 => [(1, .ptr 37001 0), (28, .bool v_1)]) (fun v_1 => [(37001, .cells 29 [.int .i64 a.Router, .int .i64 a.Seq, .bool a.Capable, .lst false (ml eGReach a.Links), .lst false (ml eGClaim a.Claims)])]) ?_ ?_
  · skip
    obtain ⟨vx_1, h1, hm⟩ := bnd_some hm
    rcases cs_some hm with ⟨c1, hm⟩ | ⟨c1, hm⟩
    · skip
      refine A.R W0 [] [(2, hro (m_advert_in_ok h1) ck64), (4, hto (bE c1))] [(1, .ptr 37001 0), (28, .bool true)] [(37001, .cells 29 [.int .i64 a.Router, .int .i64 a.Seq, .bool a.Capable, .lst false (ml eGReach a.Links), .lst false (ml eGClaim a.Claims)])] (by kernel_rfl) ?_
      exact Exists.intro true (And.intro hm (Weak.go [] [] (by kernel_rfl)))
    obtain ⟨vx_2, h2, hm⟩ := bnd_some hm
    rcases cs_some hm with ⟨c2, hm⟩ | ⟨c2, hm⟩
    · skip
      refine A.R W0 [] [(2, hro (m_advert_in_ok h1) ck64), (4, hto (bE c1)), (7, hro (m_advert_in_ok h2) ck64), (10, hto (bE c2))] [(1, .ptr 37001 0), (28, .bool true)] [(37001, .cells 29 [.int .i64 a.Router, .int .i64 a.Seq, .bool a.Capable, .lst false (ml eGReach a.Links), .lst false (ml eGClaim a.Claims)])] (by kernel_rfl) ?_
      exact Exists.intro true (And.intro hm (Weak.go [] [] (by kernel_rfl)))
    rcases cs_some hm with ⟨c3, hm⟩ | ⟨c3, hm⟩
    · skip
      refine A.R W0 [] [(2, hro (m_advert_in_ok h1) ck64), (4, hto (bE c1)), (7, hro (m_advert_in_ok h2) ck64), (10, hto (bE c2)), (13, hto (lnE eGReach a.Links)), (16, hto (bE c3))] [(1, .ptr 37001 0), (28, .bool true)] [(37001, .cells 29 [.int .i64 a.Router, .int .i64 a.Seq, .bool a.Capable, .lst false (ml eGReach a.Links), .lst false (ml eGClaim a.Claims)])] (by kernel_rfl) ?_
      exact Exists.intro true (And.intro hm (Weak.go [] [] (by kernel_rfl)))
    refine A.R W0 [] [(2, hro (m_advert_in_ok h1) ck64), (4, hto (bE c1)), (7, hro (m_advert_in_ok h2) ck64), (10, hto (bE c2)), (13, hto (lnE eGReach a.Links)), (16, hto (bE c3)), (19, hto (lnE eGClaim a.Claims))] [(1, .ptr 37001 0), (28, .bool (decide ((8:Int) < (a.Claims.length:Int))))] [(37001, .cells 29 [.int .i64 a.Router, .int .i64 a.Seq, .bool a.Capable, .lst false (ml eGReach a.Links), .lst false (ml eGClaim a.Claims)])] (by kernel_rfl) ?_
    exact Exists.intro (decide ((8:Int) < (a.Claims.length:Int))) (And.intro hm (Weak.go [] [] (by kernel_rfl)))
  rintro v_1 hm
  rw [hJ1] at hm
  rcases cs_some hm with ⟨c4, hm⟩ | ⟨c4, hm⟩
  · skip
    refine A.cT rfl c4 ?_
    refine A.RS W0 [] [] [(2, .bool false)] [] (by kernel_rfl) ?_
    refine A.ret ?_
    obtain rfl := some_inj hm
    exact A.fin W0 [] rfl (by kernel_rfl)
  refine A.cF rfl c4 ?_
  refine A.skip ?_
  show acode _ _ _ _ _
  refine A.seq ?_
  refine A.RS W0 [] [(2, hto (lnE eGReach a.Links))] [(1, .ptr 37001 0), (30, .lst false (ml eGReach a.Links)), (31, .int .i64 (a.Links.length:Int)), (32, .int .i64 (0:Int))] [(37001, .cells 29 [.int .i64 a.Router, .int .i64 a.Seq, .bool a.Capable, .lst false (ml eGReach a.Links), .lst false (ml eGClaim a.Claims)])] (by kernel_rfl) ?_
  refine A.block ?_
  refine A.bS 30 rfl fun hb1 => ?_
  obtain ⟨B1, K1, hB1, hK1, hm⟩ := forI_some hm
  refine A.lpI (l := a.Links) (j0 := 0) (B := B1) (K := K1) hm (fun j1 => fun sg => match sg with | () => [(1, .ptr 37001 0), (30, .lst false (ml eGReach a.Links)), (31, .int .i64 (a.Links.length:Int)), (32, .int .i64 (j1 : Int))]) (fun j1 => fun sg => match sg with | () => [(37001, .cells 29 [.int .i64 a.Router, .int .i64 a.Seq, .bool a.Capable, .lst false (ml eGReach a.Links), .lst false (ml eGClaim a.Claims)])]) ?_ ?_ ?_
  · exact Weak.go [] [] (by kernel_rfl)
  · skip
    rintro j1 e1 Z1 ⟨⟩ hj1 hx1 hm
    rw [hB1] at hm
    refine A.RS W0 [] [] [(1, .ptr 37001 0), (30, .lst false (ml eGReach a.Links)), (31, .int .i64 (a.Links.length:Int)), (32, .int .i64 (j1 : Int)), (33, .bool (decide ((j1 : Int) < (a.Links.length:Int))))] [(37001, .cells 29 [.int .i64 a.Router, .int .i64 a.Seq, .bool a.Capable, .lst false (ml eGReach a.Links), .lst false (ml eGClaim a.Claims)])] (by kernel_rfl) ?_
    refine A.seq ?_
    refine A.cT rfl (ltT hx1) ?_
    refine A.skip ?_
    show acode _ _ _ _ _
    refine A.seq ?_
    refine A.block ?_
    refine A.RS W0 [] [(1, hix (ix eGReach (elO_nat hx1))), (3, .al 37004)] [(1, .ptr 37001 0), (30, .lst false (ml eGReach a.Links)), (31, .int .i64 (a.Links.length:Int)), (32, .int .i64 (j1 : Int)), (4, .ptr 37004 0), (3, .int .i64 (j1 : Int))] [(37001, .cells 29 [.int .i64 a.Router, .int .i64 a.Seq, .bool a.Capable, .lst false (ml eGReach a.Links), .lst false (ml eGClaim a.Claims)]), (37004, .cells 74 [.int .i64 e1.Neighbour, .int .i64 e1.Cost, .int .i64 e1.Capacity])] (by kernel_rfl) ?_
    obtain ⟨J2, hJ2, hm⟩ := jn_some hm
    refine A.J (J := J2) (r := r) (fun v_2 => [(1, .ptr 37001 0), (30, .lst false (ml eGReach a.Links)), (31, .int .i64 (a.Links.length:Int)), (32, .int .i64 (j1 : Int)), (75, .bool v_2)]) (fun v_2 => [(37001, .cells 29 [.int .i64 a.Router, .int .i64 a.Seq, .bool a.Capable, .lst false (ml eGReach a.Links), .lst false (ml eGClaim a.Claims)])]) ?_ ?_
    · skip
      obtain ⟨vx_3, h3, hm⟩ := bnd_some hm
      rcases cs_some hm with ⟨c5, hm⟩ | ⟨c5, hm⟩
      · skip
        refine A.R W0 [] [(2, hro (m_advert_in_ok h3) ck64), (4, hto (bE c5))] [(1, .ptr 37001 0), (30, .lst false (ml eGReach a.Links)), (31, .int .i64 (a.Links.length:Int)), (32, .int .i64 (j1 : Int)), (75, .bool true)] [(37001, .cells 29 [.int .i64 a.Router, .int .i64 a.Seq, .bool a.Capable, .lst false (ml eGReach a.Links), .lst false (ml eGClaim a.Claims)])] (by kernel_rfl) ?_
        exact Exists.intro true (And.intro hm (Weak.go [] [] (by kernel_rfl)))
      rcases cs_some hm with ⟨c6, hm⟩ | ⟨c6, hm⟩
      · skip
        refine A.R W0 [] [(2, hro (m_advert_in_ok h3) ck64), (4, hto (bE c5)), (11, hto (bE c6))] [(1, .ptr 37001 0), (30, .lst false (ml eGReach a.Links)), (31, .int .i64 (a.Links.length:Int)), (32, .int .i64 (j1 : Int)), (75, .bool true)] [(37001, .cells 29 [.int .i64 a.Router, .int .i64 a.Seq, .bool a.Capable, .lst false (ml eGReach a.Links), .lst false (ml eGClaim a.Claims)])] (by kernel_rfl) ?_
        exact Exists.intro true (And.intro hm (Weak.go [] [] (by kernel_rfl)))
      obtain ⟨vx_4, h4, hm⟩ := bnd_some hm
      rcases cs_some hm with ⟨c7, hm⟩ | ⟨c7, hm⟩
      · skip
        refine A.R W0 [] [(2, hro (m_advert_in_ok h3) ck64), (4, hto (bE c5)), (11, hto (bE c6)), (14, hro (m_advert_in_ok h4) ck64), (17, hto (bE c7))] [(1, .ptr 37001 0), (30, .lst false (ml eGReach a.Links)), (31, .int .i64 (a.Links.length:Int)), (32, .int .i64 (j1 : Int)), (75, .bool true)] [(37001, .cells 29 [.int .i64 a.Router, .int .i64 a.Seq, .bool a.Capable, .lst false (ml eGReach a.Links), .lst false (ml eGClaim a.Claims)])] (by kernel_rfl) ?_
        exact Exists.intro true (And.intro hm (Weak.go [] [] (by kernel_rfl)))
      obtain ⟨vx_5, h5, hm⟩ := bnd_some hm
      rcases cs_some hm with ⟨c8, hm⟩ | ⟨c8, hm⟩
      · skip
        refine A.R W0 [] [(2, hro (m_advert_in_ok h3) ck64), (4, hto (bE c5)), (11, hto (bE c6)), (14, hro (m_advert_in_ok h4) ck64), (17, hto (bE c7)), (20, hro (m_advert_in_ok h5) ck64), (23, hto (bE c8))] [(1, .ptr 37001 0), (30, .lst false (ml eGReach a.Links)), (31, .int .i64 (a.Links.length:Int)), (32, .int .i64 (j1 : Int)), (75, .bool true)] [(37001, .cells 29 [.int .i64 a.Router, .int .i64 a.Seq, .bool a.Capable, .lst false (ml eGReach a.Links), .lst false (ml eGClaim a.Claims)])] (by kernel_rfl) ?_
        exact Exists.intro true (And.intro hm (Weak.go [] [] (by kernel_rfl)))
      rcases cs_some hm with ⟨c9, hm⟩ | ⟨c9, hm⟩
      · skip
        obtain ⟨e_1, h6, hm⟩ := bnd_some hm
        refine A.R W0 [] [(2, hro (m_advert_in_ok h3) ck64), (4, hto (bE c5)), (11, hto (bE c6)), (14, hro (m_advert_in_ok h4) ck64), (17, hto (bE c7)), (20, hro (m_advert_in_ok h5) ck64), (23, hto (bE c8)), (26, hto (bE c9)), (31, hix (ix eGReach h6))] [(1, .ptr 37001 0), (30, .lst false (ml eGReach a.Links)), (31, .int .i64 (a.Links.length:Int)), (32, .int .i64 (j1 : Int)), (75, .bool (decide (e1.Neighbour ≤ e_1.Neighbour)))] [(37001, .cells 29 [.int .i64 a.Router, .int .i64 a.Seq, .bool a.Capable, .lst false (ml eGReach a.Links), .lst false (ml eGClaim a.Claims)])] (by kernel_rfl) ?_
        exact Exists.intro (decide (e1.Neighbour ≤ e_1.Neighbour)) (And.intro hm (Weak.go [] [] (by kernel_rfl)))
      refine A.R W0 [] [(2, hro (m_advert_in_ok h3) ck64), (4, hto (bE c5)), (11, hto (bE c6)), (14, hro (m_advert_in_ok h4) ck64), (17, hto (bE c7)), (20, hro (m_advert_in_ok h5) ck64), (23, hto (bE c8)), (26, hto (bE c9))] [(1, .ptr 37001 0), (30, .lst false (ml eGReach a.Links)), (31, .int .i64 (a.Links.length:Int)), (32, .int .i64 (j1 : Int)), (75, .bool false)] [(37001, .cells 29 [.int .i64 a.Router, .int .i64 a.Seq, .bool a.Capable, .lst false (ml eGReach a.Links), .lst false (ml eGClaim a.Claims)])] (by kernel_rfl) ?_
      exact Exists.intro false (And.intro hm (Weak.go [] [] (by kernel_rfl)))
    rintro v_2 hm
    rw [hJ2] at hm
    rcases cs_some hm with ⟨c10, hm⟩ | ⟨c10, hm⟩
    · skip
      refine A.cT rfl c10 ?_
      refine A.RS W0 [] [] [(2, .bool false)] [] (by kernel_rfl) ?_
      refine A.ret ?_
      obtain rfl := some_inj hm
      exact A.fin W0 [] rfl (by kernel_rfl)
    refine A.cF rfl c10 ?_
    refine A.skip ?_
    show acode _ _ _ _ _
    refine A.R W0 [] [(0, hto (inc hx1 hb1))] [(1, .ptr 37001 0), (30, .lst false (ml eGReach a.Links)), (31, .int .i64 (a.Links.length:Int)), (32, .int .i64 ((j1 + 1 : Nat) : Int))] [(37001, .cells 29 [.int .i64 a.Router, .int .i64 a.Seq, .bool a.Capable, .lst false (ml eGReach a.Links), .lst false (ml eGClaim a.Claims)])] (by kernel_rfl) ?_
    exact Exists.intro () (And.intro hm (Weak.go [] [] (by kernel_rfl)))
  rintro j1 ⟨⟩ hj1 hl1 hm
  rw [hK1] at hm
  refine A.RS W0 [] [] [(1, .ptr 37001 0), (30, .lst false (ml eGReach a.Links)), (31, .int .i64 (a.Links.length:Int)), (32, .int .i64 (j1 : Int)), (33, .bool (decide ((j1 : Int) < (a.Links.length:Int))))] [(37001, .cells 29 [.int .i64 a.Router, .int .i64 a.Seq, .bool a.Capable, .lst false (ml eGReach a.Links), .lst false (ml eGClaim a.Claims)])] (by kernel_rfl) ?_
  refine A.seq ?_
  refine A.cF rfl (ltF hl1) ?_
  refine A.exit ?_
  show acode _ _ _ _ _
  refine A.seq ?_
  refine A.RS W0 [] [(2, hto (lnE eGClaim a.Claims))] [(1, .ptr 37001 0), (78, .lst false (ml eGClaim a.Claims)), (79, .int .i64 (a.Claims.length:Int)), (80, .int .i64 (0:Int))] [(37001, .cells 29 [.int .i64 a.Router, .int .i64 a.Seq, .bool a.Capable, .lst false (ml eGReach a.Links), .lst false (ml eGClaim a.Claims)])] (by kernel_rfl) ?_
  refine A.block ?_
  refine A.bS 78 rfl fun hb2 => ?_
  obtain ⟨B2, K2, hB2, hK2, hm⟩ := forI_some hm
  refine A.lpI (l := a.Claims) (j0 := 0) (B := B2) (K := K2) hm (fun j2 => fun sg => match sg with | () => [(1, .ptr 37001 0), (78, .lst false (ml eGClaim a.Claims)), (79, .int .i64 (a.Claims.length:Int)), (80, .int .i64 (j2 : Int))]) (fun j2 => fun sg => match sg with | () => [(37001, .cells 29 [.int .i64 a.Router, .int .i64 a.Seq, .bool a.Capable, .lst false (ml eGReach a.Links), .lst false (ml eGClaim a.Claims)])]) ?_ ?_ ?_
  · exact Weak.go [] [] (by kernel_rfl)
  · skip
    rintro j2 e2 Z2 ⟨⟩ hj2 hx2 hm
    rw [hB2] at hm
    refine A.RS W0 [] [] [(1, .ptr 37001 0), (78, .lst false (ml eGClaim a.Claims)), (79, .int .i64 (a.Claims.length:Int)), (80, .int .i64 (j2 : Int)), (81, .bool (decide ((j2 : Int) < (a.Claims.length:Int))))] [(37001, .cells 29 [.int .i64 a.Router, .int .i64 a.Seq, .bool a.Capable, .lst false (ml eGReach a.Links), .lst false (ml eGClaim a.Claims)])] (by kernel_rfl) ?_
    refine A.seq ?_
    refine A.cT rfl (ltT hx2) ?_
    refine A.skip ?_
    show acode _ _ _ _ _
    refine A.seq ?_
    refine A.block ?_
    refine A.RS W0 [] [(1, hix (ix eGClaim (elO_nat hx2))), (3, .al 37006)] [(1, .ptr 37001 0), (78, .lst false (ml eGClaim a.Claims)), (79, .int .i64 (a.Claims.length:Int)), (80, .int .i64 (j2 : Int)), (6, .ptr 37006 0), (5, .int .i64 (j2 : Int))] [(37001, .cells 29 [.int .i64 a.Router, .int .i64 a.Seq, .bool a.Capable, .lst false (ml eGReach a.Links), .lst false (ml eGClaim a.Claims)]), (37006, .cells 77 [.int .i64 e2.Subdomain, .int .i64 e2.ID, .int .i64 e2.Length])] (by kernel_rfl) ?_
    obtain ⟨J3, hJ3, hm⟩ := jn_some hm
    refine A.J (J := J3) (r := r) (fun v_3 => [(1, .ptr 37001 0), (78, .lst false (ml eGClaim a.Claims)), (79, .int .i64 (a.Claims.length:Int)), (80, .int .i64 (j2 : Int)), (116, .bool v_3)]) (fun v_3 => [(37001, .cells 29 [.int .i64 a.Router, .int .i64 a.Seq, .bool a.Capable, .lst false (ml eGReach a.Links), .lst false (ml eGClaim a.Claims)])]) ?_ ?_
    · skip
      obtain ⟨vx_6, h7, hm⟩ := bnd_some hm
      rcases cs_some hm with ⟨c11, hm⟩ | ⟨c11, hm⟩
      · skip
        refine A.R W0 [] [(2, hro (m_advert_in_ok h7) ck64), (4, hto (bE c11))] [(1, .ptr 37001 0), (78, .lst false (ml eGClaim a.Claims)), (79, .int .i64 (a.Claims.length:Int)), (80, .int .i64 (j2 : Int)), (116, .bool true)] [(37001, .cells 29 [.int .i64 a.Router, .int .i64 a.Seq, .bool a.Capable, .lst false (ml eGReach a.Links), .lst false (ml eGClaim a.Claims)])] (by kernel_rfl) ?_
        exact Exists.intro true (And.intro hm (Weak.go [] [] (by kernel_rfl)))
      obtain ⟨vx_7, h8, hm⟩ := bnd_some hm
      rcases cs_some hm with ⟨c12, hm⟩ | ⟨c12, hm⟩
      · skip
        refine A.R W0 [] [(2, hro (m_advert_in_ok h7) ck64), (4, hto (bE c11)), (7, hro (m_advert_in_ok h8) ck64), (10, hto (bE c12))] [(1, .ptr 37001 0), (78, .lst false (ml eGClaim a.Claims)), (79, .int .i64 (a.Claims.length:Int)), (80, .int .i64 (j2 : Int)), (116, .bool true)] [(37001, .cells 29 [.int .i64 a.Router, .int .i64 a.Seq, .bool a.Capable, .lst false (ml eGReach a.Links), .lst false (ml eGClaim a.Claims)])] (by kernel_rfl) ?_
        exact Exists.intro true (And.intro hm (Weak.go [] [] (by kernel_rfl)))
      obtain ⟨vx_8, h9, hm⟩ := bnd_some hm
      rcases cs_some hm with ⟨c13, hm⟩ | ⟨c13, hm⟩
      · skip
        refine A.R W0 [] [(2, hro (m_advert_in_ok h7) ck64), (4, hto (bE c11)), (7, hro (m_advert_in_ok h8) ck64), (10, hto (bE c12)), (13, hro (m_bitset_ValidLength_ok h9) ck65), (16, hto (bE c13))] [(1, .ptr 37001 0), (78, .lst false (ml eGClaim a.Claims)), (79, .int .i64 (a.Claims.length:Int)), (80, .int .i64 (j2 : Int)), (116, .bool true)] [(37001, .cells 29 [.int .i64 a.Router, .int .i64 a.Seq, .bool a.Capable, .lst false (ml eGReach a.Links), .lst false (ml eGClaim a.Claims)])] (by kernel_rfl) ?_
        exact Exists.intro true (And.intro hm (Weak.go [] [] (by kernel_rfl)))
      rcases cs_some hm with ⟨c14, hm⟩ | ⟨c14, hm⟩
      · skip
        obtain ⟨e_2, h10, hm⟩ := bnd_some hm
        refine A.R W0 [] [(2, hro (m_advert_in_ok h7) ck64), (4, hto (bE c11)), (7, hro (m_advert_in_ok h8) ck64), (10, hto (bE c12)), (13, hro (m_bitset_ValidLength_ok h9) ck65), (16, hto (bE c13)), (19, hto (bE c14)), (24, hix (ix eGClaim h10))] [(1, .ptr 37001 0), (78, .lst false (ml eGClaim a.Claims)), (79, .int .i64 (a.Claims.length:Int)), (80, .int .i64 (j2 : Int)), (116, .bool (decide (e2.Subdomain ≤ e_2.Subdomain)))] [(37001, .cells 29 [.int .i64 a.Router, .int .i64 a.Seq, .bool a.Capable, .lst false (ml eGReach a.Links), .lst false (ml eGClaim a.Claims)])] (by kernel_rfl) ?_
        exact Exists.intro (decide (e2.Subdomain ≤ e_2.Subdomain)) (And.intro hm (Weak.go [] [] (by kernel_rfl)))
      refine A.R W0 [] [(2, hro (m_advert_in_ok h7) ck64), (4, hto (bE c11)), (7, hro (m_advert_in_ok h8) ck64), (10, hto (bE c12)), (13, hro (m_bitset_ValidLength_ok h9) ck65), (16, hto (bE c13)), (19, hto (bE c14))] [(1, .ptr 37001 0), (78, .lst false (ml eGClaim a.Claims)), (79, .int .i64 (a.Claims.length:Int)), (80, .int .i64 (j2 : Int)), (116, .bool false)] [(37001, .cells 29 [.int .i64 a.Router, .int .i64 a.Seq, .bool a.Capable, .lst false (ml eGReach a.Links), .lst false (ml eGClaim a.Claims)])] (by kernel_rfl) ?_
      exact Exists.intro false (And.intro hm (Weak.go [] [] (by kernel_rfl)))
    rintro v_3 hm
    rw [hJ3] at hm
    rcases cs_some hm with ⟨c15, hm⟩ | ⟨c15, hm⟩
    · skip
      refine A.cT rfl c15 ?_
      refine A.RS W0 [] [] [(2, .bool false)] [] (by kernel_rfl) ?_
      refine A.ret ?_
      obtain rfl := some_inj hm
      exact A.fin W0 [] rfl (by kernel_rfl)
    refine A.cF rfl c15 ?_
    refine A.skip ?_
    show acode _ _ _ _ _
    refine A.R W0 [] [(0, hto (inc hx2 hb2))] [(1, .ptr 37001 0), (78, .lst false (ml eGClaim a.Claims)), (79, .int .i64 (a.Claims.length:Int)), (80, .int .i64 ((j2 + 1 : Nat) : Int))] [(37001, .cells 29 [.int .i64 a.Router, .int .i64 a.Seq, .bool a.Capable, .lst false (ml eGReach a.Links), .lst false (ml eGClaim a.Claims)])] (by kernel_rfl) ?_
    exact Exists.intro () (And.intro hm (Weak.go [] [] (by kernel_rfl)))
  rintro j2 ⟨⟩ hj2 hl2 hm
  rw [hK2] at hm
  refine A.RS W0 [] [] [(1, .ptr 37001 0), (78, .lst false (ml eGClaim a.Claims)), (79, .int .i64 (a.Claims.length:Int)), (80, .int .i64 (j2 : Int)), (81, .bool (decide ((j2 : Int) < (a.Claims.length:Int))))] [(37001, .cells 29 [.int .i64 a.Router, .int .i64 a.Seq, .bool a.Capable, .lst false (ml eGReach a.Links), .lst false (ml eGClaim a.Claims)])] (by kernel_rfl) ?_
  refine A.seq ?_
  refine A.cF rfl (ltF hl2) ?_
  refine A.exit ?_
  show acode _ _ _ _ _
  refine A.RS W0 [] [] [(2, .bool true)] [] (by kernel_rfl) ?_
  refine A.ret ?_
  obtain rfl := some_inj hm
  exact A.fin W0 [] rfl (by kernel_rfl)
theorem m_slices_Clone_Lapi_Reach_api_Reach_l_ok {sa0 : List GReach} (hne_sa0 : ml eGReach sa0 ≠ []) {r : (List GReach)} (hm : m_slices_Clone_Lapi_Reach_api_Reach_l sa0 = some r) : SCalls Tryz.prog 90 [] [.lst false (ml eGReach sa0)] (fun a σ' => a = .own 500009000 ∧ σ' = [(500009000, .slice 74 3 (ml eGReach r) 0 false)]) := by
  refine enterA Tryz.func90 rfl rfl ?_
  unfold m_slices_Clone_Lapi_Reach_api_Reach_l at hm
  refine A.RS W0 [] [] [(0, .lst false (ml eGReach sa0))] [] (by kernel_rfl) ?_
  refine A.seq ?_
  refine A.RS W0 [] [(1, .sn false (.lst false (ml eGReach sa0)) (nnil_lst hne_sa0))] [(0, .lst false (ml eGReach sa0)), (4, .bool false)] [] (by kernel_rfl) ?_
  refine A.cF rfl rfl ?_
  refine A.skip ?_
  show acode _ _ _ _ _
  obtain ⟨l_1, h1, hm⟩ := bnd_some hm
  refine A.RS W0 [] [(0, .al 90005), (2, hap 90507 (ap eGReach (bytes := 24) (by decide) h1))] [(2, .own 90507)] [(90507, .slice 74 3 (ml eGReach l_1) 0 false)] (by kernel_rfl) ?_
  refine A.ret ?_
  obtain rfl := some_inj hm
  exact A.fin W0 [.sw 90507 500009000] rfl (by kernel_rfl)
theorem m_slices_Clone_Lapi_Reach_api_Reach_0_ok  {r : (List GReach)} (hm : m_slices_Clone_Lapi_Reach_api_Reach_0 = some r) : SCalls Tryz.prog 90 [] [.sl0] (fun a σ' => a = .own 500009000 ∧ σ' = [(500009000, .slice 74 3 (ml eGReach r) 0 false)]) := by
  refine enterA Tryz.func90 rfl rfl ?_
  unfold m_slices_Clone_Lapi_Reach_api_Reach_0 at hm
  refine A.RS W0 [] [] [(0, .sl0)] [] (by kernel_rfl) ?_
  refine A.seq ?_
  refine A.RS W0 [] [(1, .sn false .sl0 (nnil_sl0))] [(0, .sl0), (4, .bool false)] [] (by kernel_rfl) ?_
  refine A.cF rfl rfl ?_
  refine A.skip ?_
  show acode _ _ _ _ _
  obtain ⟨l_1, h1, hm⟩ := bnd_some hm
  refine A.RS W0 [] [(0, .al 90005), (2, hap 90507 (ap eGReach (bytes := 24) (by decide) h1))] [(2, .own 90507)] [(90507, .slice 74 3 (ml eGReach l_1) 0 false)] (by kernel_rfl) ?_
  refine A.ret ?_
  obtain rfl := some_inj hm
  exact A.fin W0 [.sw 90507 500009000] rfl (by kernel_rfl)
theorem m_slices_Clone_Lapi_Reach_api_Reach_n (n c : Nat) (w : World) : Calls Tryz.prog 90 #[.slice none n c] w fun e w' => e = .returned (.slice none 0 0) ∧ w' = w := by
  have q : ∀ (w : World) (a : Option Addr) (n c n' c' : Nat), (binOp .eql 26 (.slice a n c) (.slice none n' c')).run Tryz.prog w = .ok (.bool a.isNone) w := fun w a n c n' c' => Lib.run_eql_slice_nil w _ _ a n c n' c' Tryz.underlying26
  go_enter Tryz.func90, Tryz.ntmps90
  go_wp2
  go_ret
  exact ⟨rfl, rfl⟩
theorem m_slices_Clone_Lapi_Reach_api_Reach_ok {s r : List GReach} (hm : m_slices_Clone_Lapi_Reach_api_Reach s = some r) : SCalls Tryz.prog 90 [] [.lst false (ml eGReach s)] (fun a σ' => a = .own 500009000 ∧ σ' = [(500009000, .slice 74 3 (ml eGReach r) 0 false)]) := by
  obtain rfl : s = r := by
    unfold m_slices_Clone_Lapi_Reach_api_Reach m_slices_Clone_Lapi_Reach_api_Reach_l at hm
    obtain ⟨l, h, hm⟩ := bnd_some hm
    have := (appO_eq h).symm
    simp at this; subst this
    exact some_inj hm
  refine clone_own m_slices_Clone_Lapi_Reach_api_Reach_n (fun h => m_slices_Clone_Lapi_Reach_api_Reach_l_ok h hm) (fun h => ?_) (fun h => h)
  have h0 : s = [] := by cases s with | nil => rfl | cons a b => simp [ml] at h
  subst h0
  exact m_slices_Clone_Lapi_Reach_api_Reach_0_ok hm
theorem m_slices_Clone_Lapi_Claim_api_Claim_l_ok {sa0 : List GClaim} (hne_sa0 : ml eGClaim sa0 ≠ []) {r : (List GClaim)} (hm : m_slices_Clone_Lapi_Claim_api_Claim_l sa0 = some r) : SCalls Tryz.prog 91 [] [.lst false (ml eGClaim sa0)] (fun a σ' => a = .own 500009100 ∧ σ' = [(500009100, .slice 77 3 (ml eGClaim r) 0 false)]) := by
  refine enterA Tryz.func91 rfl rfl ?_
  unfold m_slices_Clone_Lapi_Claim_api_Claim_l at hm
  refine A.RS W0 [] [] [(0, .lst false (ml eGClaim sa0))] [] (by kernel_rfl) ?_
  refine A.seq ?_
  refine A.RS W0 [] [(1, .sn false (.lst false (ml eGClaim sa0)) (nnil_lst hne_sa0))] [(0, .lst false (ml eGClaim sa0)), (4, .bool false)] [] (by kernel_rfl) ?_
  refine A.cF rfl rfl ?_
  refine A.skip ?_
  show acode _ _ _ _ _
  obtain ⟨l_1, h1, hm⟩ := bnd_some hm
  refine A.RS W0 [] [(0, .al 91005), (2, hap 91507 (ap eGClaim (bytes := 24) (by decide) h1))] [(2, .own 91507)] [(91507, .slice 77 3 (ml eGClaim l_1) 0 false)] (by kernel_rfl) ?_
  refine A.ret ?_
  obtain rfl := some_inj hm
  exact A.fin W0 [.sw 91507 500009100] rfl (by kernel_rfl)
theorem m_slices_Clone_Lapi_Claim_api_Claim_0_ok  {r : (List GClaim)} (hm : m_slices_Clone_Lapi_Claim_api_Claim_0 = some r) : SCalls Tryz.prog 91 [] [.sl0] (fun a σ' => a = .own 500009100 ∧ σ' = [(500009100, .slice 77 3 (ml eGClaim r) 0 false)]) := by
  refine enterA Tryz.func91 rfl rfl ?_
  unfold m_slices_Clone_Lapi_Claim_api_Claim_0 at hm
  refine A.RS W0 [] [] [(0, .sl0)] [] (by kernel_rfl) ?_
  refine A.seq ?_
  refine A.RS W0 [] [(1, .sn false .sl0 (nnil_sl0))] [(0, .sl0), (4, .bool false)] [] (by kernel_rfl) ?_
  refine A.cF rfl rfl ?_
  refine A.skip ?_
  show acode _ _ _ _ _
  obtain ⟨l_1, h1, hm⟩ := bnd_some hm
  refine A.RS W0 [] [(0, .al 91005), (2, hap 91507 (ap eGClaim (bytes := 24) (by decide) h1))] [(2, .own 91507)] [(91507, .slice 77 3 (ml eGClaim l_1) 0 false)] (by kernel_rfl) ?_
  refine A.ret ?_
  obtain rfl := some_inj hm
  exact A.fin W0 [.sw 91507 500009100] rfl (by kernel_rfl)
theorem m_slices_Clone_Lapi_Claim_api_Claim_n (n c : Nat) (w : World) : Calls Tryz.prog 91 #[.slice none n c] w fun e w' => e = .returned (.slice none 0 0) ∧ w' = w := by
  have q : ∀ (w : World) (a : Option Addr) (n c n' c' : Nat), (binOp .eql 27 (.slice a n c) (.slice none n' c')).run Tryz.prog w = .ok (.bool a.isNone) w := fun w a n c n' c' => Lib.run_eql_slice_nil w _ _ a n c n' c' Tryz.underlying27
  go_enter Tryz.func91, Tryz.ntmps91
  go_wp2
  go_ret
  exact ⟨rfl, rfl⟩
theorem m_slices_Clone_Lapi_Claim_api_Claim_ok {s r : List GClaim} (hm : m_slices_Clone_Lapi_Claim_api_Claim s = some r) : SCalls Tryz.prog 91 [] [.lst false (ml eGClaim s)] (fun a σ' => a = .own 500009100 ∧ σ' = [(500009100, .slice 77 3 (ml eGClaim r) 0 false)]) := by
  obtain rfl : s = r := by
    unfold m_slices_Clone_Lapi_Claim_api_Claim m_slices_Clone_Lapi_Claim_api_Claim_l at hm
    obtain ⟨l, h, hm⟩ := bnd_some hm
    have := (appO_eq h).symm
    simp at this; subst this
    exact some_inj hm
  refine clone_own m_slices_Clone_Lapi_Claim_api_Claim_n (fun h => m_slices_Clone_Lapi_Claim_api_Claim_l_ok h hm) (fun h => ?_) (fun h => h)
  have h0 : s = [] := by cases s with | nil => rfl | cons a b => simp [ml] at h
  subst h0
  exact m_slices_Clone_Lapi_Claim_api_Claim_0_ok hm
theorem m_database_copied_ok {a : GAdvert} {r : GAdvert} (hm : m_database_copied a = some r) : RO Tryz.prog 60 [] [.agg [.int .i64 a.Router, .int .i64 a.Seq, .bool a.Capable, .lst false (ml eGReach a.Links), .lst false (ml eGClaim a.Claims)]] (.agg [.int .i64 r.Router, .int .i64 r.Seq, .bool r.Capable, .lst false (ml eGReach r.Links), .lst false (ml eGClaim r.Claims)]) := by
  refine enterA Tryz.func60 rfl rfl ?_
  unfold m_database_copied at hm
  refine A.RS W0 [] [(0, .al 60001), (1, .al 60002)] [(1, .ptr 60001 0), (2, .ptr 60002 0)] [(60001, .cells 29 [.int .i64 a.Router, .int .i64 a.Seq, .bool a.Capable, .lst false (ml eGReach a.Links), .lst false (ml eGClaim a.Claims)]), (60002, .cells 29 [.int .i64 (0:Int), .int .i64 (0:Int), .bool false, .nils, .nils])] (by kernel_rfl) ?_
  obtain ⟨vx_1, h1, hm⟩ := bnd_some hm
  obtain ⟨vx_2, h2, hm⟩ := bnd_some hm
  refine A.RS W0 [] [(2, hdc [500009000] (m_slices_Clone_Lapi_Reach_api_Reach_ok h1) ck90), (5, hdc [500009100] (m_slices_Clone_Lapi_Claim_api_Claim_ok h2) ck91)] [(1, .ptr 60001 0), (2, .ptr 60002 0)] [(60001, .cells 29 [.int .i64 a.Router, .int .i64 a.Seq, .bool a.Capable, .own 500009000, .own 500009100]), (60002, .cells 29 [.int .i64 (0:Int), .int .i64 (0:Int), .bool false, .nils, .nils]), (500009000, .slice 74 3 (ml eGReach vx_1) 0 false), (500009100, .slice 77 3 (ml eGClaim vx_2) 0 false)] (by kernel_rfl) ?_
  refine A.RS W0 [] [] [(2, .ptr 60002 0)] [(60002, .cells 29 [.int .i64 a.Router, .int .i64 a.Seq, .bool a.Capable, .own 500009000, .own 500009100]), (500009000, .slice 74 3 (ml eGReach vx_1) 0 false), (500009100, .slice 77 3 (ml eGClaim vx_2) 0 false)] (by kernel_rfl) ?_
  refine A.ret ?_
  obtain rfl := some_inj hm
  exact A.fin W0 [.fz [500009000, 500009100]] rfl (by kernel_rfl)
theorem m_database_Check_1_ok {a : GAdvert} {r : Bool} (hm : m_database_Check_1 a = some r) : RO Tryz.prog 63 [] [.agg [.int .i64 a.Router, .int .i64 a.Seq, .bool a.Capable, .lst false (ml eGReach a.Links), .lst false (ml eGClaim a.Claims)]] (.bool r) := by
  refine enterA Tryz.func63 rfl rfl ?_
  unfold m_database_Check_1 at hm
  refine A.RS W0 [] [(0, .al 63001)] [(1, .ptr 63001 0)] [(63001, .cells 29 [.int .i64 a.Router, .int .i64 a.Seq, .bool a.Capable, .lst false (ml eGReach a.Links), .lst false (ml eGClaim a.Claims)])] (by kernel_rfl) ?_
  obtain ⟨vx_1, h1, hm⟩ := bnd_some hm
  refine A.RS W0 [] [(1, hro (m_advert_Valid_ok h1) ck37)] [(2, .bool (!vx_1))] [] (by kernel_rfl) ?_
  refine A.ret ?_
  obtain rfl := some_inj hm
  exact A.fin W0 [] rfl (by kernel_rfl)
theorem m_database_Check_ok {d : GDatabase} {r : Int} (hm : m_database_Check d = some r) : RO Tryz.prog 30 [] [.agg [.lst false (ml eGAdvert d.Adverts)]] (.int .i64 r) := by
  refine enterA Tryz.func30 rfl rfl ?_
  unfold m_database_Check at hm
  refine A.RS W0 [] [(0, .al 30001)] [(1, .ptr 30001 0)] [(30001, .cells 25 [.lst false (ml eGAdvert d.Adverts)])] (by kernel_rfl) ?_
  refine A.seq ?_
  refine A.block ?_
  refine A.RS W0 [] [(2, hto (lnE eGAdvert d.Adverts))] [(1, .ptr 30001 0), (4, .bool (decide ((99:Int) < (d.Adverts.length:Int))))] [(30001, .cells 25 [.lst false (ml eGAdvert d.Adverts)])] (by kernel_rfl) ?_
  rcases cs_some hm with ⟨c1, hm⟩ | ⟨c1, hm⟩
  · skip
    refine A.cT rfl c1 ?_
    refine A.RS W0 [] [] [(2, .int .i64 (3:Int))] [] (by kernel_rfl) ?_
    refine A.ret ?_
    obtain rfl := some_inj hm
    exact A.fin W0 [] rfl (by kernel_rfl)
  refine A.cF rfl c1 ?_
  obtain ⟨vx_1, h1, hm⟩ := bnd_some hm
  refine A.RS W0 [] [(2, hro (m_slices_ContainsFunc_Lapi_Advert_api_Advert_ok (f_g := 63) (f_c := []) (f_k := ck63) (f_f := fun _ _ h => m_database_Check_1_ok h) h1) ck62)] [(1, .ptr 30001 0), (9, .bool vx_1)] [(30001, .cells 25 [.lst false (ml eGAdvert d.Adverts)])] (by kernel_rfl) ?_
  rcases cs_some hm with ⟨c2, hm⟩ | ⟨c2, hm⟩
  · skip
    refine A.cT rfl c2 ?_
    refine A.RS W0 [] [] [(2, .int .i64 (1:Int))] [] (by kernel_rfl) ?_
    refine A.ret ?_
    obtain rfl := some_inj hm
    exact A.fin W0 [] rfl (by kernel_rfl)
  refine A.cF rfl c2 ?_
  refine A.skip ?_
  show acode _ _ _ _ _
  refine A.seq ?_
  refine A.RS W0 [] [(2, hto (lnE eGAdvert d.Adverts))] [(1, .ptr 30001 0), (15, .int .i64 (d.Adverts.length:Int)), (16, .int .i64 (0:Int))] [(30001, .cells 25 [.lst false (ml eGAdvert d.Adverts)])] (by kernel_rfl) ?_
  refine A.block ?_
  refine A.bC 1 0 rfl rfl rfl fun hb1 => ?_
  obtain ⟨B1, K1, hB1, hK1, hm⟩ := forI_some hm
  refine A.lpI (l := d.Adverts) (j0 := 0) (B := B1) (K := K1) hm (fun j1 => fun sg => match sg with | () => [(1, .ptr 30001 0), (15, .int .i64 (d.Adverts.length:Int)), (16, .int .i64 (j1 : Int))]) (fun j1 => fun sg => match sg with | () => [(30001, .cells 25 [.lst false (ml eGAdvert d.Adverts)])]) ?_ ?_ ?_
  · exact Weak.go [] [] (by kernel_rfl)
  · skip
    rintro j1 e1 Z1 ⟨⟩ hj1 hx1 hm
    rw [hB1] at hm
    refine A.RS W0 [] [] [(1, .ptr 30001 0), (15, .int .i64 (d.Adverts.length:Int)), (16, .int .i64 (j1 : Int)), (17, .bool (decide ((j1 : Int) < (d.Adverts.length:Int))))] [(30001, .cells 25 [.lst false (ml eGAdvert d.Adverts)])] (by kernel_rfl) ?_
    refine A.seq ?_
    refine A.cT rfl (ltT hx1) ?_
    refine A.skip ?_
    show acode _ _ _ _ _
    refine A.seq ?_
    refine A.block ?_
    refine A.RS W0 [] [] [(1, .ptr 30001 0), (15, .int .i64 (d.Adverts.length:Int)), (16, .int .i64 (j1 : Int)), (3, .int .i64 (j1 : Int))] [(30001, .cells 25 [.lst false (ml eGAdvert d.Adverts)])] (by kernel_rfl) ?_
    obtain ⟨J1, hJ1, hm⟩ := jn_some hm
    refine A.J (J := J1) (r := r) (fun v_1 => [(1, .ptr 30001 0), (15, .int .i64 (d.Adverts.length:Int)), (16, .int .i64 (j1 : Int)), (36, .bool v_1)]) (fun v_1 => [(30001, .cells 25 [.lst false (ml eGAdvert d.Adverts)])]) ?_ ?_
    · skip
      rcases cs_some hm with ⟨c3, hm⟩ | ⟨c3, hm⟩
      · skip
        obtain ⟨e_1, h2, hm⟩ := bnd_some hm
        refine A.R W0 [] [(2, hto (bE c3)), (7, hix (ix eGAdvert h2)), (13, hix (ix eGAdvert (elO_nat hx1)))] [(1, .ptr 30001 0), (15, .int .i64 (d.Adverts.length:Int)), (16, .int .i64 (j1 : Int)), (36, .bool (decide (e1.Router ≤ e_1.Router)))] [(30001, .cells 25 [.lst false (ml eGAdvert d.Adverts)])] (by kernel_rfl) ?_
        exact Exists.intro (decide (e1.Router ≤ e_1.Router)) (And.intro hm (Weak.go [] [] (by kernel_rfl)))
      refine A.R W0 [] [(2, hto (bE c3))] [(1, .ptr 30001 0), (15, .int .i64 (d.Adverts.length:Int)), (16, .int .i64 (j1 : Int)), (36, .bool false)] [(30001, .cells 25 [.lst false (ml eGAdvert d.Adverts)])] (by kernel_rfl) ?_
      exact Exists.intro false (And.intro hm (Weak.go [] [] (by kernel_rfl)))
    rintro v_1 hm
    rw [hJ1] at hm
    rcases cs_some hm with ⟨c4, hm⟩ | ⟨c4, hm⟩
    · skip
      refine A.cT rfl c4 ?_
      refine A.RS W0 [] [] [(2, .int .i64 (25:Int))] [] (by kernel_rfl) ?_
      refine A.ret ?_
      obtain rfl := some_inj hm
      exact A.fin W0 [] rfl (by kernel_rfl)
    refine A.cF rfl c4 ?_
    refine A.skip ?_
    show acode _ _ _ _ _
    refine A.R W0 [] [(0, hto (inc hx1 hb1))] [(1, .ptr 30001 0), (15, .int .i64 (d.Adverts.length:Int)), (16, .int .i64 ((j1 + 1 : Nat) : Int))] [(30001, .cells 25 [.lst false (ml eGAdvert d.Adverts)])] (by kernel_rfl) ?_
    exact Exists.intro () (And.intro hm (Weak.go [] [] (by kernel_rfl)))
  rintro j1 ⟨⟩ hj1 hl1 hm
  rw [hK1] at hm
  refine A.RS W0 [] [] [(1, .ptr 30001 0), (15, .int .i64 (d.Adverts.length:Int)), (16, .int .i64 (j1 : Int)), (17, .bool (decide ((j1 : Int) < (d.Adverts.length:Int))))] [(30001, .cells 25 [.lst false (ml eGAdvert d.Adverts)])] (by kernel_rfl) ?_
  refine A.seq ?_
  refine A.cF rfl (ltF hl1) ?_
  refine A.exit ?_
  show acode _ _ _ _ _
  refine A.RS W0 [] [] [(2, .int .i64 (0:Int))] [] (by kernel_rfl) ?_
  refine A.ret ?_
  obtain rfl := some_inj hm
  exact A.fin W0 [] rfl (by kernel_rfl)
theorem m_database_Find_ok {d : GDatabase} {router : Int} {r : GAdvert × Bool} (hm : m_database_Find d router = some r) : RO Tryz.prog 28 [] [.agg [.lst false (ml eGAdvert d.Adverts)], .int .i64 router] (.tup [.agg [.int .i64 r.1.Router, .int .i64 r.1.Seq, .bool r.1.Capable, .lst false (ml eGReach r.1.Links), .lst false (ml eGClaim r.1.Claims)], .bool r.2]) := by
  refine enterA Tryz.func28 rfl rfl ?_
  unfold m_database_Find at hm
  refine A.RS W0 [] [(0, .al 28002), (1, .al 28004)] [(1, .int .i64 router), (2, .ptr 28002 0), (4, .ptr 28004 0)] [(28002, .cells 25 [.lst false (ml eGAdvert d.Adverts)]), (28004, .cells 29 [.int .i64 (0:Int), .int .i64 (0:Int), .bool false, .nils, .nils])] (by kernel_rfl) ?_
  refine A.seq ?_
  refine A.RS W0 [] [(2, hto (lnE eGAdvert d.Adverts))] [(1, .int .i64 router), (4, .ptr 28004 0), (9, .lst false (ml eGAdvert d.Adverts)), (10, .int .i64 (d.Adverts.length:Int)), (11, .int .i64 (0:Int))] [(28004, .cells 29 [.int .i64 (0:Int), .int .i64 (0:Int), .bool false, .nils, .nils])] (by kernel_rfl) ?_
  refine A.block ?_
  refine A.bS 9 rfl fun hb1 => ?_
  obtain ⟨B1, K1, hB1, hK1, hm⟩ := forI_some hm
  refine A.lpI (l := d.Adverts) (j0 := 0) (B := B1) (K := K1) hm (fun j1 => fun sg => match sg with | () => [(1, .int .i64 router), (4, .ptr 28004 0), (9, .lst false (ml eGAdvert d.Adverts)), (10, .int .i64 (d.Adverts.length:Int)), (11, .int .i64 (j1 : Int))]) (fun j1 => fun sg => match sg with | () => [(28004, .cells 29 [.int .i64 (0:Int), .int .i64 (0:Int), .bool false, .nils, .nils])]) ?_ ?_ ?_
  · exact Weak.go [] [] (by kernel_rfl)
  · skip
    rintro j1 e1 Z1 ⟨⟩ hj1 hx1 hm
    rw [hB1] at hm
    refine A.RS W0 [] [] [(1, .int .i64 router), (4, .ptr 28004 0), (9, .lst false (ml eGAdvert d.Adverts)), (10, .int .i64 (d.Adverts.length:Int)), (11, .int .i64 (j1 : Int)), (12, .bool (decide ((j1 : Int) < (d.Adverts.length:Int))))] [(28004, .cells 29 [.int .i64 (0:Int), .int .i64 (0:Int), .bool false, .nils, .nils])] (by kernel_rfl) ?_
    refine A.seq ?_
    refine A.cT rfl (ltT hx1) ?_
    refine A.skip ?_
    show acode _ _ _ _ _
    refine A.seq ?_
    refine A.block ?_
    refine A.RS W0 [] [(0, hix (ix eGAdvert (elO_nat hx1))), (2, .al 28007)] [(1, .int .i64 router), (4, .ptr 28004 0), (9, .lst false (ml eGAdvert d.Adverts)), (10, .int .i64 (d.Adverts.length:Int)), (11, .int .i64 (j1 : Int)), (7, .ptr 28007 0)] [(28004, .cells 29 [.int .i64 (0:Int), .int .i64 (0:Int), .bool false, .nils, .nils]), (28007, .cells 29 [.int .i64 e1.Router, .int .i64 e1.Seq, .bool e1.Capable, .lst false (ml eGReach e1.Links), .lst false (ml eGClaim e1.Claims)])] (by kernel_rfl) ?_
    refine A.RS W0 [] [] [(1, .int .i64 router), (4, .ptr 28004 0), (9, .lst false (ml eGAdvert d.Adverts)), (10, .int .i64 (d.Adverts.length:Int)), (11, .int .i64 (j1 : Int)), (7, .ptr 28007 0), (18, .bool (decide (e1.Router = router)))] [(28004, .cells 29 [.int .i64 (0:Int), .int .i64 (0:Int), .bool false, .nils, .nils]), (28007, .cells 29 [.int .i64 e1.Router, .int .i64 e1.Seq, .bool e1.Capable, .lst false (ml eGReach e1.Links), .lst false (ml eGClaim e1.Claims)])] (by kernel_rfl) ?_
    rcases cs_some hm with ⟨c1, hm⟩ | ⟨c1, hm⟩
    · skip
      refine A.cT rfl c1 ?_
      obtain ⟨vx_1, h1, hm⟩ := bnd_some hm
      refine A.RS W0 [] [(1, hro (m_database_copied_ok h1) ck60)] [(4, .ptr 28004 0), (5, .bool true)] [(28004, .cells 29 [.int .i64 vx_1.Router, .int .i64 vx_1.Seq, .bool vx_1.Capable, .lst false (ml eGReach vx_1.Links), .lst false (ml eGClaim vx_1.Claims)])] (by kernel_rfl) ?_
      refine A.ret ?_
      obtain rfl := some_inj hm
      exact A.fin W0 [] rfl (by kernel_rfl)
    refine A.cF rfl c1 ?_
    refine A.skip ?_
    show acode _ _ _ _ _
    refine A.R W0 [] [(0, hto (inc hx1 hb1))] [(1, .int .i64 router), (4, .ptr 28004 0), (9, .lst false (ml eGAdvert d.Adverts)), (10, .int .i64 (d.Adverts.length:Int)), (11, .int .i64 ((j1 + 1 : Nat) : Int))] [(28004, .cells 29 [.int .i64 (0:Int), .int .i64 (0:Int), .bool false, .nils, .nils])] (by kernel_rfl) ?_
    exact Exists.intro () (And.intro hm (Weak.go [] [] (by kernel_rfl)))
  rintro j1 ⟨⟩ hj1 hl1 hm
  rw [hK1] at hm
  refine A.RS W0 [] [] [(1, .int .i64 router), (4, .ptr 28004 0), (9, .lst false (ml eGAdvert d.Adverts)), (10, .int .i64 (d.Adverts.length:Int)), (11, .int .i64 (j1 : Int)), (12, .bool (decide ((j1 : Int) < (d.Adverts.length:Int))))] [(28004, .cells 29 [.int .i64 (0:Int), .int .i64 (0:Int), .bool false, .nils, .nils])] (by kernel_rfl) ?_
  refine A.seq ?_
  refine A.cF rfl (ltF hl1) ?_
  refine A.exit ?_
  show acode _ _ _ _ _
  refine A.RS W0 [] [] [(4, .ptr 28004 0), (5, .bool false)] [(28004, .cells 29 [.int .i64 (0:Int), .int .i64 (0:Int), .bool false, .nils, .nils])] (by kernel_rfl) ?_
  refine A.ret ?_
  obtain rfl := some_inj hm
  exact A.fin W0 [] rfl (by kernel_rfl)
theorem m_database_reach_ok {a : GAdvert} {neighbour : Int} {r : GReach × Bool} (hm : m_database_reach a neighbour = some r) : RO Tryz.prog 51 [] [.agg [.int .i64 a.Router, .int .i64 a.Seq, .bool a.Capable, .lst false (ml eGReach a.Links), .lst false (ml eGClaim a.Claims)], .int .i64 neighbour] (.tup [.agg [.int .i64 r.1.Neighbour, .int .i64 r.1.Cost, .int .i64 r.1.Capacity], .bool r.2]) := by
  refine enterA Tryz.func51 rfl rfl ?_
  unfold m_database_reach at hm
  refine A.RS W0 [] [(0, .al 51002), (1, .al 51004)] [(1, .int .i64 neighbour), (2, .ptr 51002 0), (4, .ptr 51004 0)] [(51002, .cells 29 [.int .i64 a.Router, .int .i64 a.Seq, .bool a.Capable, .lst false (ml eGReach a.Links), .lst false (ml eGClaim a.Claims)]), (51004, .cells 74 [.int .i64 (0:Int), .int .i64 (0:Int), .int .i64 (0:Int)])] (by kernel_rfl) ?_
  refine A.seq ?_
  refine A.RS W0 [] [(2, hto (lnE eGReach a.Links))] [(1, .int .i64 neighbour), (4, .ptr 51004 0), (9, .lst false (ml eGReach a.Links)), (10, .int .i64 (a.Links.length:Int)), (11, .int .i64 (0:Int))] [(51004, .cells 74 [.int .i64 (0:Int), .int .i64 (0:Int), .int .i64 (0:Int)])] (by kernel_rfl) ?_
  refine A.block ?_
  refine A.bS 9 rfl fun hb1 => ?_
  obtain ⟨B1, K1, hB1, hK1, hm⟩ := forI_some hm
  refine A.lpI (l := a.Links) (j0 := 0) (B := B1) (K := K1) hm (fun j1 => fun sg => match sg with | () => [(1, .int .i64 neighbour), (4, .ptr 51004 0), (9, .lst false (ml eGReach a.Links)), (10, .int .i64 (a.Links.length:Int)), (11, .int .i64 (j1 : Int))]) (fun j1 => fun sg => match sg with | () => [(51004, .cells 74 [.int .i64 (0:Int), .int .i64 (0:Int), .int .i64 (0:Int)])]) ?_ ?_ ?_
  · exact Weak.go [] [] (by kernel_rfl)
  · skip
    rintro j1 e1 Z1 ⟨⟩ hj1 hx1 hm
    rw [hB1] at hm
    refine A.RS W0 [] [] [(1, .int .i64 neighbour), (4, .ptr 51004 0), (9, .lst false (ml eGReach a.Links)), (10, .int .i64 (a.Links.length:Int)), (11, .int .i64 (j1 : Int)), (12, .bool (decide ((j1 : Int) < (a.Links.length:Int))))] [(51004, .cells 74 [.int .i64 (0:Int), .int .i64 (0:Int), .int .i64 (0:Int)])] (by kernel_rfl) ?_
    refine A.seq ?_
    refine A.cT rfl (ltT hx1) ?_
    refine A.skip ?_
    show acode _ _ _ _ _
    refine A.seq ?_
    refine A.block ?_
    refine A.RS W0 [] [(0, hix (ix eGReach (elO_nat hx1))), (2, .al 51007)] [(1, .int .i64 neighbour), (4, .ptr 51004 0), (9, .lst false (ml eGReach a.Links)), (10, .int .i64 (a.Links.length:Int)), (11, .int .i64 (j1 : Int)), (7, .ptr 51007 0)] [(51004, .cells 74 [.int .i64 (0:Int), .int .i64 (0:Int), .int .i64 (0:Int)]), (51007, .cells 74 [.int .i64 e1.Neighbour, .int .i64 e1.Cost, .int .i64 e1.Capacity])] (by kernel_rfl) ?_
    refine A.RS W0 [] [] [(1, .int .i64 neighbour), (4, .ptr 51004 0), (9, .lst false (ml eGReach a.Links)), (10, .int .i64 (a.Links.length:Int)), (11, .int .i64 (j1 : Int)), (7, .ptr 51007 0), (18, .bool (decide (e1.Neighbour = neighbour)))] [(51004, .cells 74 [.int .i64 (0:Int), .int .i64 (0:Int), .int .i64 (0:Int)]), (51007, .cells 74 [.int .i64 e1.Neighbour, .int .i64 e1.Cost, .int .i64 e1.Capacity])] (by kernel_rfl) ?_
    rcases cs_some hm with ⟨c1, hm⟩ | ⟨c1, hm⟩
    · skip
      refine A.cT rfl c1 ?_
      refine A.RS W0 [] [] [(4, .ptr 51004 0), (5, .bool true)] [(51004, .cells 74 [.int .i64 e1.Neighbour, .int .i64 e1.Cost, .int .i64 e1.Capacity])] (by kernel_rfl) ?_
      refine A.ret ?_
      obtain rfl := some_inj hm
      exact A.fin W0 [] rfl (by kernel_rfl)
    refine A.cF rfl c1 ?_
    refine A.skip ?_
    show acode _ _ _ _ _
    refine A.R W0 [] [(0, hto (inc hx1 hb1))] [(1, .int .i64 neighbour), (4, .ptr 51004 0), (9, .lst false (ml eGReach a.Links)), (10, .int .i64 (a.Links.length:Int)), (11, .int .i64 ((j1 + 1 : Nat) : Int))] [(51004, .cells 74 [.int .i64 (0:Int), .int .i64 (0:Int), .int .i64 (0:Int)])] (by kernel_rfl) ?_
    exact Exists.intro () (And.intro hm (Weak.go [] [] (by kernel_rfl)))
  rintro j1 ⟨⟩ hj1 hl1 hm
  rw [hK1] at hm
  refine A.RS W0 [] [] [(1, .int .i64 neighbour), (4, .ptr 51004 0), (9, .lst false (ml eGReach a.Links)), (10, .int .i64 (a.Links.length:Int)), (11, .int .i64 (j1 : Int)), (12, .bool (decide ((j1 : Int) < (a.Links.length:Int))))] [(51004, .cells 74 [.int .i64 (0:Int), .int .i64 (0:Int), .int .i64 (0:Int)])] (by kernel_rfl) ?_
  refine A.seq ?_
  refine A.cF rfl (ltF hl1) ?_
  refine A.exit ?_
  show acode _ _ _ _ _
  refine A.RS W0 [] [] [(4, .ptr 51004 0), (5, .bool false)] [(51004, .cells 74 [.int .i64 (0:Int), .int .i64 (0:Int), .int .i64 (0:Int)])] (by kernel_rfl) ?_
  refine A.ret ?_
  obtain rfl := some_inj hm
  exact A.fin W0 [] rfl (by kernel_rfl)
theorem m_database_View_ok {d : GDatabase} {ata1 : Int} {r : GTopology} (hm : m_database_View d ata1 = some r) : RO Tryz.prog 24 [] [.agg [.lst false (ml eGAdvert d.Adverts)], .int .i64 ata1] (.agg [.lst false (ml eGRouter r.Routers), .lst false (ml eGLink r.Links)]) := by
  refine enterA Tryz.func24 rfl rfl ?_
  unfold m_database_View at hm
  refine A.RS W0 [] [(0, .al 24002), (1, .al 24004)] [(1, .int .i64 ata1), (2, .ptr 24002 0), (4, .ptr 24004 0)] [(24002, .cells 25 [.lst false (ml eGAdvert d.Adverts)]), (24004, .cells 46 [.nils, .nils])] (by kernel_rfl) ?_
  obtain ⟨vx_1, h1, hm⟩ := bnd_some hm
  refine A.RS W0 [] [(2, hro (m_database_Find_ok h1) ck28), (6, .al 24005)] [(1, .int .i64 ata1), (2, .ptr 24002 0), (4, .ptr 24004 0), (5, .ptr 24005 0), (6, .bool vx_1.2)] [(24002, .cells 25 [.lst false (ml eGAdvert d.Adverts)]), (24004, .cells 46 [.nils, .nils]), (24005, .cells 29 [.int .i64 vx_1.1.Router, .int .i64 vx_1.1.Seq, .bool vx_1.1.Capable, .lst false (ml eGReach vx_1.1.Links), .lst false (ml eGClaim vx_1.1.Claims)])] (by kernel_rfl) ?_
  refine A.seq ?_
  obtain ⟨J1, hJ1, hm⟩ := jn_some hm
  refine A.J (J := J1) (r := r) (fun v_1 => [(1, .int .i64 ata1), (2, .ptr 24002 0), (4, .ptr 24004 0), (5, .ptr 24005 0), (29, .bool v_1)]) (fun v_1 => [(24002, .cells 25 [.lst false (ml eGAdvert d.Adverts)]), (24004, .cells 46 [.nils, .nils]), (24005, .cells 29 [.int .i64 vx_1.1.Router, .int .i64 vx_1.1.Seq, .bool vx_1.1.Capable, .lst false (ml eGReach vx_1.1.Links), .lst false (ml eGClaim vx_1.1.Claims)])]) ?_ ?_
  · skip
    obtain ⟨vx_2, h2, hm⟩ := bnd_some hm
    rcases cs_some hm with ⟨c1, hm⟩ | ⟨c1, hm⟩
    · skip
      refine A.R W0 [] [(1, hro (m_database_Check_ok h2) ck30), (3, hto (bE c1))] [(1, .int .i64 ata1), (2, .ptr 24002 0), (4, .ptr 24004 0), (5, .ptr 24005 0), (29, .bool true)] [(24002, .cells 25 [.lst false (ml eGAdvert d.Adverts)]), (24004, .cells 46 [.nils, .nils]), (24005, .cells 29 [.int .i64 vx_1.1.Router, .int .i64 vx_1.1.Seq, .bool vx_1.1.Capable, .lst false (ml eGReach vx_1.1.Links), .lst false (ml eGClaim vx_1.1.Claims)])] (by kernel_rfl) ?_
      exact Exists.intro true (And.intro hm (Weak.go [] [] (by kernel_rfl)))
    refine A.R W0 [] [(1, hro (m_database_Check_ok h2) ck30), (3, hto (bE c1))] [(1, .int .i64 ata1), (2, .ptr 24002 0), (4, .ptr 24004 0), (5, .ptr 24005 0), (29, .bool (!vx_1.2))] [(24002, .cells 25 [.lst false (ml eGAdvert d.Adverts)]), (24004, .cells 46 [.nils, .nils]), (24005, .cells 29 [.int .i64 vx_1.1.Router, .int .i64 vx_1.1.Seq, .bool vx_1.1.Capable, .lst false (ml eGReach vx_1.1.Links), .lst false (ml eGClaim vx_1.1.Claims)])] (by kernel_rfl) ?_
    exact Exists.intro (!vx_1.2) (And.intro hm (Weak.go [] [] (by kernel_rfl)))
  rintro v_1 hm
  rw [hJ1] at hm
  rcases cs_some hm with ⟨c2, hm⟩ | ⟨c2, hm⟩
  · skip
    refine A.cT rfl c2 ?_
    refine A.RS W0 [] [] [(4, .ptr 24004 0)] [(24004, .cells 46 [.nils, .nils])] (by kernel_rfl) ?_
    refine A.ret ?_
    obtain rfl := some_inj hm
    exact A.fin W0 [] rfl (by kernel_rfl)
  refine A.cF rfl c2 ?_
  refine A.skip ?_
  show acode _ _ _ _ _
  refine A.RS W0 [] [(0, .al 24007)] [(1, .int .i64 ata1), (2, .ptr 24002 0), (4, .ptr 24004 0), (5, .ptr 24005 0), (7, .ptr 24007 0)] [(24002, .cells 25 [.lst false (ml eGAdvert d.Adverts)]), (24004, .cells 46 [.nils, .nils]), (24005, .cells 29 [.int .i64 vx_1.1.Router, .int .i64 vx_1.1.Seq, .bool vx_1.1.Capable, .lst false (ml eGReach vx_1.1.Links), .lst false (ml eGClaim vx_1.1.Claims)]), (24007, .cells 46 [.nils, .nils])] (by kernel_rfl) ?_
  refine A.RS W0 [] [(0, .al 24031), (2, hmu (mu (k := .i64) (enc := vB) [] ata1 true rfl))] [(2, .ptr 24002 0), (4, .ptr 24004 0), (5, .ptr 24005 0), (7, .ptr 24007 0), (8, .mapv 24031)] [(24002, .cells 25 [.lst false (ml eGAdvert d.Adverts)]), (24004, .cells 46 [.nils, .nils]), (24005, .cells 29 [.int .i64 vx_1.1.Router, .int .i64 vx_1.1.Seq, .bool vx_1.1.Capable, .lst false (ml eGReach vx_1.1.Links), .lst false (ml eGClaim vx_1.1.Claims)]), (24007, .cells 46 [.nils, .nils]), (24031, .map 3 4 (encM .i64 vB (setI [] ata1 true)))] (by kernel_rfl) ?_
  refine A.seq ?_
  refine A.RS W0 [] [(1, .al 24035)] [(2, .ptr 24002 0), (4, .ptr 24004 0), (7, .ptr 24007 0), (8, .mapv 24031), (9, .own 24035)] [(24002, .cells 25 [.lst false (ml eGAdvert d.Adverts)]), (24004, .cells 46 [.nils, .nils]), (24007, .cells 46 [.nils, .nils]), (24031, .map 3 4 (encM .i64 vB (setI [] ata1 true))), (24035, .slice 29 5 (ml eGAdvert ([vx_1.1] : List GAdvert)) 0 false)] (by kernel_rfl) ?_
  refine A.block ?_
  obtain ⟨F1, n1, hF1, hm⟩ := whl_some hm
  refine A.lpW (F := F1) hm (fun sg => match sg with | (work_1, m_1, m_2, m_3) => [(2, .ptr 24002 0), (4, .ptr 24004 0), (7, .ptr 24007 0), (8, .mapv 24031), (9, .own 600024009)]) (fun sg => match sg with | (work_1, m_1, m_2, m_3) => [(24002, .cells 25 [.lst false (ml eGAdvert d.Adverts)]), (24004, .cells 46 [.nils, .nils]), (24007, .cells 46 [.own 702400700, .own 702400701]), (24031, .map 3 4 (encM .i64 vB m_3)), (600024009, .win 29 5 (ml eGAdvert work_1)), (702400700, .slice 52 2 (ml eGRouter m_1) 0 false), (702400701, .slice 84 5 (ml eGLink m_2) 0 false)]) ?_ ?_
  · exact Weak.go [.wi 24035, .sw 24035 600024009, .ac 24007 702400700 52 2 0, .ac 24007 702400701 84 5 1] [] (by kernel_rfl)
  rintro Z1 ⟨work_1, m_1, m_2, m_3⟩ hm
  rw [hF1] at hm
  refine A.seq ?_
  refine A.RS W0 [] [(1, hto (lnE eGAdvert work_1))] [(2, .ptr 24002 0), (4, .ptr 24004 0), (7, .ptr 24007 0), (8, .mapv 24031), (9, .own 600024009), (38, .bool (decide ((0:Int) < (work_1.length:Int))))] [(24002, .cells 25 [.lst false (ml eGAdvert d.Adverts)]), (24004, .cells 46 [.nils, .nils]), (24007, .cells 46 [.own 702400700, .own 702400701]), (24031, .map 3 4 (encM .i64 vB m_3)), (600024009, .win 29 5 (ml eGAdvert work_1)), (702400700, .slice 52 2 (ml eGRouter m_1) 0 false), (702400701, .slice 84 5 (ml eGLink m_2) 0 false)] (by kernel_rfl) ?_
  rcases cs_some hm with ⟨c3, hm⟩ | ⟨c3, hm⟩
  · skip
    refine A.cT rfl c3 ?_
    refine A.skip ?_
    show acode _ _ _ _ _
    refine A.seq ?_
    refine A.block ?_
    obtain ⟨e_1, h3, hm⟩ := bnd_some hm
    refine A.RS W0 [] [(1, hix (ix eGAdvert h3)), (3, .al 24010)] [(2, .ptr 24002 0), (4, .ptr 24004 0), (7, .ptr 24007 0), (8, .mapv 24031), (9, .own 600024009), (10, .ptr 24010 0)] [(24002, .cells 25 [.lst false (ml eGAdvert d.Adverts)]), (24004, .cells 46 [.nils, .nils]), (24007, .cells 46 [.own 702400700, .own 702400701]), (24031, .map 3 4 (encM .i64 vB m_3)), (600024009, .win 29 5 (ml eGAdvert work_1)), (702400700, .slice 52 2 (ml eGRouter m_1) 0 false), (702400701, .slice 84 5 (ml eGLink m_2) 0 false), (24010, .cells 29 [.int .i64 e_1.Router, .int .i64 e_1.Seq, .bool e_1.Capable, .lst false (ml eGReach e_1.Links), .lst false (ml eGClaim e_1.Claims)])] (by kernel_rfl) ?_
    obtain ⟨l_1, h4, hm⟩ := bnd_some hm
    refine A.RS W0 [] [(8, hap 24552 (ap eGRouter (bytes := 16) (by decide) h4))] [(2, .ptr 24002 0), (4, .ptr 24004 0), (7, .ptr 24007 0), (8, .mapv 24031), (9, .own 600024009), (10, .ptr 24010 0)] [(24002, .cells 25 [.lst false (ml eGAdvert d.Adverts)]), (24004, .cells 46 [.nils, .nils]), (24007, .cells 46 [.own 24552, .own 702400701]), (24031, .map 3 4 (encM .i64 vB m_3)), (600024009, .win 29 5 (ml eGAdvert work_1)), (702400701, .slice 84 5 (ml eGLink m_2) 0 false), (24010, .cells 29 [.int .i64 e_1.Router, .int .i64 e_1.Seq, .bool e_1.Capable, .lst false (ml eGReach e_1.Links), .lst false (ml eGClaim e_1.Claims)]), (24552, .slice 52 2 (ml eGRouter l_1) 0 false)] (by kernel_rfl) ?_
    refine A.RS W0 [] [(2, hto (lnE eGReach e_1.Links))] [(2, .ptr 24002 0), (4, .ptr 24004 0), (7, .ptr 24007 0), (8, .mapv 24031), (9, .own 600024009), (10, .ptr 24010 0), (55, .lst false (ml eGReach e_1.Links)), (56, .int .i64 (e_1.Links.length:Int)), (57, .int .i64 (0:Int))] [(24002, .cells 25 [.lst false (ml eGAdvert d.Adverts)]), (24004, .cells 46 [.nils, .nils]), (24007, .cells 46 [.own 24552, .own 702400701]), (24031, .map 3 4 (encM .i64 vB m_3)), (600024009, .win 29 5 (ml eGAdvert work_1)), (702400701, .slice 84 5 (ml eGLink m_2) 0 false), (24010, .cells 29 [.int .i64 e_1.Router, .int .i64 e_1.Seq, .bool e_1.Capable, .lst false (ml eGReach e_1.Links), .lst false (ml eGClaim e_1.Claims)]), (24552, .slice 52 2 (ml eGRouter l_1) 0 false)] (by kernel_rfl) ?_
    refine A.block ?_
    refine A.bS 55 rfl fun hb2 => ?_
    obtain ⟨B2, K2, hB2, hK2, hm⟩ := forI_some hm
    refine A.lpI (l := e_1.Links) (j0 := 0) (B := B2) (K := K2) hm (fun j2 => fun sg => match sg with | (work_2, m_4, m_5) => [(2, .ptr 24002 0), (4, .ptr 24004 0), (7, .ptr 24007 0), (8, .mapv 24031), (9, .own 600024009), (10, .ptr 24010 0), (55, .lst false (ml eGReach e_1.Links)), (56, .int .i64 (e_1.Links.length:Int)), (57, .int .i64 (j2 : Int))]) (fun j2 => fun sg => match sg with | (work_2, m_4, m_5) => [(24002, .cells 25 [.lst false (ml eGAdvert d.Adverts)]), (24004, .cells 46 [.nils, .nils]), (24007, .cells 46 [.own 24552, .own 702400701]), (24031, .map 3 4 (encM .i64 vB m_5)), (600024009, .win 29 5 (ml eGAdvert work_2)), (702400701, .slice 84 5 (ml eGLink m_4) 0 false), (24010, .cells 29 [.int .i64 e_1.Router, .int .i64 e_1.Seq, .bool e_1.Capable, .lst false (ml eGReach e_1.Links), .lst false (ml eGClaim e_1.Claims)]), (24552, .slice 52 2 (ml eGRouter l_1) 0 false)]) ?_ ?_ ?_
    · exact Weak.go [] [] (by kernel_rfl)
    · skip
      rintro j2 e2 Z2 ⟨work_2, m_4, m_5⟩ hj2 hx2 hm
      rw [hB2] at hm
      refine A.RS W0 [] [] [(2, .ptr 24002 0), (4, .ptr 24004 0), (7, .ptr 24007 0), (8, .mapv 24031), (9, .own 600024009), (10, .ptr 24010 0), (55, .lst false (ml eGReach e_1.Links)), (56, .int .i64 (e_1.Links.length:Int)), (57, .int .i64 (j2 : Int)), (58, .bool (decide ((j2 : Int) < (e_1.Links.length:Int))))] [(24002, .cells 25 [.lst false (ml eGAdvert d.Adverts)]), (24004, .cells 46 [.nils, .nils]), (24007, .cells 46 [.own 24552, .own 702400701]), (24031, .map 3 4 (encM .i64 vB m_5)), (600024009, .win 29 5 (ml eGAdvert work_2)), (702400701, .slice 84 5 (ml eGLink m_4) 0 false), (24010, .cells 29 [.int .i64 e_1.Router, .int .i64 e_1.Seq, .bool e_1.Capable, .lst false (ml eGReach e_1.Links), .lst false (ml eGClaim e_1.Claims)]), (24552, .slice 52 2 (ml eGRouter l_1) 0 false)] (by kernel_rfl) ?_
      refine A.seq ?_
      refine A.cT rfl (ltT hx2) ?_
      refine A.skip ?_
      show acode _ _ _ _ _
      obtain ⟨J2, hJ2, hm⟩ := jn_some hm
      refine A.J (J := J2) (r := r) (fun sg => match sg with | (work_3, m_6, m_7) => [(2, .ptr 24002 0), (4, .ptr 24004 0), (7, .ptr 24007 0), (8, .mapv 24031), (9, .own 600024009), (10, .ptr 24010 0), (55, .lst false (ml eGReach e_1.Links)), (56, .int .i64 (e_1.Links.length:Int)), (57, .int .i64 (j2 : Int))]) (fun sg => match sg with | (work_3, m_6, m_7) => [(24002, .cells 25 [.lst false (ml eGAdvert d.Adverts)]), (24004, .cells 46 [.nils, .nils]), (24007, .cells 46 [.own 24552, .own 702400701]), (24031, .map 3 4 (encM .i64 vB m_6)), (600024009, .win 29 5 (ml eGAdvert work_3)), (702400701, .slice 84 5 (ml eGLink m_7) 0 false), (24010, .cells 29 [.int .i64 e_1.Router, .int .i64 e_1.Seq, .bool e_1.Capable, .lst false (ml eGReach e_1.Links), .lst false (ml eGClaim e_1.Claims)]), (24552, .slice 52 2 (ml eGRouter l_1) 0 false)]) ?_ ?_
      · skip
        refine A.block ?_
        refine A.RS W0 [] [(0, hix (ix eGReach (elO_nat hx2))), (2, .al 24012)] [(2, .ptr 24002 0), (4, .ptr 24004 0), (7, .ptr 24007 0), (8, .mapv 24031), (9, .own 600024009), (10, .ptr 24010 0), (55, .lst false (ml eGReach e_1.Links)), (56, .int .i64 (e_1.Links.length:Int)), (57, .int .i64 (j2 : Int)), (12, .ptr 24012 0)] [(24002, .cells 25 [.lst false (ml eGAdvert d.Adverts)]), (24004, .cells 46 [.nils, .nils]), (24007, .cells 46 [.own 24552, .own 702400701]), (24031, .map 3 4 (encM .i64 vB m_5)), (600024009, .win 29 5 (ml eGAdvert work_2)), (702400701, .slice 84 5 (ml eGLink m_4) 0 false), (24010, .cells 29 [.int .i64 e_1.Router, .int .i64 e_1.Seq, .bool e_1.Capable, .lst false (ml eGReach e_1.Links), .lst false (ml eGClaim e_1.Claims)]), (24552, .slice 52 2 (ml eGRouter l_1) 0 false), (24012, .cells 74 [.int .i64 e2.Neighbour, .int .i64 e2.Cost, .int .i64 e2.Capacity])] (by kernel_rfl) ?_
        obtain ⟨vx_3, h5, hm⟩ := bnd_some hm
        refine A.RS W0 [] [(3, hro (m_database_Find_ok h5) ck28), (7, .al 24013)] [(2, .ptr 24002 0), (4, .ptr 24004 0), (7, .ptr 24007 0), (8, .mapv 24031), (9, .own 600024009), (10, .ptr 24010 0), (55, .lst false (ml eGReach e_1.Links)), (56, .int .i64 (e_1.Links.length:Int)), (57, .int .i64 (j2 : Int)), (12, .ptr 24012 0), (13, .ptr 24013 0), (14, .bool vx_3.2)] [(24002, .cells 25 [.lst false (ml eGAdvert d.Adverts)]), (24004, .cells 46 [.nils, .nils]), (24007, .cells 46 [.own 24552, .own 702400701]), (24031, .map 3 4 (encM .i64 vB m_5)), (600024009, .win 29 5 (ml eGAdvert work_2)), (702400701, .slice 84 5 (ml eGLink m_4) 0 false), (24010, .cells 29 [.int .i64 e_1.Router, .int .i64 e_1.Seq, .bool e_1.Capable, .lst false (ml eGReach e_1.Links), .lst false (ml eGClaim e_1.Claims)]), (24552, .slice 52 2 (ml eGRouter l_1) 0 false), (24012, .cells 74 [.int .i64 e2.Neighbour, .int .i64 e2.Cost, .int .i64 e2.Capacity]), (24013, .cells 29 [.int .i64 vx_3.1.Router, .int .i64 vx_3.1.Seq, .bool vx_3.1.Capable, .lst false (ml eGReach vx_3.1.Links), .lst false (ml eGClaim vx_3.1.Claims)])] (by kernel_rfl) ?_
        obtain ⟨vx_4, h6, hm⟩ := bnd_some hm
        refine A.RS W0 [] [(3, hro (m_database_reach_ok h6) ck51), (7, .al 24015)] [(2, .ptr 24002 0), (4, .ptr 24004 0), (7, .ptr 24007 0), (8, .mapv 24031), (9, .own 600024009), (10, .ptr 24010 0), (55, .lst false (ml eGReach e_1.Links)), (56, .int .i64 (e_1.Links.length:Int)), (57, .int .i64 (j2 : Int)), (12, .ptr 24012 0), (13, .ptr 24013 0), (14, .bool vx_3.2), (15, .ptr 24015 0), (16, .bool vx_4.2)] [(24002, .cells 25 [.lst false (ml eGAdvert d.Adverts)]), (24004, .cells 46 [.nils, .nils]), (24007, .cells 46 [.own 24552, .own 702400701]), (24031, .map 3 4 (encM .i64 vB m_5)), (600024009, .win 29 5 (ml eGAdvert work_2)), (702400701, .slice 84 5 (ml eGLink m_4) 0 false), (24010, .cells 29 [.int .i64 e_1.Router, .int .i64 e_1.Seq, .bool e_1.Capable, .lst false (ml eGReach e_1.Links), .lst false (ml eGClaim e_1.Claims)]), (24552, .slice 52 2 (ml eGRouter l_1) 0 false), (24012, .cells 74 [.int .i64 e2.Neighbour, .int .i64 e2.Cost, .int .i64 e2.Capacity]), (24013, .cells 29 [.int .i64 vx_3.1.Router, .int .i64 vx_3.1.Seq, .bool vx_3.1.Capable, .lst false (ml eGReach vx_3.1.Links), .lst false (ml eGClaim vx_3.1.Claims)]), (24015, .cells 74 [.int .i64 vx_4.1.Neighbour, .int .i64 vx_4.1.Cost, .int .i64 vx_4.1.Capacity])] (by kernel_rfl) ?_
        refine A.seq ?_
        refine A.mid [(2, .ptr 24002 0), (4, .ptr 24004 0), (7, .ptr 24007 0), (8, .mapv 24031), (9, .own 600024009), (10, .ptr 24010 0), (55, .lst false (ml eGReach e_1.Links)), (56, .int .i64 (e_1.Links.length:Int)), (57, .int .i64 (j2 : Int)), (12, .ptr 24012 0), (13, .ptr 24013 0), (15, .ptr 24015 0), (80, .bool ((!vx_3.2) || (!vx_4.2)))] [(24002, .cells 25 [.lst false (ml eGAdvert d.Adverts)]), (24004, .cells 46 [.nils, .nils]), (24007, .cells 46 [.own 24552, .own 702400701]), (24031, .map 3 4 (encM .i64 vB m_5)), (600024009, .win 29 5 (ml eGAdvert work_2)), (702400701, .slice 84 5 (ml eGLink m_4) 0 false), (24010, .cells 29 [.int .i64 e_1.Router, .int .i64 e_1.Seq, .bool e_1.Capable, .lst false (ml eGReach e_1.Links), .lst false (ml eGClaim e_1.Claims)]), (24552, .slice 52 2 (ml eGRouter l_1) 0 false), (24012, .cells 74 [.int .i64 e2.Neighbour, .int .i64 e2.Cost, .int .i64 e2.Capacity]), (24013, .cells 29 [.int .i64 vx_3.1.Router, .int .i64 vx_3.1.Seq, .bool vx_3.1.Capable, .lst false (ml eGReach vx_3.1.Links), .lst false (ml eGClaim vx_3.1.Claims)]), (24015, .cells 74 [.int .i64 vx_4.1.Neighbour, .int .i64 vx_4.1.Cost, .int .i64 vx_4.1.Capacity])] (fun hk => ?_) ?_
        · skip
          rcases tf (!vx_3.2) with c4 | c4
          · skip
            exact A.RS W0 [] [(2, hto (bE c4)), (5, hto (orT (q := !vx_4.2) c4))] _ _ (by kernel_rfl) hk
          exact A.RS W0 [] [(2, hto (bE c4)), (5, hto (orF (q := !vx_4.2) c4))] _ _ (by kernel_rfl) hk
        rcases cs_some hm with ⟨c5, hm⟩ | ⟨c5, hm⟩
        · skip
          refine A.cT rfl c5 ?_
          refine A.exit ?_
          exact Exists.intro (work_2, m_5, m_4) (And.intro hm (Weak.go [] [] (by kernel_rfl)))
        refine A.cF rfl c5 ?_
        refine A.skip ?_
        show acode _ _ _ _ _
        obtain ⟨J3, hJ3, hm⟩ := jn_some hm
        refine A.J (J := J3) (r := r) (fun m_8 => [(2, .ptr 24002 0), (4, .ptr 24004 0), (7, .ptr 24007 0), (8, .mapv 24031), (9, .own 600024009), (10, .ptr 24010 0), (13, .ptr 24013 0), (55, .lst false (ml eGReach e_1.Links)), (56, .int .i64 (e_1.Links.length:Int)), (57, .int .i64 (j2 : Int))]) (fun m_8 => [(24002, .cells 25 [.lst false (ml eGAdvert d.Adverts)]), (24004, .cells 46 [.nils, .nils]), (24007, .cells 46 [.own 24552, .own 702400701]), (24031, .map 3 4 (encM .i64 vB m_5)), (600024009, .win 29 5 (ml eGAdvert work_2)), (702400701, .slice 84 5 (ml eGLink m_8) 0 false), (24010, .cells 29 [.int .i64 e_1.Router, .int .i64 e_1.Seq, .bool e_1.Capable, .lst false (ml eGReach e_1.Links), .lst false (ml eGClaim e_1.Claims)]), (24552, .slice 52 2 (ml eGRouter l_1) 0 false), (24013, .cells 29 [.int .i64 vx_3.1.Router, .int .i64 vx_3.1.Seq, .bool vx_3.1.Capable, .lst false (ml eGReach vx_3.1.Links), .lst false (ml eGClaim vx_3.1.Claims)])]) ?_ ?_
        · skip
          refine A.RS W0 [] [] [(2, .ptr 24002 0), (4, .ptr 24004 0), (7, .ptr 24007 0), (8, .mapv 24031), (9, .own 600024009), (10, .ptr 24010 0), (55, .lst false (ml eGReach e_1.Links)), (56, .int .i64 (e_1.Links.length:Int)), (57, .int .i64 (j2 : Int)), (12, .ptr 24012 0), (13, .ptr 24013 0), (15, .ptr 24015 0), (85, .bool (decide (e_1.Router < vx_3.1.Router)))] [(24002, .cells 25 [.lst false (ml eGAdvert d.Adverts)]), (24004, .cells 46 [.nils, .nils]), (24007, .cells 46 [.own 24552, .own 702400701]), (24031, .map 3 4 (encM .i64 vB m_5)), (600024009, .win 29 5 (ml eGAdvert work_2)), (702400701, .slice 84 5 (ml eGLink m_4) 0 false), (24010, .cells 29 [.int .i64 e_1.Router, .int .i64 e_1.Seq, .bool e_1.Capable, .lst false (ml eGReach e_1.Links), .lst false (ml eGClaim e_1.Claims)]), (24552, .slice 52 2 (ml eGRouter l_1) 0 false), (24012, .cells 74 [.int .i64 e2.Neighbour, .int .i64 e2.Cost, .int .i64 e2.Capacity]), (24013, .cells 29 [.int .i64 vx_3.1.Router, .int .i64 vx_3.1.Seq, .bool vx_3.1.Capable, .lst false (ml eGReach vx_3.1.Links), .lst false (ml eGClaim vx_3.1.Claims)]), (24015, .cells 74 [.int .i64 vx_4.1.Neighbour, .int .i64 vx_4.1.Cost, .int .i64 vx_4.1.Capacity])] (by kernel_rfl) ?_
          rcases cs_some hm with ⟨c6, hm⟩ | ⟨c6, hm⟩
          · skip
            refine A.cT rfl c6 ?_
            obtain ⟨l_2, h7, hm⟩ := bnd_some hm
            refine A.R W0 [] [(17, hap 24603 (ap eGLink (bytes := 40) (by decide) h7))] [(2, .ptr 24002 0), (4, .ptr 24004 0), (7, .ptr 24007 0), (8, .mapv 24031), (9, .own 600024009), (10, .ptr 24010 0), (55, .lst false (ml eGReach e_1.Links)), (56, .int .i64 (e_1.Links.length:Int)), (57, .int .i64 (j2 : Int)), (13, .ptr 24013 0)] [(24002, .cells 25 [.lst false (ml eGAdvert d.Adverts)]), (24004, .cells 46 [.nils, .nils]), (24007, .cells 46 [.own 24552, .own 24603]), (24031, .map 3 4 (encM .i64 vB m_5)), (600024009, .win 29 5 (ml eGAdvert work_2)), (24010, .cells 29 [.int .i64 e_1.Router, .int .i64 e_1.Seq, .bool e_1.Capable, .lst false (ml eGReach e_1.Links), .lst false (ml eGClaim e_1.Claims)]), (24552, .slice 52 2 (ml eGRouter l_1) 0 false), (24013, .cells 29 [.int .i64 vx_3.1.Router, .int .i64 vx_3.1.Seq, .bool vx_3.1.Capable, .lst false (ml eGReach vx_3.1.Links), .lst false (ml eGClaim vx_3.1.Claims)]), (24603, .slice 84 5 (ml eGLink l_2) 0 false)] (by kernel_rfl) ?_
            exact Exists.intro l_2 (And.intro hm (Weak.go [.sw 24603 702400701] [] (by kernel_rfl)))
          refine A.cF rfl c6 ?_
          refine A.skip ?_
          exact Exists.intro m_4 (And.intro hm (Weak.go [] [] (by kernel_rfl)))
        rintro m_8 hm
        rw [hJ3] at hm
        refine A.RS W0 [] [(3, hlk (lk (E := 4) (k := .i64) (enc := vB) m_5 vx_3.1.Router false (fun w => ⟨_, Tryz.zeroValue4 w, fun I => by simp [RepC, vI, vB]⟩)))] [(2, .ptr 24002 0), (4, .ptr 24004 0), (7, .ptr 24007 0), (8, .mapv 24031), (9, .own 600024009), (10, .ptr 24010 0), (13, .ptr 24013 0), (55, .lst false (ml eGReach e_1.Links)), (56, .int .i64 (e_1.Links.length:Int)), (57, .int .i64 (j2 : Int)), (109, .bool (!((getI m_5 vx_3.1.Router).getD false)))] [(24002, .cells 25 [.lst false (ml eGAdvert d.Adverts)]), (24004, .cells 46 [.nils, .nils]), (24007, .cells 46 [.own 24552, .own 702400701]), (24031, .map 3 4 (encM .i64 vB m_5)), (600024009, .win 29 5 (ml eGAdvert work_2)), (702400701, .slice 84 5 (ml eGLink m_8) 0 false), (24010, .cells 29 [.int .i64 e_1.Router, .int .i64 e_1.Seq, .bool e_1.Capable, .lst false (ml eGReach e_1.Links), .lst false (ml eGClaim e_1.Claims)]), (24552, .slice 52 2 (ml eGRouter l_1) 0 false), (24013, .cells 29 [.int .i64 vx_3.1.Router, .int .i64 vx_3.1.Seq, .bool vx_3.1.Capable, .lst false (ml eGReach vx_3.1.Links), .lst false (ml eGClaim vx_3.1.Claims)])] (by kernel_rfl) ?_
        rcases cs_some hm with ⟨c7, hm⟩ | ⟨c7, hm⟩
        · skip
          refine A.cT rfl c7 ?_
          refine A.RS W0 [] [(3, hmu (mu (k := .i64) (enc := vB) m_5 vx_3.1.Router true rfl))] [(2, .ptr 24002 0), (4, .ptr 24004 0), (7, .ptr 24007 0), (8, .mapv 24031), (9, .own 600024009), (10, .ptr 24010 0), (13, .ptr 24013 0), (55, .lst false (ml eGReach e_1.Links)), (56, .int .i64 (e_1.Links.length:Int)), (57, .int .i64 (j2 : Int))] [(24002, .cells 25 [.lst false (ml eGAdvert d.Adverts)]), (24004, .cells 46 [.nils, .nils]), (24007, .cells 46 [.own 24552, .own 702400701]), (24031, .map 3 4 (encM .i64 vB (setI m_5 vx_3.1.Router true))), (600024009, .win 29 5 (ml eGAdvert work_2)), (702400701, .slice 84 5 (ml eGLink m_8) 0 false), (24010, .cells 29 [.int .i64 e_1.Router, .int .i64 e_1.Seq, .bool e_1.Capable, .lst false (ml eGReach e_1.Links), .lst false (ml eGClaim e_1.Claims)]), (24552, .slice 52 2 (ml eGRouter l_1) 0 false), (24013, .cells 29 [.int .i64 vx_3.1.Router, .int .i64 vx_3.1.Seq, .bool vx_3.1.Capable, .lst false (ml eGReach vx_3.1.Links), .lst false (ml eGClaim vx_3.1.Claims)])] (by kernel_rfl) ?_
          obtain ⟨l_3, h8, hm⟩ := bnd_some hm
          refine A.R W0 [] [(3, hap 24616 (ap eGAdvert (bytes := 72) (by decide) h8))] [(2, .ptr 24002 0), (4, .ptr 24004 0), (7, .ptr 24007 0), (8, .mapv 24031), (9, .own 24616), (10, .ptr 24010 0), (55, .lst false (ml eGReach e_1.Links)), (56, .int .i64 (e_1.Links.length:Int)), (57, .int .i64 (j2 : Int))] [(24002, .cells 25 [.lst false (ml eGAdvert d.Adverts)]), (24004, .cells 46 [.nils, .nils]), (24007, .cells 46 [.own 24552, .own 702400701]), (24031, .map 3 4 (encM .i64 vB (setI m_5 vx_3.1.Router true))), (702400701, .slice 84 5 (ml eGLink m_8) 0 false), (24010, .cells 29 [.int .i64 e_1.Router, .int .i64 e_1.Seq, .bool e_1.Capable, .lst false (ml eGReach e_1.Links), .lst false (ml eGClaim e_1.Claims)]), (24552, .slice 52 2 (ml eGRouter l_1) 0 false), (24616, .win 29 5 (ml eGAdvert l_3))] (by kernel_rfl) ?_
          exact Exists.intro (l_3, setI m_5 vx_3.1.Router true, m_8) (And.intro hm (Weak.go [.sw 24616 600024009] [] (by kernel_rfl)))
        refine A.cF rfl c7 ?_
        refine A.skip ?_
        exact Exists.intro (work_2, m_5, m_8) (And.intro hm (Weak.go [] [] (by kernel_rfl)))
      rintro ⟨work_3, m_6, m_7⟩ hm
      rw [hJ2] at hm
      refine A.R W0 [] [(0, hto (inc hx2 hb2))] [(2, .ptr 24002 0), (4, .ptr 24004 0), (7, .ptr 24007 0), (8, .mapv 24031), (9, .own 600024009), (10, .ptr 24010 0), (55, .lst false (ml eGReach e_1.Links)), (56, .int .i64 (e_1.Links.length:Int)), (57, .int .i64 ((j2 + 1 : Nat) : Int))] [(24002, .cells 25 [.lst false (ml eGAdvert d.Adverts)]), (24004, .cells 46 [.nils, .nils]), (24007, .cells 46 [.own 24552, .own 702400701]), (24031, .map 3 4 (encM .i64 vB m_6)), (600024009, .win 29 5 (ml eGAdvert work_3)), (702400701, .slice 84 5 (ml eGLink m_7) 0 false), (24010, .cells 29 [.int .i64 e_1.Router, .int .i64 e_1.Seq, .bool e_1.Capable, .lst false (ml eGReach e_1.Links), .lst false (ml eGClaim e_1.Claims)]), (24552, .slice 52 2 (ml eGRouter l_1) 0 false)] (by kernel_rfl) ?_
      exact Exists.intro (work_3, m_7, m_6) (And.intro hm (Weak.go [] [] (by kernel_rfl)))
    rintro j2 ⟨work_2, m_4, m_5⟩ hj2 hl2 hm
    rw [hK2] at hm
    refine A.RS W0 [] [] [(2, .ptr 24002 0), (4, .ptr 24004 0), (7, .ptr 24007 0), (8, .mapv 24031), (9, .own 600024009), (10, .ptr 24010 0), (55, .lst false (ml eGReach e_1.Links)), (56, .int .i64 (e_1.Links.length:Int)), (57, .int .i64 (j2 : Int)), (58, .bool (decide ((j2 : Int) < (e_1.Links.length:Int))))] [(24002, .cells 25 [.lst false (ml eGAdvert d.Adverts)]), (24004, .cells 46 [.nils, .nils]), (24007, .cells 46 [.own 24552, .own 702400701]), (24031, .map 3 4 (encM .i64 vB m_5)), (600024009, .win 29 5 (ml eGAdvert work_2)), (702400701, .slice 84 5 (ml eGLink m_4) 0 false), (24010, .cells 29 [.int .i64 e_1.Router, .int .i64 e_1.Seq, .bool e_1.Capable, .lst false (ml eGReach e_1.Links), .lst false (ml eGClaim e_1.Claims)]), (24552, .slice 52 2 (ml eGRouter l_1) 0 false)] (by kernel_rfl) ?_
    refine A.seq ?_
    refine A.cF rfl (ltF hl2) ?_
    refine A.exit ?_
    show acode _ _ _ _ _
    obtain ⟨l_4, h9, hm⟩ := bnd_some hm
    refine A.R W0 [] [(1, hws 24540 (slE2 eGAdvert h9))] [(2, .ptr 24002 0), (4, .ptr 24004 0), (7, .ptr 24007 0), (8, .mapv 24031), (9, .own 24540)] [(24002, .cells 25 [.lst false (ml eGAdvert d.Adverts)]), (24004, .cells 46 [.nils, .nils]), (24007, .cells 46 [.own 24552, .own 702400701]), (24031, .map 3 4 (encM .i64 vB m_5)), (702400701, .slice 84 5 (ml eGLink m_4) 0 false), (24552, .slice 52 2 (ml eGRouter l_1) 0 false), (24540, .win 29 5 (ml eGAdvert l_4))] (by kernel_rfl) ?_
    exact Exists.intro (l_4, l_1, m_4, m_5) (And.intro hm (Weak.go [.sw 24540 600024009, .sw 24552 702400700] [] (by kernel_rfl)))
  refine A.cF rfl c3 ?_
  refine A.exit ?_
  show acode _ _ _ _ _
  obtain ⟨l_5, h10, hm⟩ := bnd_some hm
  refine A.RS W0 [] [(2, hdc [] (sort_53 (d := 702400700) (T := 52) h10) ck52)] [(4, .ptr 24004 0), (7, .ptr 24007 0)] [(24004, .cells 46 [.nils, .nils]), (24007, .cells 46 [.own 702400700, .own 702400701]), (702400700, .slice 52 2 (ml eGRouter l_5) 0 false), (702400701, .slice 84 5 (ml eGLink m_2) 0 false)] (by kernel_rfl) ?_
  obtain ⟨l_6, h11, hm⟩ := bnd_some hm
  refine A.RS W0 [] [(2, hdc [] (sort_56 (d := 702400701) (T := 84) h11) ck55)] [(4, .ptr 24004 0), (7, .ptr 24007 0)] [(24004, .cells 46 [.nils, .nils]), (24007, .cells 46 [.own 702400700, .own 702400701]), (702400700, .slice 52 2 (ml eGRouter l_5) 0 false), (702400701, .slice 84 5 (ml eGLink l_6) 0 false)] (by kernel_rfl) ?_
  refine A.seq ?_
  obtain ⟨vx_5, h12, hm⟩ := bnd_some hm
  refine A.RS W0 [] [(1, hle [702400700, 702400701] (m_topology_Check_ok h12) ck58)] [(4, .ptr 24004 0), (7, .ptr 24007 0), (126, .bool (!decide (vx_5 = (0:Int))))] [(24004, .cells 46 [.nils, .nils]), (24007, .cells 46 [.own 702400700, .own 702400701]), (702400700, .slice 52 2 (ml eGRouter l_5) 0 false), (702400701, .slice 84 5 (ml eGLink l_6) 0 false)] (by kernel_rfl) ?_
  rcases cs_some hm with ⟨c8, hm⟩ | ⟨c8, hm⟩
  · skip
    refine A.cT rfl c8 ?_
    refine A.RS W0 [] [] [(4, .ptr 24004 0)] [(24004, .cells 46 [.nils, .nils])] (by kernel_rfl) ?_
    refine A.ret ?_
    obtain rfl := some_inj hm
    exact A.fin W0 [] rfl (by kernel_rfl)
  refine A.cF rfl c8 ?_
  refine A.skip ?_
  show acode _ _ _ _ _
  refine A.RS W0 [] [] [(4, .ptr 24004 0)] [(24004, .cells 46 [.own 702400700, .own 702400701]), (702400700, .slice 52 2 (ml eGRouter l_5) 0 false), (702400701, .slice 84 5 (ml eGLink l_6) 0 false)] (by kernel_rfl) ?_
  refine A.ret ?_
  obtain rfl := some_inj hm
  exact A.fin W0 [.fz [702400700, 702400701]] rfl (by kernel_rfl)
end Go.Proofs.YtmcjffllahcclaaGreat
