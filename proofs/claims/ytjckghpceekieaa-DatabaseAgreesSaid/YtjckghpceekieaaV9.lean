/- The walks of functions of the program. No condition but those that stand in each. -/
import Derived.Test.YtjckghpceekieaaD9
import Derived.Test.YtjckghpceekieaaV4
import Derived.Test.YtjckghpceekieaaVC
import Derived.Test.YtjckghpceekieaaSF
namespace Go.Proofs.Ytjckghpceekieaa
open Go
set_option maxRecDepth 100000
set_option linter.all false
theorem m_bitset_ValidLength_ok {n : Int} {r : Bool} (hm : m_bitset_ValidLength n = some r) : RO Try.prog 78 [] [.int .i64 n] (.bool r) := by
  refine enterA Try.func78 rfl rfl ?_
  unfold m_bitset_ValidLength at hm
  refine A.RS W0 [] [] [(0, .int .i64 n)] [] (by kernel_rfl) ?_
  refine A.mid [(2, .bool ((decide (n = (8:Int))) || ((decide (n = (16:Int))) || ((decide (n = (32:Int))) || (decide (n = (64:Int)))))))] [] (fun hk => ?_) ?_
  · skip
    rcases tf (decide (n = (8:Int))) with c1 | c1
    · skip
      exact A.RS W0 [] [(2, hto (bE c1)), (14, hto (orT (q := ((decide (n = (16:Int))) || ((decide (n = (32:Int))) || (decide (n = (64:Int)))))) c1))] _ _ (by kernel_rfl) hk
    rcases tf (decide (n = (16:Int))) with c2 | c2
    · skip
      exact A.RS W0 [] [(2, hto (bE c1)), (6, hto (bE c2)), (14, hto ((orT (q := ((decide (n = (32:Int))) || (decide (n = (64:Int))))) c2).trans (orF (q := ((decide (n = (16:Int))) || ((decide (n = (32:Int))) || (decide (n = (64:Int)))))) c1)))] _ _ (by kernel_rfl) hk
    rcases tf (decide (n = (32:Int))) with c3 | c3
    · skip
      exact A.RS W0 [] [(2, hto (bE c1)), (6, hto (bE c2)), (10, hto (bE c3)), (14, hto (((orT (q := decide (n = (64:Int))) c3).trans (orF (q := ((decide (n = (32:Int))) || (decide (n = (64:Int))))) c2)).trans (orF (q := ((decide (n = (16:Int))) || ((decide (n = (32:Int))) || (decide (n = (64:Int)))))) c1)))] _ _ (by kernel_rfl) hk
    exact A.RS W0 [] [(2, hto (bE c1)), (6, hto (bE c2)), (10, hto (bE c3)), (14, hto (((orF (q := decide (n = (64:Int))) c3).trans (orF (q := ((decide (n = (32:Int))) || (decide (n = (64:Int))))) c2)).trans (orF (q := ((decide (n = (16:Int))) || ((decide (n = (32:Int))) || (decide (n = (64:Int)))))) c1)))] _ _ (by kernel_rfl) hk
  refine A.ret ?_
  obtain rfl := some_inj hm
  exact A.fin W0 [] rfl (by kernel_rfl)
theorem m_advert_in_ok {n : Int} {least : Int} {most : Int} {r : Bool} (hm : m_advert_in n least most = some r) : RO Try.prog 77 [] [.int .i64 n, .int .i64 least, .int .i64 most] (.bool r) := by
  refine enterA Try.func77 rfl rfl ?_
  unfold m_advert_in at hm
  refine A.RS W0 [] [] [(0, .int .i64 n), (1, .int .i64 least), (2, .int .i64 most)] [] (by kernel_rfl) ?_
  refine A.mid [(6, .bool ((decide (least ≤ n)) && (decide (n ≤ most))))] [] (fun hk => ?_) ?_
  · skip
    rcases tf (decide (least ≤ n)) with c1 | c1
    · skip
      exact A.RS W0 [] [(3, hto (bE c1)), (8, hto (andT (q := decide (n ≤ most)) c1))] _ _ (by kernel_rfl) hk
    exact A.RS W0 [] [(3, hto (bE c1)), (8, hto (andF (q := decide (n ≤ most)) c1))] _ _ (by kernel_rfl) hk
  refine A.ret ?_
  obtain rfl := some_inj hm
  exact A.fin W0 [] rfl (by kernel_rfl)
theorem m_advert_Valid_ok {a : GAdvert} {r : Bool} (hm : m_advert_Valid a = some r) : RO Try.prog 48 [] [.agg [.int .i64 a.Router, .int .i64 a.Seq, .bool a.Capable, .lst false (ml eGReach a.Links), .lst false (ml eGClaim a.Claims)]] (.bool r) := by
  refine enterA Try.func48 rfl rfl ?_
  unfold m_advert_Valid at hm
  refine A.RS W0 [] [(0, .al 48001)] [(1, .ptr 48001 0)] [(48001, .cells 38 [.int .i64 a.Router, .int .i64 a.Seq, .bool a.Capable, .lst false (ml eGReach a.Links), .lst false (ml eGClaim a.Claims)])] (by kernel_rfl) ?_
  refine A.seq ?_
  obtain ⟨J1, hJ1, hm⟩ := jn_some hm
  refine A.J (J := J1) (r := r) (fun v_1 => [(1, .ptr 48001 0), (28, .bool v_1)]) (fun v_1 => [(48001, .cells 38 [.int .i64 a.Router, .int .i64 a.Seq, .bool a.Capable, .lst false (ml eGReach a.Links), .lst false (ml eGClaim a.Claims)])]) ?_ ?_
  · skip
    obtain ⟨vx_1, h1, hm⟩ := bnd_some hm
    rcases cs_some hm with ⟨c1, hm⟩ | ⟨c1, hm⟩
    · skip
      refine A.R W0 [] [(2, hro (m_advert_in_ok h1) ck77), (4, hto (bE c1))] [(1, .ptr 48001 0), (28, .bool true)] [(48001, .cells 38 [.int .i64 a.Router, .int .i64 a.Seq, .bool a.Capable, .lst false (ml eGReach a.Links), .lst false (ml eGClaim a.Claims)])] (by kernel_rfl) ?_
      exact Exists.intro true (And.intro hm (Weak.go [] [] (by kernel_rfl)))
    obtain ⟨vx_2, h2, hm⟩ := bnd_some hm
    rcases cs_some hm with ⟨c2, hm⟩ | ⟨c2, hm⟩
    · skip
      refine A.R W0 [] [(2, hro (m_advert_in_ok h1) ck77), (4, hto (bE c1)), (7, hro (m_advert_in_ok h2) ck77), (10, hto (bE c2))] [(1, .ptr 48001 0), (28, .bool true)] [(48001, .cells 38 [.int .i64 a.Router, .int .i64 a.Seq, .bool a.Capable, .lst false (ml eGReach a.Links), .lst false (ml eGClaim a.Claims)])] (by kernel_rfl) ?_
      exact Exists.intro true (And.intro hm (Weak.go [] [] (by kernel_rfl)))
    rcases cs_some hm with ⟨c3, hm⟩ | ⟨c3, hm⟩
    · skip
      refine A.R W0 [] [(2, hro (m_advert_in_ok h1) ck77), (4, hto (bE c1)), (7, hro (m_advert_in_ok h2) ck77), (10, hto (bE c2)), (13, hto (lnE eGReach a.Links)), (16, hto (bE c3))] [(1, .ptr 48001 0), (28, .bool true)] [(48001, .cells 38 [.int .i64 a.Router, .int .i64 a.Seq, .bool a.Capable, .lst false (ml eGReach a.Links), .lst false (ml eGClaim a.Claims)])] (by kernel_rfl) ?_
      exact Exists.intro true (And.intro hm (Weak.go [] [] (by kernel_rfl)))
    refine A.R W0 [] [(2, hro (m_advert_in_ok h1) ck77), (4, hto (bE c1)), (7, hro (m_advert_in_ok h2) ck77), (10, hto (bE c2)), (13, hto (lnE eGReach a.Links)), (16, hto (bE c3)), (19, hto (lnE eGClaim a.Claims))] [(1, .ptr 48001 0), (28, .bool (decide ((8:Int) < (a.Claims.length:Int))))] [(48001, .cells 38 [.int .i64 a.Router, .int .i64 a.Seq, .bool a.Capable, .lst false (ml eGReach a.Links), .lst false (ml eGClaim a.Claims)])] (by kernel_rfl) ?_
    exact Exists.intro (decide ((8:Int) < (a.Claims.length:Int))) (And.intro hm (Weak.go [] [] (by kernel_rfl)))
  rintro v_1 hm
  rw [hJ1] at hm
  rcases cs_some hm with ⟨c4, hm⟩ | ⟨c4, hm⟩
  · skip
    refine A.cT rfl c4 ?_
    refine A.RS W0 [] [] [(2, .bool false)] [] (by kernel_rfl) ?_
    refine A.ret ?_
    obtain rfl := some_inj hm
    exact A.fin W0 [] rfl (by kernel_rfl)
  refine A.cF rfl c4 ?_
  refine A.skip ?_
  show acode _ _ _ _ _
  refine A.seq ?_
  refine A.RS W0 [] [(2, hto (lnE eGReach a.Links))] [(1, .ptr 48001 0), (30, .lst false (ml eGReach a.Links)), (31, .int .i64 (a.Links.length:Int)), (32, .int .i64 (0:Int))] [(48001, .cells 38 [.int .i64 a.Router, .int .i64 a.Seq, .bool a.Capable, .lst false (ml eGReach a.Links), .lst false (ml eGClaim a.Claims)])] (by kernel_rfl) ?_
  refine A.block ?_
  refine A.bS 30 rfl fun hb1 => ?_
  obtain ⟨B1, K1, hB1, hK1, hm⟩ := forI_some hm
  refine A.lpI (l := a.Links) (j0 := 0) (B := B1) (K := K1) hm (fun j1 => fun sg => match sg with | () => [(1, .ptr 48001 0), (30, .lst false (ml eGReach a.Links)), (31, .int .i64 (a.Links.length:Int)), (32, .int .i64 (j1 : Int))]) (fun j1 => fun sg => match sg with | () => [(48001, .cells 38 [.int .i64 a.Router, .int .i64 a.Seq, .bool a.Capable, .lst false (ml eGReach a.Links), .lst false (ml eGClaim a.Claims)])]) ?_ ?_ ?_
  · exact Weak.go [] [] (by kernel_rfl)
  · skip
    rintro j1 e1 Z1 ⟨⟩ hj1 hx1 hm
    rw [hB1] at hm
    refine A.RS W0 [] [] [(1, .ptr 48001 0), (30, .lst false (ml eGReach a.Links)), (31, .int .i64 (a.Links.length:Int)), (32, .int .i64 (j1 : Int)), (33, .bool (decide ((j1 : Int) < (a.Links.length:Int))))] [(48001, .cells 38 [.int .i64 a.Router, .int .i64 a.Seq, .bool a.Capable, .lst false (ml eGReach a.Links), .lst false (ml eGClaim a.Claims)])] (by kernel_rfl) ?_
    refine A.seq ?_
    refine A.cT rfl (ltT hx1) ?_
    refine A.skip ?_
    show acode _ _ _ _ _
    refine A.seq ?_
    refine A.block ?_
    refine A.RS W0 [] [(1, hix (ix eGReach (elO_nat hx1))), (3, .al 48004)] [(1, .ptr 48001 0), (30, .lst false (ml eGReach a.Links)), (31, .int .i64 (a.Links.length:Int)), (32, .int .i64 (j1 : Int)), (4, .ptr 48004 0), (3, .int .i64 (j1 : Int))] [(48001, .cells 38 [.int .i64 a.Router, .int .i64 a.Seq, .bool a.Capable, .lst false (ml eGReach a.Links), .lst false (ml eGClaim a.Claims)]), (48004, .cells 51 [.int .i64 e1.Neighbour, .int .i64 e1.Cost, .int .i64 e1.Capacity])] (by kernel_rfl) ?_
    obtain ⟨J2, hJ2, hm⟩ := jn_some hm
    refine A.J (J := J2) (r := r) (fun v_2 => [(1, .ptr 48001 0), (30, .lst false (ml eGReach a.Links)), (31, .int .i64 (a.Links.length:Int)), (32, .int .i64 (j1 : Int)), (75, .bool v_2)]) (fun v_2 => [(48001, .cells 38 [.int .i64 a.Router, .int .i64 a.Seq, .bool a.Capable, .lst false (ml eGReach a.Links), .lst false (ml eGClaim a.Claims)])]) ?_ ?_
    · skip
      obtain ⟨vx_3, h3, hm⟩ := bnd_some hm
      rcases cs_some hm with ⟨c5, hm⟩ | ⟨c5, hm⟩
      · skip
        refine A.R W0 [] [(2, hro (m_advert_in_ok h3) ck77), (4, hto (bE c5))] [(1, .ptr 48001 0), (30, .lst false (ml eGReach a.Links)), (31, .int .i64 (a.Links.length:Int)), (32, .int .i64 (j1 : Int)), (75, .bool true)] [(48001, .cells 38 [.int .i64 a.Router, .int .i64 a.Seq, .bool a.Capable, .lst false (ml eGReach a.Links), .lst false (ml eGClaim a.Claims)])] (by kernel_rfl) ?_
        exact Exists.intro true (And.intro hm (Weak.go [] [] (by kernel_rfl)))
      rcases cs_some hm with ⟨c6, hm⟩ | ⟨c6, hm⟩
      · skip
        refine A.R W0 [] [(2, hro (m_advert_in_ok h3) ck77), (4, hto (bE c5)), (11, hto (bE c6))] [(1, .ptr 48001 0), (30, .lst false (ml eGReach a.Links)), (31, .int .i64 (a.Links.length:Int)), (32, .int .i64 (j1 : Int)), (75, .bool true)] [(48001, .cells 38 [.int .i64 a.Router, .int .i64 a.Seq, .bool a.Capable, .lst false (ml eGReach a.Links), .lst false (ml eGClaim a.Claims)])] (by kernel_rfl) ?_
        exact Exists.intro true (And.intro hm (Weak.go [] [] (by kernel_rfl)))
      obtain ⟨vx_4, h4, hm⟩ := bnd_some hm
      rcases cs_some hm with ⟨c7, hm⟩ | ⟨c7, hm⟩
      · skip
        refine A.R W0 [] [(2, hro (m_advert_in_ok h3) ck77), (4, hto (bE c5)), (11, hto (bE c6)), (14, hro (m_advert_in_ok h4) ck77), (17, hto (bE c7))] [(1, .ptr 48001 0), (30, .lst false (ml eGReach a.Links)), (31, .int .i64 (a.Links.length:Int)), (32, .int .i64 (j1 : Int)), (75, .bool true)] [(48001, .cells 38 [.int .i64 a.Router, .int .i64 a.Seq, .bool a.Capable, .lst false (ml eGReach a.Links), .lst false (ml eGClaim a.Claims)])] (by kernel_rfl) ?_
        exact Exists.intro true (And.intro hm (Weak.go [] [] (by kernel_rfl)))
      obtain ⟨vx_5, h5, hm⟩ := bnd_some hm
      rcases cs_some hm with ⟨c8, hm⟩ | ⟨c8, hm⟩
      · skip
        refine A.R W0 [] [(2, hro (m_advert_in_ok h3) ck77), (4, hto (bE c5)), (11, hto (bE c6)), (14, hro (m_advert_in_ok h4) ck77), (17, hto (bE c7)), (20, hro (m_advert_in_ok h5) ck77), (23, hto (bE c8))] [(1, .ptr 48001 0), (30, .lst false (ml eGReach a.Links)), (31, .int .i64 (a.Links.length:Int)), (32, .int .i64 (j1 : Int)), (75, .bool true)] [(48001, .cells 38 [.int .i64 a.Router, .int .i64 a.Seq, .bool a.Capable, .lst false (ml eGReach a.Links), .lst false (ml eGClaim a.Claims)])] (by kernel_rfl) ?_
        exact Exists.intro true (And.intro hm (Weak.go [] [] (by kernel_rfl)))
      rcases cs_some hm with ⟨c9, hm⟩ | ⟨c9, hm⟩
      · skip
        obtain ⟨e_1, h6, hm⟩ := bnd_some hm
        refine A.R W0 [] [(2, hro (m_advert_in_ok h3) ck77), (4, hto (bE c5)), (11, hto (bE c6)), (14, hro (m_advert_in_ok h4) ck77), (17, hto (bE c7)), (20, hro (m_advert_in_ok h5) ck77), (23, hto (bE c8)), (26, hto (bE c9)), (31, hix (ix eGReach h6))] [(1, .ptr 48001 0), (30, .lst false (ml eGReach a.Links)), (31, .int .i64 (a.Links.length:Int)), (32, .int .i64 (j1 : Int)), (75, .bool (decide (e1.Neighbour ≤ e_1.Neighbour)))] [(48001, .cells 38 [.int .i64 a.Router, .int .i64 a.Seq, .bool a.Capable, .lst false (ml eGReach a.Links), .lst false (ml eGClaim a.Claims)])] (by kernel_rfl) ?_
        exact Exists.intro (decide (e1.Neighbour ≤ e_1.Neighbour)) (And.intro hm (Weak.go [] [] (by kernel_rfl)))
      refine A.R W0 [] [(2, hro (m_advert_in_ok h3) ck77), (4, hto (bE c5)), (11, hto (bE c6)), (14, hro (m_advert_in_ok h4) ck77), (17, hto (bE c7)), (20, hro (m_advert_in_ok h5) ck77), (23, hto (bE c8)), (26, hto (bE c9))] [(1, .ptr 48001 0), (30, .lst false (ml eGReach a.Links)), (31, .int .i64 (a.Links.length:Int)), (32, .int .i64 (j1 : Int)), (75, .bool false)] [(48001, .cells 38 [.int .i64 a.Router, .int .i64 a.Seq, .bool a.Capable, .lst false (ml eGReach a.Links), .lst false (ml eGClaim a.Claims)])] (by kernel_rfl) ?_
      exact Exists.intro false (And.intro hm (Weak.go [] [] (by kernel_rfl)))
    rintro v_2 hm
    rw [hJ2] at hm
    rcases cs_some hm with ⟨c10, hm⟩ | ⟨c10, hm⟩
    · skip
      refine A.cT rfl c10 ?_
      refine A.RS W0 [] [] [(2, .bool false)] [] (by kernel_rfl) ?_
      refine A.ret ?_
      obtain rfl := some_inj hm
      exact A.fin W0 [] rfl (by kernel_rfl)
    refine A.cF rfl c10 ?_
    refine A.skip ?_
    show acode _ _ _ _ _
    refine A.R W0 [] [(0, hto (inc hx1 hb1))] [(1, .ptr 48001 0), (30, .lst false (ml eGReach a.Links)), (31, .int .i64 (a.Links.length:Int)), (32, .int .i64 ((j1 + 1 : Nat) : Int))] [(48001, .cells 38 [.int .i64 a.Router, .int .i64 a.Seq, .bool a.Capable, .lst false (ml eGReach a.Links), .lst false (ml eGClaim a.Claims)])] (by kernel_rfl) ?_
    exact Exists.intro () (And.intro hm (Weak.go [] [] (by kernel_rfl)))
  rintro j1 ⟨⟩ hj1 hl1 hm
  rw [hK1] at hm
  refine A.RS W0 [] [] [(1, .ptr 48001 0), (30, .lst false (ml eGReach a.Links)), (31, .int .i64 (a.Links.length:Int)), (32, .int .i64 (j1 : Int)), (33, .bool (decide ((j1 : Int) < (a.Links.length:Int))))] [(48001, .cells 38 [.int .i64 a.Router, .int .i64 a.Seq, .bool a.Capable, .lst false (ml eGReach a.Links), .lst false (ml eGClaim a.Claims)])] (by kernel_rfl) ?_
  refine A.seq ?_
  refine A.cF rfl (ltF hl1) ?_
  refine A.exit ?_
  show acode _ _ _ _ _
  refine A.seq ?_
  refine A.RS W0 [] [(2, hto (lnE eGClaim a.Claims))] [(1, .ptr 48001 0), (78, .lst false (ml eGClaim a.Claims)), (79, .int .i64 (a.Claims.length:Int)), (80, .int .i64 (0:Int))] [(48001, .cells 38 [.int .i64 a.Router, .int .i64 a.Seq, .bool a.Capable, .lst false (ml eGReach a.Links), .lst false (ml eGClaim a.Claims)])] (by kernel_rfl) ?_
  refine A.block ?_
  refine A.bS 78 rfl fun hb2 => ?_
  obtain ⟨B2, K2, hB2, hK2, hm⟩ := forI_some hm
  refine A.lpI (l := a.Claims) (j0 := 0) (B := B2) (K := K2) hm (fun j2 => fun sg => match sg with | () => [(1, .ptr 48001 0), (78, .lst false (ml eGClaim a.Claims)), (79, .int .i64 (a.Claims.length:Int)), (80, .int .i64 (j2 : Int))]) (fun j2 => fun sg => match sg with | () => [(48001, .cells 38 [.int .i64 a.Router, .int .i64 a.Seq, .bool a.Capable, .lst false (ml eGReach a.Links), .lst false (ml eGClaim a.Claims)])]) ?_ ?_ ?_
  · exact Weak.go [] [] (by kernel_rfl)
  · skip
    rintro j2 e2 Z2 ⟨⟩ hj2 hx2 hm
    rw [hB2] at hm
    refine A.RS W0 [] [] [(1, .ptr 48001 0), (78, .lst false (ml eGClaim a.Claims)), (79, .int .i64 (a.Claims.length:Int)), (80, .int .i64 (j2 : Int)), (81, .bool (decide ((j2 : Int) < (a.Claims.length:Int))))] [(48001, .cells 38 [.int .i64 a.Router, .int .i64 a.Seq, .bool a.Capable, .lst false (ml eGReach a.Links), .lst false (ml eGClaim a.Claims)])] (by kernel_rfl) ?_
    refine A.seq ?_
    refine A.cT rfl (ltT hx2) ?_
    refine A.skip ?_
    show acode _ _ _ _ _
    refine A.seq ?_
    refine A.block ?_
    refine A.RS W0 [] [(1, hix (ix eGClaim (elO_nat hx2))), (3, .al 48006)] [(1, .ptr 48001 0), (78, .lst false (ml eGClaim a.Claims)), (79, .int .i64 (a.Claims.length:Int)), (80, .int .i64 (j2 : Int)), (6, .ptr 48006 0), (5, .int .i64 (j2 : Int))] [(48001, .cells 38 [.int .i64 a.Router, .int .i64 a.Seq, .bool a.Capable, .lst false (ml eGReach a.Links), .lst false (ml eGClaim a.Claims)]), (48006, .cells 62 [.int .i64 e2.Subdomain, .int .i64 e2.ID, .int .i64 e2.Length])] (by kernel_rfl) ?_
    obtain ⟨J3, hJ3, hm⟩ := jn_some hm
    refine A.J (J := J3) (r := r) (fun v_3 => [(1, .ptr 48001 0), (78, .lst false (ml eGClaim a.Claims)), (79, .int .i64 (a.Claims.length:Int)), (80, .int .i64 (j2 : Int)), (116, .bool v_3)]) (fun v_3 => [(48001, .cells 38 [.int .i64 a.Router, .int .i64 a.Seq, .bool a.Capable, .lst false (ml eGReach a.Links), .lst false (ml eGClaim a.Claims)])]) ?_ ?_
    · skip
      obtain ⟨vx_6, h7, hm⟩ := bnd_some hm
      rcases cs_some hm with ⟨c11, hm⟩ | ⟨c11, hm⟩
      · skip
        refine A.R W0 [] [(2, hro (m_advert_in_ok h7) ck77), (4, hto (bE c11))] [(1, .ptr 48001 0), (78, .lst false (ml eGClaim a.Claims)), (79, .int .i64 (a.Claims.length:Int)), (80, .int .i64 (j2 : Int)), (116, .bool true)] [(48001, .cells 38 [.int .i64 a.Router, .int .i64 a.Seq, .bool a.Capable, .lst false (ml eGReach a.Links), .lst false (ml eGClaim a.Claims)])] (by kernel_rfl) ?_
        exact Exists.intro true (And.intro hm (Weak.go [] [] (by kernel_rfl)))
      obtain ⟨vx_7, h8, hm⟩ := bnd_some hm
      rcases cs_some hm with ⟨c12, hm⟩ | ⟨c12, hm⟩
      · skip
        refine A.R W0 [] [(2, hro (m_advert_in_ok h7) ck77), (4, hto (bE c11)), (7, hro (m_advert_in_ok h8) ck77), (10, hto (bE c12))] [(1, .ptr 48001 0), (78, .lst false (ml eGClaim a.Claims)), (79, .int .i64 (a.Claims.length:Int)), (80, .int .i64 (j2 : Int)), (116, .bool true)] [(48001, .cells 38 [.int .i64 a.Router, .int .i64 a.Seq, .bool a.Capable, .lst false (ml eGReach a.Links), .lst false (ml eGClaim a.Claims)])] (by kernel_rfl) ?_
        exact Exists.intro true (And.intro hm (Weak.go [] [] (by kernel_rfl)))
      obtain ⟨vx_8, h9, hm⟩ := bnd_some hm
      rcases cs_some hm with ⟨c13, hm⟩ | ⟨c13, hm⟩
      · skip
        refine A.R W0 [] [(2, hro (m_advert_in_ok h7) ck77), (4, hto (bE c11)), (7, hro (m_advert_in_ok h8) ck77), (10, hto (bE c12)), (13, hro (m_bitset_ValidLength_ok h9) ck78), (16, hto (bE c13))] [(1, .ptr 48001 0), (78, .lst false (ml eGClaim a.Claims)), (79, .int .i64 (a.Claims.length:Int)), (80, .int .i64 (j2 : Int)), (116, .bool true)] [(48001, .cells 38 [.int .i64 a.Router, .int .i64 a.Seq, .bool a.Capable, .lst false (ml eGReach a.Links), .lst false (ml eGClaim a.Claims)])] (by kernel_rfl) ?_
        exact Exists.intro true (And.intro hm (Weak.go [] [] (by kernel_rfl)))
      rcases cs_some hm with ⟨c14, hm⟩ | ⟨c14, hm⟩
      · skip
        obtain ⟨e_2, h10, hm⟩ := bnd_some hm
        refine A.R W0 [] [(2, hro (m_advert_in_ok h7) ck77), (4, hto (bE c11)), (7, hro (m_advert_in_ok h8) ck77), (10, hto (bE c12)), (13, hro (m_bitset_ValidLength_ok h9) ck78), (16, hto (bE c13)), (19, hto (bE c14)), (24, hix (ix eGClaim h10))] [(1, .ptr 48001 0), (78, .lst false (ml eGClaim a.Claims)), (79, .int .i64 (a.Claims.length:Int)), (80, .int .i64 (j2 : Int)), (116, .bool (decide (e2.Subdomain ≤ e_2.Subdomain)))] [(48001, .cells 38 [.int .i64 a.Router, .int .i64 a.Seq, .bool a.Capable, .lst false (ml eGReach a.Links), .lst false (ml eGClaim a.Claims)])] (by kernel_rfl) ?_
        exact Exists.intro (decide (e2.Subdomain ≤ e_2.Subdomain)) (And.intro hm (Weak.go [] [] (by kernel_rfl)))
      refine A.R W0 [] [(2, hro (m_advert_in_ok h7) ck77), (4, hto (bE c11)), (7, hro (m_advert_in_ok h8) ck77), (10, hto (bE c12)), (13, hro (m_bitset_ValidLength_ok h9) ck78), (16, hto (bE c13)), (19, hto (bE c14))] [(1, .ptr 48001 0), (78, .lst false (ml eGClaim a.Claims)), (79, .int .i64 (a.Claims.length:Int)), (80, .int .i64 (j2 : Int)), (116, .bool false)] [(48001, .cells 38 [.int .i64 a.Router, .int .i64 a.Seq, .bool a.Capable, .lst false (ml eGReach a.Links), .lst false (ml eGClaim a.Claims)])] (by kernel_rfl) ?_
      exact Exists.intro false (And.intro hm (Weak.go [] [] (by kernel_rfl)))
    rintro v_3 hm
    rw [hJ3] at hm
    rcases cs_some hm with ⟨c15, hm⟩ | ⟨c15, hm⟩
    · skip
      refine A.cT rfl c15 ?_
      refine A.RS W0 [] [] [(2, .bool false)] [] (by kernel_rfl) ?_
      refine A.ret ?_
      obtain rfl := some_inj hm
      exact A.fin W0 [] rfl (by kernel_rfl)
    refine A.cF rfl c15 ?_
    refine A.skip ?_
    show acode _ _ _ _ _
    refine A.R W0 [] [(0, hto (inc hx2 hb2))] [(1, .ptr 48001 0), (78, .lst false (ml eGClaim a.Claims)), (79, .int .i64 (a.Claims.length:Int)), (80, .int .i64 ((j2 + 1 : Nat) : Int))] [(48001, .cells 38 [.int .i64 a.Router, .int .i64 a.Seq, .bool a.Capable, .lst false (ml eGReach a.Links), .lst false (ml eGClaim a.Claims)])] (by kernel_rfl) ?_
    exact Exists.intro () (And.intro hm (Weak.go [] [] (by kernel_rfl)))
  rintro j2 ⟨⟩ hj2 hl2 hm
  rw [hK2] at hm
  refine A.RS W0 [] [] [(1, .ptr 48001 0), (78, .lst false (ml eGClaim a.Claims)), (79, .int .i64 (a.Claims.length:Int)), (80, .int .i64 (j2 : Int)), (81, .bool (decide ((j2 : Int) < (a.Claims.length:Int))))] [(48001, .cells 38 [.int .i64 a.Router, .int .i64 a.Seq, .bool a.Capable, .lst false (ml eGReach a.Links), .lst false (ml eGClaim a.Claims)])] (by kernel_rfl) ?_
  refine A.seq ?_
  refine A.cF rfl (ltF hl2) ?_
  refine A.exit ?_
  show acode _ _ _ _ _
  refine A.RS W0 [] [] [(2, .bool true)] [] (by kernel_rfl) ?_
  refine A.ret ?_
  obtain rfl := some_inj hm
  exact A.fin W0 [] rfl (by kernel_rfl)
theorem m_slices_EqualFunc_Lapi_Advert_Lapi_Advert_api_Advert_api_Advert_ok {s1 : List GAdvert} {s2 : List GAdvert} {eq : GAdvert → GAdvert → Option Bool} {eq_g : Nat} {eq_c : List AV} (eq_k : CallOk Try.prog eq_g) (eq_f : ∀ (y0 : GAdvert) (y1 : GAdvert) (q : Bool), eq y0 y1 = some q → RO Try.prog eq_g [] ([.agg [.int .i64 y0.Router, .int .i64 y0.Seq, .bool y0.Capable, .lst false (ml eGReach y0.Links), .lst false (ml eGClaim y0.Claims)], .agg [.int .i64 y1.Router, .int .i64 y1.Seq, .bool y1.Capable, .lst false (ml eGReach y1.Links), .lst false (ml eGClaim y1.Claims)]] ++ eq_c) (.bool q)) {r : Bool} (hm : m_slices_EqualFunc_Lapi_Advert_Lapi_Advert_api_Advert_api_Advert s1 s2 eq = some r) : RO Try.prog 50 [] [.lst false (ml eGAdvert s1), .lst false (ml eGAdvert s2), .cfn eq_g eq_c] (.bool r) := by
  refine enterA Try.func50 rfl rfl ?_
  unfold m_slices_EqualFunc_Lapi_Advert_Lapi_Advert_api_Advert_api_Advert at hm
  refine A.RS W0 [] [] [(0, .lst false (ml eGAdvert s1)), (1, .lst false (ml eGAdvert s2)), (2, .cfn eq_g eq_c)] [] (by kernel_rfl) ?_
  refine A.seq ?_
  refine A.RS W0 [] [(1, hto (lnE eGAdvert s1)), (3, hto (lnE eGAdvert s2))] [(0, .lst false (ml eGAdvert s1)), (1, .lst false (ml eGAdvert s2)), (2, .cfn eq_g eq_c), (14, .bool (!decide ((s1.length:Int) = (s2.length:Int))))] [] (by kernel_rfl) ?_
  rcases cs_some hm with ⟨c1, hm⟩ | ⟨c1, hm⟩
  · skip
    refine A.cT rfl c1 ?_
    refine A.RS W0 [] [] [(6, .bool false)] [] (by kernel_rfl) ?_
    refine A.ret ?_
    obtain rfl := some_inj hm
    exact A.fin W0 [] rfl (by kernel_rfl)
  refine A.cF rfl c1 ?_
  refine A.skip ?_
  show acode _ _ _ _ _
  refine A.seq ?_
  refine A.RS W0 [] [(1, hto (lnE eGAdvert s1))] [(1, .lst false (ml eGAdvert s2)), (2, .cfn eq_g eq_c), (15, .lst false (ml eGAdvert s1)), (16, .int .i64 (s1.length:Int)), (17, .int .i64 (0:Int))] [] (by kernel_rfl) ?_
  refine A.block ?_
  refine A.bS 15 rfl fun hb1 => ?_
  obtain ⟨B1, K1, hB1, hK1, hm⟩ := forI_some hm
  refine A.lpI (l := s1) (j0 := 0) (B := B1) (K := K1) hm (fun j1 => fun sg => match sg with | () => [(1, .lst false (ml eGAdvert s2)), (2, .cfn eq_g eq_c), (15, .lst false (ml eGAdvert s1)), (16, .int .i64 (s1.length:Int)), (17, .int .i64 (j1 : Int))]) (fun j1 => fun sg => match sg with | () => []) ?_ ?_ ?_
  · exact Weak.go [] [] (by kernel_rfl)
  · skip
    rintro j1 e1 Z1 ⟨⟩ hj1 hx1 hm
    rw [hB1] at hm
    refine A.RS W0 [] [] [(1, .lst false (ml eGAdvert s2)), (2, .cfn eq_g eq_c), (15, .lst false (ml eGAdvert s1)), (16, .int .i64 (s1.length:Int)), (17, .int .i64 (j1 : Int)), (18, .bool (decide ((j1 : Int) < (s1.length:Int))))] [] (by kernel_rfl) ?_
    refine A.seq ?_
    refine A.cT rfl (ltT hx1) ?_
    refine A.skip ?_
    show acode _ _ _ _ _
    refine A.seq ?_
    refine A.block ?_
    refine A.RS W0 [] [(1, hix (ix eGAdvert (elO_nat hx1))), (3, .al 50008)] [(1, .lst false (ml eGAdvert s2)), (2, .cfn eq_g eq_c), (15, .lst false (ml eGAdvert s1)), (16, .int .i64 (s1.length:Int)), (17, .int .i64 (j1 : Int)), (8, .ptr 50008 0), (7, .int .i64 (j1 : Int))] [(50008, .cells 38 [.int .i64 e1.Router, .int .i64 e1.Seq, .bool e1.Capable, .lst false (ml eGReach e1.Links), .lst false (ml eGClaim e1.Claims)])] (by kernel_rfl) ?_
    obtain ⟨e_1, h1, hm⟩ := bnd_some hm
    refine A.RS W0 [] [(2, hix (ix eGAdvert h1)), (4, .al 50009)] [(1, .lst false (ml eGAdvert s2)), (2, .cfn eq_g eq_c), (15, .lst false (ml eGAdvert s1)), (16, .int .i64 (s1.length:Int)), (17, .int .i64 (j1 : Int)), (8, .ptr 50008 0), (9, .ptr 50009 0)] [(50008, .cells 38 [.int .i64 e1.Router, .int .i64 e1.Seq, .bool e1.Capable, .lst false (ml eGReach e1.Links), .lst false (ml eGClaim e1.Claims)]), (50009, .cells 38 [.int .i64 e_1.Router, .int .i64 e_1.Seq, .bool e_1.Capable, .lst false (ml eGReach e_1.Links), .lst false (ml eGClaim e_1.Claims)])] (by kernel_rfl) ?_
    obtain ⟨vx_1, h2, hm⟩ := bnd_some hm
    refine A.RS W0 [] [(3, hrf (eq_f _ _ _ h2) eq_k)] [(1, .lst false (ml eGAdvert s2)), (2, .cfn eq_g eq_c), (15, .lst false (ml eGAdvert s1)), (16, .int .i64 (s1.length:Int)), (17, .int .i64 (j1 : Int)), (30, .bool (!vx_1))] [] (by kernel_rfl) ?_
    rcases cs_some hm with ⟨c2, hm⟩ | ⟨c2, hm⟩
    · skip
      refine A.cT rfl c2 ?_
      refine A.RS W0 [] [] [(6, .bool false)] [] (by kernel_rfl) ?_
      refine A.ret ?_
      obtain rfl := some_inj hm
      exact A.fin W0 [] rfl (by kernel_rfl)
    refine A.cF rfl c2 ?_
    refine A.skip ?_
    show acode _ _ _ _ _
    refine A.R W0 [] [(0, hto (inc hx1 hb1))] [(1, .lst false (ml eGAdvert s2)), (2, .cfn eq_g eq_c), (15, .lst false (ml eGAdvert s1)), (16, .int .i64 (s1.length:Int)), (17, .int .i64 ((j1 + 1 : Nat) : Int))] [] (by kernel_rfl) ?_
    exact Exists.intro () (And.intro hm (Weak.go [] [] (by kernel_rfl)))
  rintro j1 ⟨⟩ hj1 hl1 hm
  rw [hK1] at hm
  refine A.RS W0 [] [] [(1, .lst false (ml eGAdvert s2)), (2, .cfn eq_g eq_c), (15, .lst false (ml eGAdvert s1)), (16, .int .i64 (s1.length:Int)), (17, .int .i64 (j1 : Int)), (18, .bool (decide ((j1 : Int) < (s1.length:Int))))] [] (by kernel_rfl) ?_
  refine A.seq ?_
  refine A.cF rfl (ltF hl1) ?_
  refine A.exit ?_
  show acode _ _ _ _ _
  refine A.RS W0 [] [] [(6, .bool true)] [] (by kernel_rfl) ?_
  refine A.ret ?_
  obtain rfl := some_inj hm
  exact A.fin W0 [] rfl (by kernel_rfl)
theorem m_advert_equal_api_Reach_ok {a : List GReach} {b : List GReach} {r : Bool} (hm : m_advert_equal_api_Reach a b = some r) : RO Try.prog 81 [] [.lst false (ml eGReach a), .lst false (ml eGReach b)] (.bool r) := by
  refine enterA Try.func81 rfl rfl ?_
  unfold m_advert_equal_api_Reach at hm
  refine A.RS W0 [] [] [(0, .lst false (ml eGReach a)), (1, .lst false (ml eGReach b))] [] (by kernel_rfl) ?_
  refine A.seq ?_
  refine A.RS W0 [] [(1, hto (lnE eGReach a)), (3, hto (lnE eGReach b))] [(0, .lst false (ml eGReach a)), (1, .lst false (ml eGReach b)), (11, .bool (!decide ((a.length:Int) = (b.length:Int))))] [] (by kernel_rfl) ?_
  rcases cs_some hm with ⟨c1, hm⟩ | ⟨c1, hm⟩
  · skip
    refine A.cT rfl c1 ?_
    refine A.RS W0 [] [] [(4, .bool false)] [] (by kernel_rfl) ?_
    refine A.ret ?_
    obtain rfl := some_inj hm
    exact A.fin W0 [] rfl (by kernel_rfl)
  refine A.cF rfl c1 ?_
  refine A.skip ?_
  show acode _ _ _ _ _
  refine A.seq ?_
  refine A.RS W0 [] [(1, hto (lnE eGReach a))] [(1, .lst false (ml eGReach b)), (12, .lst false (ml eGReach a)), (13, .int .i64 (a.length:Int)), (14, .int .i64 (0:Int))] [] (by kernel_rfl) ?_
  refine A.block ?_
  refine A.bS 12 rfl fun hb1 => ?_
  obtain ⟨B1, K1, hB1, hK1, hm⟩ := forI_some hm
  refine A.lpI (l := a) (j0 := 0) (B := B1) (K := K1) hm (fun j1 => fun sg => match sg with | () => [(1, .lst false (ml eGReach b)), (12, .lst false (ml eGReach a)), (13, .int .i64 (a.length:Int)), (14, .int .i64 (j1 : Int))]) (fun j1 => fun sg => match sg with | () => []) ?_ ?_ ?_
  · exact Weak.go [] [] (by kernel_rfl)
  · skip
    rintro j1 e1 Z1 ⟨⟩ hj1 hx1 hm
    rw [hB1] at hm
    refine A.RS W0 [] [] [(1, .lst false (ml eGReach b)), (12, .lst false (ml eGReach a)), (13, .int .i64 (a.length:Int)), (14, .int .i64 (j1 : Int)), (15, .bool (decide ((j1 : Int) < (a.length:Int))))] [] (by kernel_rfl) ?_
    refine A.seq ?_
    refine A.cT rfl (ltT hx1) ?_
    refine A.skip ?_
    show acode _ _ _ _ _
    refine A.seq ?_
    refine A.block ?_
    refine A.RS W0 [] [(1, hix (ix eGReach (elO_nat hx1))), (3, .al 81006)] [(1, .lst false (ml eGReach b)), (12, .lst false (ml eGReach a)), (13, .int .i64 (a.length:Int)), (14, .int .i64 (j1 : Int)), (6, .ptr 81006 0), (5, .int .i64 (j1 : Int))] [(81006, .cells 51 [.int .i64 e1.Neighbour, .int .i64 e1.Cost, .int .i64 e1.Capacity])] (by kernel_rfl) ?_
    obtain ⟨e_1, h1, hm⟩ := bnd_some hm
    refine A.RS W0 [] [(3, hix (ix eGReach h1)), (5, .sq true 51 (.agg [.int .i64 e1.Neighbour, .int .i64 e1.Cost, .int .i64 e1.Capacity]) (.agg [.int .i64 e_1.Neighbour, .int .i64 e_1.Cost, .int .i64 e_1.Capacity]) (!(eqGReach e1 e_1)) (fun x y w => eq51_neq x y _ _ _ _ _ _ w))] [(1, .lst false (ml eGReach b)), (12, .lst false (ml eGReach a)), (13, .int .i64 (a.length:Int)), (14, .int .i64 (j1 : Int)), (24, .bool (!(eqGReach e1 e_1)))] [] (by kernel_rfl) ?_
    rcases cs_some hm with ⟨c2, hm⟩ | ⟨c2, hm⟩
    · skip
      refine A.cT rfl c2 ?_
      refine A.RS W0 [] [] [(4, .bool false)] [] (by kernel_rfl) ?_
      refine A.ret ?_
      obtain rfl := some_inj hm
      exact A.fin W0 [] rfl (by kernel_rfl)
    refine A.cF rfl c2 ?_
    refine A.skip ?_
    show acode _ _ _ _ _
    refine A.R W0 [] [(0, hto (inc hx1 hb1))] [(1, .lst false (ml eGReach b)), (12, .lst false (ml eGReach a)), (13, .int .i64 (a.length:Int)), (14, .int .i64 ((j1 + 1 : Nat) : Int))] [] (by kernel_rfl) ?_
    exact Exists.intro () (And.intro hm (Weak.go [] [] (by kernel_rfl)))
  rintro j1 ⟨⟩ hj1 hl1 hm
  rw [hK1] at hm
  refine A.RS W0 [] [] [(1, .lst false (ml eGReach b)), (12, .lst false (ml eGReach a)), (13, .int .i64 (a.length:Int)), (14, .int .i64 (j1 : Int)), (15, .bool (decide ((j1 : Int) < (a.length:Int))))] [] (by kernel_rfl) ?_
  refine A.seq ?_
  refine A.cF rfl (ltF hl1) ?_
  refine A.exit ?_
  show acode _ _ _ _ _
  refine A.RS W0 [] [] [(4, .bool true)] [] (by kernel_rfl) ?_
  refine A.ret ?_
  obtain rfl := some_inj hm
  exact A.fin W0 [] rfl (by kernel_rfl)
theorem m_advert_equal_api_Claim_ok {a : List GClaim} {b : List GClaim} {r : Bool} (hm : m_advert_equal_api_Claim a b = some r) : RO Try.prog 82 [] [.lst false (ml eGClaim a), .lst false (ml eGClaim b)] (.bool r) := by
  refine enterA Try.func82 rfl rfl ?_
  unfold m_advert_equal_api_Claim at hm
  refine A.RS W0 [] [] [(0, .lst false (ml eGClaim a)), (1, .lst false (ml eGClaim b))] [] (by kernel_rfl) ?_
  refine A.seq ?_
  refine A.RS W0 [] [(1, hto (lnE eGClaim a)), (3, hto (lnE eGClaim b))] [(0, .lst false (ml eGClaim a)), (1, .lst false (ml eGClaim b)), (11, .bool (!decide ((a.length:Int) = (b.length:Int))))] [] (by kernel_rfl) ?_
  rcases cs_some hm with ⟨c1, hm⟩ | ⟨c1, hm⟩
  · skip
    refine A.cT rfl c1 ?_
    refine A.RS W0 [] [] [(4, .bool false)] [] (by kernel_rfl) ?_
    refine A.ret ?_
    obtain rfl := some_inj hm
    exact A.fin W0 [] rfl (by kernel_rfl)
  refine A.cF rfl c1 ?_
  refine A.skip ?_
  show acode _ _ _ _ _
  refine A.seq ?_
  refine A.RS W0 [] [(1, hto (lnE eGClaim a))] [(1, .lst false (ml eGClaim b)), (12, .lst false (ml eGClaim a)), (13, .int .i64 (a.length:Int)), (14, .int .i64 (0:Int))] [] (by kernel_rfl) ?_
  refine A.block ?_
  refine A.bS 12 rfl fun hb1 => ?_
  obtain ⟨B1, K1, hB1, hK1, hm⟩ := forI_some hm
  refine A.lpI (l := a) (j0 := 0) (B := B1) (K := K1) hm (fun j1 => fun sg => match sg with | () => [(1, .lst false (ml eGClaim b)), (12, .lst false (ml eGClaim a)), (13, .int .i64 (a.length:Int)), (14, .int .i64 (j1 : Int))]) (fun j1 => fun sg => match sg with | () => []) ?_ ?_ ?_
  · exact Weak.go [] [] (by kernel_rfl)
  · skip
    rintro j1 e1 Z1 ⟨⟩ hj1 hx1 hm
    rw [hB1] at hm
    refine A.RS W0 [] [] [(1, .lst false (ml eGClaim b)), (12, .lst false (ml eGClaim a)), (13, .int .i64 (a.length:Int)), (14, .int .i64 (j1 : Int)), (15, .bool (decide ((j1 : Int) < (a.length:Int))))] [] (by kernel_rfl) ?_
    refine A.seq ?_
    refine A.cT rfl (ltT hx1) ?_
    refine A.skip ?_
    show acode _ _ _ _ _
    refine A.seq ?_
    refine A.block ?_
    refine A.RS W0 [] [(1, hix (ix eGClaim (elO_nat hx1))), (3, .al 82006)] [(1, .lst false (ml eGClaim b)), (12, .lst false (ml eGClaim a)), (13, .int .i64 (a.length:Int)), (14, .int .i64 (j1 : Int)), (6, .ptr 82006 0), (5, .int .i64 (j1 : Int))] [(82006, .cells 62 [.int .i64 e1.Subdomain, .int .i64 e1.ID, .int .i64 e1.Length])] (by kernel_rfl) ?_
    obtain ⟨e_1, h1, hm⟩ := bnd_some hm
    refine A.RS W0 [] [(3, hix (ix eGClaim h1)), (5, .sq true 62 (.agg [.int .i64 e1.Subdomain, .int .i64 e1.ID, .int .i64 e1.Length]) (.agg [.int .i64 e_1.Subdomain, .int .i64 e_1.ID, .int .i64 e_1.Length]) (!(eqGClaim e1 e_1)) (fun x y w => eq62_neq x y _ _ _ _ _ _ w))] [(1, .lst false (ml eGClaim b)), (12, .lst false (ml eGClaim a)), (13, .int .i64 (a.length:Int)), (14, .int .i64 (j1 : Int)), (24, .bool (!(eqGClaim e1 e_1)))] [] (by kernel_rfl) ?_
    rcases cs_some hm with ⟨c2, hm⟩ | ⟨c2, hm⟩
    · skip
      refine A.cT rfl c2 ?_
      refine A.RS W0 [] [] [(4, .bool false)] [] (by kernel_rfl) ?_
      refine A.ret ?_
      obtain rfl := some_inj hm
      exact A.fin W0 [] rfl (by kernel_rfl)
    refine A.cF rfl c2 ?_
    refine A.skip ?_
    show acode _ _ _ _ _
    refine A.R W0 [] [(0, hto (inc hx1 hb1))] [(1, .lst false (ml eGClaim b)), (12, .lst false (ml eGClaim a)), (13, .int .i64 (a.length:Int)), (14, .int .i64 ((j1 + 1 : Nat) : Int))] [] (by kernel_rfl) ?_
    exact Exists.intro () (And.intro hm (Weak.go [] [] (by kernel_rfl)))
  rintro j1 ⟨⟩ hj1 hl1 hm
  rw [hK1] at hm
  refine A.RS W0 [] [] [(1, .lst false (ml eGClaim b)), (12, .lst false (ml eGClaim a)), (13, .int .i64 (a.length:Int)), (14, .int .i64 (j1 : Int)), (15, .bool (decide ((j1 : Int) < (a.length:Int))))] [] (by kernel_rfl) ?_
  refine A.seq ?_
  refine A.cF rfl (ltF hl1) ?_
  refine A.exit ?_
  show acode _ _ _ _ _
  refine A.RS W0 [] [] [(4, .bool true)] [] (by kernel_rfl) ?_
  refine A.ret ?_
  obtain rfl := some_inj hm
  exact A.fin W0 [] rfl (by kernel_rfl)
theorem m_advert_Same_ok {a : GAdvert} {b : GAdvert} {r : Bool} (hm : m_advert_Same a b = some r) : RO Try.prog 51 [] [.agg [.int .i64 a.Router, .int .i64 a.Seq, .bool a.Capable, .lst false (ml eGReach a.Links), .lst false (ml eGClaim a.Claims)], .agg [.int .i64 b.Router, .int .i64 b.Seq, .bool b.Capable, .lst false (ml eGReach b.Links), .lst false (ml eGClaim b.Claims)]] (.bool r) := by
  refine enterA Try.func51 rfl rfl ?_
  unfold m_advert_Same at hm
  refine A.RS W0 [] [(0, .al 51002), (1, .al 51003)] [(2, .ptr 51002 0), (3, .ptr 51003 0)] [(51002, .cells 38 [.int .i64 a.Router, .int .i64 a.Seq, .bool a.Capable, .lst false (ml eGReach a.Links), .lst false (ml eGClaim a.Claims)]), (51003, .cells 38 [.int .i64 b.Router, .int .i64 b.Seq, .bool b.Capable, .lst false (ml eGReach b.Links), .lst false (ml eGClaim b.Claims)])] (by kernel_rfl) ?_
  rcases cs_some hm with ⟨c1, hm⟩ | ⟨c1, hm⟩
  · skip
    rcases cs_some hm with ⟨c2, hm⟩ | ⟨c2, hm⟩
    · skip
      rcases cs_some hm with ⟨c3, hm⟩ | ⟨c3, hm⟩
      · skip
        obtain ⟨vx_1, h1, hm⟩ := bnd_some hm
        rcases cs_some hm with ⟨c4, hm⟩ | ⟨c4, hm⟩
        · skip
          obtain ⟨vx_2, h2, hm⟩ := bnd_some hm
          refine A.RS W0 [] [(5, hto (bE c1)), (12, hto (bE c2)), (19, hto (bE c3)), (24, hro (m_advert_equal_api_Reach_ok h1) ck81), (26, hto (bE c4)), (31, hro (m_advert_equal_api_Claim_ok h2) ck82)] [(4, .bool vx_2)] [] (by kernel_rfl) ?_
          refine A.ret ?_
          obtain rfl := some_inj hm
          exact A.fin W0 [] rfl (by kernel_rfl)
        refine A.RS W0 [] [(5, hto (bE c1)), (12, hto (bE c2)), (19, hto (bE c3)), (24, hro (m_advert_equal_api_Reach_ok h1) ck81), (26, hto (bE c4))] [(4, .bool false)] [] (by kernel_rfl) ?_
        refine A.ret ?_
        obtain rfl := some_inj hm
        exact A.fin W0 [] rfl (by kernel_rfl)
      refine A.RS W0 [] [(5, hto (bE c1)), (12, hto (bE c2)), (19, hto (bE c3))] [(4, .bool false)] [] (by kernel_rfl) ?_
      refine A.ret ?_
      obtain rfl := some_inj hm
      exact A.fin W0 [] rfl (by kernel_rfl)
    refine A.RS W0 [] [(5, hto (bE c1)), (12, hto (bE c2))] [(4, .bool false)] [] (by kernel_rfl) ?_
    refine A.ret ?_
    obtain rfl := some_inj hm
    exact A.fin W0 [] rfl (by kernel_rfl)
  refine A.RS W0 [] [(5, hto (bE c1))] [(4, .bool false)] [] (by kernel_rfl) ?_
  refine A.ret ?_
  obtain rfl := some_inj hm
  exact A.fin W0 [] rfl (by kernel_rfl)
theorem m_slices_Clone_Lapi_Reach_api_Reach_l_ok {sa0 : List GReach} (hne_sa0 : ml eGReach sa0 ≠ []) {r : (List GReach)} (hm : m_slices_Clone_Lapi_Reach_api_Reach_l sa0 = some r) : SCalls Try.prog 83 [] [.lst false (ml eGReach sa0)] (fun a σ' => a = .own 500008300 ∧ σ' = [(500008300, .slice 51 3 (ml eGReach r) 0 false)]) := by
  refine enterA Try.func83 rfl rfl ?_
  unfold m_slices_Clone_Lapi_Reach_api_Reach_l at hm
  refine A.RS W0 [] [] [(0, .lst false (ml eGReach sa0))] [] (by kernel_rfl) ?_
  refine A.seq ?_
  refine A.RS W0 [] [(1, .sn false (.lst false (ml eGReach sa0)) (nnil_lst hne_sa0))] [(0, .lst false (ml eGReach sa0)), (4, .bool false)] [] (by kernel_rfl) ?_
  refine A.cF rfl rfl ?_
  refine A.skip ?_
  show acode _ _ _ _ _
  obtain ⟨l_1, h1, hm⟩ := bnd_some hm
  refine A.RS W0 [] [(0, .al 83005), (2, hap 83507 (ap eGReach (bytes := 24) (by decide) h1))] [(2, .own 83507)] [(83507, .slice 51 3 (ml eGReach l_1) 0 false)] (by kernel_rfl) ?_
  refine A.ret ?_
  obtain rfl := some_inj hm
  exact A.fin W0 [.sw 83507 500008300] rfl (by kernel_rfl)
theorem m_slices_Clone_Lapi_Reach_api_Reach_0_ok  {r : (List GReach)} (hm : m_slices_Clone_Lapi_Reach_api_Reach_0 = some r) : SCalls Try.prog 83 [] [.sl0] (fun a σ' => a = .own 500008300 ∧ σ' = [(500008300, .slice 51 3 (ml eGReach r) 0 false)]) := by
  refine enterA Try.func83 rfl rfl ?_
  unfold m_slices_Clone_Lapi_Reach_api_Reach_0 at hm
  refine A.RS W0 [] [] [(0, .sl0)] [] (by kernel_rfl) ?_
  refine A.seq ?_
  refine A.RS W0 [] [(1, .sn false .sl0 (nnil_sl0))] [(0, .sl0), (4, .bool false)] [] (by kernel_rfl) ?_
  refine A.cF rfl rfl ?_
  refine A.skip ?_
  show acode _ _ _ _ _
  obtain ⟨l_1, h1, hm⟩ := bnd_some hm
  refine A.RS W0 [] [(0, .al 83005), (2, hap 83507 (ap eGReach (bytes := 24) (by decide) h1))] [(2, .own 83507)] [(83507, .slice 51 3 (ml eGReach l_1) 0 false)] (by kernel_rfl) ?_
  refine A.ret ?_
  obtain rfl := some_inj hm
  exact A.fin W0 [.sw 83507 500008300] rfl (by kernel_rfl)
theorem m_slices_Clone_Lapi_Reach_api_Reach_n (n c : Nat) (w : World) : Calls Try.prog 83 #[.slice none n c] w fun e w' => e = .returned (.slice none 0 0) ∧ w' = w := by
  have q : ∀ (w : World) (a : Option Addr) (n c n' c' : Nat), (binOp .eql 35 (.slice a n c) (.slice none n' c')).run Try.prog w = .ok (.bool a.isNone) w := fun w a n c n' c' => Lib.run_eql_slice_nil w _ _ a n c n' c' Try.underlying35
  go_enter Try.func83, Try.ntmps83
  go_wp2
  go_ret
  exact ⟨rfl, rfl⟩
theorem m_slices_Clone_Lapi_Reach_api_Reach_ok {s r : List GReach} (hm : m_slices_Clone_Lapi_Reach_api_Reach s = some r) : SCalls Try.prog 83 [] [.lst false (ml eGReach s)] (fun a σ' => a = .own 500008300 ∧ σ' = [(500008300, .slice 51 3 (ml eGReach r) 0 false)]) := by
  obtain rfl : s = r := by
    unfold m_slices_Clone_Lapi_Reach_api_Reach m_slices_Clone_Lapi_Reach_api_Reach_l at hm
    obtain ⟨l, h, hm⟩ := bnd_some hm
    have := (appO_eq h).symm
    simp at this; subst this
    exact some_inj hm
  refine clone_own m_slices_Clone_Lapi_Reach_api_Reach_n (fun h => m_slices_Clone_Lapi_Reach_api_Reach_l_ok h hm) (fun h => ?_) (fun h => h)
  have h0 : s = [] := by cases s with | nil => rfl | cons a b => simp [ml] at h
  subst h0
  exact m_slices_Clone_Lapi_Reach_api_Reach_0_ok hm
theorem m_slices_Clone_Lapi_Claim_api_Claim_l_ok {sa0 : List GClaim} (hne_sa0 : ml eGClaim sa0 ≠ []) {r : (List GClaim)} (hm : m_slices_Clone_Lapi_Claim_api_Claim_l sa0 = some r) : SCalls Try.prog 84 [] [.lst false (ml eGClaim sa0)] (fun a σ' => a = .own 500008400 ∧ σ' = [(500008400, .slice 62 3 (ml eGClaim r) 0 false)]) := by
  refine enterA Try.func84 rfl rfl ?_
  unfold m_slices_Clone_Lapi_Claim_api_Claim_l at hm
  refine A.RS W0 [] [] [(0, .lst false (ml eGClaim sa0))] [] (by kernel_rfl) ?_
  refine A.seq ?_
  refine A.RS W0 [] [(1, .sn false (.lst false (ml eGClaim sa0)) (nnil_lst hne_sa0))] [(0, .lst false (ml eGClaim sa0)), (4, .bool false)] [] (by kernel_rfl) ?_
  refine A.cF rfl rfl ?_
  refine A.skip ?_
  show acode _ _ _ _ _
  obtain ⟨l_1, h1, hm⟩ := bnd_some hm
  refine A.RS W0 [] [(0, .al 84005), (2, hap 84507 (ap eGClaim (bytes := 24) (by decide) h1))] [(2, .own 84507)] [(84507, .slice 62 3 (ml eGClaim l_1) 0 false)] (by kernel_rfl) ?_
  refine A.ret ?_
  obtain rfl := some_inj hm
  exact A.fin W0 [.sw 84507 500008400] rfl (by kernel_rfl)
theorem m_slices_Clone_Lapi_Claim_api_Claim_0_ok  {r : (List GClaim)} (hm : m_slices_Clone_Lapi_Claim_api_Claim_0 = some r) : SCalls Try.prog 84 [] [.sl0] (fun a σ' => a = .own 500008400 ∧ σ' = [(500008400, .slice 62 3 (ml eGClaim r) 0 false)]) := by
  refine enterA Try.func84 rfl rfl ?_
  unfold m_slices_Clone_Lapi_Claim_api_Claim_0 at hm
  refine A.RS W0 [] [] [(0, .sl0)] [] (by kernel_rfl) ?_
  refine A.seq ?_
  refine A.RS W0 [] [(1, .sn false .sl0 (nnil_sl0))] [(0, .sl0), (4, .bool false)] [] (by kernel_rfl) ?_
  refine A.cF rfl rfl ?_
  refine A.skip ?_
  show acode _ _ _ _ _
  obtain ⟨l_1, h1, hm⟩ := bnd_some hm
  refine A.RS W0 [] [(0, .al 84005), (2, hap 84507 (ap eGClaim (bytes := 24) (by decide) h1))] [(2, .own 84507)] [(84507, .slice 62 3 (ml eGClaim l_1) 0 false)] (by kernel_rfl) ?_
  refine A.ret ?_
  obtain rfl := some_inj hm
  exact A.fin W0 [.sw 84507 500008400] rfl (by kernel_rfl)
theorem m_slices_Clone_Lapi_Claim_api_Claim_n (n c : Nat) (w : World) : Calls Try.prog 84 #[.slice none n c] w fun e w' => e = .returned (.slice none 0 0) ∧ w' = w := by
  have q : ∀ (w : World) (a : Option Addr) (n c n' c' : Nat), (binOp .eql 36 (.slice a n c) (.slice none n' c')).run Try.prog w = .ok (.bool a.isNone) w := fun w a n c n' c' => Lib.run_eql_slice_nil w _ _ a n c n' c' Try.underlying36
  go_enter Try.func84, Try.ntmps84
  go_wp2
  go_ret
  exact ⟨rfl, rfl⟩
theorem m_slices_Clone_Lapi_Claim_api_Claim_ok {s r : List GClaim} (hm : m_slices_Clone_Lapi_Claim_api_Claim s = some r) : SCalls Try.prog 84 [] [.lst false (ml eGClaim s)] (fun a σ' => a = .own 500008400 ∧ σ' = [(500008400, .slice 62 3 (ml eGClaim r) 0 false)]) := by
  obtain rfl : s = r := by
    unfold m_slices_Clone_Lapi_Claim_api_Claim m_slices_Clone_Lapi_Claim_api_Claim_l at hm
    obtain ⟨l, h, hm⟩ := bnd_some hm
    have := (appO_eq h).symm
    simp at this; subst this
    exact some_inj hm
  refine clone_own m_slices_Clone_Lapi_Claim_api_Claim_n (fun h => m_slices_Clone_Lapi_Claim_api_Claim_l_ok h hm) (fun h => ?_) (fun h => h)
  have h0 : s = [] := by cases s with | nil => rfl | cons a b => simp [ml] at h
  subst h0
  exact m_slices_Clone_Lapi_Claim_api_Claim_0_ok hm
theorem m_database_copied_ok {a : GAdvert} {r : GAdvert} (hm : m_database_copied a = some r) : RO Try.prog 52 [] [.agg [.int .i64 a.Router, .int .i64 a.Seq, .bool a.Capable, .lst false (ml eGReach a.Links), .lst false (ml eGClaim a.Claims)]] (.agg [.int .i64 r.Router, .int .i64 r.Seq, .bool r.Capable, .lst false (ml eGReach r.Links), .lst false (ml eGClaim r.Claims)]) := by
  refine enterA Try.func52 rfl rfl ?_
  unfold m_database_copied at hm
  refine A.RS W0 [] [(0, .al 52001), (1, .al 52002)] [(1, .ptr 52001 0), (2, .ptr 52002 0)] [(52001, .cells 38 [.int .i64 a.Router, .int .i64 a.Seq, .bool a.Capable, .lst false (ml eGReach a.Links), .lst false (ml eGClaim a.Claims)]), (52002, .cells 38 [.int .i64 (0:Int), .int .i64 (0:Int), .bool false, .nils, .nils])] (by kernel_rfl) ?_
  obtain ⟨vx_1, h1, hm⟩ := bnd_some hm
  obtain ⟨vx_2, h2, hm⟩ := bnd_some hm
  refine A.RS W0 [] [(2, hdc [500008300] (m_slices_Clone_Lapi_Reach_api_Reach_ok h1) ck83), (5, hdc [500008400] (m_slices_Clone_Lapi_Claim_api_Claim_ok h2) ck84)] [(1, .ptr 52001 0), (2, .ptr 52002 0)] [(52001, .cells 38 [.int .i64 a.Router, .int .i64 a.Seq, .bool a.Capable, .own 500008300, .own 500008400]), (52002, .cells 38 [.int .i64 (0:Int), .int .i64 (0:Int), .bool false, .nils, .nils]), (500008300, .slice 51 3 (ml eGReach vx_1) 0 false), (500008400, .slice 62 3 (ml eGClaim vx_2) 0 false)] (by kernel_rfl) ?_
  refine A.RS W0 [] [] [(2, .ptr 52002 0)] [(52002, .cells 38 [.int .i64 a.Router, .int .i64 a.Seq, .bool a.Capable, .own 500008300, .own 500008400]), (500008300, .slice 51 3 (ml eGReach vx_1) 0 false), (500008400, .slice 62 3 (ml eGClaim vx_2) 0 false)] (by kernel_rfl) ?_
  refine A.ret ?_
  obtain rfl := some_inj hm
  exact A.fin W0 [.fz [500008300, 500008400]] rfl (by kernel_rfl)
theorem m_database_Check_1_ok {a : GAdvert} {r : Bool} (hm : m_database_Check_1 a = some r) : RO Try.prog 47 [] [.agg [.int .i64 a.Router, .int .i64 a.Seq, .bool a.Capable, .lst false (ml eGReach a.Links), .lst false (ml eGClaim a.Claims)]] (.bool r) := by
  refine enterA Try.func47 rfl rfl ?_
  unfold m_database_Check_1 at hm
  refine A.RS W0 [] [(0, .al 47001)] [(1, .ptr 47001 0)] [(47001, .cells 38 [.int .i64 a.Router, .int .i64 a.Seq, .bool a.Capable, .lst false (ml eGReach a.Links), .lst false (ml eGClaim a.Claims)])] (by kernel_rfl) ?_
  obtain ⟨vx_1, h1, hm⟩ := bnd_some hm
  refine A.RS W0 [] [(1, hro (m_advert_Valid_ok h1) ck48)] [(2, .bool (!vx_1))] [] (by kernel_rfl) ?_
  refine A.ret ?_
  obtain rfl := some_inj hm
  exact A.fin W0 [] rfl (by kernel_rfl)
theorem m_database_Check_ok {d : GDatabase} {r : Int} (hm : m_database_Check d = some r) : RO Try.prog 23 [] [.agg [.lst false (ml eGAdvert d.Adverts)]] (.int .i64 r) := by
  refine enterA Try.func23 rfl rfl ?_
  unfold m_database_Check at hm
  refine A.RS W0 [] [(0, .al 23001)] [(1, .ptr 23001 0)] [(23001, .cells 27 [.lst false (ml eGAdvert d.Adverts)])] (by kernel_rfl) ?_
  refine A.seq ?_
  refine A.block ?_
  refine A.RS W0 [] [(2, hto (lnE eGAdvert d.Adverts))] [(1, .ptr 23001 0), (4, .bool (decide ((99:Int) < (d.Adverts.length:Int))))] [(23001, .cells 27 [.lst false (ml eGAdvert d.Adverts)])] (by kernel_rfl) ?_
  rcases cs_some hm with ⟨c1, hm⟩ | ⟨c1, hm⟩
  · skip
    refine A.cT rfl c1 ?_
    refine A.RS W0 [] [] [(2, .int .i64 (3:Int))] [] (by kernel_rfl) ?_
    refine A.ret ?_
    obtain rfl := some_inj hm
    exact A.fin W0 [] rfl (by kernel_rfl)
  refine A.cF rfl c1 ?_
  obtain ⟨vx_1, h1, hm⟩ := bnd_some hm
  refine A.RS W0 [] [(2, hro (m_slices_ContainsFunc_Lapi_Advert_api_Advert_ok (f_g := 47) (f_c := []) (f_k := ck47) (f_f := fun _ _ h => m_database_Check_1_ok h) h1) ck46)] [(1, .ptr 23001 0), (9, .bool vx_1)] [(23001, .cells 27 [.lst false (ml eGAdvert d.Adverts)])] (by kernel_rfl) ?_
  rcases cs_some hm with ⟨c2, hm⟩ | ⟨c2, hm⟩
  · skip
    refine A.cT rfl c2 ?_
    refine A.RS W0 [] [] [(2, .int .i64 (1:Int))] [] (by kernel_rfl) ?_
    refine A.ret ?_
    obtain rfl := some_inj hm
    exact A.fin W0 [] rfl (by kernel_rfl)
  refine A.cF rfl c2 ?_
  refine A.skip ?_
  show acode _ _ _ _ _
  refine A.seq ?_
  refine A.RS W0 [] [(2, hto (lnE eGAdvert d.Adverts))] [(1, .ptr 23001 0), (15, .int .i64 (d.Adverts.length:Int)), (16, .int .i64 (0:Int))] [(23001, .cells 27 [.lst false (ml eGAdvert d.Adverts)])] (by kernel_rfl) ?_
  refine A.block ?_
  refine A.bC 1 0 rfl rfl rfl fun hb1 => ?_
  obtain ⟨B1, K1, hB1, hK1, hm⟩ := forI_some hm
  refine A.lpI (l := d.Adverts) (j0 := 0) (B := B1) (K := K1) hm (fun j1 => fun sg => match sg with | () => [(1, .ptr 23001 0), (15, .int .i64 (d.Adverts.length:Int)), (16, .int .i64 (j1 : Int))]) (fun j1 => fun sg => match sg with | () => [(23001, .cells 27 [.lst false (ml eGAdvert d.Adverts)])]) ?_ ?_ ?_
  · exact Weak.go [] [] (by kernel_rfl)
  · skip
    rintro j1 e1 Z1 ⟨⟩ hj1 hx1 hm
    rw [hB1] at hm
    refine A.RS W0 [] [] [(1, .ptr 23001 0), (15, .int .i64 (d.Adverts.length:Int)), (16, .int .i64 (j1 : Int)), (17, .bool (decide ((j1 : Int) < (d.Adverts.length:Int))))] [(23001, .cells 27 [.lst false (ml eGAdvert d.Adverts)])] (by kernel_rfl) ?_
    refine A.seq ?_
    refine A.cT rfl (ltT hx1) ?_
    refine A.skip ?_
    show acode _ _ _ _ _
    refine A.seq ?_
    refine A.block ?_
    refine A.RS W0 [] [] [(1, .ptr 23001 0), (15, .int .i64 (d.Adverts.length:Int)), (16, .int .i64 (j1 : Int)), (3, .int .i64 (j1 : Int))] [(23001, .cells 27 [.lst false (ml eGAdvert d.Adverts)])] (by kernel_rfl) ?_
    obtain ⟨J1, hJ1, hm⟩ := jn_some hm
    refine A.J (J := J1) (r := r) (fun v_1 => [(1, .ptr 23001 0), (15, .int .i64 (d.Adverts.length:Int)), (16, .int .i64 (j1 : Int)), (36, .bool v_1)]) (fun v_1 => [(23001, .cells 27 [.lst false (ml eGAdvert d.Adverts)])]) ?_ ?_
    · skip
      rcases cs_some hm with ⟨c3, hm⟩ | ⟨c3, hm⟩
      · skip
        obtain ⟨e_1, h2, hm⟩ := bnd_some hm
        refine A.R W0 [] [(2, hto (bE c3)), (7, hix (ix eGAdvert h2)), (13, hix (ix eGAdvert (elO_nat hx1)))] [(1, .ptr 23001 0), (15, .int .i64 (d.Adverts.length:Int)), (16, .int .i64 (j1 : Int)), (36, .bool (decide (e1.Router ≤ e_1.Router)))] [(23001, .cells 27 [.lst false (ml eGAdvert d.Adverts)])] (by kernel_rfl) ?_
        exact Exists.intro (decide (e1.Router ≤ e_1.Router)) (And.intro hm (Weak.go [] [] (by kernel_rfl)))
      refine A.R W0 [] [(2, hto (bE c3))] [(1, .ptr 23001 0), (15, .int .i64 (d.Adverts.length:Int)), (16, .int .i64 (j1 : Int)), (36, .bool false)] [(23001, .cells 27 [.lst false (ml eGAdvert d.Adverts)])] (by kernel_rfl) ?_
      exact Exists.intro false (And.intro hm (Weak.go [] [] (by kernel_rfl)))
    rintro v_1 hm
    rw [hJ1] at hm
    rcases cs_some hm with ⟨c4, hm⟩ | ⟨c4, hm⟩
    · skip
      refine A.cT rfl c4 ?_
      refine A.RS W0 [] [] [(2, .int .i64 (25:Int))] [] (by kernel_rfl) ?_
      refine A.ret ?_
      obtain rfl := some_inj hm
      exact A.fin W0 [] rfl (by kernel_rfl)
    refine A.cF rfl c4 ?_
    refine A.skip ?_
    show acode _ _ _ _ _
    refine A.R W0 [] [(0, hto (inc hx1 hb1))] [(1, .ptr 23001 0), (15, .int .i64 (d.Adverts.length:Int)), (16, .int .i64 ((j1 + 1 : Nat) : Int))] [(23001, .cells 27 [.lst false (ml eGAdvert d.Adverts)])] (by kernel_rfl) ?_
    exact Exists.intro () (And.intro hm (Weak.go [] [] (by kernel_rfl)))
  rintro j1 ⟨⟩ hj1 hl1 hm
  rw [hK1] at hm
  refine A.RS W0 [] [] [(1, .ptr 23001 0), (15, .int .i64 (d.Adverts.length:Int)), (16, .int .i64 (j1 : Int)), (17, .bool (decide ((j1 : Int) < (d.Adverts.length:Int))))] [(23001, .cells 27 [.lst false (ml eGAdvert d.Adverts)])] (by kernel_rfl) ?_
  refine A.seq ?_
  refine A.cF rfl (ltF hl1) ?_
  refine A.exit ?_
  show acode _ _ _ _ _
  refine A.RS W0 [] [] [(2, .int .i64 (0:Int))] [] (by kernel_rfl) ?_
  refine A.ret ?_
  obtain rfl := some_inj hm
  exact A.fin W0 [] rfl (by kernel_rfl)
theorem m_database_Same_ok {a : GDatabase} {b : GDatabase} {r : Bool} (hm : m_database_Same a b = some r) : RO Try.prog 25 [] [.agg [.lst false (ml eGAdvert a.Adverts)], .agg [.lst false (ml eGAdvert b.Adverts)]] (.bool r) := by
  refine enterA Try.func25 rfl rfl ?_
  unfold m_database_Same at hm
  refine A.RS W0 [] [(0, .al 25002), (1, .al 25003)] [(2, .ptr 25002 0), (3, .ptr 25003 0)] [(25002, .cells 27 [.lst false (ml eGAdvert a.Adverts)]), (25003, .cells 27 [.lst false (ml eGAdvert b.Adverts)])] (by kernel_rfl) ?_
  obtain ⟨vx_1, h1, hm⟩ := bnd_some hm
  refine A.RS W0 [] [(4, hro (m_slices_EqualFunc_Lapi_Advert_Lapi_Advert_api_Advert_api_Advert_ok (eq_g := 51) (eq_c := []) (eq_k := ck51) (eq_f := fun _ _ _ h => m_advert_Same_ok h) h1) ck50)] [(4, .bool vx_1)] [] (by kernel_rfl) ?_
  refine A.ret ?_
  obtain rfl := some_inj hm
  exact A.fin W0 [] rfl (by kernel_rfl)
theorem m_database_Find_ok {d : GDatabase} {router : Int} {r : GAdvert × Bool} (hm : m_database_Find d router = some r) : RO Try.prog 27 [] [.agg [.lst false (ml eGAdvert d.Adverts)], .int .i64 router] (.tup [.agg [.int .i64 r.1.Router, .int .i64 r.1.Seq, .bool r.1.Capable, .lst false (ml eGReach r.1.Links), .lst false (ml eGClaim r.1.Claims)], .bool r.2]) := by
  refine enterA Try.func27 rfl rfl ?_
  unfold m_database_Find at hm
  refine A.RS W0 [] [(0, .al 27002), (1, .al 27004)] [(1, .int .i64 router), (2, .ptr 27002 0), (4, .ptr 27004 0)] [(27002, .cells 27 [.lst false (ml eGAdvert d.Adverts)]), (27004, .cells 38 [.int .i64 (0:Int), .int .i64 (0:Int), .bool false, .nils, .nils])] (by kernel_rfl) ?_
  refine A.seq ?_
  refine A.RS W0 [] [(2, hto (lnE eGAdvert d.Adverts))] [(1, .int .i64 router), (4, .ptr 27004 0), (9, .lst false (ml eGAdvert d.Adverts)), (10, .int .i64 (d.Adverts.length:Int)), (11, .int .i64 (0:Int))] [(27004, .cells 38 [.int .i64 (0:Int), .int .i64 (0:Int), .bool false, .nils, .nils])] (by kernel_rfl) ?_
  refine A.block ?_
  refine A.bS 9 rfl fun hb1 => ?_
  obtain ⟨B1, K1, hB1, hK1, hm⟩ := forI_some hm
  refine A.lpI (l := d.Adverts) (j0 := 0) (B := B1) (K := K1) hm (fun j1 => fun sg => match sg with | () => [(1, .int .i64 router), (4, .ptr 27004 0), (9, .lst false (ml eGAdvert d.Adverts)), (10, .int .i64 (d.Adverts.length:Int)), (11, .int .i64 (j1 : Int))]) (fun j1 => fun sg => match sg with | () => [(27004, .cells 38 [.int .i64 (0:Int), .int .i64 (0:Int), .bool false, .nils, .nils])]) ?_ ?_ ?_
  · exact Weak.go [] [] (by kernel_rfl)
  · skip
    rintro j1 e1 Z1 ⟨⟩ hj1 hx1 hm
    rw [hB1] at hm
    refine A.RS W0 [] [] [(1, .int .i64 router), (4, .ptr 27004 0), (9, .lst false (ml eGAdvert d.Adverts)), (10, .int .i64 (d.Adverts.length:Int)), (11, .int .i64 (j1 : Int)), (12, .bool (decide ((j1 : Int) < (d.Adverts.length:Int))))] [(27004, .cells 38 [.int .i64 (0:Int), .int .i64 (0:Int), .bool false, .nils, .nils])] (by kernel_rfl) ?_
    refine A.seq ?_
    refine A.cT rfl (ltT hx1) ?_
    refine A.skip ?_
    show acode _ _ _ _ _
    refine A.seq ?_
    refine A.block ?_
    refine A.RS W0 [] [(0, hix (ix eGAdvert (elO_nat hx1))), (2, .al 27007)] [(1, .int .i64 router), (4, .ptr 27004 0), (9, .lst false (ml eGAdvert d.Adverts)), (10, .int .i64 (d.Adverts.length:Int)), (11, .int .i64 (j1 : Int)), (7, .ptr 27007 0)] [(27004, .cells 38 [.int .i64 (0:Int), .int .i64 (0:Int), .bool false, .nils, .nils]), (27007, .cells 38 [.int .i64 e1.Router, .int .i64 e1.Seq, .bool e1.Capable, .lst false (ml eGReach e1.Links), .lst false (ml eGClaim e1.Claims)])] (by kernel_rfl) ?_
    refine A.RS W0 [] [] [(1, .int .i64 router), (4, .ptr 27004 0), (9, .lst false (ml eGAdvert d.Adverts)), (10, .int .i64 (d.Adverts.length:Int)), (11, .int .i64 (j1 : Int)), (7, .ptr 27007 0), (18, .bool (decide (e1.Router = router)))] [(27004, .cells 38 [.int .i64 (0:Int), .int .i64 (0:Int), .bool false, .nils, .nils]), (27007, .cells 38 [.int .i64 e1.Router, .int .i64 e1.Seq, .bool e1.Capable, .lst false (ml eGReach e1.Links), .lst false (ml eGClaim e1.Claims)])] (by kernel_rfl) ?_
    rcases cs_some hm with ⟨c1, hm⟩ | ⟨c1, hm⟩
    · skip
      refine A.cT rfl c1 ?_
      obtain ⟨vx_1, h1, hm⟩ := bnd_some hm
      refine A.RS W0 [] [(1, hro (m_database_copied_ok h1) ck52)] [(4, .ptr 27004 0), (5, .bool true)] [(27004, .cells 38 [.int .i64 vx_1.Router, .int .i64 vx_1.Seq, .bool vx_1.Capable, .lst false (ml eGReach vx_1.Links), .lst false (ml eGClaim vx_1.Claims)])] (by kernel_rfl) ?_
      refine A.ret ?_
      obtain rfl := some_inj hm
      exact A.fin W0 [] rfl (by kernel_rfl)
    refine A.cF rfl c1 ?_
    refine A.skip ?_
    show acode _ _ _ _ _
    refine A.R W0 [] [(0, hto (inc hx1 hb1))] [(1, .int .i64 router), (4, .ptr 27004 0), (9, .lst false (ml eGAdvert d.Adverts)), (10, .int .i64 (d.Adverts.length:Int)), (11, .int .i64 ((j1 + 1 : Nat) : Int))] [(27004, .cells 38 [.int .i64 (0:Int), .int .i64 (0:Int), .bool false, .nils, .nils])] (by kernel_rfl) ?_
    exact Exists.intro () (And.intro hm (Weak.go [] [] (by kernel_rfl)))
  rintro j1 ⟨⟩ hj1 hl1 hm
  rw [hK1] at hm
  refine A.RS W0 [] [] [(1, .int .i64 router), (4, .ptr 27004 0), (9, .lst false (ml eGAdvert d.Adverts)), (10, .int .i64 (d.Adverts.length:Int)), (11, .int .i64 (j1 : Int)), (12, .bool (decide ((j1 : Int) < (d.Adverts.length:Int))))] [(27004, .cells 38 [.int .i64 (0:Int), .int .i64 (0:Int), .bool false, .nils, .nils])] (by kernel_rfl) ?_
  refine A.seq ?_
  refine A.cF rfl (ltF hl1) ?_
  refine A.exit ?_
  show acode _ _ _ _ _
  refine A.RS W0 [] [] [(4, .ptr 27004 0), (5, .bool false)] [(27004, .cells 38 [.int .i64 (0:Int), .int .i64 (0:Int), .bool false, .nils, .nils])] (by kernel_rfl) ?_
  refine A.ret ?_
  obtain rfl := some_inj hm
  exact A.fin W0 [] rfl (by kernel_rfl)
theorem m_database_reach_ok {a : GAdvert} {neighbour : Int} {r : GReach × Bool} (hm : m_database_reach a neighbour = some r) : RO Try.prog 33 [] [.agg [.int .i64 a.Router, .int .i64 a.Seq, .bool a.Capable, .lst false (ml eGReach a.Links), .lst false (ml eGClaim a.Claims)], .int .i64 neighbour] (.tup [.agg [.int .i64 r.1.Neighbour, .int .i64 r.1.Cost, .int .i64 r.1.Capacity], .bool r.2]) := by
  refine enterA Try.func33 rfl rfl ?_
  unfold m_database_reach at hm
  refine A.RS W0 [] [(0, .al 33002), (1, .al 33004)] [(1, .int .i64 neighbour), (2, .ptr 33002 0), (4, .ptr 33004 0)] [(33002, .cells 38 [.int .i64 a.Router, .int .i64 a.Seq, .bool a.Capable, .lst false (ml eGReach a.Links), .lst false (ml eGClaim a.Claims)]), (33004, .cells 51 [.int .i64 (0:Int), .int .i64 (0:Int), .int .i64 (0:Int)])] (by kernel_rfl) ?_
  refine A.seq ?_
  refine A.RS W0 [] [(2, hto (lnE eGReach a.Links))] [(1, .int .i64 neighbour), (4, .ptr 33004 0), (9, .lst false (ml eGReach a.Links)), (10, .int .i64 (a.Links.length:Int)), (11, .int .i64 (0:Int))] [(33004, .cells 51 [.int .i64 (0:Int), .int .i64 (0:Int), .int .i64 (0:Int)])] (by kernel_rfl) ?_
  refine A.block ?_
  refine A.bS 9 rfl fun hb1 => ?_
  obtain ⟨B1, K1, hB1, hK1, hm⟩ := forI_some hm
  refine A.lpI (l := a.Links) (j0 := 0) (B := B1) (K := K1) hm (fun j1 => fun sg => match sg with | () => [(1, .int .i64 neighbour), (4, .ptr 33004 0), (9, .lst false (ml eGReach a.Links)), (10, .int .i64 (a.Links.length:Int)), (11, .int .i64 (j1 : Int))]) (fun j1 => fun sg => match sg with | () => [(33004, .cells 51 [.int .i64 (0:Int), .int .i64 (0:Int), .int .i64 (0:Int)])]) ?_ ?_ ?_
  · exact Weak.go [] [] (by kernel_rfl)
  · skip
    rintro j1 e1 Z1 ⟨⟩ hj1 hx1 hm
    rw [hB1] at hm
    refine A.RS W0 [] [] [(1, .int .i64 neighbour), (4, .ptr 33004 0), (9, .lst false (ml eGReach a.Links)), (10, .int .i64 (a.Links.length:Int)), (11, .int .i64 (j1 : Int)), (12, .bool (decide ((j1 : Int) < (a.Links.length:Int))))] [(33004, .cells 51 [.int .i64 (0:Int), .int .i64 (0:Int), .int .i64 (0:Int)])] (by kernel_rfl) ?_
    refine A.seq ?_
    refine A.cT rfl (ltT hx1) ?_
    refine A.skip ?_
    show acode _ _ _ _ _
    refine A.seq ?_
    refine A.block ?_
    refine A.RS W0 [] [(0, hix (ix eGReach (elO_nat hx1))), (2, .al 33007)] [(1, .int .i64 neighbour), (4, .ptr 33004 0), (9, .lst false (ml eGReach a.Links)), (10, .int .i64 (a.Links.length:Int)), (11, .int .i64 (j1 : Int)), (7, .ptr 33007 0)] [(33004, .cells 51 [.int .i64 (0:Int), .int .i64 (0:Int), .int .i64 (0:Int)]), (33007, .cells 51 [.int .i64 e1.Neighbour, .int .i64 e1.Cost, .int .i64 e1.Capacity])] (by kernel_rfl) ?_
    refine A.RS W0 [] [] [(1, .int .i64 neighbour), (4, .ptr 33004 0), (9, .lst false (ml eGReach a.Links)), (10, .int .i64 (a.Links.length:Int)), (11, .int .i64 (j1 : Int)), (7, .ptr 33007 0), (18, .bool (decide (e1.Neighbour = neighbour)))] [(33004, .cells 51 [.int .i64 (0:Int), .int .i64 (0:Int), .int .i64 (0:Int)]), (33007, .cells 51 [.int .i64 e1.Neighbour, .int .i64 e1.Cost, .int .i64 e1.Capacity])] (by kernel_rfl) ?_
    rcases cs_some hm with ⟨c1, hm⟩ | ⟨c1, hm⟩
    · skip
      refine A.cT rfl c1 ?_
      refine A.RS W0 [] [] [(4, .ptr 33004 0), (5, .bool true)] [(33004, .cells 51 [.int .i64 e1.Neighbour, .int .i64 e1.Cost, .int .i64 e1.Capacity])] (by kernel_rfl) ?_
      refine A.ret ?_
      obtain rfl := some_inj hm
      exact A.fin W0 [] rfl (by kernel_rfl)
    refine A.cF rfl c1 ?_
    refine A.skip ?_
    show acode _ _ _ _ _
    refine A.R W0 [] [(0, hto (inc hx1 hb1))] [(1, .int .i64 neighbour), (4, .ptr 33004 0), (9, .lst false (ml eGReach a.Links)), (10, .int .i64 (a.Links.length:Int)), (11, .int .i64 ((j1 + 1 : Nat) : Int))] [(33004, .cells 51 [.int .i64 (0:Int), .int .i64 (0:Int), .int .i64 (0:Int)])] (by kernel_rfl) ?_
    exact Exists.intro () (And.intro hm (Weak.go [] [] (by kernel_rfl)))
  rintro j1 ⟨⟩ hj1 hl1 hm
  rw [hK1] at hm
  refine A.RS W0 [] [] [(1, .int .i64 neighbour), (4, .ptr 33004 0), (9, .lst false (ml eGReach a.Links)), (10, .int .i64 (a.Links.length:Int)), (11, .int .i64 (j1 : Int)), (12, .bool (decide ((j1 : Int) < (a.Links.length:Int))))] [(33004, .cells 51 [.int .i64 (0:Int), .int .i64 (0:Int), .int .i64 (0:Int)])] (by kernel_rfl) ?_
  refine A.seq ?_
  refine A.cF rfl (ltF hl1) ?_
  refine A.exit ?_
  show acode _ _ _ _ _
  refine A.RS W0 [] [] [(4, .ptr 33004 0), (5, .bool false)] [(33004, .cells 51 [.int .i64 (0:Int), .int .i64 (0:Int), .int .i64 (0:Int)])] (by kernel_rfl) ?_
  refine A.ret ?_
  obtain rfl := some_inj hm
  exact A.fin W0 [] rfl (by kernel_rfl)
theorem m_database_View_ok {d : GDatabase} {ata1 : Int} {r : GTopology} (hm : m_database_View d ata1 = some r) : RO Try.prog 10 [] [.agg [.lst false (ml eGAdvert d.Adverts)], .int .i64 ata1] (.agg [.lst false (ml eGRouter r.Routers), .lst false (ml eGLink r.Links)]) := by
  refine enterA Try.func10 rfl rfl ?_
  unfold m_database_View at hm
  refine A.RS W0 [] [(0, .al 10002), (1, .al 10004)] [(1, .int .i64 ata1), (2, .ptr 10002 0), (4, .ptr 10004 0)] [(10002, .cells 27 [.lst false (ml eGAdvert d.Adverts)]), (10004, .cells 33 [.nils, .nils])] (by kernel_rfl) ?_
  obtain ⟨vx_1, h1, hm⟩ := bnd_some hm
  refine A.RS W0 [] [(2, hro (m_database_Find_ok h1) ck27), (6, .al 10005)] [(1, .int .i64 ata1), (2, .ptr 10002 0), (4, .ptr 10004 0), (5, .ptr 10005 0), (6, .bool vx_1.2)] [(10002, .cells 27 [.lst false (ml eGAdvert d.Adverts)]), (10004, .cells 33 [.nils, .nils]), (10005, .cells 38 [.int .i64 vx_1.1.Router, .int .i64 vx_1.1.Seq, .bool vx_1.1.Capable, .lst false (ml eGReach vx_1.1.Links), .lst false (ml eGClaim vx_1.1.Claims)])] (by kernel_rfl) ?_
  refine A.seq ?_
  obtain ⟨J1, hJ1, hm⟩ := jn_some hm
  refine A.J (J := J1) (r := r) (fun v_1 => [(1, .int .i64 ata1), (2, .ptr 10002 0), (4, .ptr 10004 0), (5, .ptr 10005 0), (29, .bool v_1)]) (fun v_1 => [(10002, .cells 27 [.lst false (ml eGAdvert d.Adverts)]), (10004, .cells 33 [.nils, .nils]), (10005, .cells 38 [.int .i64 vx_1.1.Router, .int .i64 vx_1.1.Seq, .bool vx_1.1.Capable, .lst false (ml eGReach vx_1.1.Links), .lst false (ml eGClaim vx_1.1.Claims)])]) ?_ ?_
  · skip
    obtain ⟨vx_2, h2, hm⟩ := bnd_some hm
    rcases cs_some hm with ⟨c1, hm⟩ | ⟨c1, hm⟩
    · skip
      refine A.R W0 [] [(1, hro (m_database_Check_ok h2) ck23), (3, hto (bE c1))] [(1, .int .i64 ata1), (2, .ptr 10002 0), (4, .ptr 10004 0), (5, .ptr 10005 0), (29, .bool true)] [(10002, .cells 27 [.lst false (ml eGAdvert d.Adverts)]), (10004, .cells 33 [.nils, .nils]), (10005, .cells 38 [.int .i64 vx_1.1.Router, .int .i64 vx_1.1.Seq, .bool vx_1.1.Capable, .lst false (ml eGReach vx_1.1.Links), .lst false (ml eGClaim vx_1.1.Claims)])] (by kernel_rfl) ?_
      exact Exists.intro true (And.intro hm (Weak.go [] [] (by kernel_rfl)))
    refine A.R W0 [] [(1, hro (m_database_Check_ok h2) ck23), (3, hto (bE c1))] [(1, .int .i64 ata1), (2, .ptr 10002 0), (4, .ptr 10004 0), (5, .ptr 10005 0), (29, .bool (!vx_1.2))] [(10002, .cells 27 [.lst false (ml eGAdvert d.Adverts)]), (10004, .cells 33 [.nils, .nils]), (10005, .cells 38 [.int .i64 vx_1.1.Router, .int .i64 vx_1.1.Seq, .bool vx_1.1.Capable, .lst false (ml eGReach vx_1.1.Links), .lst false (ml eGClaim vx_1.1.Claims)])] (by kernel_rfl) ?_
    exact Exists.intro (!vx_1.2) (And.intro hm (Weak.go [] [] (by kernel_rfl)))
  rintro v_1 hm
  rw [hJ1] at hm
  rcases cs_some hm with ⟨c2, hm⟩ | ⟨c2, hm⟩
  · skip
    refine A.cT rfl c2 ?_
    refine A.RS W0 [] [] [(4, .ptr 10004 0)] [(10004, .cells 33 [.nils, .nils])] (by kernel_rfl) ?_
    refine A.ret ?_
    obtain rfl := some_inj hm
    exact A.fin W0 [] rfl (by kernel_rfl)
  refine A.cF rfl c2 ?_
  refine A.skip ?_
  show acode _ _ _ _ _
  refine A.RS W0 [] [(0, .al 10007)] [(1, .int .i64 ata1), (2, .ptr 10002 0), (4, .ptr 10004 0), (5, .ptr 10005 0), (7, .ptr 10007 0)] [(10002, .cells 27 [.lst false (ml eGAdvert d.Adverts)]), (10004, .cells 33 [.nils, .nils]), (10005, .cells 38 [.int .i64 vx_1.1.Router, .int .i64 vx_1.1.Seq, .bool vx_1.1.Capable, .lst false (ml eGReach vx_1.1.Links), .lst false (ml eGClaim vx_1.1.Claims)]), (10007, .cells 33 [.nils, .nils])] (by kernel_rfl) ?_
  refine A.RS W0 [] [(0, .al 10031), (2, hmu (mu (k := .i64) (enc := vB) [] ata1 true rfl))] [(2, .ptr 10002 0), (4, .ptr 10004 0), (5, .ptr 10005 0), (7, .ptr 10007 0), (8, .mapv 10031)] [(10002, .cells 27 [.lst false (ml eGAdvert d.Adverts)]), (10004, .cells 33 [.nils, .nils]), (10005, .cells 38 [.int .i64 vx_1.1.Router, .int .i64 vx_1.1.Seq, .bool vx_1.1.Capable, .lst false (ml eGReach vx_1.1.Links), .lst false (ml eGClaim vx_1.1.Claims)]), (10007, .cells 33 [.nils, .nils]), (10031, .map 3 4 (encM .i64 vB (setI [] ata1 true)))] (by kernel_rfl) ?_
  refine A.seq ?_
  refine A.RS W0 [] [(1, .al 10035)] [(2, .ptr 10002 0), (4, .ptr 10004 0), (7, .ptr 10007 0), (8, .mapv 10031), (9, .own 10035)] [(10002, .cells 27 [.lst false (ml eGAdvert d.Adverts)]), (10004, .cells 33 [.nils, .nils]), (10007, .cells 33 [.nils, .nils]), (10031, .map 3 4 (encM .i64 vB (setI [] ata1 true))), (10035, .slice 38 5 (ml eGAdvert ([vx_1.1] : List GAdvert)) 0 false)] (by kernel_rfl) ?_
  refine A.block ?_
  obtain ⟨F1, n1, hF1, hm⟩ := whl_some hm
  refine A.lpW (F := F1) hm (fun sg => match sg with | (work_1, m_1, m_2, m_3) => [(2, .ptr 10002 0), (4, .ptr 10004 0), (7, .ptr 10007 0), (8, .mapv 10031), (9, .own 600010009)]) (fun sg => match sg with | (work_1, m_1, m_2, m_3) => [(10002, .cells 27 [.lst false (ml eGAdvert d.Adverts)]), (10004, .cells 33 [.nils, .nils]), (10007, .cells 33 [.own 701000700, .own 701000701]), (10031, .map 3 4 (encM .i64 vB m_3)), (600010009, .win 38 5 (ml eGAdvert work_1)), (701000700, .slice 46 2 (ml eGRouter m_1) 0 false), (701000701, .slice 49 5 (ml eGLink m_2) 0 false)]) ?_ ?_
  · exact Weak.go [.wi 10035, .sw 10035 600010009, .ac 10007 701000700 46 2 0, .ac 10007 701000701 49 5 1] [] (by kernel_rfl)
  rintro Z1 ⟨work_1, m_1, m_2, m_3⟩ hm
  rw [hF1] at hm
  refine A.seq ?_
  refine A.RS W0 [] [(1, hto (lnE eGAdvert work_1))] [(2, .ptr 10002 0), (4, .ptr 10004 0), (7, .ptr 10007 0), (8, .mapv 10031), (9, .own 600010009), (38, .bool (decide ((0:Int) < (work_1.length:Int))))] [(10002, .cells 27 [.lst false (ml eGAdvert d.Adverts)]), (10004, .cells 33 [.nils, .nils]), (10007, .cells 33 [.own 701000700, .own 701000701]), (10031, .map 3 4 (encM .i64 vB m_3)), (600010009, .win 38 5 (ml eGAdvert work_1)), (701000700, .slice 46 2 (ml eGRouter m_1) 0 false), (701000701, .slice 49 5 (ml eGLink m_2) 0 false)] (by kernel_rfl) ?_
  rcases cs_some hm with ⟨c3, hm⟩ | ⟨c3, hm⟩
  · skip
    refine A.cT rfl c3 ?_
    refine A.skip ?_
    show acode _ _ _ _ _
    refine A.seq ?_
    refine A.block ?_
    obtain ⟨e_1, h3, hm⟩ := bnd_some hm
    refine A.RS W0 [] [(1, hix (ix eGAdvert h3)), (3, .al 10010)] [(2, .ptr 10002 0), (4, .ptr 10004 0), (7, .ptr 10007 0), (8, .mapv 10031), (9, .own 600010009), (10, .ptr 10010 0)] [(10002, .cells 27 [.lst false (ml eGAdvert d.Adverts)]), (10004, .cells 33 [.nils, .nils]), (10007, .cells 33 [.own 701000700, .own 701000701]), (10031, .map 3 4 (encM .i64 vB m_3)), (600010009, .win 38 5 (ml eGAdvert work_1)), (701000700, .slice 46 2 (ml eGRouter m_1) 0 false), (701000701, .slice 49 5 (ml eGLink m_2) 0 false), (10010, .cells 38 [.int .i64 e_1.Router, .int .i64 e_1.Seq, .bool e_1.Capable, .lst false (ml eGReach e_1.Links), .lst false (ml eGClaim e_1.Claims)])] (by kernel_rfl) ?_
    obtain ⟨l_1, h4, hm⟩ := bnd_some hm
    refine A.RS W0 [] [(8, hap 10552 (ap eGRouter (bytes := 16) (by decide) h4))] [(2, .ptr 10002 0), (4, .ptr 10004 0), (7, .ptr 10007 0), (8, .mapv 10031), (9, .own 600010009), (10, .ptr 10010 0)] [(10002, .cells 27 [.lst false (ml eGAdvert d.Adverts)]), (10004, .cells 33 [.nils, .nils]), (10007, .cells 33 [.own 10552, .own 701000701]), (10031, .map 3 4 (encM .i64 vB m_3)), (600010009, .win 38 5 (ml eGAdvert work_1)), (701000701, .slice 49 5 (ml eGLink m_2) 0 false), (10010, .cells 38 [.int .i64 e_1.Router, .int .i64 e_1.Seq, .bool e_1.Capable, .lst false (ml eGReach e_1.Links), .lst false (ml eGClaim e_1.Claims)]), (10552, .slice 46 2 (ml eGRouter l_1) 0 false)] (by kernel_rfl) ?_
    refine A.RS W0 [] [(2, hto (lnE eGReach e_1.Links))] [(2, .ptr 10002 0), (4, .ptr 10004 0), (7, .ptr 10007 0), (8, .mapv 10031), (9, .own 600010009), (10, .ptr 10010 0), (55, .lst false (ml eGReach e_1.Links)), (56, .int .i64 (e_1.Links.length:Int)), (57, .int .i64 (0:Int))] [(10002, .cells 27 [.lst false (ml eGAdvert d.Adverts)]), (10004, .cells 33 [.nils, .nils]), (10007, .cells 33 [.own 10552, .own 701000701]), (10031, .map 3 4 (encM .i64 vB m_3)), (600010009, .win 38 5 (ml eGAdvert work_1)), (701000701, .slice 49 5 (ml eGLink m_2) 0 false), (10010, .cells 38 [.int .i64 e_1.Router, .int .i64 e_1.Seq, .bool e_1.Capable, .lst false (ml eGReach e_1.Links), .lst false (ml eGClaim e_1.Claims)]), (10552, .slice 46 2 (ml eGRouter l_1) 0 false)] (by kernel_rfl) ?_
    refine A.block ?_
    refine A.bS 55 rfl fun hb2 => ?_
    obtain ⟨B2, K2, hB2, hK2, hm⟩ := forI_some hm
    refine A.lpI (l := e_1.Links) (j0 := 0) (B := B2) (K := K2) hm (fun j2 => fun sg => match sg with | (work_2, m_4, m_5) => [(2, .ptr 10002 0), (4, .ptr 10004 0), (7, .ptr 10007 0), (8, .mapv 10031), (9, .own 600010009), (10, .ptr 10010 0), (55, .lst false (ml eGReach e_1.Links)), (56, .int .i64 (e_1.Links.length:Int)), (57, .int .i64 (j2 : Int))]) (fun j2 => fun sg => match sg with | (work_2, m_4, m_5) => [(10002, .cells 27 [.lst false (ml eGAdvert d.Adverts)]), (10004, .cells 33 [.nils, .nils]), (10007, .cells 33 [.own 10552, .own 701000701]), (10031, .map 3 4 (encM .i64 vB m_5)), (600010009, .win 38 5 (ml eGAdvert work_2)), (701000701, .slice 49 5 (ml eGLink m_4) 0 false), (10010, .cells 38 [.int .i64 e_1.Router, .int .i64 e_1.Seq, .bool e_1.Capable, .lst false (ml eGReach e_1.Links), .lst false (ml eGClaim e_1.Claims)]), (10552, .slice 46 2 (ml eGRouter l_1) 0 false)]) ?_ ?_ ?_
    · exact Weak.go [] [] (by kernel_rfl)
    · skip
      rintro j2 e2 Z2 ⟨work_2, m_4, m_5⟩ hj2 hx2 hm
      rw [hB2] at hm
      refine A.RS W0 [] [] [(2, .ptr 10002 0), (4, .ptr 10004 0), (7, .ptr 10007 0), (8, .mapv 10031), (9, .own 600010009), (10, .ptr 10010 0), (55, .lst false (ml eGReach e_1.Links)), (56, .int .i64 (e_1.Links.length:Int)), (57, .int .i64 (j2 : Int)), (58, .bool (decide ((j2 : Int) < (e_1.Links.length:Int))))] [(10002, .cells 27 [.lst false (ml eGAdvert d.Adverts)]), (10004, .cells 33 [.nils, .nils]), (10007, .cells 33 [.own 10552, .own 701000701]), (10031, .map 3 4 (encM .i64 vB m_5)), (600010009, .win 38 5 (ml eGAdvert work_2)), (701000701, .slice 49 5 (ml eGLink m_4) 0 false), (10010, .cells 38 [.int .i64 e_1.Router, .int .i64 e_1.Seq, .bool e_1.Capable, .lst false (ml eGReach e_1.Links), .lst false (ml eGClaim e_1.Claims)]), (10552, .slice 46 2 (ml eGRouter l_1) 0 false)] (by kernel_rfl) ?_
      refine A.seq ?_
      refine A.cT rfl (ltT hx2) ?_
      refine A.skip ?_
      show acode _ _ _ _ _
      obtain ⟨J2, hJ2, hm⟩ := jn_some hm
      refine A.J (J := J2) (r := r) (fun sg => match sg with | (work_3, m_6, m_7) => [(2, .ptr 10002 0), (4, .ptr 10004 0), (7, .ptr 10007 0), (8, .mapv 10031), (9, .own 600010009), (10, .ptr 10010 0), (55, .lst false (ml eGReach e_1.Links)), (56, .int .i64 (e_1.Links.length:Int)), (57, .int .i64 (j2 : Int))]) (fun sg => match sg with | (work_3, m_6, m_7) => [(10002, .cells 27 [.lst false (ml eGAdvert d.Adverts)]), (10004, .cells 33 [.nils, .nils]), (10007, .cells 33 [.own 10552, .own 701000701]), (10031, .map 3 4 (encM .i64 vB m_6)), (600010009, .win 38 5 (ml eGAdvert work_3)), (701000701, .slice 49 5 (ml eGLink m_7) 0 false), (10010, .cells 38 [.int .i64 e_1.Router, .int .i64 e_1.Seq, .bool e_1.Capable, .lst false (ml eGReach e_1.Links), .lst false (ml eGClaim e_1.Claims)]), (10552, .slice 46 2 (ml eGRouter l_1) 0 false)]) ?_ ?_
      · skip
        refine A.block ?_
        refine A.RS W0 [] [(0, hix (ix eGReach (elO_nat hx2))), (2, .al 10012)] [(2, .ptr 10002 0), (4, .ptr 10004 0), (7, .ptr 10007 0), (8, .mapv 10031), (9, .own 600010009), (10, .ptr 10010 0), (55, .lst false (ml eGReach e_1.Links)), (56, .int .i64 (e_1.Links.length:Int)), (57, .int .i64 (j2 : Int)), (12, .ptr 10012 0)] [(10002, .cells 27 [.lst false (ml eGAdvert d.Adverts)]), (10004, .cells 33 [.nils, .nils]), (10007, .cells 33 [.own 10552, .own 701000701]), (10031, .map 3 4 (encM .i64 vB m_5)), (600010009, .win 38 5 (ml eGAdvert work_2)), (701000701, .slice 49 5 (ml eGLink m_4) 0 false), (10010, .cells 38 [.int .i64 e_1.Router, .int .i64 e_1.Seq, .bool e_1.Capable, .lst false (ml eGReach e_1.Links), .lst false (ml eGClaim e_1.Claims)]), (10552, .slice 46 2 (ml eGRouter l_1) 0 false), (10012, .cells 51 [.int .i64 e2.Neighbour, .int .i64 e2.Cost, .int .i64 e2.Capacity])] (by kernel_rfl) ?_
        obtain ⟨vx_3, h5, hm⟩ := bnd_some hm
        refine A.RS W0 [] [(3, hro (m_database_Find_ok h5) ck27), (7, .al 10013)] [(2, .ptr 10002 0), (4, .ptr 10004 0), (7, .ptr 10007 0), (8, .mapv 10031), (9, .own 600010009), (10, .ptr 10010 0), (55, .lst false (ml eGReach e_1.Links)), (56, .int .i64 (e_1.Links.length:Int)), (57, .int .i64 (j2 : Int)), (12, .ptr 10012 0), (13, .ptr 10013 0), (14, .bool vx_3.2)] [(10002, .cells 27 [.lst false (ml eGAdvert d.Adverts)]), (10004, .cells 33 [.nils, .nils]), (10007, .cells 33 [.own 10552, .own 701000701]), (10031, .map 3 4 (encM .i64 vB m_5)), (600010009, .win 38 5 (ml eGAdvert work_2)), (701000701, .slice 49 5 (ml eGLink m_4) 0 false), (10010, .cells 38 [.int .i64 e_1.Router, .int .i64 e_1.Seq, .bool e_1.Capable, .lst false (ml eGReach e_1.Links), .lst false (ml eGClaim e_1.Claims)]), (10552, .slice 46 2 (ml eGRouter l_1) 0 false), (10012, .cells 51 [.int .i64 e2.Neighbour, .int .i64 e2.Cost, .int .i64 e2.Capacity]), (10013, .cells 38 [.int .i64 vx_3.1.Router, .int .i64 vx_3.1.Seq, .bool vx_3.1.Capable, .lst false (ml eGReach vx_3.1.Links), .lst false (ml eGClaim vx_3.1.Claims)])] (by kernel_rfl) ?_
        obtain ⟨vx_4, h6, hm⟩ := bnd_some hm
        refine A.RS W0 [] [(3, hro (m_database_reach_ok h6) ck33), (7, .al 10015)] [(2, .ptr 10002 0), (4, .ptr 10004 0), (7, .ptr 10007 0), (8, .mapv 10031), (9, .own 600010009), (10, .ptr 10010 0), (55, .lst false (ml eGReach e_1.Links)), (56, .int .i64 (e_1.Links.length:Int)), (57, .int .i64 (j2 : Int)), (12, .ptr 10012 0), (13, .ptr 10013 0), (14, .bool vx_3.2), (15, .ptr 10015 0), (16, .bool vx_4.2)] [(10002, .cells 27 [.lst false (ml eGAdvert d.Adverts)]), (10004, .cells 33 [.nils, .nils]), (10007, .cells 33 [.own 10552, .own 701000701]), (10031, .map 3 4 (encM .i64 vB m_5)), (600010009, .win 38 5 (ml eGAdvert work_2)), (701000701, .slice 49 5 (ml eGLink m_4) 0 false), (10010, .cells 38 [.int .i64 e_1.Router, .int .i64 e_1.Seq, .bool e_1.Capable, .lst false (ml eGReach e_1.Links), .lst false (ml eGClaim e_1.Claims)]), (10552, .slice 46 2 (ml eGRouter l_1) 0 false), (10012, .cells 51 [.int .i64 e2.Neighbour, .int .i64 e2.Cost, .int .i64 e2.Capacity]), (10013, .cells 38 [.int .i64 vx_3.1.Router, .int .i64 vx_3.1.Seq, .bool vx_3.1.Capable, .lst false (ml eGReach vx_3.1.Links), .lst false (ml eGClaim vx_3.1.Claims)]), (10015, .cells 51 [.int .i64 vx_4.1.Neighbour, .int .i64 vx_4.1.Cost, .int .i64 vx_4.1.Capacity])] (by kernel_rfl) ?_
        refine A.seq ?_
        refine A.mid [(2, .ptr 10002 0), (4, .ptr 10004 0), (7, .ptr 10007 0), (8, .mapv 10031), (9, .own 600010009), (10, .ptr 10010 0), (55, .lst false (ml eGReach e_1.Links)), (56, .int .i64 (e_1.Links.length:Int)), (57, .int .i64 (j2 : Int)), (12, .ptr 10012 0), (13, .ptr 10013 0), (15, .ptr 10015 0), (80, .bool ((!vx_3.2) || (!vx_4.2)))] [(10002, .cells 27 [.lst false (ml eGAdvert d.Adverts)]), (10004, .cells 33 [.nils, .nils]), (10007, .cells 33 [.own 10552, .own 701000701]), (10031, .map 3 4 (encM .i64 vB m_5)), (600010009, .win 38 5 (ml eGAdvert work_2)), (701000701, .slice 49 5 (ml eGLink m_4) 0 false), (10010, .cells 38 [.int .i64 e_1.Router, .int .i64 e_1.Seq, .bool e_1.Capable, .lst false (ml eGReach e_1.Links), .lst false (ml eGClaim e_1.Claims)]), (10552, .slice 46 2 (ml eGRouter l_1) 0 false), (10012, .cells 51 [.int .i64 e2.Neighbour, .int .i64 e2.Cost, .int .i64 e2.Capacity]), (10013, .cells 38 [.int .i64 vx_3.1.Router, .int .i64 vx_3.1.Seq, .bool vx_3.1.Capable, .lst false (ml eGReach vx_3.1.Links), .lst false (ml eGClaim vx_3.1.Claims)]), (10015, .cells 51 [.int .i64 vx_4.1.Neighbour, .int .i64 vx_4.1.Cost, .int .i64 vx_4.1.Capacity])] (fun hk => ?_) ?_
        · skip
          rcases tf (!vx_3.2) with c4 | c4
          · skip
            exact A.RS W0 [] [(2, hto (bE c4)), (5, hto (orT (q := !vx_4.2) c4))] _ _ (by kernel_rfl) hk
          exact A.RS W0 [] [(2, hto (bE c4)), (5, hto (orF (q := !vx_4.2) c4))] _ _ (by kernel_rfl) hk
        rcases cs_some hm with ⟨c5, hm⟩ | ⟨c5, hm⟩
        · skip
          refine A.cT rfl c5 ?_
          refine A.exit ?_
          exact Exists.intro (work_2, m_5, m_4) (And.intro hm (Weak.go [] [] (by kernel_rfl)))
        refine A.cF rfl c5 ?_
        refine A.skip ?_
        show acode _ _ _ _ _
        obtain ⟨J3, hJ3, hm⟩ := jn_some hm
        refine A.J (J := J3) (r := r) (fun m_8 => [(2, .ptr 10002 0), (4, .ptr 10004 0), (7, .ptr 10007 0), (8, .mapv 10031), (9, .own 600010009), (10, .ptr 10010 0), (13, .ptr 10013 0), (55, .lst false (ml eGReach e_1.Links)), (56, .int .i64 (e_1.Links.length:Int)), (57, .int .i64 (j2 : Int))]) (fun m_8 => [(10002, .cells 27 [.lst false (ml eGAdvert d.Adverts)]), (10004, .cells 33 [.nils, .nils]), (10007, .cells 33 [.own 10552, .own 701000701]), (10031, .map 3 4 (encM .i64 vB m_5)), (600010009, .win 38 5 (ml eGAdvert work_2)), (701000701, .slice 49 5 (ml eGLink m_8) 0 false), (10010, .cells 38 [.int .i64 e_1.Router, .int .i64 e_1.Seq, .bool e_1.Capable, .lst false (ml eGReach e_1.Links), .lst false (ml eGClaim e_1.Claims)]), (10552, .slice 46 2 (ml eGRouter l_1) 0 false), (10013, .cells 38 [.int .i64 vx_3.1.Router, .int .i64 vx_3.1.Seq, .bool vx_3.1.Capable, .lst false (ml eGReach vx_3.1.Links), .lst false (ml eGClaim vx_3.1.Claims)])]) ?_ ?_
        · skip
          refine A.RS W0 [] [] [(2, .ptr 10002 0), (4, .ptr 10004 0), (7, .ptr 10007 0), (8, .mapv 10031), (9, .own 600010009), (10, .ptr 10010 0), (55, .lst false (ml eGReach e_1.Links)), (56, .int .i64 (e_1.Links.length:Int)), (57, .int .i64 (j2 : Int)), (12, .ptr 10012 0), (13, .ptr 10013 0), (15, .ptr 10015 0), (85, .bool (decide (e_1.Router < vx_3.1.Router)))] [(10002, .cells 27 [.lst false (ml eGAdvert d.Adverts)]), (10004, .cells 33 [.nils, .nils]), (10007, .cells 33 [.own 10552, .own 701000701]), (10031, .map 3 4 (encM .i64 vB m_5)), (600010009, .win 38 5 (ml eGAdvert work_2)), (701000701, .slice 49 5 (ml eGLink m_4) 0 false), (10010, .cells 38 [.int .i64 e_1.Router, .int .i64 e_1.Seq, .bool e_1.Capable, .lst false (ml eGReach e_1.Links), .lst false (ml eGClaim e_1.Claims)]), (10552, .slice 46 2 (ml eGRouter l_1) 0 false), (10012, .cells 51 [.int .i64 e2.Neighbour, .int .i64 e2.Cost, .int .i64 e2.Capacity]), (10013, .cells 38 [.int .i64 vx_3.1.Router, .int .i64 vx_3.1.Seq, .bool vx_3.1.Capable, .lst false (ml eGReach vx_3.1.Links), .lst false (ml eGClaim vx_3.1.Claims)]), (10015, .cells 51 [.int .i64 vx_4.1.Neighbour, .int .i64 vx_4.1.Cost, .int .i64 vx_4.1.Capacity])] (by kernel_rfl) ?_
          rcases cs_some hm with ⟨c6, hm⟩ | ⟨c6, hm⟩
          · skip
            refine A.cT rfl c6 ?_
            obtain ⟨l_2, h7, hm⟩ := bnd_some hm
            refine A.R W0 [] [(17, hap 10603 (ap eGLink (bytes := 40) (by decide) h7))] [(2, .ptr 10002 0), (4, .ptr 10004 0), (7, .ptr 10007 0), (8, .mapv 10031), (9, .own 600010009), (10, .ptr 10010 0), (55, .lst false (ml eGReach e_1.Links)), (56, .int .i64 (e_1.Links.length:Int)), (57, .int .i64 (j2 : Int)), (13, .ptr 10013 0)] [(10002, .cells 27 [.lst false (ml eGAdvert d.Adverts)]), (10004, .cells 33 [.nils, .nils]), (10007, .cells 33 [.own 10552, .own 10603]), (10031, .map 3 4 (encM .i64 vB m_5)), (600010009, .win 38 5 (ml eGAdvert work_2)), (10010, .cells 38 [.int .i64 e_1.Router, .int .i64 e_1.Seq, .bool e_1.Capable, .lst false (ml eGReach e_1.Links), .lst false (ml eGClaim e_1.Claims)]), (10552, .slice 46 2 (ml eGRouter l_1) 0 false), (10013, .cells 38 [.int .i64 vx_3.1.Router, .int .i64 vx_3.1.Seq, .bool vx_3.1.Capable, .lst false (ml eGReach vx_3.1.Links), .lst false (ml eGClaim vx_3.1.Claims)]), (10603, .slice 49 5 (ml eGLink l_2) 0 false)] (by kernel_rfl) ?_
            exact Exists.intro l_2 (And.intro hm (Weak.go [.sw 10603 701000701] [] (by kernel_rfl)))
          refine A.cF rfl c6 ?_
          refine A.skip ?_
          exact Exists.intro m_4 (And.intro hm (Weak.go [] [] (by kernel_rfl)))
        rintro m_8 hm
        rw [hJ3] at hm
        refine A.RS W0 [] [(3, hlk (lk (E := 4) (k := .i64) (enc := vB) m_5 vx_3.1.Router false (fun w => ⟨_, Try.zeroValue4 w, fun I => by simp [RepC, vI, vB]⟩)))] [(2, .ptr 10002 0), (4, .ptr 10004 0), (7, .ptr 10007 0), (8, .mapv 10031), (9, .own 600010009), (10, .ptr 10010 0), (13, .ptr 10013 0), (55, .lst false (ml eGReach e_1.Links)), (56, .int .i64 (e_1.Links.length:Int)), (57, .int .i64 (j2 : Int)), (109, .bool (!((getI m_5 vx_3.1.Router).getD false)))] [(10002, .cells 27 [.lst false (ml eGAdvert d.Adverts)]), (10004, .cells 33 [.nils, .nils]), (10007, .cells 33 [.own 10552, .own 701000701]), (10031, .map 3 4 (encM .i64 vB m_5)), (600010009, .win 38 5 (ml eGAdvert work_2)), (701000701, .slice 49 5 (ml eGLink m_8) 0 false), (10010, .cells 38 [.int .i64 e_1.Router, .int .i64 e_1.Seq, .bool e_1.Capable, .lst false (ml eGReach e_1.Links), .lst false (ml eGClaim e_1.Claims)]), (10552, .slice 46 2 (ml eGRouter l_1) 0 false), (10013, .cells 38 [.int .i64 vx_3.1.Router, .int .i64 vx_3.1.Seq, .bool vx_3.1.Capable, .lst false (ml eGReach vx_3.1.Links), .lst false (ml eGClaim vx_3.1.Claims)])] (by kernel_rfl) ?_
        rcases cs_some hm with ⟨c7, hm⟩ | ⟨c7, hm⟩
        · skip
          refine A.cT rfl c7 ?_
          refine A.RS W0 [] [(3, hmu (mu (k := .i64) (enc := vB) m_5 vx_3.1.Router true rfl))] [(2, .ptr 10002 0), (4, .ptr 10004 0), (7, .ptr 10007 0), (8, .mapv 10031), (9, .own 600010009), (10, .ptr 10010 0), (13, .ptr 10013 0), (55, .lst false (ml eGReach e_1.Links)), (56, .int .i64 (e_1.Links.length:Int)), (57, .int .i64 (j2 : Int))] [(10002, .cells 27 [.lst false (ml eGAdvert d.Adverts)]), (10004, .cells 33 [.nils, .nils]), (10007, .cells 33 [.own 10552, .own 701000701]), (10031, .map 3 4 (encM .i64 vB (setI m_5 vx_3.1.Router true))), (600010009, .win 38 5 (ml eGAdvert work_2)), (701000701, .slice 49 5 (ml eGLink m_8) 0 false), (10010, .cells 38 [.int .i64 e_1.Router, .int .i64 e_1.Seq, .bool e_1.Capable, .lst false (ml eGReach e_1.Links), .lst false (ml eGClaim e_1.Claims)]), (10552, .slice 46 2 (ml eGRouter l_1) 0 false), (10013, .cells 38 [.int .i64 vx_3.1.Router, .int .i64 vx_3.1.Seq, .bool vx_3.1.Capable, .lst false (ml eGReach vx_3.1.Links), .lst false (ml eGClaim vx_3.1.Claims)])] (by kernel_rfl) ?_
          obtain ⟨l_3, h8, hm⟩ := bnd_some hm
          refine A.R W0 [] [(3, hap 10616 (ap eGAdvert (bytes := 72) (by decide) h8))] [(2, .ptr 10002 0), (4, .ptr 10004 0), (7, .ptr 10007 0), (8, .mapv 10031), (9, .own 10616), (10, .ptr 10010 0), (55, .lst false (ml eGReach e_1.Links)), (56, .int .i64 (e_1.Links.length:Int)), (57, .int .i64 (j2 : Int))] [(10002, .cells 27 [.lst false (ml eGAdvert d.Adverts)]), (10004, .cells 33 [.nils, .nils]), (10007, .cells 33 [.own 10552, .own 701000701]), (10031, .map 3 4 (encM .i64 vB (setI m_5 vx_3.1.Router true))), (701000701, .slice 49 5 (ml eGLink m_8) 0 false), (10010, .cells 38 [.int .i64 e_1.Router, .int .i64 e_1.Seq, .bool e_1.Capable, .lst false (ml eGReach e_1.Links), .lst false (ml eGClaim e_1.Claims)]), (10552, .slice 46 2 (ml eGRouter l_1) 0 false), (10616, .win 38 5 (ml eGAdvert l_3))] (by kernel_rfl) ?_
          exact Exists.intro (l_3, setI m_5 vx_3.1.Router true, m_8) (And.intro hm (Weak.go [.sw 10616 600010009] [] (by kernel_rfl)))
        refine A.cF rfl c7 ?_
        refine A.skip ?_
        exact Exists.intro (work_2, m_5, m_8) (And.intro hm (Weak.go [] [] (by kernel_rfl)))
      rintro ⟨work_3, m_6, m_7⟩ hm
      rw [hJ2] at hm
      refine A.R W0 [] [(0, hto (inc hx2 hb2))] [(2, .ptr 10002 0), (4, .ptr 10004 0), (7, .ptr 10007 0), (8, .mapv 10031), (9, .own 600010009), (10, .ptr 10010 0), (55, .lst false (ml eGReach e_1.Links)), (56, .int .i64 (e_1.Links.length:Int)), (57, .int .i64 ((j2 + 1 : Nat) : Int))] [(10002, .cells 27 [.lst false (ml eGAdvert d.Adverts)]), (10004, .cells 33 [.nils, .nils]), (10007, .cells 33 [.own 10552, .own 701000701]), (10031, .map 3 4 (encM .i64 vB m_6)), (600010009, .win 38 5 (ml eGAdvert work_3)), (701000701, .slice 49 5 (ml eGLink m_7) 0 false), (10010, .cells 38 [.int .i64 e_1.Router, .int .i64 e_1.Seq, .bool e_1.Capable, .lst false (ml eGReach e_1.Links), .lst false (ml eGClaim e_1.Claims)]), (10552, .slice 46 2 (ml eGRouter l_1) 0 false)] (by kernel_rfl) ?_
      exact Exists.intro (work_3, m_7, m_6) (And.intro hm (Weak.go [] [] (by kernel_rfl)))
    rintro j2 ⟨work_2, m_4, m_5⟩ hj2 hl2 hm
    rw [hK2] at hm
    refine A.RS W0 [] [] [(2, .ptr 10002 0), (4, .ptr 10004 0), (7, .ptr 10007 0), (8, .mapv 10031), (9, .own 600010009), (10, .ptr 10010 0), (55, .lst false (ml eGReach e_1.Links)), (56, .int .i64 (e_1.Links.length:Int)), (57, .int .i64 (j2 : Int)), (58, .bool (decide ((j2 : Int) < (e_1.Links.length:Int))))] [(10002, .cells 27 [.lst false (ml eGAdvert d.Adverts)]), (10004, .cells 33 [.nils, .nils]), (10007, .cells 33 [.own 10552, .own 701000701]), (10031, .map 3 4 (encM .i64 vB m_5)), (600010009, .win 38 5 (ml eGAdvert work_2)), (701000701, .slice 49 5 (ml eGLink m_4) 0 false), (10010, .cells 38 [.int .i64 e_1.Router, .int .i64 e_1.Seq, .bool e_1.Capable, .lst false (ml eGReach e_1.Links), .lst false (ml eGClaim e_1.Claims)]), (10552, .slice 46 2 (ml eGRouter l_1) 0 false)] (by kernel_rfl) ?_
    refine A.seq ?_
    refine A.cF rfl (ltF hl2) ?_
    refine A.exit ?_
    show acode _ _ _ _ _
    obtain ⟨l_4, h9, hm⟩ := bnd_some hm
    refine A.R W0 [] [(1, hws 10540 (slE2 eGAdvert h9))] [(2, .ptr 10002 0), (4, .ptr 10004 0), (7, .ptr 10007 0), (8, .mapv 10031), (9, .own 10540)] [(10002, .cells 27 [.lst false (ml eGAdvert d.Adverts)]), (10004, .cells 33 [.nils, .nils]), (10007, .cells 33 [.own 10552, .own 701000701]), (10031, .map 3 4 (encM .i64 vB m_5)), (701000701, .slice 49 5 (ml eGLink m_4) 0 false), (10552, .slice 46 2 (ml eGRouter l_1) 0 false), (10540, .win 38 5 (ml eGAdvert l_4))] (by kernel_rfl) ?_
    exact Exists.intro (l_4, l_1, m_4, m_5) (And.intro hm (Weak.go [.sw 10540 600010009, .sw 10552 701000700] [] (by kernel_rfl)))
  refine A.cF rfl c3 ?_
  refine A.exit ?_
  show acode _ _ _ _ _
  obtain ⟨l_5, h10, hm⟩ := bnd_some hm
  refine A.RS W0 [] [(2, hdc [] (sort_35 (d := 701000700) (T := 46) h10) ck34)] [(4, .ptr 10004 0), (7, .ptr 10007 0)] [(10004, .cells 33 [.nils, .nils]), (10007, .cells 33 [.own 701000700, .own 701000701]), (701000700, .slice 46 2 (ml eGRouter l_5) 0 false), (701000701, .slice 49 5 (ml eGLink m_2) 0 false)] (by kernel_rfl) ?_
  obtain ⟨l_6, h11, hm⟩ := bnd_some hm
  refine A.RS W0 [] [(2, hdc [] (sort_38 (d := 701000701) (T := 49) h11) ck37)] [(4, .ptr 10004 0), (7, .ptr 10007 0)] [(10004, .cells 33 [.nils, .nils]), (10007, .cells 33 [.own 701000700, .own 701000701]), (701000700, .slice 46 2 (ml eGRouter l_5) 0 false), (701000701, .slice 49 5 (ml eGLink l_6) 0 false)] (by kernel_rfl) ?_
  refine A.seq ?_
  obtain ⟨vx_5, h12, hm⟩ := bnd_some hm
  refine A.RS W0 [] [(1, hle [701000700, 701000701] (m_topology_Check_ok h12) ck40)] [(4, .ptr 10004 0), (7, .ptr 10007 0), (126, .bool (!decide (vx_5 = (0:Int))))] [(10004, .cells 33 [.nils, .nils]), (10007, .cells 33 [.own 701000700, .own 701000701]), (701000700, .slice 46 2 (ml eGRouter l_5) 0 false), (701000701, .slice 49 5 (ml eGLink l_6) 0 false)] (by kernel_rfl) ?_
  rcases cs_some hm with ⟨c8, hm⟩ | ⟨c8, hm⟩
  · skip
    refine A.cT rfl c8 ?_
    refine A.RS W0 [] [] [(4, .ptr 10004 0)] [(10004, .cells 33 [.nils, .nils])] (by kernel_rfl) ?_
    refine A.ret ?_
    obtain rfl := some_inj hm
    exact A.fin W0 [] rfl (by kernel_rfl)
  refine A.cF rfl c8 ?_
  refine A.skip ?_
  show acode _ _ _ _ _
  refine A.RS W0 [] [] [(4, .ptr 10004 0)] [(10004, .cells 33 [.own 701000700, .own 701000701]), (701000700, .slice 46 2 (ml eGRouter l_5) 0 false), (701000701, .slice 49 5 (ml eGLink l_6) 0 false)] (by kernel_rfl) ?_
  refine A.ret ?_
  obtain rfl := some_inj hm
  exact A.fin W0 [.fz [701000700, 701000701]] rfl (by kernel_rfl)
theorem m_database_Claims_ok {d : GDatabase} {ata1 : Int} {r : (List GOwned)} (hm : m_database_Claims d ata1 = some r) : RO Try.prog 20 [] [.agg [.lst false (ml eGAdvert d.Adverts)], .int .i64 ata1] (.lst false (ml eGOwned r)) := by
  refine enterA Try.func20 rfl rfl ?_
  unfold m_database_Claims at hm
  refine A.RS W0 [] [(0, .al 20002)] [(1, .int .i64 ata1), (2, .ptr 20002 0)] [(20002, .cells 27 [.lst false (ml eGAdvert d.Adverts)])] (by kernel_rfl) ?_
  refine A.RS W0 [] [] [(1, .int .i64 ata1), (2, .ptr 20002 0), (5, .nils)] [(20002, .cells 27 [.lst false (ml eGAdvert d.Adverts)])] (by kernel_rfl) ?_
  refine A.seq ?_
  obtain ⟨vx_1, h1, hm⟩ := bnd_some hm
  refine A.RS W0 [] [(2, hro (m_database_View_ok h1) ck10), (4, hto (lnE eGRouter vx_1.Routers))] [(2, .ptr 20002 0), (5, .nils), (15, .lst false (ml eGRouter vx_1.Routers)), (16, .int .i64 (vx_1.Routers.length:Int)), (17, .int .i64 (0:Int))] [(20002, .cells 27 [.lst false (ml eGAdvert d.Adverts)])] (by kernel_rfl) ?_
  refine A.block ?_
  refine A.bS 15 rfl fun hb1 => ?_
  obtain ⟨B1, K1, hB1, hK1, hm⟩ := forI_some hm
  refine A.lpI (l := vx_1.Routers) (j0 := 0) (B := B1) (K := K1) hm (fun j1 => fun out_1 => [(2, .ptr 20002 0), (5, .own 600020005), (15, .lst false (ml eGRouter vx_1.Routers)), (16, .int .i64 (vx_1.Routers.length:Int)), (17, .int .i64 (j1 : Int))]) (fun j1 => fun out_1 => [(20002, .cells 27 [.lst false (ml eGAdvert d.Adverts)]), (600020005, .slice 64 4 (ml eGOwned out_1) 0 false)]) ?_ ?_ ?_
  · exact Weak.go [.ad 5 600020005 64 4] [] (by kernel_rfl)
  · skip
    rintro j1 e1 Z1 out_1 hj1 hx1 hm
    rw [hB1] at hm
    refine A.RS W0 [] [] [(2, .ptr 20002 0), (5, .own 600020005), (15, .lst false (ml eGRouter vx_1.Routers)), (16, .int .i64 (vx_1.Routers.length:Int)), (17, .int .i64 (j1 : Int)), (18, .bool (decide ((j1 : Int) < (vx_1.Routers.length:Int))))] [(20002, .cells 27 [.lst false (ml eGAdvert d.Adverts)]), (600020005, .slice 64 4 (ml eGOwned out_1) 0 false)] (by kernel_rfl) ?_
    refine A.seq ?_
    refine A.cT rfl (ltT hx1) ?_
    refine A.skip ?_
    show acode _ _ _ _ _
    obtain ⟨J1, hJ1, hm⟩ := jn_some hm
    refine A.J (J := J1) (r := r) (fun out_2 => [(2, .ptr 20002 0), (5, .own 600020005), (15, .lst false (ml eGRouter vx_1.Routers)), (16, .int .i64 (vx_1.Routers.length:Int)), (17, .int .i64 (j1 : Int))]) (fun out_2 => [(20002, .cells 27 [.lst false (ml eGAdvert d.Adverts)]), (600020005, .slice 64 4 (ml eGOwned out_2) 0 false)]) ?_ ?_
    · skip
      refine A.block ?_
      refine A.RS W0 [] [(0, hix (ix eGRouter (elO_nat hx1))), (2, .al 20007)] [(2, .ptr 20002 0), (5, .own 600020005), (15, .lst false (ml eGRouter vx_1.Routers)), (16, .int .i64 (vx_1.Routers.length:Int)), (17, .int .i64 (j1 : Int)), (7, .ptr 20007 0)] [(20002, .cells 27 [.lst false (ml eGAdvert d.Adverts)]), (600020005, .slice 64 4 (ml eGOwned out_1) 0 false), (20007, .cells 46 [.int .i64 e1.ID, .bool e1.Capable])] (by kernel_rfl) ?_
      refine A.seq ?_
      refine A.RS W0 [] [] [(2, .ptr 20002 0), (5, .own 600020005), (15, .lst false (ml eGRouter vx_1.Routers)), (16, .int .i64 (vx_1.Routers.length:Int)), (17, .int .i64 (j1 : Int)), (7, .ptr 20007 0), (23, .bool (!e1.Capable))] [(20002, .cells 27 [.lst false (ml eGAdvert d.Adverts)]), (600020005, .slice 64 4 (ml eGOwned out_1) 0 false), (20007, .cells 46 [.int .i64 e1.ID, .bool e1.Capable])] (by kernel_rfl) ?_
      rcases cs_some hm with ⟨c1, hm⟩ | ⟨c1, hm⟩
      · skip
        refine A.cT rfl c1 ?_
        refine A.exit ?_
        exact Exists.intro out_1 (And.intro hm (Weak.go [] [] (by kernel_rfl)))
      refine A.cF rfl c1 ?_
      refine A.skip ?_
      show acode _ _ _ _ _
      obtain ⟨vx_2, h2, hm⟩ := bnd_some hm
      refine A.RS W0 [] [(3, hro (m_database_Find_ok h2) ck27), (7, .al 20008)] [(2, .ptr 20002 0), (5, .own 600020005), (15, .lst false (ml eGRouter vx_1.Routers)), (16, .int .i64 (vx_1.Routers.length:Int)), (17, .int .i64 (j1 : Int)), (7, .ptr 20007 0), (8, .ptr 20008 0)] [(20002, .cells 27 [.lst false (ml eGAdvert d.Adverts)]), (600020005, .slice 64 4 (ml eGOwned out_1) 0 false), (20007, .cells 46 [.int .i64 e1.ID, .bool e1.Capable]), (20008, .cells 38 [.int .i64 vx_2.1.Router, .int .i64 vx_2.1.Seq, .bool vx_2.1.Capable, .lst false (ml eGReach vx_2.1.Links), .lst false (ml eGClaim vx_2.1.Claims)])] (by kernel_rfl) ?_
      refine A.RS W0 [] [(2, hto (lnE eGClaim vx_2.1.Claims))] [(2, .ptr 20002 0), (5, .own 600020005), (15, .lst false (ml eGRouter vx_1.Routers)), (16, .int .i64 (vx_1.Routers.length:Int)), (17, .int .i64 (j1 : Int)), (7, .ptr 20007 0), (32, .lst false (ml eGClaim vx_2.1.Claims)), (33, .int .i64 (vx_2.1.Claims.length:Int)), (34, .int .i64 (0:Int))] [(20002, .cells 27 [.lst false (ml eGAdvert d.Adverts)]), (600020005, .slice 64 4 (ml eGOwned out_1) 0 false), (20007, .cells 46 [.int .i64 e1.ID, .bool e1.Capable])] (by kernel_rfl) ?_
      refine A.block ?_
      refine A.bS 32 rfl fun hb2 => ?_
      obtain ⟨B2, K2, hB2, hK2, hm⟩ := forI_some hm
      refine A.lpI (l := vx_2.1.Claims) (j0 := 0) (B := B2) (K := K2) hm (fun j2 => fun out_3 => [(2, .ptr 20002 0), (5, .own 600020005), (7, .ptr 20007 0), (15, .lst false (ml eGRouter vx_1.Routers)), (16, .int .i64 (vx_1.Routers.length:Int)), (17, .int .i64 (j1 : Int)), (32, .lst false (ml eGClaim vx_2.1.Claims)), (33, .int .i64 (vx_2.1.Claims.length:Int)), (34, .int .i64 (j2 : Int))]) (fun j2 => fun out_3 => [(20002, .cells 27 [.lst false (ml eGAdvert d.Adverts)]), (600020005, .slice 64 4 (ml eGOwned out_3) 0 false), (20007, .cells 46 [.int .i64 e1.ID, .bool e1.Capable])]) ?_ ?_ ?_
      · exact Weak.go [] [] (by kernel_rfl)
      · skip
        rintro j2 e2 Z2 out_3 hj2 hx2 hm
        rw [hB2] at hm
        refine A.RS W0 [] [] [(2, .ptr 20002 0), (5, .own 600020005), (7, .ptr 20007 0), (15, .lst false (ml eGRouter vx_1.Routers)), (16, .int .i64 (vx_1.Routers.length:Int)), (17, .int .i64 (j1 : Int)), (32, .lst false (ml eGClaim vx_2.1.Claims)), (33, .int .i64 (vx_2.1.Claims.length:Int)), (34, .int .i64 (j2 : Int)), (35, .bool (decide ((j2 : Int) < (vx_2.1.Claims.length:Int))))] [(20002, .cells 27 [.lst false (ml eGAdvert d.Adverts)]), (600020005, .slice 64 4 (ml eGOwned out_3) 0 false), (20007, .cells 46 [.int .i64 e1.ID, .bool e1.Capable])] (by kernel_rfl) ?_
        refine A.seq ?_
        refine A.cT rfl (ltT hx2) ?_
        refine A.skip ?_
        show acode _ _ _ _ _
        refine A.seq ?_
        refine A.block ?_
        refine A.RS W0 [] [(0, hix (ix eGClaim (elO_nat hx2))), (2, .al 20011)] [(2, .ptr 20002 0), (5, .own 600020005), (7, .ptr 20007 0), (15, .lst false (ml eGRouter vx_1.Routers)), (16, .int .i64 (vx_1.Routers.length:Int)), (17, .int .i64 (j1 : Int)), (32, .lst false (ml eGClaim vx_2.1.Claims)), (33, .int .i64 (vx_2.1.Claims.length:Int)), (34, .int .i64 (j2 : Int)), (11, .ptr 20011 0)] [(20002, .cells 27 [.lst false (ml eGAdvert d.Adverts)]), (600020005, .slice 64 4 (ml eGOwned out_3) 0 false), (20007, .cells 46 [.int .i64 e1.ID, .bool e1.Capable]), (20011, .cells 62 [.int .i64 e2.Subdomain, .int .i64 e2.ID, .int .i64 e2.Length])] (by kernel_rfl) ?_
        obtain ⟨l_1, h3, hm⟩ := bnd_some hm
        refine A.R W0 [] [(6, hap 20544 (ap eGOwned (bytes := 32) (by decide) h3))] [(2, .ptr 20002 0), (5, .own 20544), (7, .ptr 20007 0), (15, .lst false (ml eGRouter vx_1.Routers)), (16, .int .i64 (vx_1.Routers.length:Int)), (17, .int .i64 (j1 : Int)), (32, .lst false (ml eGClaim vx_2.1.Claims)), (33, .int .i64 (vx_2.1.Claims.length:Int)), (34, .int .i64 (j2 : Int))] [(20002, .cells 27 [.lst false (ml eGAdvert d.Adverts)]), (20007, .cells 46 [.int .i64 e1.ID, .bool e1.Capable]), (20544, .slice 64 4 (ml eGOwned l_1) 0 false)] (by kernel_rfl) ?_
        show acode _ _ _ _ _
        refine A.R W0 [] [(0, hto (inc hx2 hb2))] [(2, .ptr 20002 0), (5, .own 20544), (7, .ptr 20007 0), (15, .lst false (ml eGRouter vx_1.Routers)), (16, .int .i64 (vx_1.Routers.length:Int)), (17, .int .i64 (j1 : Int)), (32, .lst false (ml eGClaim vx_2.1.Claims)), (33, .int .i64 (vx_2.1.Claims.length:Int)), (34, .int .i64 ((j2 + 1 : Nat) : Int))] [(20002, .cells 27 [.lst false (ml eGAdvert d.Adverts)]), (20007, .cells 46 [.int .i64 e1.ID, .bool e1.Capable]), (20544, .slice 64 4 (ml eGOwned l_1) 0 false)] (by kernel_rfl) ?_
        exact Exists.intro l_1 (And.intro hm (Weak.go [.sw 20544 600020005] [] (by kernel_rfl)))
      rintro j2 out_3 hj2 hl2 hm
      rw [hK2] at hm
      refine A.RS W0 [] [] [(2, .ptr 20002 0), (5, .own 600020005), (7, .ptr 20007 0), (15, .lst false (ml eGRouter vx_1.Routers)), (16, .int .i64 (vx_1.Routers.length:Int)), (17, .int .i64 (j1 : Int)), (32, .lst false (ml eGClaim vx_2.1.Claims)), (33, .int .i64 (vx_2.1.Claims.length:Int)), (34, .int .i64 (j2 : Int)), (35, .bool (decide ((j2 : Int) < (vx_2.1.Claims.length:Int))))] [(20002, .cells 27 [.lst false (ml eGAdvert d.Adverts)]), (600020005, .slice 64 4 (ml eGOwned out_3) 0 false), (20007, .cells 46 [.int .i64 e1.ID, .bool e1.Capable])] (by kernel_rfl) ?_
      refine A.seq ?_
      refine A.cF rfl (ltF hl2) ?_
      refine A.exit ?_
      exact Exists.intro out_3 (And.intro hm (Weak.go [] [] (by kernel_rfl)))
    rintro out_2 hm
    rw [hJ1] at hm
    refine A.R W0 [] [(0, hto (inc hx1 hb1))] [(2, .ptr 20002 0), (5, .own 600020005), (15, .lst false (ml eGRouter vx_1.Routers)), (16, .int .i64 (vx_1.Routers.length:Int)), (17, .int .i64 ((j1 + 1 : Nat) : Int))] [(20002, .cells 27 [.lst false (ml eGAdvert d.Adverts)]), (600020005, .slice 64 4 (ml eGOwned out_2) 0 false)] (by kernel_rfl) ?_
    exact Exists.intro out_2 (And.intro hm (Weak.go [] [] (by kernel_rfl)))
  rintro j1 out_1 hj1 hl1 hm
  rw [hK1] at hm
  refine A.RS W0 [] [] [(2, .ptr 20002 0), (5, .own 600020005), (15, .lst false (ml eGRouter vx_1.Routers)), (16, .int .i64 (vx_1.Routers.length:Int)), (17, .int .i64 (j1 : Int)), (18, .bool (decide ((j1 : Int) < (vx_1.Routers.length:Int))))] [(20002, .cells 27 [.lst false (ml eGAdvert d.Adverts)]), (600020005, .slice 64 4 (ml eGOwned out_1) 0 false)] (by kernel_rfl) ?_
  refine A.seq ?_
  refine A.cF rfl (ltF hl1) ?_
  refine A.exit ?_
  show acode _ _ _ _ _
  refine A.RS W0 [] [] [(4, .own 600020005)] [(600020005, .slice 64 4 (ml eGOwned out_1) 0 false)] (by kernel_rfl) ?_
  refine A.ret ?_
  obtain rfl := some_inj hm
  exact A.fin W0 [.fz [600020005]] rfl (by kernel_rfl)
end Go.Proofs.Ytjckghpceekieaa
