/- The walks of functions of the program. No condition but those that stand in each. -/
import Derived.Test.YtmcjffllahcclaaGreatDA
import Derived.Test.YtmcjffllahcclaaGreatV8
import Derived.Test.YtmcjffllahcclaaGreatVN
namespace Go.Proofs.YtmcjffllahcclaaGreat
open Go
set_option maxRecDepth 100000
set_option linter.all false
theorem m_ref08_With_ok {d : GDatabase} {a : GAdvert} {r : GDatabase} (hm : m_ref08_With d a = some r) : RO Tryz.prog 42 [] [.agg [.lst false (ml eGAdvert d.Adverts)], .agg [.int .i64 a.Router, .int .i64 a.Seq, .bool a.Capable, .lst false (ml eGReach a.Links), .lst false (ml eGClaim a.Claims)]] (.agg [.lst false (ml eGAdvert r.Adverts)]) := by
  refine enterA Tryz.func42 rfl rfl ?_
  unfold m_ref08_With at hm
  refine A.RS W0 [] [(0, .al 42002), (1, .al 42003), (2, .al 42004)] [(2, .ptr 42002 0), (3, .ptr 42003 0), (4, .ptr 42004 0)] [(42002, .cells 25 [.lst false (ml eGAdvert d.Adverts)]), (42003, .cells 29 [.int .i64 a.Router, .int .i64 a.Seq, .bool a.Capable, .lst false (ml eGReach a.Links), .lst false (ml eGClaim a.Claims)]), (42004, .cells 25 [.nils])] (by kernel_rfl) ?_
  refine A.RS W0 [] [(0, .al 42005)] [(2, .ptr 42002 0), (3, .ptr 42003 0), (4, .ptr 42004 0), (5, .ptr 42005 0)] [(42002, .cells 25 [.lst false (ml eGAdvert d.Adverts)]), (42003, .cells 29 [.int .i64 a.Router, .int .i64 a.Seq, .bool a.Capable, .lst false (ml eGReach a.Links), .lst false (ml eGClaim a.Claims)]), (42004, .cells 25 [.nils]), (42005, .cells 25 [.nils])] (by kernel_rfl) ?_
  refine A.RS W0 [] [] [(2, .ptr 42002 0), (3, .ptr 42003 0), (4, .ptr 42004 0), (5, .ptr 42005 0), (6, .bool false)] [(42002, .cells 25 [.lst false (ml eGAdvert d.Adverts)]), (42003, .cells 29 [.int .i64 a.Router, .int .i64 a.Seq, .bool a.Capable, .lst false (ml eGReach a.Links), .lst false (ml eGClaim a.Claims)]), (42004, .cells 25 [.nils]), (42005, .cells 25 [.nils])] (by kernel_rfl) ?_
  refine A.seq ?_
  refine A.RS W0 [] [] [(2, .ptr 42002 0), (3, .ptr 42003 0), (4, .ptr 42004 0), (5, .ptr 42005 0), (6, .bool false), (7, .int .i64 (0:Int))] [(42002, .cells 25 [.lst false (ml eGAdvert d.Adverts)]), (42003, .cells 29 [.int .i64 a.Router, .int .i64 a.Seq, .bool a.Capable, .lst false (ml eGReach a.Links), .lst false (ml eGClaim a.Claims)]), (42004, .cells 25 [.nils]), (42005, .cells 25 [.nils])] (by kernel_rfl) ?_
  refine A.block ?_
  refine A.bC 2 0 rfl rfl rfl fun hb1 => ?_
  obtain ⟨B1, K1, hB1, hK1, hm⟩ := forI_some hm
  refine A.lpI (l := d.Adverts) (j0 := 0) (B := B1) (K := K1) hm (fun j1 => fun sg => match sg with | (done_1, m_1) => [(2, .ptr 42002 0), (3, .ptr 42003 0), (4, .ptr 42004 0), (5, .ptr 42005 0), (6, .bool done_1), (7, .int .i64 (j1 : Int))]) (fun j1 => fun sg => match sg with | (done_1, m_1) => [(42002, .cells 25 [.lst false (ml eGAdvert d.Adverts)]), (42003, .cells 29 [.int .i64 a.Router, .int .i64 a.Seq, .bool a.Capable, .lst false (ml eGReach a.Links), .lst false (ml eGClaim a.Claims)]), (42004, .cells 25 [.nils]), (42005, .cells 25 [.own 704200500]), (704200500, .slice 29 5 (ml eGAdvert m_1) 0 false)]) ?_ ?_ ?_
  · exact Weak.go [.ac 42005 704200500 29 5 0] [] (by kernel_rfl)
  · skip
    rintro j1 e1 Z1 ⟨done_1, m_1⟩ hj1 hx1 hm
    rw [hB1] at hm
    refine A.seq ?_
    refine A.RS W0 [] [(3, hto (lnE eGAdvert d.Adverts))] [(2, .ptr 42002 0), (3, .ptr 42003 0), (4, .ptr 42004 0), (5, .ptr 42005 0), (6, .bool done_1), (7, .int .i64 (j1 : Int)), (12, .bool (decide ((j1 : Int) < (d.Adverts.length:Int))))] [(42002, .cells 25 [.lst false (ml eGAdvert d.Adverts)]), (42003, .cells 29 [.int .i64 a.Router, .int .i64 a.Seq, .bool a.Capable, .lst false (ml eGReach a.Links), .lst false (ml eGClaim a.Claims)]), (42004, .cells 25 [.nils]), (42005, .cells 25 [.own 704200500]), (704200500, .slice 29 5 (ml eGAdvert m_1) 0 false)] (by kernel_rfl) ?_
    refine A.cT rfl (ltT hx1) ?_
    refine A.skip ?_
    show acode _ _ _ _ _
    obtain ⟨J1, hJ1, hm⟩ := jn_some hm
    refine A.J (J := J1) (r := r) (fun sg => match sg with | (done_2, m_2) => [(2, .ptr 42002 0), (3, .ptr 42003 0), (4, .ptr 42004 0), (5, .ptr 42005 0), (6, .bool done_2), (7, .int .i64 (j1 : Int))]) (fun sg => match sg with | (done_2, m_2) => [(42002, .cells 25 [.lst false (ml eGAdvert d.Adverts)]), (42003, .cells 29 [.int .i64 a.Router, .int .i64 a.Seq, .bool a.Capable, .lst false (ml eGReach a.Links), .lst false (ml eGClaim a.Claims)]), (42004, .cells 25 [.nils]), (42005, .cells 25 [.own 704200500]), (704200500, .slice 29 5 (ml eGAdvert m_2) 0 false)]) ?_ ?_
    · skip
      refine A.block ?_
      obtain ⟨J2, hJ2, hm⟩ := jn_some hm
      refine A.J (J := J2) (r := r) (fun sg => match sg with | (done_3, m_3) => [(2, .ptr 42002 0), (3, .ptr 42003 0), (4, .ptr 42004 0), (5, .ptr 42005 0), (6, .bool done_3), (7, .int .i64 (j1 : Int))]) (fun sg => match sg with | (done_3, m_3) => [(42002, .cells 25 [.lst false (ml eGAdvert d.Adverts)]), (42003, .cells 29 [.int .i64 a.Router, .int .i64 a.Seq, .bool a.Capable, .lst false (ml eGReach a.Links), .lst false (ml eGClaim a.Claims)]), (42004, .cells 25 [.nils]), (42005, .cells 25 [.own 704200500]), (704200500, .slice 29 5 (ml eGAdvert m_3) 0 false)]) ?_ ?_
      · skip
        refine A.mid [(2, .ptr 42002 0), (3, .ptr 42003 0), (4, .ptr 42004 0), (5, .ptr 42005 0), (6, .bool done_1), (7, .int .i64 (j1 : Int)), (27, .bool ((!done_1) && (decide (a.Router ≤ e1.Router))))] [(42002, .cells 25 [.lst false (ml eGAdvert d.Adverts)]), (42003, .cells 29 [.int .i64 a.Router, .int .i64 a.Seq, .bool a.Capable, .lst false (ml eGReach a.Links), .lst false (ml eGClaim a.Claims)]), (42004, .cells 25 [.nils]), (42005, .cells 25 [.own 704200500]), (704200500, .slice 29 5 (ml eGAdvert m_1) 0 false)] (fun hk => ?_) ?_
        · skip
          rcases tf (!done_1) with c1 | c1
          · skip
            exact A.RS W0 [] [(2, hto (bE c1)), (6, hix (ix eGAdvert (elO_nat hx1))), (12, hto (andT (q := decide (a.Router ≤ e1.Router)) c1))] _ _ (by kernel_rfl) hk
          exact A.RS W0 [] [(2, hto (bE c1)), (12, hto (andF (q := decide (a.Router ≤ e1.Router)) c1))] _ _ (by kernel_rfl) hk
        rcases cs_some hm with ⟨c2, hm⟩ | ⟨c2, hm⟩
        · skip
          refine A.cT rfl c2 ?_
          obtain ⟨l_1, h1, hm⟩ := bnd_some hm
          refine A.RS W0 [] [(4, hap 42532 (ap eGAdvert (bytes := 72) (by decide) h1))] [(2, .ptr 42002 0), (3, .ptr 42003 0), (4, .ptr 42004 0), (5, .ptr 42005 0), (7, .int .i64 (j1 : Int))] [(42002, .cells 25 [.lst false (ml eGAdvert d.Adverts)]), (42003, .cells 29 [.int .i64 a.Router, .int .i64 a.Seq, .bool a.Capable, .lst false (ml eGReach a.Links), .lst false (ml eGClaim a.Claims)]), (42004, .cells 25 [.nils]), (42005, .cells 25 [.own 42532]), (42532, .slice 29 5 (ml eGAdvert l_1) 0 false)] (by kernel_rfl) ?_
          refine A.R W0 [] [] [(2, .ptr 42002 0), (3, .ptr 42003 0), (4, .ptr 42004 0), (5, .ptr 42005 0), (7, .int .i64 (j1 : Int)), (6, .bool true)] [(42002, .cells 25 [.lst false (ml eGAdvert d.Adverts)]), (42003, .cells 29 [.int .i64 a.Router, .int .i64 a.Seq, .bool a.Capable, .lst false (ml eGReach a.Links), .lst false (ml eGClaim a.Claims)]), (42004, .cells 25 [.nils]), (42005, .cells 25 [.own 42532]), (42532, .slice 29 5 (ml eGAdvert l_1) 0 false)] (by kernel_rfl) ?_
          exact Exists.intro (true, l_1) (And.intro hm (Weak.go [.sw 42532 704200500] [] (by kernel_rfl)))
        refine A.cF rfl c2 ?_
        refine A.skip ?_
        exact Exists.intro (done_1, m_1) (And.intro hm (Weak.go [] [] (by kernel_rfl)))
      rintro ⟨done_3, m_3⟩ hm
      rw [hJ2] at hm
      refine A.RS W0 [] [(3, hix (ix eGAdvert (elO_nat hx1)))] [(2, .ptr 42002 0), (3, .ptr 42003 0), (4, .ptr 42004 0), (5, .ptr 42005 0), (6, .bool done_3), (7, .int .i64 (j1 : Int)), (42, .bool (!decide (e1.Router = a.Router)))] [(42002, .cells 25 [.lst false (ml eGAdvert d.Adverts)]), (42003, .cells 29 [.int .i64 a.Router, .int .i64 a.Seq, .bool a.Capable, .lst false (ml eGReach a.Links), .lst false (ml eGClaim a.Claims)]), (42004, .cells 25 [.nils]), (42005, .cells 25 [.own 704200500]), (704200500, .slice 29 5 (ml eGAdvert m_3) 0 false)] (by kernel_rfl) ?_
      rcases cs_some hm with ⟨c3, hm⟩ | ⟨c3, hm⟩
      · skip
        refine A.cT rfl c3 ?_
        obtain ⟨l_2, h2, hm⟩ := bnd_some hm
        refine A.R W0 [] [(5, hix (ix eGAdvert (elO_nat hx1))), (8, hap 42551 (ap eGAdvert (bytes := 72) (by decide) h2))] [(2, .ptr 42002 0), (3, .ptr 42003 0), (4, .ptr 42004 0), (5, .ptr 42005 0), (6, .bool done_3), (7, .int .i64 (j1 : Int))] [(42002, .cells 25 [.lst false (ml eGAdvert d.Adverts)]), (42003, .cells 29 [.int .i64 a.Router, .int .i64 a.Seq, .bool a.Capable, .lst false (ml eGReach a.Links), .lst false (ml eGClaim a.Claims)]), (42004, .cells 25 [.nils]), (42005, .cells 25 [.own 42551]), (42551, .slice 29 5 (ml eGAdvert l_2) 0 false)] (by kernel_rfl) ?_
        exact Exists.intro (done_3, l_2) (And.intro hm (Weak.go [.sw 42551 704200500] [] (by kernel_rfl)))
      refine A.cF rfl c3 ?_
      refine A.skip ?_
      exact Exists.intro (done_3, m_3) (And.intro hm (Weak.go [] [] (by kernel_rfl)))
    rintro ⟨done_2, m_2⟩ hm
    rw [hJ1] at hm
    refine A.R W0 [] [(1, hto (inc hx1 hb1))] [(2, .ptr 42002 0), (3, .ptr 42003 0), (4, .ptr 42004 0), (5, .ptr 42005 0), (6, .bool done_2), (7, .int .i64 ((j1 + 1 : Nat) : Int))] [(42002, .cells 25 [.lst false (ml eGAdvert d.Adverts)]), (42003, .cells 29 [.int .i64 a.Router, .int .i64 a.Seq, .bool a.Capable, .lst false (ml eGReach a.Links), .lst false (ml eGClaim a.Claims)]), (42004, .cells 25 [.nils]), (42005, .cells 25 [.own 704200500]), (704200500, .slice 29 5 (ml eGAdvert m_2) 0 false)] (by kernel_rfl) ?_
    exact Exists.intro (done_2, m_2) (And.intro hm (Weak.go [] [] (by kernel_rfl)))
  rintro j1 ⟨done_1, m_1⟩ hj1 hl1 hm
  rw [hK1] at hm
  refine A.seq ?_
  refine A.RS W0 [] [(3, hto (lnE eGAdvert d.Adverts))] [(2, .ptr 42002 0), (3, .ptr 42003 0), (4, .ptr 42004 0), (5, .ptr 42005 0), (6, .bool done_1), (7, .int .i64 (j1 : Int)), (12, .bool (decide ((j1 : Int) < (d.Adverts.length:Int))))] [(42002, .cells 25 [.lst false (ml eGAdvert d.Adverts)]), (42003, .cells 29 [.int .i64 a.Router, .int .i64 a.Seq, .bool a.Capable, .lst false (ml eGReach a.Links), .lst false (ml eGClaim a.Claims)]), (42004, .cells 25 [.nils]), (42005, .cells 25 [.own 704200500]), (704200500, .slice 29 5 (ml eGAdvert m_1) 0 false)] (by kernel_rfl) ?_
  refine A.cF rfl (ltF hl1) ?_
  refine A.exit ?_
  show acode _ _ _ _ _
  obtain ⟨J3, hJ3, hm⟩ := jn_some hm
  refine A.J (J := J3) (r := r) (fun m_4 => [(4, .ptr 42004 0), (5, .ptr 42005 0)]) (fun m_4 => [(42004, .cells 25 [.nils]), (42005, .cells 25 [.own 704200500]), (704200500, .slice 29 5 (ml eGAdvert m_4) 0 false)]) ?_ ?_
  · skip
    refine A.RS W0 [] [] [(3, .ptr 42003 0), (4, .ptr 42004 0), (5, .ptr 42005 0), (54, .bool (!done_1))] [(42003, .cells 29 [.int .i64 a.Router, .int .i64 a.Seq, .bool a.Capable, .lst false (ml eGReach a.Links), .lst false (ml eGClaim a.Claims)]), (42004, .cells 25 [.nils]), (42005, .cells 25 [.own 704200500]), (704200500, .slice 29 5 (ml eGAdvert m_1) 0 false)] (by kernel_rfl) ?_
    rcases cs_some hm with ⟨c4, hm⟩ | ⟨c4, hm⟩
    · skip
      refine A.cT rfl c4 ?_
      obtain ⟨l_3, h3, hm⟩ := bnd_some hm
      refine A.R W0 [] [(4, hap 42559 (ap eGAdvert (bytes := 72) (by decide) h3))] [(4, .ptr 42004 0), (5, .ptr 42005 0)] [(42004, .cells 25 [.nils]), (42005, .cells 25 [.own 42559]), (42559, .slice 29 5 (ml eGAdvert l_3) 0 false)] (by kernel_rfl) ?_
      exact Exists.intro l_3 (And.intro hm (Weak.go [.sw 42559 704200500] [] (by kernel_rfl)))
    refine A.cF rfl c4 ?_
    refine A.skip ?_
    exact Exists.intro m_1 (And.intro hm (Weak.go [] [] (by kernel_rfl)))
  rintro m_4 hm
  rw [hJ3] at hm
  refine A.RS W0 [] [] [(4, .ptr 42004 0)] [(42004, .cells 25 [.own 704200500]), (704200500, .slice 29 5 (ml eGAdvert m_4) 0 false)] (by kernel_rfl) ?_
  refine A.ret ?_
  obtain rfl := some_inj hm
  exact A.fin W0 [.fz [704200500]] rfl (by kernel_rfl)
theorem m_ref08_Put_ok {d : GDatabase} {a : GAdvert} {r : GDatabase × Bool} (hm : m_ref08_Put d a = some r) : RO Tryz.prog 14 [] [.agg [.lst false (ml eGAdvert d.Adverts)], .agg [.int .i64 a.Router, .int .i64 a.Seq, .bool a.Capable, .lst false (ml eGReach a.Links), .lst false (ml eGClaim a.Claims)]] (.tup [.agg [.lst false (ml eGAdvert r.1.Adverts)], .bool r.2]) := by
  refine enterA Tryz.func14 rfl rfl ?_
  unfold m_ref08_Put at hm
  refine A.RS W0 [] [(0, .al 14002), (1, .al 14003), (2, .al 14004)] [(2, .ptr 14002 0), (3, .ptr 14003 0), (4, .ptr 14004 0)] [(14002, .cells 25 [.lst false (ml eGAdvert d.Adverts)]), (14003, .cells 29 [.int .i64 a.Router, .int .i64 a.Seq, .bool a.Capable, .lst false (ml eGReach a.Links), .lst false (ml eGClaim a.Claims)]), (14004, .cells 25 [.nils])] (by kernel_rfl) ?_
  refine A.seq ?_
  obtain ⟨J1, hJ1, hm⟩ := jn_some hm
  refine A.J (J := J1) (r := r) (fun v_1 => [(2, .ptr 14002 0), (3, .ptr 14003 0), (4, .ptr 14004 0), (15, .bool v_1)]) (fun v_1 => [(14002, .cells 25 [.lst false (ml eGAdvert d.Adverts)]), (14003, .cells 29 [.int .i64 a.Router, .int .i64 a.Seq, .bool a.Capable, .lst false (ml eGReach a.Links), .lst false (ml eGClaim a.Claims)]), (14004, .cells 25 [.nils])]) ?_ ?_
  · skip
    obtain ⟨vx_1, h1, hm⟩ := bnd_some hm
    rcases cs_some hm with ⟨c1, hm⟩ | ⟨c1, hm⟩
    · skip
      refine A.R W0 [] [(1, hro (m_ref08_Check_ok h1) ck39), (3, hto (bE c1))] [(2, .ptr 14002 0), (3, .ptr 14003 0), (4, .ptr 14004 0), (15, .bool true)] [(14002, .cells 25 [.lst false (ml eGAdvert d.Adverts)]), (14003, .cells 29 [.int .i64 a.Router, .int .i64 a.Seq, .bool a.Capable, .lst false (ml eGReach a.Links), .lst false (ml eGClaim a.Claims)]), (14004, .cells 25 [.nils])] (by kernel_rfl) ?_
      exact Exists.intro true (And.intro hm (Weak.go [] [] (by kernel_rfl)))
    obtain ⟨vx_2, h2, hm⟩ := bnd_some hm
    refine A.R W0 [] [(1, hro (m_ref08_Check_ok h1) ck39), (3, hto (bE c1)), (5, hro (m_ref07_Valid_ok h2) ck40)] [(2, .ptr 14002 0), (3, .ptr 14003 0), (4, .ptr 14004 0), (15, .bool (!vx_2))] [(14002, .cells 25 [.lst false (ml eGAdvert d.Adverts)]), (14003, .cells 29 [.int .i64 a.Router, .int .i64 a.Seq, .bool a.Capable, .lst false (ml eGReach a.Links), .lst false (ml eGClaim a.Claims)]), (14004, .cells 25 [.nils])] (by kernel_rfl) ?_
    exact Exists.intro (!vx_2) (And.intro hm (Weak.go [] [] (by kernel_rfl)))
  rintro v_1 hm
  rw [hJ1] at hm
  rcases cs_some hm with ⟨c2, hm⟩ | ⟨c2, hm⟩
  · skip
    refine A.cT rfl c2 ?_
    refine A.RS W0 [] [] [(4, .ptr 14004 0), (5, .bool false)] [(14004, .cells 25 [.lst false (ml eGAdvert d.Adverts)])] (by kernel_rfl) ?_
    refine A.ret ?_
    obtain rfl := some_inj hm
    exact A.fin W0 [] rfl (by kernel_rfl)
  refine A.cF rfl c2 ?_
  refine A.skip ?_
  show acode _ _ _ _ _
  obtain ⟨vx_3, h3, hm⟩ := bnd_some hm
  refine A.RS W0 [] [(3, hro (m_ref08_Find_ok h3) ck41), (7, .al 14006)] [(2, .ptr 14002 0), (3, .ptr 14003 0), (4, .ptr 14004 0), (6, .ptr 14006 0), (7, .bool vx_3.2)] [(14002, .cells 25 [.lst false (ml eGAdvert d.Adverts)]), (14003, .cells 29 [.int .i64 a.Router, .int .i64 a.Seq, .bool a.Capable, .lst false (ml eGReach a.Links), .lst false (ml eGClaim a.Claims)]), (14004, .cells 25 [.nils]), (14006, .cells 29 [.int .i64 vx_3.1.Router, .int .i64 vx_3.1.Seq, .bool vx_3.1.Capable, .lst false (ml eGReach vx_3.1.Links), .lst false (ml eGClaim vx_3.1.Claims)])] (by kernel_rfl) ?_
  refine A.seq ?_
  obtain ⟨J2, hJ2, hm⟩ := jn_some hm
  refine A.J (J := J2) (r := r) (fun v_2 => [(2, .ptr 14002 0), (3, .ptr 14003 0), (4, .ptr 14004 0), (30, .bool v_2)]) (fun v_2 => [(14002, .cells 25 [.lst false (ml eGAdvert d.Adverts)]), (14003, .cells 29 [.int .i64 a.Router, .int .i64 a.Seq, .bool a.Capable, .lst false (ml eGReach a.Links), .lst false (ml eGClaim a.Claims)]), (14004, .cells 25 [.nils])]) ?_ ?_
  · skip
    rcases cs_some hm with ⟨c3, hm⟩ | ⟨c3, hm⟩
    · skip
      obtain ⟨vx_4, h4, hm⟩ := bnd_some hm
      refine A.R W0 [] [(1, hto (bE c3)), (4, hro (m_ref07_Newer_ok h4) ck29)] [(2, .ptr 14002 0), (3, .ptr 14003 0), (4, .ptr 14004 0), (30, .bool (!vx_4))] [(14002, .cells 25 [.lst false (ml eGAdvert d.Adverts)]), (14003, .cells 29 [.int .i64 a.Router, .int .i64 a.Seq, .bool a.Capable, .lst false (ml eGReach a.Links), .lst false (ml eGClaim a.Claims)]), (14004, .cells 25 [.nils])] (by kernel_rfl) ?_
      exact Exists.intro (!vx_4) (And.intro hm (Weak.go [] [] (by kernel_rfl)))
    refine A.R W0 [] [(1, hto (bE c3))] [(2, .ptr 14002 0), (3, .ptr 14003 0), (4, .ptr 14004 0), (30, .bool false)] [(14002, .cells 25 [.lst false (ml eGAdvert d.Adverts)]), (14003, .cells 29 [.int .i64 a.Router, .int .i64 a.Seq, .bool a.Capable, .lst false (ml eGReach a.Links), .lst false (ml eGClaim a.Claims)]), (14004, .cells 25 [.nils])] (by kernel_rfl) ?_
    exact Exists.intro false (And.intro hm (Weak.go [] [] (by kernel_rfl)))
  rintro v_2 hm
  rw [hJ2] at hm
  rcases cs_some hm with ⟨c4, hm⟩ | ⟨c4, hm⟩
  · skip
    refine A.cT rfl c4 ?_
    refine A.RS W0 [] [] [(4, .ptr 14004 0), (5, .bool false)] [(14004, .cells 25 [.lst false (ml eGAdvert d.Adverts)])] (by kernel_rfl) ?_
    refine A.ret ?_
    obtain rfl := some_inj hm
    exact A.fin W0 [] rfl (by kernel_rfl)
  refine A.cF rfl c4 ?_
  refine A.skip ?_
  show acode _ _ _ _ _
  obtain ⟨vx_5, h5, hm⟩ := bnd_some hm
  refine A.RS W0 [] [(2, hro (m_ref08_With_ok h5) ck42)] [(4, .ptr 14004 0), (5, .bool true)] [(14004, .cells 25 [.lst false (ml eGAdvert vx_5.Adverts)])] (by kernel_rfl) ?_
  refine A.ret ?_
  obtain rfl := some_inj hm
  exact A.fin W0 [] rfl (by kernel_rfl)
theorem m_ref08_Merge_ok {a : GDatabase} {b : GDatabase} {r : GDatabase × Int} (hm : m_ref08_Merge a b = some r) : RO Tryz.prog 27 [] [.agg [.lst false (ml eGAdvert a.Adverts)], .agg [.lst false (ml eGAdvert b.Adverts)]] (.tup [.agg [.lst false (ml eGAdvert r.1.Adverts)], .int .i64 r.2]) := by
  refine enterA Tryz.func27 rfl rfl ?_
  unfold m_ref08_Merge at hm
  refine A.RS W0 [] [(0, .al 27002), (1, .al 27003), (2, .al 27004)] [(2, .ptr 27002 0), (3, .ptr 27003 0), (4, .ptr 27004 0)] [(27002, .cells 25 [.lst false (ml eGAdvert a.Adverts)]), (27003, .cells 25 [.lst false (ml eGAdvert b.Adverts)]), (27004, .cells 25 [.nils])] (by kernel_rfl) ?_
  refine A.seq ?_
  obtain ⟨J1, hJ1, hm⟩ := jn_some hm
  refine A.J (J := J1) (r := r) (fun v_1 => [(2, .ptr 27002 0), (3, .ptr 27003 0), (4, .ptr 27004 0), (14, .bool v_1)]) (fun v_1 => [(27002, .cells 25 [.lst false (ml eGAdvert a.Adverts)]), (27003, .cells 25 [.lst false (ml eGAdvert b.Adverts)]), (27004, .cells 25 [.nils])]) ?_ ?_
  · skip
    obtain ⟨vx_1, h1, hm⟩ := bnd_some hm
    rcases cs_some hm with ⟨c1, hm⟩ | ⟨c1, hm⟩
    · skip
      refine A.R W0 [] [(1, hro (m_ref08_Check_ok h1) ck39), (3, hto (bE c1))] [(2, .ptr 27002 0), (3, .ptr 27003 0), (4, .ptr 27004 0), (14, .bool true)] [(27002, .cells 25 [.lst false (ml eGAdvert a.Adverts)]), (27003, .cells 25 [.lst false (ml eGAdvert b.Adverts)]), (27004, .cells 25 [.nils])] (by kernel_rfl) ?_
      exact Exists.intro true (And.intro hm (Weak.go [] [] (by kernel_rfl)))
    obtain ⟨vx_2, h2, hm⟩ := bnd_some hm
    refine A.R W0 [] [(1, hro (m_ref08_Check_ok h1) ck39), (3, hto (bE c1)), (5, hro (m_ref08_Check_ok h2) ck39)] [(2, .ptr 27002 0), (3, .ptr 27003 0), (4, .ptr 27004 0), (14, .bool (!decide (vx_2 = (0:Int))))] [(27002, .cells 25 [.lst false (ml eGAdvert a.Adverts)]), (27003, .cells 25 [.lst false (ml eGAdvert b.Adverts)]), (27004, .cells 25 [.nils])] (by kernel_rfl) ?_
    exact Exists.intro (!decide (vx_2 = (0:Int))) (And.intro hm (Weak.go [] [] (by kernel_rfl)))
  rintro v_1 hm
  rw [hJ1] at hm
  rcases cs_some hm with ⟨c2, hm⟩ | ⟨c2, hm⟩
  · skip
    refine A.cT rfl c2 ?_
    refine A.RS W0 [] [] [(4, .ptr 27004 0), (5, .int .i64 (1:Int))] [(27004, .cells 25 [.nils])] (by kernel_rfl) ?_
    refine A.ret ?_
    obtain rfl := some_inj hm
    exact A.fin W0 [] rfl (by kernel_rfl)
  refine A.cF rfl c2 ?_
  refine A.skip ?_
  show acode _ _ _ _ _
  refine A.seq ?_
  refine A.RS W0 [] [] [(2, .ptr 27002 0), (3, .ptr 27003 0), (4, .ptr 27004 0), (6, .int .i64 (0:Int))] [(27002, .cells 25 [.lst false (ml eGAdvert a.Adverts)]), (27003, .cells 25 [.lst false (ml eGAdvert b.Adverts)]), (27004, .cells 25 [.nils])] (by kernel_rfl) ?_
  refine A.block ?_
  refine A.bC 3 0 rfl rfl rfl fun hb1 => ?_
  obtain ⟨B1, K1, hB1, hK1, hm⟩ := forI_some hm
  refine A.lpI (l := b.Adverts) (j0 := 0) (B := B1) (K := K1) hm (fun j1 => fun m_1 => [(2, .ptr 27002 0), (3, .ptr 27003 0), (4, .ptr 27004 0), (6, .int .i64 (j1 : Int))]) (fun j1 => fun m_1 => [(27002, .cells 25 [.lst false (ml eGAdvert m_1)]), (27003, .cells 25 [.lst false (ml eGAdvert b.Adverts)]), (27004, .cells 25 [.nils])]) ?_ ?_ ?_
  · exact Weak.go [] [] (by kernel_rfl)
  · skip
    rintro j1 e1 Z1 m_1 hj1 hx1 hm
    rw [hB1] at hm
    refine A.seq ?_
    refine A.RS W0 [] [(3, hto (lnE eGAdvert b.Adverts))] [(2, .ptr 27002 0), (3, .ptr 27003 0), (4, .ptr 27004 0), (6, .int .i64 (j1 : Int)), (20, .bool (decide ((j1 : Int) < (b.Adverts.length:Int))))] [(27002, .cells 25 [.lst false (ml eGAdvert m_1)]), (27003, .cells 25 [.lst false (ml eGAdvert b.Adverts)]), (27004, .cells 25 [.nils])] (by kernel_rfl) ?_
    refine A.cT rfl (ltT hx1) ?_
    refine A.skip ?_
    show acode _ _ _ _ _
    refine A.seq ?_
    refine A.block ?_
    obtain ⟨vx_3, h3, hm⟩ := bnd_some hm
    refine A.R W0 [] [(4, hix (ix eGAdvert (elO_nat hx1))), (6, hro (m_ref08_Put_ok h3) ck14)] [(2, .ptr 27002 0), (3, .ptr 27003 0), (4, .ptr 27004 0), (6, .int .i64 (j1 : Int))] [(27002, .cells 25 [.lst false (ml eGAdvert vx_3.1.Adverts)]), (27003, .cells 25 [.lst false (ml eGAdvert b.Adverts)]), (27004, .cells 25 [.nils])] (by kernel_rfl) ?_
    show acode _ _ _ _ _
    refine A.R W0 [] [(1, hto (inc hx1 hb1))] [(2, .ptr 27002 0), (3, .ptr 27003 0), (4, .ptr 27004 0), (6, .int .i64 ((j1 + 1 : Nat) : Int))] [(27002, .cells 25 [.lst false (ml eGAdvert vx_3.1.Adverts)]), (27003, .cells 25 [.lst false (ml eGAdvert b.Adverts)]), (27004, .cells 25 [.nils])] (by kernel_rfl) ?_
    exact Exists.intro vx_3.1.Adverts (And.intro hm (Weak.go [] [] (by kernel_rfl)))
  rintro j1 m_1 hj1 hl1 hm
  rw [hK1] at hm
  refine A.seq ?_
  refine A.RS W0 [] [(3, hto (lnE eGAdvert b.Adverts))] [(2, .ptr 27002 0), (3, .ptr 27003 0), (4, .ptr 27004 0), (6, .int .i64 (j1 : Int)), (20, .bool (decide ((j1 : Int) < (b.Adverts.length:Int))))] [(27002, .cells 25 [.lst false (ml eGAdvert m_1)]), (27003, .cells 25 [.lst false (ml eGAdvert b.Adverts)]), (27004, .cells 25 [.nils])] (by kernel_rfl) ?_
  refine A.cF rfl (ltF hl1) ?_
  refine A.exit ?_
  show acode _ _ _ _ _
  refine A.RS W0 [] [] [(4, .ptr 27004 0), (5, .int .i64 (0:Int))] [(27004, .cells 25 [.lst false (ml eGAdvert m_1)])] (by kernel_rfl) ?_
  refine A.ret ?_
  obtain rfl := some_inj hm
  exact A.fin W0 [] rfl (by kernel_rfl)
end Go.Proofs.YtmcjffllahcclaaGreat
