/- The walks of functions of the program. No condition but those that stand in each. -/
import Derived.Test.YtmcjffllahcclaaGreatDL7
import Derived.Test.YtmcjffllahcclaaGreatVX
import Derived.Test.YtmcjffllahcclaaGreatVT
import Derived.Test.YtmcjffllahcclaaGreatVL
import Derived.Test.YtmcjffllahcclaaGreatVU
namespace Go.Proofs.YtmcjffllahcclaaGreat
open Go
set_option maxRecDepth 100000
set_option linter.all false
theorem m_law08_DatabasePuts_ok {t : List Int} {raw : GDatabase} {a : GAdvert} {r : Bool} (hm : m_law08_DatabasePuts t raw a = some r) : RO Tryz.prog 3 [] [.lst false (ml eInt t), .agg [.lst false (ml eGAdvert raw.Adverts)], .agg [.int .i64 a.Router, .int .i64 a.Seq, .bool a.Capable, .lst false (ml eGReach a.Links), .lst false (ml eGClaim a.Claims)]] (.bool r) := by
  refine enterA Tryz.func3 rfl rfl ?_
  unfold m_law08_DatabasePuts at hm
  refine A.RS W0 [] [(0, .al 3004), (1, .al 3005)] [(0, .lst false (ml eInt t)), (4, .ptr 3004 0), (5, .ptr 3005 0)] [(3004, .cells 25 [.lst false (ml eGAdvert raw.Adverts)]), (3005, .cells 29 [.int .i64 a.Router, .int .i64 a.Seq, .bool a.Capable, .lst false (ml eGReach a.Links), .lst false (ml eGClaim a.Claims)])] (by kernel_rfl) ?_
  obtain ⟨vx_1, h1, hm⟩ := bnd_some hm
  refine A.RS W0 [] [(1, hdc [900000071] (m_mk_New_ok h1) ck7)] [(4, .ptr 3004 0), (5, .ptr 3005 0), (7, .ptr 900000071 0)] [(3004, .cells 25 [.lst false (ml eGAdvert raw.Adverts)]), (3005, .cells 29 [.int .i64 a.Router, .int .i64 a.Seq, .bool a.Capable, .lst false (ml eGReach a.Links), .lst false (ml eGClaim a.Claims)]), (900000071, .cells 71 [.lst false (ml eInt vx_1.L), .int .i64 vx_1.At])] (by kernel_rfl) ?_
  obtain ⟨vx_2, h2, hm⟩ := bnd_some hm
  refine A.RS W0 [] [(1, hdc [] (m_mk_Tape_Database_ok h2) ck8), (2, .al 3008)] [(4, .ptr 3004 0), (5, .ptr 3005 0), (7, .ptr 900000071 0), (8, .ptr 3008 0)] [(3004, .cells 25 [.lst false (ml eGAdvert raw.Adverts)]), (3005, .cells 29 [.int .i64 a.Router, .int .i64 a.Seq, .bool a.Capable, .lst false (ml eGReach a.Links), .lst false (ml eGClaim a.Claims)]), (900000071, .cells 71 [.lst false (ml eInt vx_2.2.L), .int .i64 vx_2.2.At]), (3008, .cells 25 [.lst false (ml eGAdvert vx_2.1.Adverts)])] (by kernel_rfl) ?_
  obtain ⟨vx_3, h3, hm⟩ := bnd_some hm
  obtain ⟨vx_4, h4, hm⟩ := bnd_some hm
  refine A.RS W0 [] [(2, hdc [] (m_mk_Tape_Range_ok h3) ck10), (3, hdc [] (m_mk_Tape_Advert_ok h4) ck9), (4, .al 3009)] [(4, .ptr 3004 0), (5, .ptr 3005 0), (7, .ptr 900000071 0), (8, .ptr 3008 0), (9, .ptr 3009 0)] [(3004, .cells 25 [.lst false (ml eGAdvert raw.Adverts)]), (3005, .cells 29 [.int .i64 a.Router, .int .i64 a.Seq, .bool a.Capable, .lst false (ml eGReach a.Links), .lst false (ml eGClaim a.Claims)]), (900000071, .cells 71 [.lst false (ml eInt vx_4.2.L), .int .i64 vx_4.2.At]), (3008, .cells 25 [.lst false (ml eGAdvert vx_2.1.Adverts)]), (3009, .cells 29 [.int .i64 vx_4.1.Router, .int .i64 vx_4.1.Seq, .bool vx_4.1.Capable, .lst false (ml eGReach vx_4.1.Links), .lst false (ml eGClaim vx_4.1.Claims)])] (by kernel_rfl) ?_
  obtain ⟨J1, hJ1, hm⟩ := jn_some hm
  refine A.J (J := J1) (r := r) (fun sg => match sg with | (m_1, m_2, m_3, m_4, m_5) => [(4, .ptr 3004 0), (5, .ptr 3005 0), (8, .ptr 3008 0), (9, .ptr 3009 0)]) (fun sg => match sg with | (m_1, m_2, m_3, m_4, m_5) => [(3004, .cells 25 [.lst false (ml eGAdvert raw.Adverts)]), (3005, .cells 29 [.int .i64 a.Router, .int .i64 a.Seq, .bool a.Capable, .lst false (ml eGReach a.Links), .lst false (ml eGClaim a.Claims)]), (3008, .cells 25 [.lst false (ml eGAdvert vx_2.1.Adverts)]), (3009, .cells 29 [.int .i64 m_1, .int .i64 m_2, .bool m_3, .lst false (ml eGReach m_4), .lst false (ml eGClaim m_5)])]) ?_ ?_
  · skip
    obtain ⟨J2, hJ2, hm⟩ := jn_some hm
    refine A.J (J := J2) (r := r) (fun sg => match sg with | (v_1, m_6, m_7) => [(4, .ptr 3004 0), (5, .ptr 3005 0), (7, .ptr 900000071 0), (8, .ptr 3008 0), (9, .ptr 3009 0), (29, .bool v_1)]) (fun sg => match sg with | (v_1, m_6, m_7) => [(3004, .cells 25 [.lst false (ml eGAdvert raw.Adverts)]), (3005, .cells 29 [.int .i64 a.Router, .int .i64 a.Seq, .bool a.Capable, .lst false (ml eGReach a.Links), .lst false (ml eGClaim a.Claims)]), (900000071, .cells 71 [.lst false (ml eInt m_6), .int .i64 m_7]), (3008, .cells 25 [.lst false (ml eGAdvert vx_2.1.Adverts)]), (3009, .cells 29 [.int .i64 vx_4.1.Router, .int .i64 vx_4.1.Seq, .bool vx_4.1.Capable, .lst false (ml eGReach vx_4.1.Links), .lst false (ml eGClaim vx_4.1.Claims)])]) ?_ ?_
    · skip
      rcases cs_some hm with ⟨c1, hm⟩ | ⟨c1, hm⟩
      · skip
        obtain ⟨vx_5, h5, hm⟩ := bnd_some hm
        refine A.R W0 [] [(2, hto (lnE eGAdvert vx_2.1.Adverts)), (4, hto (bE c1)), (6, hdc [] (m_mk_Tape_One_ok h5) ck11)] [(4, .ptr 3004 0), (5, .ptr 3005 0), (7, .ptr 900000071 0), (8, .ptr 3008 0), (9, .ptr 3009 0), (29, .bool vx_5.1)] [(3004, .cells 25 [.lst false (ml eGAdvert raw.Adverts)]), (3005, .cells 29 [.int .i64 a.Router, .int .i64 a.Seq, .bool a.Capable, .lst false (ml eGReach a.Links), .lst false (ml eGClaim a.Claims)]), (900000071, .cells 71 [.lst false (ml eInt vx_5.2.L), .int .i64 vx_5.2.At]), (3008, .cells 25 [.lst false (ml eGAdvert vx_2.1.Adverts)]), (3009, .cells 29 [.int .i64 vx_4.1.Router, .int .i64 vx_4.1.Seq, .bool vx_4.1.Capable, .lst false (ml eGReach vx_4.1.Links), .lst false (ml eGClaim vx_4.1.Claims)])] (by kernel_rfl) ?_
        exact Exists.intro (vx_5.1, vx_5.2.L, vx_5.2.At) (And.intro hm (Weak.go [] [] (by kernel_rfl)))
      refine A.R W0 [] [(2, hto (lnE eGAdvert vx_2.1.Adverts)), (4, hto (bE c1))] [(4, .ptr 3004 0), (5, .ptr 3005 0), (7, .ptr 900000071 0), (8, .ptr 3008 0), (9, .ptr 3009 0), (29, .bool false)] [(3004, .cells 25 [.lst false (ml eGAdvert raw.Adverts)]), (3005, .cells 29 [.int .i64 a.Router, .int .i64 a.Seq, .bool a.Capable, .lst false (ml eGReach a.Links), .lst false (ml eGClaim a.Claims)]), (900000071, .cells 71 [.lst false (ml eInt vx_4.2.L), .int .i64 vx_4.2.At]), (3008, .cells 25 [.lst false (ml eGAdvert vx_2.1.Adverts)]), (3009, .cells 29 [.int .i64 vx_4.1.Router, .int .i64 vx_4.1.Seq, .bool vx_4.1.Capable, .lst false (ml eGReach vx_4.1.Links), .lst false (ml eGClaim vx_4.1.Claims)])] (by kernel_rfl) ?_
      exact Exists.intro (false, vx_4.2.L, vx_4.2.At) (And.intro hm (Weak.go [] [] (by kernel_rfl)))
    rintro ⟨v_1, m_6, m_7⟩ hm
    rw [hJ2] at hm
    rcases cs_some hm with ⟨c2, hm⟩ | ⟨c2, hm⟩
    · skip
      refine A.cT rfl c2 ?_
      obtain ⟨vx_6, h6, hm⟩ := bnd_some hm
      obtain ⟨e_1, h7, hm⟩ := bnd_some hm
      refine A.R W0 [] [(5, hto (lnE eGAdvert vx_2.1.Adverts)), (6, hdc [] (m_mk_Tape_Next_ok h6) ck12), (7, hix (ix eGAdvert h7))] [(4, .ptr 3004 0), (5, .ptr 3005 0), (8, .ptr 3008 0), (9, .ptr 3009 0)] [(3004, .cells 25 [.lst false (ml eGAdvert raw.Adverts)]), (3005, .cells 29 [.int .i64 a.Router, .int .i64 a.Seq, .bool a.Capable, .lst false (ml eGReach a.Links), .lst false (ml eGClaim a.Claims)]), (3008, .cells 25 [.lst false (ml eGAdvert vx_2.1.Adverts)]), (3009, .cells 29 [.int .i64 e_1.Router, .int .i64 e_1.Seq, .bool e_1.Capable, .lst false (ml eGReach e_1.Links), .lst false (ml eGClaim e_1.Claims)])] (by kernel_rfl) ?_
      exact Exists.intro (e_1.Router, e_1.Seq, e_1.Capable, e_1.Links, e_1.Claims) (And.intro hm (Weak.go [] [] (by kernel_rfl)))
    refine A.cF rfl c2 ?_
    refine A.skip ?_
    exact Exists.intro (vx_4.1.Router, vx_4.1.Seq, vx_4.1.Capable, vx_4.1.Links, vx_4.1.Claims) (And.intro hm (Weak.go [] [] (by kernel_rfl)))
  rintro ⟨m_1, m_2, m_3, m_4, m_5⟩ hm
  rw [hJ1] at hm
  obtain ⟨vx_7, h8, hm⟩ := bnd_some hm
  refine A.RS W0 [] [(2, hro (m_database_Put_ok h8) ck13), (6, .al 3010)] [(4, .ptr 3004 0), (5, .ptr 3005 0), (8, .ptr 3008 0), (9, .ptr 3009 0), (10, .ptr 3010 0), (11, .bool vx_7.2)] [(3004, .cells 25 [.lst false (ml eGAdvert raw.Adverts)]), (3005, .cells 29 [.int .i64 a.Router, .int .i64 a.Seq, .bool a.Capable, .lst false (ml eGReach a.Links), .lst false (ml eGClaim a.Claims)]), (3008, .cells 25 [.lst false (ml eGAdvert vx_2.1.Adverts)]), (3009, .cells 29 [.int .i64 m_1, .int .i64 m_2, .bool m_3, .lst false (ml eGReach m_4), .lst false (ml eGClaim m_5)]), (3010, .cells 25 [.lst false (ml eGAdvert vx_7.1.Adverts)])] (by kernel_rfl) ?_
  obtain ⟨vx_8, h9, hm⟩ := bnd_some hm
  refine A.RS W0 [] [(2, hro (m_ref08_Put_ok h9) ck14), (6, .al 3012)] [(4, .ptr 3004 0), (5, .ptr 3005 0), (10, .ptr 3010 0), (11, .bool vx_7.2), (12, .ptr 3012 0), (13, .bool vx_8.2)] [(3004, .cells 25 [.lst false (ml eGAdvert raw.Adverts)]), (3005, .cells 29 [.int .i64 a.Router, .int .i64 a.Seq, .bool a.Capable, .lst false (ml eGReach a.Links), .lst false (ml eGClaim a.Claims)]), (3010, .cells 25 [.lst false (ml eGAdvert vx_7.1.Adverts)]), (3012, .cells 25 [.lst false (ml eGAdvert vx_8.1.Adverts)])] (by kernel_rfl) ?_
  refine A.seq ?_
  obtain ⟨J3, hJ3, hm⟩ := jn_some hm
  refine A.J (J := J3) (r := r) (fun v_2 => [(4, .ptr 3004 0), (5, .ptr 3005 0), (10, .ptr 3010 0), (12, .ptr 3012 0), (59, .bool v_2)]) (fun v_2 => [(3004, .cells 25 [.lst false (ml eGAdvert raw.Adverts)]), (3005, .cells 29 [.int .i64 a.Router, .int .i64 a.Seq, .bool a.Capable, .lst false (ml eGReach a.Links), .lst false (ml eGClaim a.Claims)]), (3010, .cells 25 [.lst false (ml eGAdvert vx_7.1.Adverts)]), (3012, .cells 25 [.lst false (ml eGAdvert vx_8.1.Adverts)])]) ?_ ?_
  · skip
    obtain ⟨vx_9, h10, hm⟩ := bnd_some hm
    rcases cs_some hm with ⟨c3, hm⟩ | ⟨c3, hm⟩
    · skip
      refine A.R W0 [] [(2, hro (m_ref08_Same_ok h10) ck15), (4, hto (bE c3))] [(4, .ptr 3004 0), (5, .ptr 3005 0), (10, .ptr 3010 0), (12, .ptr 3012 0), (59, .bool true)] [(3004, .cells 25 [.lst false (ml eGAdvert raw.Adverts)]), (3005, .cells 29 [.int .i64 a.Router, .int .i64 a.Seq, .bool a.Capable, .lst false (ml eGReach a.Links), .lst false (ml eGClaim a.Claims)]), (3010, .cells 25 [.lst false (ml eGAdvert vx_7.1.Adverts)]), (3012, .cells 25 [.lst false (ml eGAdvert vx_8.1.Adverts)])] (by kernel_rfl) ?_
      exact Exists.intro true (And.intro hm (Weak.go [] [] (by kernel_rfl)))
    refine A.R W0 [] [(2, hro (m_ref08_Same_ok h10) ck15), (4, hto (bE c3))] [(4, .ptr 3004 0), (5, .ptr 3005 0), (10, .ptr 3010 0), (12, .ptr 3012 0), (59, .bool (!(vx_7.2 == vx_8.2)))] [(3004, .cells 25 [.lst false (ml eGAdvert raw.Adverts)]), (3005, .cells 29 [.int .i64 a.Router, .int .i64 a.Seq, .bool a.Capable, .lst false (ml eGReach a.Links), .lst false (ml eGClaim a.Claims)]), (3010, .cells 25 [.lst false (ml eGAdvert vx_7.1.Adverts)]), (3012, .cells 25 [.lst false (ml eGAdvert vx_8.1.Adverts)])] (by kernel_rfl) ?_
    exact Exists.intro (!(vx_7.2 == vx_8.2)) (And.intro hm (Weak.go [] [] (by kernel_rfl)))
  rintro v_2 hm
  rw [hJ3] at hm
  rcases cs_some hm with ⟨c4, hm⟩ | ⟨c4, hm⟩
  · skip
    refine A.cT rfl c4 ?_
    refine A.RS W0 [] [] [(6, .bool false)] [] (by kernel_rfl) ?_
    refine A.ret ?_
    obtain rfl := some_inj hm
    exact A.fin W0 [] rfl (by kernel_rfl)
  refine A.cF rfl c4 ?_
  refine A.skip ?_
  show acode _ _ _ _ _
  refine A.seq ?_
  obtain ⟨J4, hJ4, hm⟩ := jn_some hm
  refine A.J (J := J4) (r := r) (fun v_3 => [(4, .ptr 3004 0), (5, .ptr 3005 0), (10, .ptr 3010 0), (12, .ptr 3012 0), (73, .bool v_3)]) (fun v_3 => [(3004, .cells 25 [.lst false (ml eGAdvert raw.Adverts)]), (3005, .cells 29 [.int .i64 a.Router, .int .i64 a.Seq, .bool a.Capable, .lst false (ml eGReach a.Links), .lst false (ml eGClaim a.Claims)]), (3010, .cells 25 [.lst false (ml eGAdvert vx_7.1.Adverts)]), (3012, .cells 25 [.lst false (ml eGAdvert vx_8.1.Adverts)])]) ?_ ?_
  · skip
    obtain ⟨vx_10, h11, hm⟩ := bnd_some hm
    rcases cs_some hm with ⟨c5, hm⟩ | ⟨c5, hm⟩
    · skip
      refine A.R W0 [] [(1, hro (m_law08_big_ok h11) ck16), (2, hto (bE c5))] [(4, .ptr 3004 0), (5, .ptr 3005 0), (10, .ptr 3010 0), (12, .ptr 3012 0), (73, .bool true)] [(3004, .cells 25 [.lst false (ml eGAdvert raw.Adverts)]), (3005, .cells 29 [.int .i64 a.Router, .int .i64 a.Seq, .bool a.Capable, .lst false (ml eGReach a.Links), .lst false (ml eGClaim a.Claims)]), (3010, .cells 25 [.lst false (ml eGAdvert vx_7.1.Adverts)]), (3012, .cells 25 [.lst false (ml eGAdvert vx_8.1.Adverts)])] (by kernel_rfl) ?_
      exact Exists.intro true (And.intro hm (Weak.go [] [] (by kernel_rfl)))
    rcases cs_some hm with ⟨c6, hm⟩ | ⟨c6, hm⟩
    · skip
      refine A.R W0 [] [(1, hro (m_law08_big_ok h11) ck16), (2, hto (bE c5)), (5, hto (lnE eGReach a.Links)), (8, hto (bE c6))] [(4, .ptr 3004 0), (5, .ptr 3005 0), (10, .ptr 3010 0), (12, .ptr 3012 0), (73, .bool true)] [(3004, .cells 25 [.lst false (ml eGAdvert raw.Adverts)]), (3005, .cells 29 [.int .i64 a.Router, .int .i64 a.Seq, .bool a.Capable, .lst false (ml eGReach a.Links), .lst false (ml eGClaim a.Claims)]), (3010, .cells 25 [.lst false (ml eGAdvert vx_7.1.Adverts)]), (3012, .cells 25 [.lst false (ml eGAdvert vx_8.1.Adverts)])] (by kernel_rfl) ?_
      exact Exists.intro true (And.intro hm (Weak.go [] [] (by kernel_rfl)))
    refine A.R W0 [] [(1, hro (m_law08_big_ok h11) ck16), (2, hto (bE c5)), (5, hto (lnE eGReach a.Links)), (8, hto (bE c6)), (11, hto (lnE eGClaim a.Claims))] [(4, .ptr 3004 0), (5, .ptr 3005 0), (10, .ptr 3010 0), (12, .ptr 3012 0), (73, .bool (decide ((60:Int) < (a.Claims.length:Int))))] [(3004, .cells 25 [.lst false (ml eGAdvert raw.Adverts)]), (3005, .cells 29 [.int .i64 a.Router, .int .i64 a.Seq, .bool a.Capable, .lst false (ml eGReach a.Links), .lst false (ml eGClaim a.Claims)]), (3010, .cells 25 [.lst false (ml eGAdvert vx_7.1.Adverts)]), (3012, .cells 25 [.lst false (ml eGAdvert vx_8.1.Adverts)])] (by kernel_rfl) ?_
    exact Exists.intro (decide ((60:Int) < (a.Claims.length:Int))) (And.intro hm (Weak.go [] [] (by kernel_rfl)))
  rintro v_3 hm
  rw [hJ4] at hm
  rcases cs_some hm with ⟨c7, hm⟩ | ⟨c7, hm⟩
  · skip
    refine A.cT rfl c7 ?_
    obtain ⟨vx_11, h12, hm⟩ := bnd_some hm
    refine A.RS W0 [] [(0, hro (m_law08_awake_ok h12) ck17)] [(6, .bool vx_11)] [] (by kernel_rfl) ?_
    refine A.ret ?_
    obtain rfl := some_inj hm
    exact A.fin W0 [] rfl (by kernel_rfl)
  refine A.cF rfl c7 ?_
  refine A.skip ?_
  show acode _ _ _ _ _
  obtain ⟨vx_12, h13, hm⟩ := bnd_some hm
  refine A.RS W0 [] [(2, hro (m_database_Put_ok h13) ck13)] [(4, .ptr 3004 0), (5, .ptr 3005 0), (10, .ptr 3010 0), (12, .ptr 3012 0), (11, .bool vx_12.2)] [(3004, .cells 25 [.lst false (ml eGAdvert raw.Adverts)]), (3005, .cells 29 [.int .i64 a.Router, .int .i64 a.Seq, .bool a.Capable, .lst false (ml eGReach a.Links), .lst false (ml eGClaim a.Claims)]), (3010, .cells 25 [.lst false (ml eGAdvert vx_12.1.Adverts)]), (3012, .cells 25 [.lst false (ml eGAdvert vx_8.1.Adverts)])] (by kernel_rfl) ?_
  obtain ⟨vx_13, h14, hm⟩ := bnd_some hm
  refine A.RS W0 [] [(2, hro (m_ref08_Put_ok h14) ck14)] [(10, .ptr 3010 0), (12, .ptr 3012 0), (11, .bool vx_12.2), (13, .bool vx_13.2)] [(3010, .cells 25 [.lst false (ml eGAdvert vx_12.1.Adverts)]), (3012, .cells 25 [.lst false (ml eGAdvert vx_13.1.Adverts)])] (by kernel_rfl) ?_
  obtain ⟨vx_14, h15, hm⟩ := bnd_some hm
  rcases cs_some hm with ⟨c8, hm⟩ | ⟨c8, hm⟩
  · skip
    rcases cs_some hm with ⟨c9, hm⟩ | ⟨c9, hm⟩
    · skip
      obtain ⟨vx_15, h16, hm⟩ := bnd_some hm
      refine A.RS W0 [] [(2, hro (m_ref08_Same_ok h15) ck15), (3, hto (bE c8)), (8, hto (bE c9)), (9, hro (m_law08_awake_ok h16) ck17)] [(6, .bool vx_15)] [] (by kernel_rfl) ?_
      refine A.ret ?_
      obtain rfl := some_inj hm
      exact A.fin W0 [] rfl (by kernel_rfl)
    refine A.RS W0 [] [(2, hro (m_ref08_Same_ok h15) ck15), (3, hto (bE c8)), (8, hto (bE c9))] [(6, .bool false)] [] (by kernel_rfl) ?_
    refine A.ret ?_
    obtain rfl := some_inj hm
    exact A.fin W0 [] rfl (by kernel_rfl)
  refine A.RS W0 [] [(2, hro (m_ref08_Same_ok h15) ck15), (3, hto (bE c8))] [(6, .bool false)] [] (by kernel_rfl) ?_
  refine A.ret ?_
  obtain rfl := some_inj hm
  exact A.fin W0 [] rfl (by kernel_rfl)
end Go.Proofs.YtmcjffllahcclaaGreat
