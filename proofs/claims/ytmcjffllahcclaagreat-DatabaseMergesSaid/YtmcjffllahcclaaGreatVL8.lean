/- The walks of functions of the program. No condition but those that stand in each. -/
import Derived.Test.YtmcjffllahcclaaGreatDL8
import Derived.Test.YtmcjffllahcclaaGreatVX
import Derived.Test.YtmcjffllahcclaaGreatVT
import Derived.Test.YtmcjffllahcclaaGreatVL
import Derived.Test.YtmcjffllahcclaaGreatVU
namespace Go.Proofs.YtmcjffllahcclaaGreat
open Go
set_option maxRecDepth 100000
set_option linter.all false
theorem m_law08_DatabaseMerges_ok {t : List Int} {r : Bool} (hm : m_law08_DatabaseMerges t = some r) : RO Tryz.prog 5 [] [.lst false (ml eInt t)] (.bool r) := by
  refine enterA Tryz.func5 rfl rfl ?_
  unfold m_law08_DatabaseMerges at hm
  refine A.RS W0 [] [] [(0, .lst false (ml eInt t))] [] (by kernel_rfl) ?_
  obtain ⟨vx_1, h1, hm⟩ := bnd_some hm
  refine A.RS W0 [] [(1, hdc [900000071] (m_mk_New_ok h1) ck7)] [(3, .ptr 900000071 0)] [(900000071, .cells 71 [.lst false (ml eInt vx_1.L), .int .i64 vx_1.At])] (by kernel_rfl) ?_
  obtain ⟨vx_2, h2, hm⟩ := bnd_some hm
  obtain ⟨vx_3, h3, hm⟩ := bnd_some hm
  obtain ⟨vx_4, h4, hm⟩ := bnd_some hm
  refine A.RS W0 [] [(1, hdc [] (m_mk_Tape_Database_ok h2) ck8), (3, hdc [] (m_mk_Tape_Database_ok h3) ck8), (5, hdc [] (m_mk_Tape_Database_ok h4) ck8), (6, .al 5004), (7, .al 5005), (8, .al 5006)] [(4, .ptr 5004 0), (5, .ptr 5005 0), (6, .ptr 5006 0)] [(5004, .cells 25 [.lst false (ml eGAdvert vx_2.1.Adverts)]), (5005, .cells 25 [.lst false (ml eGAdvert vx_3.1.Adverts)]), (5006, .cells 25 [.lst false (ml eGAdvert vx_4.1.Adverts)])] (by kernel_rfl) ?_
  obtain ⟨vx_5, h5, hm⟩ := bnd_some hm
  refine A.RS W0 [] [(2, hro (m_database_Merge_ok h5) ck26), (6, .al 5007)] [(4, .ptr 5004 0), (5, .ptr 5005 0), (6, .ptr 5006 0), (7, .ptr 5007 0), (8, .int .i64 vx_5.2)] [(5004, .cells 25 [.lst false (ml eGAdvert vx_2.1.Adverts)]), (5005, .cells 25 [.lst false (ml eGAdvert vx_3.1.Adverts)]), (5006, .cells 25 [.lst false (ml eGAdvert vx_4.1.Adverts)]), (5007, .cells 25 [.lst false (ml eGAdvert vx_5.1.Adverts)])] (by kernel_rfl) ?_
  obtain ⟨vx_6, h6, hm⟩ := bnd_some hm
  refine A.RS W0 [] [(2, hro (m_ref08_Merge_ok h6) ck27), (6, .al 5009)] [(4, .ptr 5004 0), (5, .ptr 5005 0), (6, .ptr 5006 0), (7, .ptr 5007 0), (8, .int .i64 vx_5.2), (9, .ptr 5009 0), (10, .int .i64 vx_6.2)] [(5004, .cells 25 [.lst false (ml eGAdvert vx_2.1.Adverts)]), (5005, .cells 25 [.lst false (ml eGAdvert vx_3.1.Adverts)]), (5006, .cells 25 [.lst false (ml eGAdvert vx_4.1.Adverts)]), (5007, .cells 25 [.lst false (ml eGAdvert vx_5.1.Adverts)]), (5009, .cells 25 [.lst false (ml eGAdvert vx_6.1.Adverts)])] (by kernel_rfl) ?_
  obtain ⟨vx_7, h7, hm⟩ := bnd_some hm
  refine A.RS W0 [] [(2, hro (m_database_Merge_ok h7) ck26), (6, .al 5011)] [(4, .ptr 5004 0), (5, .ptr 5005 0), (6, .ptr 5006 0), (7, .ptr 5007 0), (8, .int .i64 vx_5.2), (9, .ptr 5009 0), (10, .int .i64 vx_6.2), (11, .ptr 5011 0), (12, .int .i64 vx_7.2)] [(5004, .cells 25 [.lst false (ml eGAdvert vx_2.1.Adverts)]), (5005, .cells 25 [.lst false (ml eGAdvert vx_3.1.Adverts)]), (5006, .cells 25 [.lst false (ml eGAdvert vx_4.1.Adverts)]), (5007, .cells 25 [.lst false (ml eGAdvert vx_5.1.Adverts)]), (5009, .cells 25 [.lst false (ml eGAdvert vx_6.1.Adverts)]), (5011, .cells 25 [.lst false (ml eGAdvert vx_7.1.Adverts)])] (by kernel_rfl) ?_
  refine A.seq ?_
  obtain ⟨J1, hJ1, hm⟩ := jn_some hm
  refine A.J (J := J1) (r := r) (fun v_1 => [(4, .ptr 5004 0), (5, .ptr 5005 0), (6, .ptr 5006 0), (7, .ptr 5007 0), (8, .int .i64 vx_5.2), (66, .bool v_1)]) (fun v_1 => [(5004, .cells 25 [.lst false (ml eGAdvert vx_2.1.Adverts)]), (5005, .cells 25 [.lst false (ml eGAdvert vx_3.1.Adverts)]), (5006, .cells 25 [.lst false (ml eGAdvert vx_4.1.Adverts)]), (5007, .cells 25 [.lst false (ml eGAdvert vx_5.1.Adverts)])]) ?_ ?_
  · skip
    obtain ⟨vx_8, h8, hm⟩ := bnd_some hm
    rcases cs_some hm with ⟨c1, hm⟩ | ⟨c1, hm⟩
    · skip
      refine A.R W0 [] [(2, hro (m_ref08_Same_ok h8) ck15), (4, hto (bE c1))] [(4, .ptr 5004 0), (5, .ptr 5005 0), (6, .ptr 5006 0), (7, .ptr 5007 0), (8, .int .i64 vx_5.2), (66, .bool true)] [(5004, .cells 25 [.lst false (ml eGAdvert vx_2.1.Adverts)]), (5005, .cells 25 [.lst false (ml eGAdvert vx_3.1.Adverts)]), (5006, .cells 25 [.lst false (ml eGAdvert vx_4.1.Adverts)]), (5007, .cells 25 [.lst false (ml eGAdvert vx_5.1.Adverts)])] (by kernel_rfl) ?_
      exact Exists.intro true (And.intro hm (Weak.go [] [] (by kernel_rfl)))
    rcases cs_some hm with ⟨c2, hm⟩ | ⟨c2, hm⟩
    · skip
      refine A.R W0 [] [(2, hro (m_ref08_Same_ok h8) ck15), (4, hto (bE c1)), (9, hto (bE c2))] [(4, .ptr 5004 0), (5, .ptr 5005 0), (6, .ptr 5006 0), (7, .ptr 5007 0), (8, .int .i64 vx_5.2), (66, .bool true)] [(5004, .cells 25 [.lst false (ml eGAdvert vx_2.1.Adverts)]), (5005, .cells 25 [.lst false (ml eGAdvert vx_3.1.Adverts)]), (5006, .cells 25 [.lst false (ml eGAdvert vx_4.1.Adverts)]), (5007, .cells 25 [.lst false (ml eGAdvert vx_5.1.Adverts)])] (by kernel_rfl) ?_
      exact Exists.intro true (And.intro hm (Weak.go [] [] (by kernel_rfl)))
    obtain ⟨vx_9, h9, hm⟩ := bnd_some hm
    rcases cs_some hm with ⟨c3, hm⟩ | ⟨c3, hm⟩
    · skip
      refine A.R W0 [] [(2, hro (m_ref08_Same_ok h8) ck15), (4, hto (bE c1)), (9, hto (bE c2)), (12, hro (m_ref08_Same_ok h9) ck15), (15, hto (bE c3))] [(4, .ptr 5004 0), (5, .ptr 5005 0), (6, .ptr 5006 0), (7, .ptr 5007 0), (8, .int .i64 vx_5.2), (66, .bool true)] [(5004, .cells 25 [.lst false (ml eGAdvert vx_2.1.Adverts)]), (5005, .cells 25 [.lst false (ml eGAdvert vx_3.1.Adverts)]), (5006, .cells 25 [.lst false (ml eGAdvert vx_4.1.Adverts)]), (5007, .cells 25 [.lst false (ml eGAdvert vx_5.1.Adverts)])] (by kernel_rfl) ?_
      exact Exists.intro true (And.intro hm (Weak.go [] [] (by kernel_rfl)))
    refine A.R W0 [] [(2, hro (m_ref08_Same_ok h8) ck15), (4, hto (bE c1)), (9, hto (bE c2)), (12, hro (m_ref08_Same_ok h9) ck15), (15, hto (bE c3))] [(4, .ptr 5004 0), (5, .ptr 5005 0), (6, .ptr 5006 0), (7, .ptr 5007 0), (8, .int .i64 vx_5.2), (66, .bool (!decide (vx_5.2 = vx_7.2)))] [(5004, .cells 25 [.lst false (ml eGAdvert vx_2.1.Adverts)]), (5005, .cells 25 [.lst false (ml eGAdvert vx_3.1.Adverts)]), (5006, .cells 25 [.lst false (ml eGAdvert vx_4.1.Adverts)]), (5007, .cells 25 [.lst false (ml eGAdvert vx_5.1.Adverts)])] (by kernel_rfl) ?_
    exact Exists.intro (!decide (vx_5.2 = vx_7.2)) (And.intro hm (Weak.go [] [] (by kernel_rfl)))
  rintro v_1 hm
  rw [hJ1] at hm
  rcases cs_some hm with ⟨c4, hm⟩ | ⟨c4, hm⟩
  · skip
    refine A.cT rfl c4 ?_
    refine A.RS W0 [] [] [(2, .bool false)] [] (by kernel_rfl) ?_
    refine A.ret ?_
    obtain rfl := some_inj hm
    exact A.fin W0 [] rfl (by kernel_rfl)
  refine A.cF rfl c4 ?_
  refine A.skip ?_
  show acode _ _ _ _ _
  refine A.seq ?_
  refine A.RS W0 [] [] [(4, .ptr 5004 0), (5, .ptr 5005 0), (6, .ptr 5006 0), (7, .ptr 5007 0), (68, .bool (!decide (vx_5.2 = (0:Int))))] [(5004, .cells 25 [.lst false (ml eGAdvert vx_2.1.Adverts)]), (5005, .cells 25 [.lst false (ml eGAdvert vx_3.1.Adverts)]), (5006, .cells 25 [.lst false (ml eGAdvert vx_4.1.Adverts)]), (5007, .cells 25 [.lst false (ml eGAdvert vx_5.1.Adverts)])] (by kernel_rfl) ?_
  rcases cs_some hm with ⟨c5, hm⟩ | ⟨c5, hm⟩
  · skip
    refine A.cT rfl c5 ?_
    obtain ⟨vx_10, h10, hm⟩ := bnd_some hm
    refine A.RS W0 [] [(0, hro (m_law08_awake_ok h10) ck17)] [(2, .bool vx_10)] [] (by kernel_rfl) ?_
    refine A.ret ?_
    obtain rfl := some_inj hm
    exact A.fin W0 [] rfl (by kernel_rfl)
  refine A.cF rfl c5 ?_
  refine A.skip ?_
  show acode _ _ _ _ _
  obtain ⟨vx_11, h11, hm⟩ := bnd_some hm
  refine A.RS W0 [] [(2, hro (m_database_Merge_ok h11) ck26), (6, .al 5013)] [(4, .ptr 5004 0), (5, .ptr 5005 0), (6, .ptr 5006 0), (7, .ptr 5007 0), (13, .ptr 5013 0), (14, .int .i64 vx_11.2)] [(5004, .cells 25 [.lst false (ml eGAdvert vx_2.1.Adverts)]), (5005, .cells 25 [.lst false (ml eGAdvert vx_3.1.Adverts)]), (5006, .cells 25 [.lst false (ml eGAdvert vx_4.1.Adverts)]), (5007, .cells 25 [.lst false (ml eGAdvert vx_5.1.Adverts)]), (5013, .cells 25 [.lst false (ml eGAdvert vx_11.1.Adverts)])] (by kernel_rfl) ?_
  obtain ⟨vx_12, h12, hm⟩ := bnd_some hm
  refine A.RS W0 [] [(2, hro (m_database_Merge_ok h12) ck26), (6, .al 5015)] [(4, .ptr 5004 0), (7, .ptr 5007 0), (13, .ptr 5013 0), (14, .int .i64 vx_11.2), (15, .ptr 5015 0), (16, .int .i64 vx_12.2)] [(5004, .cells 25 [.lst false (ml eGAdvert vx_2.1.Adverts)]), (5007, .cells 25 [.lst false (ml eGAdvert vx_5.1.Adverts)]), (5013, .cells 25 [.lst false (ml eGAdvert vx_11.1.Adverts)]), (5015, .cells 25 [.lst false (ml eGAdvert vx_12.1.Adverts)])] (by kernel_rfl) ?_
  obtain ⟨vx_13, h13, hm⟩ := bnd_some hm
  refine A.RS W0 [] [(2, hro (m_database_Merge_ok h13) ck26), (6, .al 5017)] [(4, .ptr 5004 0), (7, .ptr 5007 0), (13, .ptr 5013 0), (14, .int .i64 vx_11.2), (16, .int .i64 vx_12.2), (17, .ptr 5017 0), (18, .int .i64 vx_13.2)] [(5004, .cells 25 [.lst false (ml eGAdvert vx_2.1.Adverts)]), (5007, .cells 25 [.lst false (ml eGAdvert vx_5.1.Adverts)]), (5013, .cells 25 [.lst false (ml eGAdvert vx_11.1.Adverts)]), (5017, .cells 25 [.lst false (ml eGAdvert vx_13.1.Adverts)])] (by kernel_rfl) ?_
  obtain ⟨vx_14, h14, hm⟩ := bnd_some hm
  refine A.RS W0 [] [(2, hro (m_database_Merge_ok h14) ck26), (6, .al 5019)] [(7, .ptr 5007 0), (13, .ptr 5013 0), (14, .int .i64 vx_11.2), (16, .int .i64 vx_12.2), (17, .ptr 5017 0), (18, .int .i64 vx_13.2), (19, .ptr 5019 0), (20, .int .i64 vx_14.2)] [(5007, .cells 25 [.lst false (ml eGAdvert vx_5.1.Adverts)]), (5013, .cells 25 [.lst false (ml eGAdvert vx_11.1.Adverts)]), (5017, .cells 25 [.lst false (ml eGAdvert vx_13.1.Adverts)]), (5019, .cells 25 [.lst false (ml eGAdvert vx_14.1.Adverts)])] (by kernel_rfl) ?_
  rcases cs_some hm with ⟨c6, hm⟩ | ⟨c6, hm⟩
  · skip
    rcases cs_some hm with ⟨c7, hm⟩ | ⟨c7, hm⟩
    · skip
      rcases cs_some hm with ⟨c8, hm⟩ | ⟨c8, hm⟩
      · skip
        rcases cs_some hm with ⟨c9, hm⟩ | ⟨c9, hm⟩
        · skip
          obtain ⟨vx_15, h15, hm⟩ := bnd_some hm
          rcases cs_some hm with ⟨c10, hm⟩ | ⟨c10, hm⟩
          · skip
            obtain ⟨vx_16, h16, hm⟩ := bnd_some hm
            rcases cs_some hm with ⟨c11, hm⟩ | ⟨c11, hm⟩
            · skip
              obtain ⟨vx_17, h17, hm⟩ := bnd_some hm
              refine A.RS W0 [] [(2, hto (bE c6)), (6, hto (bE c7)), (10, hto (bE c8)), (14, hto (bE c9)), (17, hro (m_ref08_Same_ok h15) ck15), (19, hto (bE c10)), (22, hro (m_ref08_Same_ok h16) ck15), (24, hto (bE c11)), (25, hro (m_law08_awake_ok h17) ck17)] [(2, .bool vx_17)] [] (by kernel_rfl) ?_
              refine A.ret ?_
              obtain rfl := some_inj hm
              exact A.fin W0 [] rfl (by kernel_rfl)
            refine A.RS W0 [] [(2, hto (bE c6)), (6, hto (bE c7)), (10, hto (bE c8)), (14, hto (bE c9)), (17, hro (m_ref08_Same_ok h15) ck15), (19, hto (bE c10)), (22, hro (m_ref08_Same_ok h16) ck15), (24, hto (bE c11))] [(2, .bool false)] [] (by kernel_rfl) ?_
            refine A.ret ?_
            obtain rfl := some_inj hm
            exact A.fin W0 [] rfl (by kernel_rfl)
          refine A.RS W0 [] [(2, hto (bE c6)), (6, hto (bE c7)), (10, hto (bE c8)), (14, hto (bE c9)), (17, hro (m_ref08_Same_ok h15) ck15), (19, hto (bE c10))] [(2, .bool false)] [] (by kernel_rfl) ?_
          refine A.ret ?_
          obtain rfl := some_inj hm
          exact A.fin W0 [] rfl (by kernel_rfl)
        refine A.RS W0 [] [(2, hto (bE c6)), (6, hto (bE c7)), (10, hto (bE c8)), (14, hto (bE c9))] [(2, .bool false)] [] (by kernel_rfl) ?_
        refine A.ret ?_
        obtain rfl := some_inj hm
        exact A.fin W0 [] rfl (by kernel_rfl)
      refine A.RS W0 [] [(2, hto (bE c6)), (6, hto (bE c7)), (10, hto (bE c8))] [(2, .bool false)] [] (by kernel_rfl) ?_
      refine A.ret ?_
      obtain rfl := some_inj hm
      exact A.fin W0 [] rfl (by kernel_rfl)
    refine A.RS W0 [] [(2, hto (bE c6)), (6, hto (bE c7))] [(2, .bool false)] [] (by kernel_rfl) ?_
    refine A.ret ?_
    obtain rfl := some_inj hm
    exact A.fin W0 [] rfl (by kernel_rfl)
  refine A.RS W0 [] [(2, hto (bE c6))] [(2, .bool false)] [] (by kernel_rfl) ?_
  refine A.ret ?_
  obtain rfl := some_inj hm
  exact A.fin W0 [] rfl (by kernel_rfl)
end Go.Proofs.YtmcjffllahcclaaGreat
