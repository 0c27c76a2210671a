/- The walks of functions of the program. No condition but those that stand in each. -/
import Derived.Test.YtmcjffllahcclaaGreatDL9
import Derived.Test.YtmcjffllahcclaaGreatVX
import Derived.Test.YtmcjffllahcclaaGreatVT
import Derived.Test.YtmcjffllahcclaaGreatVL
import Derived.Test.YtmcjffllahcclaaGreatVU
namespace Go.Proofs.YtmcjffllahcclaaGreat
open Go
set_option maxRecDepth 100000
set_option linter.all false
theorem m_law08_DatabaseGrows_ok {t : List Int} {r : Bool} (hm : m_law08_DatabaseGrows t = some r) : RO Tryz.prog 6 [] [.lst false (ml eInt t)] (.bool r) := by
  refine enterA Tryz.func6 rfl rfl ?_
  unfold m_law08_DatabaseGrows at hm
  refine A.RS W0 [] [] [(0, .lst false (ml eInt t))] [] (by kernel_rfl) ?_
  obtain ⟨vx_1, h1, hm⟩ := bnd_some hm
  refine A.RS W0 [] [(1, hdc [900000071] (m_mk_New_ok h1) ck7)] [(3, .ptr 900000071 0)] [(900000071, .cells 71 [.lst false (ml eInt vx_1.L), .int .i64 vx_1.At])] (by kernel_rfl) ?_
  obtain ⟨vx_2, h2, hm⟩ := bnd_some hm
  obtain ⟨vx_3, h3, hm⟩ := bnd_some hm
  refine A.RS W0 [] [(1, hdc [] (m_mk_Tape_Database_ok h2) ck8), (3, hdc [] (m_mk_Tape_Database_ok h3) ck8), (4, .al 6004), (5, .al 6005)] [(3, .ptr 900000071 0), (4, .ptr 6004 0), (5, .ptr 6005 0)] [(900000071, .cells 71 [.lst false (ml eInt vx_3.2.L), .int .i64 vx_3.2.At]), (6004, .cells 25 [.lst false (ml eGAdvert vx_2.1.Adverts)]), (6005, .cells 25 [.lst false (ml eGAdvert vx_3.1.Adverts)])] (by kernel_rfl) ?_
  obtain ⟨vx_4, h4, hm⟩ := bnd_some hm
  refine A.RS W0 [] [(2, hro (m_database_Merge_ok h4) ck26), (6, .al 6006)] [(3, .ptr 900000071 0), (4, .ptr 6004 0), (6, .ptr 6006 0), (7, .int .i64 vx_4.2)] [(900000071, .cells 71 [.lst false (ml eInt vx_3.2.L), .int .i64 vx_3.2.At]), (6004, .cells 25 [.lst false (ml eGAdvert vx_2.1.Adverts)]), (6006, .cells 25 [.lst false (ml eGAdvert vx_4.1.Adverts)])] (by kernel_rfl) ?_
  obtain ⟨vx_5, h5, hm⟩ := bnd_some hm
  obtain ⟨vx_6, h6, hm⟩ := bnd_some hm
  obtain ⟨vx_7, h7, hm⟩ := bnd_some hm
  refine A.RS W0 [] [(3, hdc [] (m_mk_Tape_Range_ok h5) ck10), (4, hdc [] (m_mk_Tape_Advert_ok h6) ck9), (5, hro (m_database_Put_ok h7) ck13), (9, .al 6008)] [(4, .ptr 6004 0), (6, .ptr 6006 0), (7, .int .i64 vx_4.2), (8, .ptr 6008 0)] [(6004, .cells 25 [.lst false (ml eGAdvert vx_2.1.Adverts)]), (6006, .cells 25 [.lst false (ml eGAdvert vx_4.1.Adverts)]), (6008, .cells 25 [.lst false (ml eGAdvert vx_7.1.Adverts)])] (by kernel_rfl) ?_
  refine A.RS W0 [] [] [(4, .ptr 6004 0), (6, .ptr 6006 0), (7, .int .i64 vx_4.2), (8, .ptr 6008 0), (10, .lst true (ml eGDatabase ([vx_4.1, vx_7.1] : List GDatabase)))] [(6004, .cells 25 [.lst false (ml eGAdvert vx_2.1.Adverts)]), (6006, .cells 25 [.lst false (ml eGAdvert vx_4.1.Adverts)]), (6008, .cells 25 [.lst false (ml eGAdvert vx_7.1.Adverts)])] (by kernel_rfl) ?_
  refine A.seq ?_
  refine A.RS W0 [] [] [(4, .ptr 6004 0), (6, .ptr 6006 0), (7, .int .i64 vx_4.2), (8, .ptr 6008 0), (10, .lst true (ml eGDatabase ([vx_4.1, vx_7.1] : List GDatabase))), (11, .int .i64 (0:Int))] [(6004, .cells 25 [.lst false (ml eGAdvert vx_2.1.Adverts)]), (6006, .cells 25 [.lst false (ml eGAdvert vx_4.1.Adverts)]), (6008, .cells 25 [.lst false (ml eGAdvert vx_7.1.Adverts)])] (by kernel_rfl) ?_
  refine A.block ?_
  obtain ⟨B1, K1, hB1, hK1, hm⟩ := forN_some hm
  refine A.lpN (hi := (2:Int)) (B := B1) (K := K1) hm rfl (fun j1 => fun sg => match sg with | () => [(4, .ptr 6004 0), (6, .ptr 6006 0), (7, .int .i64 vx_4.2), (8, .ptr 6008 0), (10, .lst true (ml eGDatabase ([vx_4.1, vx_7.1] : List GDatabase))), (11, .int .i64 (j1 : Int))]) (fun j1 => fun sg => match sg with | () => [(6004, .cells 25 [.lst false (ml eGAdvert vx_2.1.Adverts)]), (6006, .cells 25 [.lst false (ml eGAdvert vx_4.1.Adverts)]), (6008, .cells 25 [.lst false (ml eGAdvert vx_7.1.Adverts)])]) ?_ ?_ ?_
  · exact Weak.go [] [] (by kernel_rfl)
  · skip
    rintro j1 Z1 ⟨⟩ hj1 hx1 hm
    rw [hB1] at hm
    refine A.seq ?_
    refine A.RS W0 [] [] [(4, .ptr 6004 0), (6, .ptr 6006 0), (7, .int .i64 vx_4.2), (8, .ptr 6008 0), (10, .lst true (ml eGDatabase ([vx_4.1, vx_7.1] : List GDatabase))), (11, .int .i64 (j1 : Int)), (40, .bool (decide ((j1 : Int) < (2:Int))))] [(6004, .cells 25 [.lst false (ml eGAdvert vx_2.1.Adverts)]), (6006, .cells 25 [.lst false (ml eGAdvert vx_4.1.Adverts)]), (6008, .cells 25 [.lst false (ml eGAdvert vx_7.1.Adverts)])] (by kernel_rfl) ?_
    refine A.cT rfl (decide_eq_true hx1) ?_
    refine A.skip ?_
    show acode _ _ _ _ _
    refine A.seq ?_
    refine A.block ?_
    refine A.RS W0 [] [] [(4, .ptr 6004 0), (6, .ptr 6006 0), (7, .int .i64 vx_4.2), (8, .ptr 6008 0), (10, .lst true (ml eGDatabase ([vx_4.1, vx_7.1] : List GDatabase))), (11, .int .i64 (j1 : Int)), (12, .int .i64 (0:Int))] [(6004, .cells 25 [.lst false (ml eGAdvert vx_2.1.Adverts)]), (6006, .cells 25 [.lst false (ml eGAdvert vx_4.1.Adverts)]), (6008, .cells 25 [.lst false (ml eGAdvert vx_7.1.Adverts)])] (by kernel_rfl) ?_
    refine A.block ?_
    refine A.bC 4 0 rfl rfl rfl fun hb2 => ?_
    obtain ⟨B2, K2, hB2, hK2, hm⟩ := forI_some hm
    refine A.lpI (l := vx_2.1.Adverts) (j0 := 0) (B := B2) (K := K2) hm (fun j2 => fun sg => match sg with | () => [(4, .ptr 6004 0), (6, .ptr 6006 0), (7, .int .i64 vx_4.2), (8, .ptr 6008 0), (10, .lst true (ml eGDatabase ([vx_4.1, vx_7.1] : List GDatabase))), (11, .int .i64 (j1 : Int)), (12, .int .i64 (j2 : Int))]) (fun j2 => fun sg => match sg with | () => [(6004, .cells 25 [.lst false (ml eGAdvert vx_2.1.Adverts)]), (6006, .cells 25 [.lst false (ml eGAdvert vx_4.1.Adverts)]), (6008, .cells 25 [.lst false (ml eGAdvert vx_7.1.Adverts)])]) ?_ ?_ ?_
    · exact Weak.go [] [] (by kernel_rfl)
    · skip
      rintro j2 e2 Z2 ⟨⟩ hj2 hx2 hm
      rw [hB2] at hm
      refine A.seq ?_
      refine A.RS W0 [] [(3, hto (lnE eGAdvert vx_2.1.Adverts))] [(4, .ptr 6004 0), (6, .ptr 6006 0), (7, .int .i64 vx_4.2), (8, .ptr 6008 0), (10, .lst true (ml eGDatabase ([vx_4.1, vx_7.1] : List GDatabase))), (11, .int .i64 (j1 : Int)), (12, .int .i64 (j2 : Int)), (47, .bool (decide ((j2 : Int) < (vx_2.1.Adverts.length:Int))))] [(6004, .cells 25 [.lst false (ml eGAdvert vx_2.1.Adverts)]), (6006, .cells 25 [.lst false (ml eGAdvert vx_4.1.Adverts)]), (6008, .cells 25 [.lst false (ml eGAdvert vx_7.1.Adverts)])] (by kernel_rfl) ?_
      refine A.cT rfl (ltT hx2) ?_
      refine A.skip ?_
      show acode _ _ _ _ _
      refine A.seq ?_
      refine A.block ?_
      obtain ⟨e_1, h8, hm⟩ := bnd_some hm
      obtain ⟨vx_8, h9, hm⟩ := bnd_some hm
      refine A.RS W0 [] [(2, hix (ix eGDatabase h8)), (7, hix (ix eGAdvert (elO_nat hx2))), (10, hro (m_database_Find_ok h9) ck28), (14, .al 6013)] [(4, .ptr 6004 0), (6, .ptr 6006 0), (7, .int .i64 vx_4.2), (8, .ptr 6008 0), (10, .lst true (ml eGDatabase ([vx_4.1, vx_7.1] : List GDatabase))), (11, .int .i64 (j1 : Int)), (12, .int .i64 (j2 : Int)), (13, .ptr 6013 0), (14, .bool vx_8.2)] [(6004, .cells 25 [.lst false (ml eGAdvert vx_2.1.Adverts)]), (6006, .cells 25 [.lst false (ml eGAdvert vx_4.1.Adverts)]), (6008, .cells 25 [.lst false (ml eGAdvert vx_7.1.Adverts)]), (6013, .cells 29 [.int .i64 vx_8.1.Router, .int .i64 vx_8.1.Seq, .bool vx_8.1.Capable, .lst false (ml eGReach vx_8.1.Links), .lst false (ml eGClaim vx_8.1.Claims)])] (by kernel_rfl) ?_
      obtain ⟨J1, hJ1, hm⟩ := jn_some hm
      refine A.J (J := J1) (r := r) (fun v_1 => [(4, .ptr 6004 0), (6, .ptr 6006 0), (7, .int .i64 vx_4.2), (8, .ptr 6008 0), (10, .lst true (ml eGDatabase ([vx_4.1, vx_7.1] : List GDatabase))), (11, .int .i64 (j1 : Int)), (12, .int .i64 (j2 : Int)), (74, .bool v_1)]) (fun v_1 => [(6004, .cells 25 [.lst false (ml eGAdvert vx_2.1.Adverts)]), (6006, .cells 25 [.lst false (ml eGAdvert vx_4.1.Adverts)]), (6008, .cells 25 [.lst false (ml eGAdvert vx_7.1.Adverts)])]) ?_ ?_
      · skip
        rcases cs_some hm with ⟨c1, hm⟩ | ⟨c1, hm⟩
        · skip
          refine A.R W0 [] [(2, hto (bE c1))] [(4, .ptr 6004 0), (6, .ptr 6006 0), (7, .int .i64 vx_4.2), (8, .ptr 6008 0), (10, .lst true (ml eGDatabase ([vx_4.1, vx_7.1] : List GDatabase))), (11, .int .i64 (j1 : Int)), (12, .int .i64 (j2 : Int)), (74, .bool true)] [(6004, .cells 25 [.lst false (ml eGAdvert vx_2.1.Adverts)]), (6006, .cells 25 [.lst false (ml eGAdvert vx_4.1.Adverts)]), (6008, .cells 25 [.lst false (ml eGAdvert vx_7.1.Adverts)])] (by kernel_rfl) ?_
          exact Exists.intro true (And.intro hm (Weak.go [] [] (by kernel_rfl)))
        obtain ⟨vx_9, h10, hm⟩ := bnd_some hm
        refine A.R W0 [] [(2, hto (bE c1)), (6, hix (ix eGAdvert (elO_nat hx2))), (9, hro (m_ref07_Newer_ok h10) ck29)] [(4, .ptr 6004 0), (6, .ptr 6006 0), (7, .int .i64 vx_4.2), (8, .ptr 6008 0), (10, .lst true (ml eGDatabase ([vx_4.1, vx_7.1] : List GDatabase))), (11, .int .i64 (j1 : Int)), (12, .int .i64 (j2 : Int)), (74, .bool vx_9)] [(6004, .cells 25 [.lst false (ml eGAdvert vx_2.1.Adverts)]), (6006, .cells 25 [.lst false (ml eGAdvert vx_4.1.Adverts)]), (6008, .cells 25 [.lst false (ml eGAdvert vx_7.1.Adverts)])] (by kernel_rfl) ?_
        exact Exists.intro vx_9 (And.intro hm (Weak.go [] [] (by kernel_rfl)))
      rintro v_1 hm
      rw [hJ1] at hm
      rcases cs_some hm with ⟨c2, hm⟩ | ⟨c2, hm⟩
      · skip
        refine A.cT rfl c2 ?_
        refine A.RS W0 [] [] [(2, .bool false)] [] (by kernel_rfl) ?_
        refine A.ret ?_
        obtain rfl := some_inj hm
        exact A.fin W0 [] rfl (by kernel_rfl)
      refine A.cF rfl c2 ?_
      refine A.skip ?_
      show acode _ _ _ _ _
      refine A.R W0 [] [(1, hto (inc hx2 hb2))] [(4, .ptr 6004 0), (6, .ptr 6006 0), (7, .int .i64 vx_4.2), (8, .ptr 6008 0), (10, .lst true (ml eGDatabase ([vx_4.1, vx_7.1] : List GDatabase))), (11, .int .i64 (j1 : Int)), (12, .int .i64 ((j2 + 1 : Nat) : Int))] [(6004, .cells 25 [.lst false (ml eGAdvert vx_2.1.Adverts)]), (6006, .cells 25 [.lst false (ml eGAdvert vx_4.1.Adverts)]), (6008, .cells 25 [.lst false (ml eGAdvert vx_7.1.Adverts)])] (by kernel_rfl) ?_
      exact Exists.intro () (And.intro hm (Weak.go [] [] (by kernel_rfl)))
    rintro j2 ⟨⟩ hj2 hl2 hm
    rw [hK2] at hm
    refine A.seq ?_
    refine A.RS W0 [] [(3, hto (lnE eGAdvert vx_2.1.Adverts))] [(4, .ptr 6004 0), (6, .ptr 6006 0), (7, .int .i64 vx_4.2), (8, .ptr 6008 0), (10, .lst true (ml eGDatabase ([vx_4.1, vx_7.1] : List GDatabase))), (11, .int .i64 (j1 : Int)), (12, .int .i64 (j2 : Int)), (47, .bool (decide ((j2 : Int) < (vx_2.1.Adverts.length:Int))))] [(6004, .cells 25 [.lst false (ml eGAdvert vx_2.1.Adverts)]), (6006, .cells 25 [.lst false (ml eGAdvert vx_4.1.Adverts)]), (6008, .cells 25 [.lst false (ml eGAdvert vx_7.1.Adverts)])] (by kernel_rfl) ?_
    refine A.cF rfl (ltF hl2) ?_
    refine A.exit ?_
    show acode _ _ _ _ _
    refine A.R W0 [] [(1, hto (incN (by omega) hx1 (by decide)))] [(4, .ptr 6004 0), (6, .ptr 6006 0), (7, .int .i64 vx_4.2), (8, .ptr 6008 0), (10, .lst true (ml eGDatabase ([vx_4.1, vx_7.1] : List GDatabase))), (11, .int .i64 (j1 + 1 : Int))] [(6004, .cells 25 [.lst false (ml eGAdvert vx_2.1.Adverts)]), (6006, .cells 25 [.lst false (ml eGAdvert vx_4.1.Adverts)]), (6008, .cells 25 [.lst false (ml eGAdvert vx_7.1.Adverts)])] (by kernel_rfl) ?_
    exact Exists.intro () (And.intro hm (Weak.go [] [] (by kernel_rfl)))
  rintro j1 ⟨⟩ hj1 hl1 hm
  rw [hK1] at hm
  refine A.seq ?_
  refine A.RS W0 [] [] [(4, .ptr 6004 0), (6, .ptr 6006 0), (7, .int .i64 vx_4.2), (8, .ptr 6008 0), (10, .lst true (ml eGDatabase ([vx_4.1, vx_7.1] : List GDatabase))), (11, .int .i64 (j1 : Int)), (40, .bool (decide ((j1 : Int) < (2:Int))))] [(6004, .cells 25 [.lst false (ml eGAdvert vx_2.1.Adverts)]), (6006, .cells 25 [.lst false (ml eGAdvert vx_4.1.Adverts)]), (6008, .cells 25 [.lst false (ml eGAdvert vx_7.1.Adverts)])] (by kernel_rfl) ?_
  refine A.cF rfl (geF hl1) ?_
  refine A.exit ?_
  show acode _ _ _ _ _
  rcases cs_some hm with ⟨c3, hm⟩ | ⟨c3, hm⟩
  · skip
    obtain ⟨vx_10, h11, hm⟩ := bnd_some hm
    rcases cs_some hm with ⟨c4, hm⟩ | ⟨c4, hm⟩
    · skip
      obtain ⟨vx_11, h12, hm⟩ := bnd_some hm
      rcases cs_some hm with ⟨c5, hm⟩ | ⟨c5, hm⟩
      · skip
        obtain ⟨vx_12, h13, hm⟩ := bnd_some hm
        refine A.RS W0 [] [(2, hto (bE c3)), (4, hro (m_database_Check_ok h11) ck30), (7, hto (bE c4)), (9, hro (m_database_Check_ok h12) ck30), (12, hto (bE c5)), (13, hro (m_law08_awake_ok h13) ck17)] [(2, .bool vx_12)] [] (by kernel_rfl) ?_
        refine A.ret ?_
        obtain rfl := some_inj hm
        exact A.fin W0 [] rfl (by kernel_rfl)
      refine A.RS W0 [] [(2, hto (bE c3)), (4, hro (m_database_Check_ok h11) ck30), (7, hto (bE c4)), (9, hro (m_database_Check_ok h12) ck30), (12, hto (bE c5))] [(2, .bool false)] [] (by kernel_rfl) ?_
      refine A.ret ?_
      obtain rfl := some_inj hm
      exact A.fin W0 [] rfl (by kernel_rfl)
    refine A.RS W0 [] [(2, hto (bE c3)), (4, hro (m_database_Check_ok h11) ck30), (7, hto (bE c4))] [(2, .bool false)] [] (by kernel_rfl) ?_
    refine A.ret ?_
    obtain rfl := some_inj hm
    exact A.fin W0 [] rfl (by kernel_rfl)
  refine A.RS W0 [] [(2, hto (bE c3))] [(2, .bool false)] [] (by kernel_rfl) ?_
  refine A.ret ?_
  obtain rfl := some_inj hm
  exact A.fin W0 [] rfl (by kernel_rfl)
end Go.Proofs.YtmcjffllahcclaaGreat
