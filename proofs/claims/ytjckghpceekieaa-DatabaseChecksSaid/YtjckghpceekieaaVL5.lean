/- The walks of functions of the program. No condition but those that stand in each. -/
import Derived.Test.YtjckghpceekieaaDL5
import Derived.Test.YtjckghpceekieaaV8
import Derived.Test.YtjckghpceekieaaVT
import Derived.Test.YtjckghpceekieaaVL
namespace Go.Proofs.Ytjckghpceekieaa
open Go
set_option maxRecDepth 100000
set_option linter.all false
theorem m_law08_DatabaseChecks_ok {t : List Int} {raw : GDatabase} {ra2 : Int} {r : Bool} (hm : m_law08_DatabaseChecks t raw ra2 = some r) : RO Try.prog 5 [] [.lst false (ml eInt t), .agg [.lst false (ml eGAdvert raw.Adverts)], .int .i64 ra2] (.bool r) := by
  refine enterA Try.func5 rfl rfl ?_
  unfold m_law08_DatabaseChecks at hm
  refine A.RS W0 [] [(0, .al 5004)] [(0, .lst false (ml eInt t)), (2, .int .i64 ra2), (4, .ptr 5004 0)] [(5004, .cells 27 [.lst false (ml eGAdvert raw.Adverts)])] (by kernel_rfl) ?_
  obtain ⟨vx_1, h1, hm⟩ := bnd_some hm
  refine A.RS W0 [] [(1, hdc [900000073] (m_mk_New_ok h1) ck7)] [(2, .int .i64 ra2), (4, .ptr 5004 0), (7, .ptr 900000073 0)] [(5004, .cells 27 [.lst false (ml eGAdvert raw.Adverts)]), (900000073, .cells 73 [.lst false (ml eInt vx_1.L), .int .i64 vx_1.At])] (by kernel_rfl) ?_
  obtain ⟨vx_2, h2, hm⟩ := bnd_some hm
  obtain ⟨vx_3, h3, hm⟩ := bnd_some hm
  refine A.RS W0 [] [(1, hdc [] (m_mk_Tape_Database_ok h2) ck8), (3, hdc [] (m_mk_Tape_Database_ok h3) ck8)] [(2, .int .i64 ra2), (4, .ptr 5004 0), (7, .ptr 900000073 0), (8, .lst true (ml eGDatabase ([vx_2.1, vx_3.1, raw] : List GDatabase)))] [(5004, .cells 27 [.lst false (ml eGAdvert raw.Adverts)]), (900000073, .cells 73 [.lst false (ml eInt vx_3.2.L), .int .i64 vx_3.2.At])] (by kernel_rfl) ?_
  refine A.seq ?_
  refine A.RS W0 [] [] [(2, .int .i64 ra2), (4, .ptr 5004 0), (7, .ptr 900000073 0), (8, .lst true (ml eGDatabase ([vx_2.1, vx_3.1, raw] : List GDatabase))), (9, .int .i64 (0:Int))] [(5004, .cells 27 [.lst false (ml eGAdvert raw.Adverts)]), (900000073, .cells 73 [.lst false (ml eInt vx_3.2.L), .int .i64 vx_3.2.At])] (by kernel_rfl) ?_
  refine A.block ?_
  obtain ⟨F1, n1, hF1, hm⟩ := whl_some hm
  refine A.lpW (F := F1) hm (fun sg => match sg with | (i_1, m_1, m_2) => [(2, .int .i64 ra2), (4, .ptr 5004 0), (7, .ptr 900000073 0), (8, .lst true (ml eGDatabase ([vx_2.1, vx_3.1, raw] : List GDatabase))), (9, .int .i64 i_1)]) (fun sg => match sg with | (i_1, m_1, m_2) => [(5004, .cells 27 [.lst false (ml eGAdvert raw.Adverts)]), (900000073, .cells 73 [.lst false (ml eInt m_1), .int .i64 m_2])]) ?_ ?_
  · exact Weak.go [] [] (by kernel_rfl)
  rintro Z1 ⟨i_1, m_1, m_2⟩ hm
  rw [hF1] at hm
  refine A.seq ?_
  obtain ⟨J1, hJ1, hm⟩ := jn_some hm
  refine A.J (J := J1) (r := r) (fun v_1 => [(2, .int .i64 ra2), (4, .ptr 5004 0), (7, .ptr 900000073 0), (8, .lst true (ml eGDatabase ([vx_2.1, vx_3.1, raw] : List GDatabase))), (9, .int .i64 i_1), (33, .bool v_1)]) (fun v_1 => [(5004, .cells 27 [.lst false (ml eGAdvert raw.Adverts)]), (900000073, .cells 73 [.lst false (ml eInt m_1), .int .i64 m_2])]) ?_ ?_
  · skip
    rcases cs_some hm with ⟨c1, hm⟩ | ⟨c1, hm⟩
    · skip
      obtain ⟨vx_4, h4, hm⟩ := bnd_some hm
      refine A.R W0 [] [(2, hto (lnE eGDatabase ([vx_2.1, vx_3.1, raw] : List GDatabase))), (4, hto (bE c1)), (6, hro (m_law08_big_ok h4) ck18)] [(2, .int .i64 ra2), (4, .ptr 5004 0), (7, .ptr 900000073 0), (8, .lst true (ml eGDatabase ([vx_2.1, vx_3.1, raw] : List GDatabase))), (9, .int .i64 i_1), (33, .bool (!vx_4))] [(5004, .cells 27 [.lst false (ml eGAdvert raw.Adverts)]), (900000073, .cells 73 [.lst false (ml eInt m_1), .int .i64 m_2])] (by kernel_rfl) ?_
      exact Exists.intro (!vx_4) (And.intro hm (Weak.go [] [] (by kernel_rfl)))
    refine A.R W0 [] [(2, hto (lnE eGDatabase ([vx_2.1, vx_3.1, raw] : List GDatabase))), (4, hto (bE c1))] [(2, .int .i64 ra2), (4, .ptr 5004 0), (7, .ptr 900000073 0), (8, .lst true (ml eGDatabase ([vx_2.1, vx_3.1, raw] : List GDatabase))), (9, .int .i64 i_1), (33, .bool false)] [(5004, .cells 27 [.lst false (ml eGAdvert raw.Adverts)]), (900000073, .cells 73 [.lst false (ml eInt m_1), .int .i64 m_2])] (by kernel_rfl) ?_
    exact Exists.intro false (And.intro hm (Weak.go [] [] (by kernel_rfl)))
  rintro v_1 hm
  rw [hJ1] at hm
  rcases cs_some hm with ⟨c2, hm⟩ | ⟨c2, hm⟩
  · skip
    refine A.cT rfl c2 ?_
    refine A.skip ?_
    show acode _ _ _ _ _
    refine A.seq ?_
    refine A.block ?_
    refine A.seq ?_
    obtain ⟨e_1, h5, hm⟩ := bnd_some hm
    obtain ⟨vx_5, h6, hm⟩ := bnd_some hm
    obtain ⟨vx_6, h7, hm⟩ := bnd_some hm
    refine A.RS W0 [] [(2, hix (ix eGDatabase h5)), (4, hro (m_database_Check_ok h6) ck23), (7, hix (ix eGDatabase h5)), (9, hro (m_ref08_Check_ok h7) ck24)] [(2, .int .i64 ra2), (4, .ptr 5004 0), (7, .ptr 900000073 0), (8, .lst true (ml eGDatabase ([vx_2.1, vx_3.1, raw] : List GDatabase))), (9, .int .i64 i_1), (46, .bool (!decide (vx_5 = vx_6)))] [(5004, .cells 27 [.lst false (ml eGAdvert raw.Adverts)]), (900000073, .cells 73 [.lst false (ml eInt m_1), .int .i64 m_2])] (by kernel_rfl) ?_
    rcases cs_some hm with ⟨c3, hm⟩ | ⟨c3, hm⟩
    · skip
      refine A.cT rfl c3 ?_
      refine A.RS W0 [] [] [(6, .bool false)] [] (by kernel_rfl) ?_
      refine A.ret ?_
      obtain rfl := some_inj hm
      exact A.fin W0 [] rfl (by kernel_rfl)
    refine A.cF rfl c3 ?_
    refine A.skip ?_
    show acode _ _ _ _ _
    refine A.seq ?_
    refine A.RS W0 [] [] [(2, .int .i64 ra2), (4, .ptr 5004 0), (7, .ptr 900000073 0), (8, .lst true (ml eGDatabase ([vx_2.1, vx_3.1, raw] : List GDatabase))), (9, .int .i64 i_1), (10, .int .i64 (0:Int))] [(5004, .cells 27 [.lst false (ml eGAdvert raw.Adverts)]), (900000073, .cells 73 [.lst false (ml eInt m_1), .int .i64 m_2])] (by kernel_rfl) ?_
    refine A.block ?_
    refine A.bS 8 rfl fun hb2 => ?_
    obtain ⟨B2, K2, hB2, hK2, hm⟩ := forI_some hm
    refine A.lpI (l := ([vx_2.1, vx_3.1, raw] : List GDatabase)) (j0 := 0) (B := B2) (K := K2) hm (fun j2 => fun sg => match sg with | () => [(2, .int .i64 ra2), (4, .ptr 5004 0), (7, .ptr 900000073 0), (8, .lst true (ml eGDatabase ([vx_2.1, vx_3.1, raw] : List GDatabase))), (9, .int .i64 i_1), (10, .int .i64 (j2 : Int))]) (fun j2 => fun sg => match sg with | () => [(5004, .cells 27 [.lst false (ml eGAdvert raw.Adverts)]), (900000073, .cells 73 [.lst false (ml eInt m_1), .int .i64 m_2])]) ?_ ?_ ?_
    · exact Weak.go [] [] (by kernel_rfl)
    · skip
      rintro j2 e2 Z2 ⟨⟩ hj2 hx2 hm
      rw [hB2] at hm
      refine A.seq ?_
      refine A.RS W0 [] [(2, hto (lnE eGDatabase ([vx_2.1, vx_3.1, raw] : List GDatabase)))] [(2, .int .i64 ra2), (4, .ptr 5004 0), (7, .ptr 900000073 0), (8, .lst true (ml eGDatabase ([vx_2.1, vx_3.1, raw] : List GDatabase))), (9, .int .i64 i_1), (10, .int .i64 (j2 : Int)), (50, .bool (decide ((j2 : Int) < (([vx_2.1, vx_3.1, raw] : List GDatabase).length:Int))))] [(5004, .cells 27 [.lst false (ml eGAdvert raw.Adverts)]), (900000073, .cells 73 [.lst false (ml eInt m_1), .int .i64 m_2])] (by kernel_rfl) ?_
      refine A.cT rfl (ltT hx2) ?_
      refine A.skip ?_
      show acode _ _ _ _ _
      refine A.seq ?_
      refine A.block ?_
      obtain ⟨vx_7, h8, hm⟩ := bnd_some hm
      obtain ⟨vx_8, h9, hm⟩ := bnd_some hm
      refine A.RS W0 [] [(2, hix (ix eGDatabase h5)), (6, hix (ix eGDatabase (elO_nat hx2))), (8, hro (m_database_Same_ok h8) ck25), (11, hix (ix eGDatabase h5)), (15, hix (ix eGDatabase (elO_nat hx2))), (17, hro (m_ref08_Same_ok h9) ck26)] [(2, .int .i64 ra2), (4, .ptr 5004 0), (7, .ptr 900000073 0), (8, .lst true (ml eGDatabase ([vx_2.1, vx_3.1, raw] : List GDatabase))), (9, .int .i64 i_1), (10, .int .i64 (j2 : Int)), (71, .bool (!(vx_7 == vx_8)))] [(5004, .cells 27 [.lst false (ml eGAdvert raw.Adverts)]), (900000073, .cells 73 [.lst false (ml eInt m_1), .int .i64 m_2])] (by kernel_rfl) ?_
      rcases cs_some hm with ⟨c4, hm⟩ | ⟨c4, hm⟩
      · skip
        refine A.cT rfl c4 ?_
        refine A.RS W0 [] [] [(6, .bool false)] [] (by kernel_rfl) ?_
        refine A.ret ?_
        obtain rfl := some_inj hm
        exact A.fin W0 [] rfl (by kernel_rfl)
      refine A.cF rfl c4 ?_
      refine A.skip ?_
      show acode _ _ _ _ _
      refine A.R W0 [] [(1, hto (inc hx2 hb2))] [(2, .int .i64 ra2), (4, .ptr 5004 0), (7, .ptr 900000073 0), (8, .lst true (ml eGDatabase ([vx_2.1, vx_3.1, raw] : List GDatabase))), (9, .int .i64 i_1), (10, .int .i64 ((j2 + 1 : Nat) : Int))] [(5004, .cells 27 [.lst false (ml eGAdvert raw.Adverts)]), (900000073, .cells 73 [.lst false (ml eInt m_1), .int .i64 m_2])] (by kernel_rfl) ?_
      exact Exists.intro () (And.intro hm (Weak.go [] [] (by kernel_rfl)))
    rintro j2 ⟨⟩ hj2 hl2 hm
    rw [hK2] at hm
    refine A.seq ?_
    refine A.RS W0 [] [(2, hto (lnE eGDatabase ([vx_2.1, vx_3.1, raw] : List GDatabase)))] [(2, .int .i64 ra2), (4, .ptr 5004 0), (7, .ptr 900000073 0), (8, .lst true (ml eGDatabase ([vx_2.1, vx_3.1, raw] : List GDatabase))), (9, .int .i64 i_1), (10, .int .i64 (j2 : Int)), (50, .bool (decide ((j2 : Int) < (([vx_2.1, vx_3.1, raw] : List GDatabase).length:Int))))] [(5004, .cells 27 [.lst false (ml eGAdvert raw.Adverts)]), (900000073, .cells 73 [.lst false (ml eInt m_1), .int .i64 m_2])] (by kernel_rfl) ?_
    refine A.cF rfl (ltF hl2) ?_
    refine A.exit ?_
    show acode _ _ _ _ _
    obtain ⟨vx_9, h10, hm⟩ := bnd_some hm
    refine A.RS W0 [] [(2, hdc [] (m_mk_Tape_Range_ok h10) ck9)] [(2, .int .i64 ra2), (4, .ptr 5004 0), (7, .ptr 900000073 0), (8, .lst true (ml eGDatabase ([vx_2.1, vx_3.1, raw] : List GDatabase))), (9, .int .i64 i_1), (11, .lst true (ml eInt ([ra2, vx_9.1] : List Int)))] [(5004, .cells 27 [.lst false (ml eGAdvert raw.Adverts)]), (900000073, .cells 73 [.lst false (ml eInt vx_9.2.L), .int .i64 vx_9.2.At])] (by kernel_rfl) ?_
    refine A.RS W0 [] [] [(2, .int .i64 ra2), (4, .ptr 5004 0), (7, .ptr 900000073 0), (8, .lst true (ml eGDatabase ([vx_2.1, vx_3.1, raw] : List GDatabase))), (9, .int .i64 i_1), (11, .lst true (ml eInt ([ra2, vx_9.1] : List Int))), (12, .int .i64 (0:Int))] [(5004, .cells 27 [.lst false (ml eGAdvert raw.Adverts)]), (900000073, .cells 73 [.lst false (ml eInt vx_9.2.L), .int .i64 vx_9.2.At])] (by kernel_rfl) ?_
    refine A.block ?_
    obtain ⟨B3, K3, hB3, hK3, hm⟩ := forN_some hm
    refine A.lpN (hi := (2:Int)) (B := B3) (K := K3) hm rfl (fun j3 => fun sg => match sg with | () => [(2, .int .i64 ra2), (4, .ptr 5004 0), (7, .ptr 900000073 0), (8, .lst true (ml eGDatabase ([vx_2.1, vx_3.1, raw] : List GDatabase))), (9, .int .i64 i_1), (11, .lst true (ml eInt ([ra2, vx_9.1] : List Int))), (12, .int .i64 (j3 : Int))]) (fun j3 => fun sg => match sg with | () => [(5004, .cells 27 [.lst false (ml eGAdvert raw.Adverts)]), (900000073, .cells 73 [.lst false (ml eInt vx_9.2.L), .int .i64 vx_9.2.At])]) ?_ ?_ ?_
    · exact Weak.go [] [] (by kernel_rfl)
    · skip
      rintro j3 Z3 ⟨⟩ hj3 hx3 hm
      rw [hB3] at hm
      refine A.seq ?_
      refine A.RS W0 [] [] [(2, .int .i64 ra2), (4, .ptr 5004 0), (7, .ptr 900000073 0), (8, .lst true (ml eGDatabase ([vx_2.1, vx_3.1, raw] : List GDatabase))), (9, .int .i64 i_1), (11, .lst true (ml eInt ([ra2, vx_9.1] : List Int))), (12, .int .i64 (j3 : Int)), (77, .bool (decide ((j3 : Int) < (2:Int))))] [(5004, .cells 27 [.lst false (ml eGAdvert raw.Adverts)]), (900000073, .cells 73 [.lst false (ml eInt vx_9.2.L), .int .i64 vx_9.2.At])] (by kernel_rfl) ?_
      refine A.cT rfl (decide_eq_true hx3) ?_
      refine A.skip ?_
      show acode _ _ _ _ _
      refine A.seq ?_
      refine A.block ?_
      obtain ⟨e_2, h11, hm⟩ := bnd_some hm
      obtain ⟨vx_10, h12, hm⟩ := bnd_some hm
      refine A.RS W0 [] [(2, hix (ix eGDatabase h5)), (6, hix (ix eInt h11)), (8, hro (m_database_Find_ok h12) ck27), (12, .al 5013)] [(2, .int .i64 ra2), (4, .ptr 5004 0), (7, .ptr 900000073 0), (8, .lst true (ml eGDatabase ([vx_2.1, vx_3.1, raw] : List GDatabase))), (9, .int .i64 i_1), (11, .lst true (ml eInt ([ra2, vx_9.1] : List Int))), (12, .int .i64 (j3 : Int)), (13, .ptr 5013 0), (14, .bool vx_10.2)] [(5004, .cells 27 [.lst false (ml eGAdvert raw.Adverts)]), (900000073, .cells 73 [.lst false (ml eInt vx_9.2.L), .int .i64 vx_9.2.At]), (5013, .cells 38 [.int .i64 vx_10.1.Router, .int .i64 vx_10.1.Seq, .bool vx_10.1.Capable, .lst false (ml eGReach vx_10.1.Links), .lst false (ml eGClaim vx_10.1.Claims)])] (by kernel_rfl) ?_
      obtain ⟨vx_11, h13, hm⟩ := bnd_some hm
      refine A.RS W0 [] [(2, hix (ix eGDatabase h5)), (6, hix (ix eInt h11)), (8, hro (m_ref08_Find_ok h13) ck11), (12, .al 5015)] [(2, .int .i64 ra2), (4, .ptr 5004 0), (7, .ptr 900000073 0), (8, .lst true (ml eGDatabase ([vx_2.1, vx_3.1, raw] : List GDatabase))), (9, .int .i64 i_1), (11, .lst true (ml eInt ([ra2, vx_9.1] : List Int))), (12, .int .i64 (j3 : Int)), (13, .ptr 5013 0), (14, .bool vx_10.2), (15, .ptr 5015 0), (16, .bool vx_11.2)] [(5004, .cells 27 [.lst false (ml eGAdvert raw.Adverts)]), (900000073, .cells 73 [.lst false (ml eInt vx_9.2.L), .int .i64 vx_9.2.At]), (5013, .cells 38 [.int .i64 vx_10.1.Router, .int .i64 vx_10.1.Seq, .bool vx_10.1.Capable, .lst false (ml eGReach vx_10.1.Links), .lst false (ml eGClaim vx_10.1.Claims)]), (5015, .cells 38 [.int .i64 vx_11.1.Router, .int .i64 vx_11.1.Seq, .bool vx_11.1.Capable, .lst false (ml eGReach vx_11.1.Links), .lst false (ml eGClaim vx_11.1.Claims)])] (by kernel_rfl) ?_
      obtain ⟨J2, hJ2, hm⟩ := jn_some hm
      refine A.J (J := J2) (r := r) (fun v_2 => [(2, .int .i64 ra2), (4, .ptr 5004 0), (7, .ptr 900000073 0), (8, .lst true (ml eGDatabase ([vx_2.1, vx_3.1, raw] : List GDatabase))), (9, .int .i64 i_1), (11, .lst true (ml eInt ([ra2, vx_9.1] : List Int))), (12, .int .i64 (j3 : Int)), (112, .bool v_2)]) (fun v_2 => [(5004, .cells 27 [.lst false (ml eGAdvert raw.Adverts)]), (900000073, .cells 73 [.lst false (ml eInt vx_9.2.L), .int .i64 vx_9.2.At])]) ?_ ?_
      · skip
        obtain ⟨vx_12, h14, hm⟩ := bnd_some hm
        rcases cs_some hm with ⟨c5, hm⟩ | ⟨c5, hm⟩
        · skip
          refine A.R W0 [] [(2, hro (m_ref07_Same_ok h14) ck28), (4, hto (bE c5))] [(2, .int .i64 ra2), (4, .ptr 5004 0), (7, .ptr 900000073 0), (8, .lst true (ml eGDatabase ([vx_2.1, vx_3.1, raw] : List GDatabase))), (9, .int .i64 i_1), (11, .lst true (ml eInt ([ra2, vx_9.1] : List Int))), (12, .int .i64 (j3 : Int)), (112, .bool true)] [(5004, .cells 27 [.lst false (ml eGAdvert raw.Adverts)]), (900000073, .cells 73 [.lst false (ml eInt vx_9.2.L), .int .i64 vx_9.2.At])] (by kernel_rfl) ?_
          exact Exists.intro true (And.intro hm (Weak.go [] [] (by kernel_rfl)))
        refine A.R W0 [] [(2, hro (m_ref07_Same_ok h14) ck28), (4, hto (bE c5))] [(2, .int .i64 ra2), (4, .ptr 5004 0), (7, .ptr 900000073 0), (8, .lst true (ml eGDatabase ([vx_2.1, vx_3.1, raw] : List GDatabase))), (9, .int .i64 i_1), (11, .lst true (ml eInt ([ra2, vx_9.1] : List Int))), (12, .int .i64 (j3 : Int)), (112, .bool (!(vx_10.2 == vx_11.2)))] [(5004, .cells 27 [.lst false (ml eGAdvert raw.Adverts)]), (900000073, .cells 73 [.lst false (ml eInt vx_9.2.L), .int .i64 vx_9.2.At])] (by kernel_rfl) ?_
        exact Exists.intro (!(vx_10.2 == vx_11.2)) (And.intro hm (Weak.go [] [] (by kernel_rfl)))
      rintro v_2 hm
      rw [hJ2] at hm
      rcases cs_some hm with ⟨c6, hm⟩ | ⟨c6, hm⟩
      · skip
        refine A.cT rfl c6 ?_
        refine A.RS W0 [] [] [(6, .bool false)] [] (by kernel_rfl) ?_
        refine A.ret ?_
        obtain rfl := some_inj hm
        exact A.fin W0 [] rfl (by kernel_rfl)
      refine A.cF rfl c6 ?_
      refine A.skip ?_
      show acode _ _ _ _ _
      refine A.R W0 [] [(1, hto (incN (by omega) hx3 (by decide)))] [(2, .int .i64 ra2), (4, .ptr 5004 0), (7, .ptr 900000073 0), (8, .lst true (ml eGDatabase ([vx_2.1, vx_3.1, raw] : List GDatabase))), (9, .int .i64 i_1), (11, .lst true (ml eInt ([ra2, vx_9.1] : List Int))), (12, .int .i64 (j3 + 1 : Int))] [(5004, .cells 27 [.lst false (ml eGAdvert raw.Adverts)]), (900000073, .cells 73 [.lst false (ml eInt vx_9.2.L), .int .i64 vx_9.2.At])] (by kernel_rfl) ?_
      exact Exists.intro () (And.intro hm (Weak.go [] [] (by kernel_rfl)))
    rintro j3 ⟨⟩ hj3 hl3 hm
    rw [hK3] at hm
    refine A.seq ?_
    refine A.RS W0 [] [] [(2, .int .i64 ra2), (4, .ptr 5004 0), (7, .ptr 900000073 0), (8, .lst true (ml eGDatabase ([vx_2.1, vx_3.1, raw] : List GDatabase))), (9, .int .i64 i_1), (11, .lst true (ml eInt ([ra2, vx_9.1] : List Int))), (12, .int .i64 (j3 : Int)), (77, .bool (decide ((j3 : Int) < (2:Int))))] [(5004, .cells 27 [.lst false (ml eGAdvert raw.Adverts)]), (900000073, .cells 73 [.lst false (ml eInt vx_9.2.L), .int .i64 vx_9.2.At])] (by kernel_rfl) ?_
    refine A.cF rfl (geF hl3) ?_
    refine A.exit ?_
    show acode _ _ _ _ _
    refine A.R W0 [] [] [(2, .int .i64 ra2), (4, .ptr 5004 0), (7, .ptr 900000073 0), (8, .lst true (ml eGDatabase ([vx_2.1, vx_3.1, raw] : List GDatabase))), (9, .int .i64 (w64 (i_1 + (1:Int))))] [(5004, .cells 27 [.lst false (ml eGAdvert raw.Adverts)]), (900000073, .cells 73 [.lst false (ml eInt vx_9.2.L), .int .i64 vx_9.2.At])] (by kernel_rfl) ?_
    exact Exists.intro (w64 (i_1 + (1:Int)), vx_9.2.L, vx_9.2.At) (And.intro hm (Weak.go [] [] (by kernel_rfl)))
  refine A.cF rfl c2 ?_
  refine A.exit ?_
  show acode _ _ _ _ _
  obtain ⟨vx_13, h15, hm⟩ := bnd_some hm
  refine A.RS W0 [] [(0, hro (m_law08_awake_ok h15) ck17)] [(6, .bool vx_13)] [] (by kernel_rfl) ?_
  refine A.ret ?_
  obtain rfl := some_inj hm
  exact A.fin W0 [] rfl (by kernel_rfl)
end Go.Proofs.Ytjckghpceekieaa
