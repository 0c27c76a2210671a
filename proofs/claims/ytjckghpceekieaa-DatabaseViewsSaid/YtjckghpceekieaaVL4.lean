/- The walks of functions of the program. No condition but those that stand in each. -/
import Derived.Test.YtjckghpceekieaaDL4
import Derived.Test.YtjckghpceekieaaV8
import Derived.Test.YtjckghpceekieaaVT
import Derived.Test.YtjckghpceekieaaVL
namespace Go.Proofs.Ytjckghpceekieaa
open Go
set_option maxRecDepth 100000
set_option linter.all false
theorem m_law08_DatabaseViews_ok {t : List Int} {raw : GDatabase} {ra2 : Int} {r : Bool} (hm : m_law08_DatabaseViews t raw ra2 = some r) : RO Try.prog 4 [] [.lst false (ml eInt t), .agg [.lst false (ml eGAdvert raw.Adverts)], .int .i64 ra2] (.bool r) := by
  refine enterA Try.func4 rfl rfl ?_
  unfold m_law08_DatabaseViews at hm
  refine A.RS W0 [] [(0, .al 4004)] [(0, .lst false (ml eInt t)), (2, .int .i64 ra2), (4, .ptr 4004 0)] [(4004, .cells 27 [.lst false (ml eGAdvert raw.Adverts)])] (by kernel_rfl) ?_
  obtain ⟨vx_1, h1, hm⟩ := bnd_some hm
  refine A.RS W0 [] [(1, hdc [900000073] (m_mk_New_ok h1) ck7)] [(2, .int .i64 ra2), (4, .ptr 4004 0), (7, .ptr 900000073 0)] [(4004, .cells 27 [.lst false (ml eGAdvert raw.Adverts)]), (900000073, .cells 73 [.lst false (ml eInt vx_1.L), .int .i64 vx_1.At])] (by kernel_rfl) ?_
  obtain ⟨vx_2, h2, hm⟩ := bnd_some hm
  obtain ⟨vx_3, h3, hm⟩ := bnd_some hm
  refine A.RS W0 [] [(1, hdc [] (m_mk_Tape_Database_ok h2) ck8), (3, hdc [] (m_mk_Tape_Database_ok h3) ck8)] [(2, .int .i64 ra2), (4, .ptr 4004 0), (7, .ptr 900000073 0), (8, .lst true (ml eGDatabase ([vx_2.1, vx_3.1, raw] : List GDatabase)))] [(4004, .cells 27 [.lst false (ml eGAdvert raw.Adverts)]), (900000073, .cells 73 [.lst false (ml eInt vx_3.2.L), .int .i64 vx_3.2.At])] (by kernel_rfl) ?_
  refine A.seq ?_
  refine A.RS W0 [] [] [(2, .int .i64 ra2), (4, .ptr 4004 0), (7, .ptr 900000073 0), (8, .lst true (ml eGDatabase ([vx_2.1, vx_3.1, raw] : List GDatabase))), (9, .int .i64 (0:Int))] [(4004, .cells 27 [.lst false (ml eGAdvert raw.Adverts)]), (900000073, .cells 73 [.lst false (ml eInt vx_3.2.L), .int .i64 vx_3.2.At])] (by kernel_rfl) ?_
  refine A.block ?_
  obtain ⟨F1, n1, hF1, hm⟩ := whl_some hm
  refine A.lpW (F := F1) hm (fun sg => match sg with | (i_1, m_1, m_2) => [(2, .int .i64 ra2), (4, .ptr 4004 0), (7, .ptr 900000073 0), (8, .lst true (ml eGDatabase ([vx_2.1, vx_3.1, raw] : List GDatabase))), (9, .int .i64 i_1)]) (fun sg => match sg with | (i_1, m_1, m_2) => [(4004, .cells 27 [.lst false (ml eGAdvert raw.Adverts)]), (900000073, .cells 73 [.lst false (ml eInt m_1), .int .i64 m_2])]) ?_ ?_
  · exact Weak.go [] [] (by kernel_rfl)
  rintro Z1 ⟨i_1, m_1, m_2⟩ hm
  rw [hF1] at hm
  refine A.seq ?_
  obtain ⟨J1, hJ1, hm⟩ := jn_some hm
  refine A.J (J := J1) (r := r) (fun v_1 => [(2, .int .i64 ra2), (4, .ptr 4004 0), (7, .ptr 900000073 0), (8, .lst true (ml eGDatabase ([vx_2.1, vx_3.1, raw] : List GDatabase))), (9, .int .i64 i_1), (30, .bool v_1)]) (fun v_1 => [(4004, .cells 27 [.lst false (ml eGAdvert raw.Adverts)]), (900000073, .cells 73 [.lst false (ml eInt m_1), .int .i64 m_2])]) ?_ ?_
  · skip
    rcases cs_some hm with ⟨c1, hm⟩ | ⟨c1, hm⟩
    · skip
      obtain ⟨vx_4, h4, hm⟩ := bnd_some hm
      refine A.R W0 [] [(2, hto (lnE eGDatabase ([vx_2.1, vx_3.1, raw] : List GDatabase))), (4, hto (bE c1)), (6, hro (m_law08_big_ok h4) ck18)] [(2, .int .i64 ra2), (4, .ptr 4004 0), (7, .ptr 900000073 0), (8, .lst true (ml eGDatabase ([vx_2.1, vx_3.1, raw] : List GDatabase))), (9, .int .i64 i_1), (30, .bool (!vx_4))] [(4004, .cells 27 [.lst false (ml eGAdvert raw.Adverts)]), (900000073, .cells 73 [.lst false (ml eInt m_1), .int .i64 m_2])] (by kernel_rfl) ?_
      exact Exists.intro (!vx_4) (And.intro hm (Weak.go [] [] (by kernel_rfl)))
    refine A.R W0 [] [(2, hto (lnE eGDatabase ([vx_2.1, vx_3.1, raw] : List GDatabase))), (4, hto (bE c1))] [(2, .int .i64 ra2), (4, .ptr 4004 0), (7, .ptr 900000073 0), (8, .lst true (ml eGDatabase ([vx_2.1, vx_3.1, raw] : List GDatabase))), (9, .int .i64 i_1), (30, .bool false)] [(4004, .cells 27 [.lst false (ml eGAdvert raw.Adverts)]), (900000073, .cells 73 [.lst false (ml eInt m_1), .int .i64 m_2])] (by kernel_rfl) ?_
    exact Exists.intro false (And.intro hm (Weak.go [] [] (by kernel_rfl)))
  rintro v_1 hm
  rw [hJ1] at hm
  rcases cs_some hm with ⟨c2, hm⟩ | ⟨c2, hm⟩
  · skip
    refine A.cT rfl c2 ?_
    refine A.skip ?_
    show acode _ _ _ _ _
    refine A.seq ?_
    refine A.block ?_
    obtain ⟨vx_5, h5, hm⟩ := bnd_some hm
    refine A.RS W0 [] [(1, hdc [] (m_mk_Tape_Range_ok h5) ck9)] [(2, .int .i64 ra2), (4, .ptr 4004 0), (7, .ptr 900000073 0), (8, .lst true (ml eGDatabase ([vx_2.1, vx_3.1, raw] : List GDatabase))), (9, .int .i64 i_1), (10, .int .i64 vx_5.1)] [(4004, .cells 27 [.lst false (ml eGAdvert raw.Adverts)]), (900000073, .cells 73 [.lst false (ml eInt vx_5.2.L), .int .i64 vx_5.2.At])] (by kernel_rfl) ?_
    obtain ⟨J2, hJ2, hm⟩ := jn_some hm
    refine A.J (J := J2) (r := r) (fun sg => match sg with | (vat_1, m_3, m_4) => [(2, .int .i64 ra2), (4, .ptr 4004 0), (7, .ptr 900000073 0), (8, .lst true (ml eGDatabase ([vx_2.1, vx_3.1, raw] : List GDatabase))), (9, .int .i64 i_1), (10, .int .i64 vat_1)]) (fun sg => match sg with | (vat_1, m_3, m_4) => [(4004, .cells 27 [.lst false (ml eGAdvert raw.Adverts)]), (900000073, .cells 73 [.lst false (ml eInt m_3), .int .i64 m_4])]) ?_ ?_
    · skip
      obtain ⟨vx_6, h6, hm⟩ := bnd_some hm
      refine A.RS W0 [] [(1, hdc [] (m_mk_Tape_One_ok h6) ck19)] [(2, .int .i64 ra2), (4, .ptr 4004 0), (7, .ptr 900000073 0), (8, .lst true (ml eGDatabase ([vx_2.1, vx_3.1, raw] : List GDatabase))), (9, .int .i64 i_1), (10, .int .i64 vx_5.1), (36, .bool vx_6.1)] [(4004, .cells 27 [.lst false (ml eGAdvert raw.Adverts)]), (900000073, .cells 73 [.lst false (ml eInt vx_6.2.L), .int .i64 vx_6.2.At])] (by kernel_rfl) ?_
      rcases cs_some hm with ⟨c3, hm⟩ | ⟨c3, hm⟩
      · skip
        refine A.cT rfl c3 ?_
        refine A.R W0 [] [] [(2, .int .i64 ra2), (4, .ptr 4004 0), (7, .ptr 900000073 0), (8, .lst true (ml eGDatabase ([vx_2.1, vx_3.1, raw] : List GDatabase))), (9, .int .i64 i_1), (10, .int .i64 ra2)] [(4004, .cells 27 [.lst false (ml eGAdvert raw.Adverts)]), (900000073, .cells 73 [.lst false (ml eInt vx_6.2.L), .int .i64 vx_6.2.At])] (by kernel_rfl) ?_
        exact Exists.intro (ra2, vx_6.2.L, vx_6.2.At) (And.intro hm (Weak.go [] [] (by kernel_rfl)))
      refine A.cF rfl c3 ?_
      refine A.skip ?_
      exact Exists.intro (vx_5.1, vx_6.2.L, vx_6.2.At) (And.intro hm (Weak.go [] [] (by kernel_rfl)))
    rintro ⟨vat_1, m_3, m_4⟩ hm
    rw [hJ2] at hm
    obtain ⟨e_1, h7, hm⟩ := bnd_some hm
    obtain ⟨vx_7, h8, hm⟩ := bnd_some hm
    obtain ⟨vx_8, h9, hm⟩ := bnd_some hm
    refine A.RS W0 [] [(2, hix (ix eGDatabase h7)), (5, hro (m_database_Claims_ok h8) ck20), (8, hix (ix eGDatabase h7)), (11, hro (m_ref08_Claims_ok h9) ck21)] [(2, .int .i64 ra2), (4, .ptr 4004 0), (7, .ptr 900000073 0), (8, .lst true (ml eGDatabase ([vx_2.1, vx_3.1, raw] : List GDatabase))), (9, .int .i64 i_1), (10, .int .i64 vat_1), (11, .lst false (ml eGOwned vx_7)), (12, .lst false (ml eGOwned vx_8))] [(4004, .cells 27 [.lst false (ml eGAdvert raw.Adverts)]), (900000073, .cells 73 [.lst false (ml eInt m_3), .int .i64 m_4])] (by kernel_rfl) ?_
    refine A.seq ?_
    obtain ⟨J3, hJ3, hm⟩ := jn_some hm
    refine A.J (J := J3) (r := r) (fun v_2 => [(2, .int .i64 ra2), (4, .ptr 4004 0), (7, .ptr 900000073 0), (8, .lst true (ml eGDatabase ([vx_2.1, vx_3.1, raw] : List GDatabase))), (9, .int .i64 i_1), (11, .lst false (ml eGOwned vx_7)), (12, .lst false (ml eGOwned vx_8)), (70, .bool v_2)]) (fun v_2 => [(4004, .cells 27 [.lst false (ml eGAdvert raw.Adverts)]), (900000073, .cells 73 [.lst false (ml eInt m_3), .int .i64 m_4])]) ?_ ?_
    · skip
      obtain ⟨vx_9, h10, hm⟩ := bnd_some hm
      obtain ⟨vx_10, h11, hm⟩ := bnd_some hm
      obtain ⟨vx_11, h12, hm⟩ := bnd_some hm
      rcases cs_some hm with ⟨c4, hm⟩ | ⟨c4, hm⟩
      · skip
        refine A.R W0 [] [(2, hix (ix eGDatabase h7)), (5, hro (m_database_View_ok h10) ck10), (8, hix (ix eGDatabase h7)), (11, hro (m_ref08_View_ok h11) ck22), (12, hro (m_ref05_Same_ok h12) ck15), (14, hto (bE c4))] [(2, .int .i64 ra2), (4, .ptr 4004 0), (7, .ptr 900000073 0), (8, .lst true (ml eGDatabase ([vx_2.1, vx_3.1, raw] : List GDatabase))), (9, .int .i64 i_1), (11, .lst false (ml eGOwned vx_7)), (12, .lst false (ml eGOwned vx_8)), (70, .bool true)] [(4004, .cells 27 [.lst false (ml eGAdvert raw.Adverts)]), (900000073, .cells 73 [.lst false (ml eInt m_3), .int .i64 m_4])] (by kernel_rfl) ?_
        exact Exists.intro true (And.intro hm (Weak.go [] [] (by kernel_rfl)))
      refine A.R W0 [] [(2, hix (ix eGDatabase h7)), (5, hro (m_database_View_ok h10) ck10), (8, hix (ix eGDatabase h7)), (11, hro (m_ref08_View_ok h11) ck22), (12, hro (m_ref05_Same_ok h12) ck15), (14, hto (bE c4)), (16, hto (lnE eGOwned vx_7)), (18, hto (lnE eGOwned vx_8))] [(2, .int .i64 ra2), (4, .ptr 4004 0), (7, .ptr 900000073 0), (8, .lst true (ml eGDatabase ([vx_2.1, vx_3.1, raw] : List GDatabase))), (9, .int .i64 i_1), (11, .lst false (ml eGOwned vx_7)), (12, .lst false (ml eGOwned vx_8)), (70, .bool (!decide ((vx_7.length:Int) = (vx_8.length:Int))))] [(4004, .cells 27 [.lst false (ml eGAdvert raw.Adverts)]), (900000073, .cells 73 [.lst false (ml eInt m_3), .int .i64 m_4])] (by kernel_rfl) ?_
      exact Exists.intro (!decide ((vx_7.length:Int) = (vx_8.length:Int))) (And.intro hm (Weak.go [] [] (by kernel_rfl)))
    rintro v_2 hm
    rw [hJ3] at hm
    rcases cs_some hm with ⟨c5, hm⟩ | ⟨c5, hm⟩
    · skip
      refine A.cT rfl c5 ?_
      refine A.RS W0 [] [] [(6, .bool false)] [] (by kernel_rfl) ?_
      refine A.ret ?_
      obtain rfl := some_inj hm
      exact A.fin W0 [] rfl (by kernel_rfl)
    refine A.cF rfl c5 ?_
    refine A.skip ?_
    show acode _ _ _ _ _
    refine A.RS W0 [] [] [(2, .int .i64 ra2), (4, .ptr 4004 0), (7, .ptr 900000073 0), (8, .lst true (ml eGDatabase ([vx_2.1, vx_3.1, raw] : List GDatabase))), (9, .int .i64 i_1), (11, .lst false (ml eGOwned vx_7)), (12, .lst false (ml eGOwned vx_8)), (13, .int .i64 (0:Int))] [(4004, .cells 27 [.lst false (ml eGAdvert raw.Adverts)]), (900000073, .cells 73 [.lst false (ml eInt m_3), .int .i64 m_4])] (by kernel_rfl) ?_
    refine A.block ?_
    refine A.bS 11 rfl fun hb2 => ?_
    obtain ⟨B2, K2, hB2, hK2, hm⟩ := forI_some hm
    refine A.lpI (l := vx_7) (j0 := 0) (B := B2) (K := K2) hm (fun j2 => fun sg => match sg with | () => [(2, .int .i64 ra2), (4, .ptr 4004 0), (7, .ptr 900000073 0), (8, .lst true (ml eGDatabase ([vx_2.1, vx_3.1, raw] : List GDatabase))), (9, .int .i64 i_1), (11, .lst false (ml eGOwned vx_7)), (12, .lst false (ml eGOwned vx_8)), (13, .int .i64 (j2 : Int))]) (fun j2 => fun sg => match sg with | () => [(4004, .cells 27 [.lst false (ml eGAdvert raw.Adverts)]), (900000073, .cells 73 [.lst false (ml eInt m_3), .int .i64 m_4])]) ?_ ?_ ?_
    · exact Weak.go [] [] (by kernel_rfl)
    · skip
      rintro j2 e2 Z2 ⟨⟩ hj2 hx2 hm
      rw [hB2] at hm
      refine A.seq ?_
      refine A.RS W0 [] [(2, hto (lnE eGOwned vx_7))] [(2, .int .i64 ra2), (4, .ptr 4004 0), (7, .ptr 900000073 0), (8, .lst true (ml eGDatabase ([vx_2.1, vx_3.1, raw] : List GDatabase))), (9, .int .i64 i_1), (11, .lst false (ml eGOwned vx_7)), (12, .lst false (ml eGOwned vx_8)), (13, .int .i64 (j2 : Int)), (74, .bool (decide ((j2 : Int) < (vx_7.length:Int))))] [(4004, .cells 27 [.lst false (ml eGAdvert raw.Adverts)]), (900000073, .cells 73 [.lst false (ml eInt m_3), .int .i64 m_4])] (by kernel_rfl) ?_
      refine A.cT rfl (ltT hx2) ?_
      refine A.skip ?_
      show acode _ _ _ _ _
      refine A.seq ?_
      refine A.block ?_
      obtain ⟨e_2, h13, hm⟩ := bnd_some hm
      refine A.RS W0 [] [(2, hix (ix eGOwned (elO_nat hx2))), (6, hix (ix eGOwned h13)), (8, .sq true 64 (.agg [.int .i64 e2.Router, .int .i64 e2.Claim.Subdomain, .int .i64 e2.Claim.ID, .int .i64 e2.Claim.Length]) (.agg [.int .i64 e_2.Router, .int .i64 e_2.Claim.Subdomain, .int .i64 e_2.Claim.ID, .int .i64 e_2.Claim.Length]) (!(eqGOwned e2 e_2)) (fun x y w => eq64_neq x y _ _ _ _ _ _ _ _ w))] [(2, .int .i64 ra2), (4, .ptr 4004 0), (7, .ptr 900000073 0), (8, .lst true (ml eGDatabase ([vx_2.1, vx_3.1, raw] : List GDatabase))), (9, .int .i64 i_1), (11, .lst false (ml eGOwned vx_7)), (12, .lst false (ml eGOwned vx_8)), (13, .int .i64 (j2 : Int)), (85, .bool (!(eqGOwned e2 e_2)))] [(4004, .cells 27 [.lst false (ml eGAdvert raw.Adverts)]), (900000073, .cells 73 [.lst false (ml eInt m_3), .int .i64 m_4])] (by kernel_rfl) ?_
      rcases cs_some hm with ⟨c6, hm⟩ | ⟨c6, hm⟩
      · skip
        refine A.cT rfl c6 ?_
        refine A.RS W0 [] [] [(6, .bool false)] [] (by kernel_rfl) ?_
        refine A.ret ?_
        obtain rfl := some_inj hm
        exact A.fin W0 [] rfl (by kernel_rfl)
      refine A.cF rfl c6 ?_
      refine A.skip ?_
      show acode _ _ _ _ _
      refine A.R W0 [] [(1, hto (inc hx2 hb2))] [(2, .int .i64 ra2), (4, .ptr 4004 0), (7, .ptr 900000073 0), (8, .lst true (ml eGDatabase ([vx_2.1, vx_3.1, raw] : List GDatabase))), (9, .int .i64 i_1), (11, .lst false (ml eGOwned vx_7)), (12, .lst false (ml eGOwned vx_8)), (13, .int .i64 ((j2 + 1 : Nat) : Int))] [(4004, .cells 27 [.lst false (ml eGAdvert raw.Adverts)]), (900000073, .cells 73 [.lst false (ml eInt m_3), .int .i64 m_4])] (by kernel_rfl) ?_
      exact Exists.intro () (And.intro hm (Weak.go [] [] (by kernel_rfl)))
    rintro j2 ⟨⟩ hj2 hl2 hm
    rw [hK2] at hm
    refine A.seq ?_
    refine A.RS W0 [] [(2, hto (lnE eGOwned vx_7))] [(2, .int .i64 ra2), (4, .ptr 4004 0), (7, .ptr 900000073 0), (8, .lst true (ml eGDatabase ([vx_2.1, vx_3.1, raw] : List GDatabase))), (9, .int .i64 i_1), (11, .lst false (ml eGOwned vx_7)), (12, .lst false (ml eGOwned vx_8)), (13, .int .i64 (j2 : Int)), (74, .bool (decide ((j2 : Int) < (vx_7.length:Int))))] [(4004, .cells 27 [.lst false (ml eGAdvert raw.Adverts)]), (900000073, .cells 73 [.lst false (ml eInt m_3), .int .i64 m_4])] (by kernel_rfl) ?_
    refine A.cF rfl (ltF hl2) ?_
    refine A.exit ?_
    show acode _ _ _ _ _
    refine A.R W0 [] [] [(2, .int .i64 ra2), (4, .ptr 4004 0), (7, .ptr 900000073 0), (8, .lst true (ml eGDatabase ([vx_2.1, vx_3.1, raw] : List GDatabase))), (9, .int .i64 (w64 (i_1 + (1:Int))))] [(4004, .cells 27 [.lst false (ml eGAdvert raw.Adverts)]), (900000073, .cells 73 [.lst false (ml eInt m_3), .int .i64 m_4])] (by kernel_rfl) ?_
    exact Exists.intro (w64 (i_1 + (1:Int)), m_3, m_4) (And.intro hm (Weak.go [] [] (by kernel_rfl)))
  refine A.cF rfl c2 ?_
  refine A.exit ?_
  show acode _ _ _ _ _
  obtain ⟨vx_12, h14, hm⟩ := bnd_some hm
  refine A.RS W0 [] [(0, hro (m_law08_awake_ok h14) ck17)] [(6, .bool vx_12)] [] (by kernel_rfl) ?_
  refine A.ret ?_
  obtain rfl := some_inj hm
  exact A.fin W0 [] rfl (by kernel_rfl)
end Go.Proofs.Ytjckghpceekieaa
