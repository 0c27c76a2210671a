/- The walks of functions of the program. No condition but those that stand in each. -/
import Derived.Test.YtmcjffllahcclaaGreatDA
import Derived.Test.YtmcjffllahcclaaGreatVE
import Derived.Test.YtmcjffllahcclaaGreatIN
namespace Go.Proofs.YtmcjffllahcclaaGreat
open Go
set_option maxRecDepth 100000
set_option linter.all false
theorem m_database_put_1_ok {xa0 : GAdvert} {router : Int} {r : Int} (hm : m_database_put_1 xa0 router = some r) : RO Tryz.prog 67 [] [.agg [.int .i64 xa0.Router, .int .i64 xa0.Seq, .bool xa0.Capable, .lst false (ml eGReach xa0.Links), .lst false (ml eGClaim xa0.Claims)], .int .i64 router] (.int .i64 r) := by
  refine enterA Tryz.func67 rfl rfl ?_
  unfold m_database_put_1 at hm
  refine A.RS W0 [] [(0, .al 67002)] [(1, .int .i64 router), (2, .ptr 67002 0)] [(67002, .cells 29 [.int .i64 xa0.Router, .int .i64 xa0.Seq, .bool xa0.Capable, .lst false (ml eGReach xa0.Links), .lst false (ml eGClaim xa0.Claims)])] (by kernel_rfl) ?_
  obtain ⟨vx_1, h1, hm⟩ := bnd_some hm
  refine A.RS W0 [] [(3, hro (m_cmp_Compare_int_ok h1) ck54)] [(4, .int .i64 vx_1)] [] (by kernel_rfl) ?_
  refine A.ret ?_
  obtain rfl := some_inj hm
  exact A.fin W0 [] rfl (by kernel_rfl)
theorem m_database_clone_ok {d : GDatabase} {r : GDatabase} (hm : m_database_clone d = some r) : SCalls Tryz.prog 36 [] [.agg [.lst false (ml eGAdvert d.Adverts)]] (fun a σ' => a = .agg [.own 500003600] ∧ σ' = [(500003600, .slice 29 5 (ml eGAdvert r.Adverts) 0 false)]) := by
  refine enterA Tryz.func36 rfl rfl ?_
  unfold m_database_clone at hm
  refine A.RS W0 [] [(0, .al 36001), (1, .al 36002)] [(1, .ptr 36001 0), (2, .ptr 36002 0)] [(36001, .cells 25 [.lst false (ml eGAdvert d.Adverts)]), (36002, .cells 25 [.nils])] (by kernel_rfl) ?_
  refine A.RS W0 [] [(0, .al 36003)] [(1, .ptr 36001 0), (2, .ptr 36002 0), (3, .ptr 36003 0)] [(36001, .cells 25 [.lst false (ml eGAdvert d.Adverts)]), (36002, .cells 25 [.nils]), (36003, .cells 25 [.nils])] (by kernel_rfl) ?_
  refine A.seq ?_
  refine A.RS W0 [] [(2, hto (lnE eGAdvert d.Adverts))] [(2, .ptr 36002 0), (3, .ptr 36003 0), (7, .lst false (ml eGAdvert d.Adverts)), (8, .int .i64 (d.Adverts.length:Int)), (9, .int .i64 (0:Int))] [(36002, .cells 25 [.nils]), (36003, .cells 25 [.nils])] (by kernel_rfl) ?_
  refine A.block ?_
  refine A.bS 7 rfl fun hb1 => ?_
  obtain ⟨B1, K1, hB1, hK1, hm⟩ := forI_some hm
  refine A.lpI (l := d.Adverts) (j0 := 0) (B := B1) (K := K1) hm (fun j1 => fun m_1 => [(2, .ptr 36002 0), (3, .ptr 36003 0), (7, .lst false (ml eGAdvert d.Adverts)), (8, .int .i64 (d.Adverts.length:Int)), (9, .int .i64 (j1 : Int))]) (fun j1 => fun m_1 => [(36002, .cells 25 [.nils]), (36003, .cells 25 [.own 703600300]), (703600300, .slice 29 5 (ml eGAdvert m_1) 0 false)]) ?_ ?_ ?_
  · exact Weak.go [.ac 36003 703600300 29 5 0] [] (by kernel_rfl)
  · skip
    rintro j1 e1 Z1 m_1 hj1 hx1 hm
    rw [hB1] at hm
    refine A.RS W0 [] [] [(2, .ptr 36002 0), (3, .ptr 36003 0), (7, .lst false (ml eGAdvert d.Adverts)), (8, .int .i64 (d.Adverts.length:Int)), (9, .int .i64 (j1 : Int)), (10, .bool (decide ((j1 : Int) < (d.Adverts.length:Int))))] [(36002, .cells 25 [.nils]), (36003, .cells 25 [.own 703600300]), (703600300, .slice 29 5 (ml eGAdvert m_1) 0 false)] (by kernel_rfl) ?_
    refine A.seq ?_
    refine A.cT rfl (ltT hx1) ?_
    refine A.skip ?_
    show acode _ _ _ _ _
    refine A.seq ?_
    refine A.block ?_
    refine A.RS W0 [] [(0, hix (ix eGAdvert (elO_nat hx1))), (2, .al 36005)] [(2, .ptr 36002 0), (3, .ptr 36003 0), (7, .lst false (ml eGAdvert d.Adverts)), (8, .int .i64 (d.Adverts.length:Int)), (9, .int .i64 (j1 : Int)), (5, .ptr 36005 0)] [(36002, .cells 25 [.nils]), (36003, .cells 25 [.own 703600300]), (703600300, .slice 29 5 (ml eGAdvert m_1) 0 false), (36005, .cells 29 [.int .i64 e1.Router, .int .i64 e1.Seq, .bool e1.Capable, .lst false (ml eGReach e1.Links), .lst false (ml eGClaim e1.Claims)])] (by kernel_rfl) ?_
    obtain ⟨vx_1, h1, hm⟩ := bnd_some hm
    obtain ⟨l_1, h2, hm⟩ := bnd_some hm
    refine A.R W0 [] [(3, hro (m_database_copied_ok h1) ck60), (5, hap 36518 (ap eGAdvert (bytes := 72) (by decide) h2))] [(2, .ptr 36002 0), (3, .ptr 36003 0), (7, .lst false (ml eGAdvert d.Adverts)), (8, .int .i64 (d.Adverts.length:Int)), (9, .int .i64 (j1 : Int))] [(36002, .cells 25 [.nils]), (36003, .cells 25 [.own 36518]), (36518, .slice 29 5 (ml eGAdvert l_1) 0 false)] (by kernel_rfl) ?_
    show acode _ _ _ _ _
    refine A.R W0 [] [(0, hto (inc hx1 hb1))] [(2, .ptr 36002 0), (3, .ptr 36003 0), (7, .lst false (ml eGAdvert d.Adverts)), (8, .int .i64 (d.Adverts.length:Int)), (9, .int .i64 ((j1 + 1 : Nat) : Int))] [(36002, .cells 25 [.nils]), (36003, .cells 25 [.own 36518]), (36518, .slice 29 5 (ml eGAdvert l_1) 0 false)] (by kernel_rfl) ?_
    exact Exists.intro l_1 (And.intro hm (Weak.go [.sw 36518 703600300] [] (by kernel_rfl)))
  rintro j1 m_1 hj1 hl1 hm
  rw [hK1] at hm
  refine A.RS W0 [] [] [(2, .ptr 36002 0), (3, .ptr 36003 0), (7, .lst false (ml eGAdvert d.Adverts)), (8, .int .i64 (d.Adverts.length:Int)), (9, .int .i64 (j1 : Int)), (10, .bool (decide ((j1 : Int) < (d.Adverts.length:Int))))] [(36002, .cells 25 [.nils]), (36003, .cells 25 [.own 703600300]), (703600300, .slice 29 5 (ml eGAdvert m_1) 0 false)] (by kernel_rfl) ?_
  refine A.seq ?_
  refine A.cF rfl (ltF hl1) ?_
  refine A.exit ?_
  show acode _ _ _ _ _
  refine A.RS W0 [] [] [(2, .ptr 36002 0)] [(36002, .cells 25 [.own 703600300]), (703600300, .slice 29 5 (ml eGAdvert m_1) 0 false)] (by kernel_rfl) ?_
  refine A.ret ?_
  obtain rfl := some_inj hm
  exact A.fin W0 [.sw 703600300 500003600] rfl (by kernel_rfl)
theorem m_database_put_ok {d : GDatabase} {a : GAdvert} {r : Bool × GDatabase} (hm : m_database_put d a = some r) : SCalls Tryz.prog 38 [(505003800, .slice 29 5 (ml eGAdvert d.Adverts) 0 false), (900000025, .cells 25 [.own 505003800])] [.ptr 900000025 0, .agg [.int .i64 a.Router, .int .i64 a.Seq, .bool a.Capable, .lst false (ml eGReach a.Links), .lst false (ml eGClaim a.Claims)]] (fun a σ' => a = .bool r.1 ∧ σ' = [(900000025, .cells 25 [.own 505003801]), (505003801, .slice 29 5 (ml eGAdvert r.2.Adverts) 0 false)]) := by
  refine enterA Tryz.func38 rfl rfl ?_
  unfold m_database_put at hm
  refine A.RS W0 [] [(0, .al 38003)] [(0, .ptr 900000025 0), (3, .ptr 38003 0)] [(505003800, .slice 29 5 (ml eGAdvert d.Adverts) 0 false), (900000025, .cells 25 [.own 505003800]), (38003, .cells 29 [.int .i64 a.Router, .int .i64 a.Seq, .bool a.Capable, .lst false (ml eGReach a.Links), .lst false (ml eGClaim a.Claims)])] (by kernel_rfl) ?_
  obtain ⟨vx_1, h1, hm⟩ := bnd_some hm
  refine A.RS W0 [] [(6, hle [505003800] (m_slices_BinarySearchFunc_Lapi_Advert_api_Advert_int_ok (cmp_g := 67) (cmp_c := []) (cmp_k := ck67) (cmp_f := fun _ _ _ h => m_database_put_1_ok h) h1) ck66)] [(0, .ptr 900000025 0), (3, .ptr 38003 0), (5, .int .i64 vx_1.1), (6, .bool vx_1.2)] [(505003800, .slice 29 5 (ml eGAdvert d.Adverts) 0 false), (900000025, .cells 25 [.own 505003800]), (38003, .cells 29 [.int .i64 a.Router, .int .i64 a.Seq, .bool a.Capable, .lst false (ml eGReach a.Links), .lst false (ml eGClaim a.Claims)])] (by kernel_rfl) ?_
  obtain ⟨J1, hJ1, hm⟩ := jn_some hm
  refine A.J (J := J1) (r := r) (fun m_1 => []) (fun m_1 => [(900000025, .cells 25 [.own 700002500]), (700002500, .slice 29 5 (ml eGAdvert m_1) 0 false)]) ?_ ?_
  · skip
    refine A.block ?_
    refine A.RS W0 [] [] [(0, .ptr 900000025 0), (3, .ptr 38003 0), (5, .int .i64 vx_1.1), (17, .bool (!vx_1.2))] [(505003800, .slice 29 5 (ml eGAdvert d.Adverts) 0 false), (900000025, .cells 25 [.own 505003800]), (38003, .cells 29 [.int .i64 a.Router, .int .i64 a.Seq, .bool a.Capable, .lst false (ml eGReach a.Links), .lst false (ml eGClaim a.Claims)])] (by kernel_rfl) ?_
    rcases cs_some hm with ⟨c1, hm⟩ | ⟨c1, hm⟩
    · skip
      refine A.cT rfl c1 ?_
      obtain ⟨vx_2, h2, hm⟩ := bnd_some hm
      obtain ⟨l_1, h3, hm⟩ := bnd_some hm
      refine A.R W0 [] [(7, hro (m_database_copied_ok h2) ck60), (8, .al 38028), (9, hdc [520038001] (insown68 (d := 505003800) (d2 := 38028) (D := 520038001) h3 (by decide) (by decide)) ck68)] [] [(900000025, .cells 25 [.own 520038001]), (520038001, .slice 29 5 (ml eGAdvert l_1) 0 false)] (by kernel_rfl) ?_
      exact Exists.intro l_1 (And.intro hm (Weak.go [.sw 520038001 700002500] [] (by kernel_rfl)))
    refine A.cF rfl c1 ?_
    obtain ⟨e_1, h4, hm⟩ := bnd_some hm
    obtain ⟨vx_3, h5, hm⟩ := bnd_some hm
    refine A.RS W0 [] [(6, hix (ix eGAdvert h4)), (7, hlo 505003800 0 (ix eGAdvert h4)), (8, hro (m_advert_Newer_ok h5) ck69)] [(0, .ptr 900000025 0), (3, .ptr 38003 0), (5, .int .i64 vx_1.1), (32, .bool vx_3)] [(505003800, .slice 29 5 (ml eGAdvert d.Adverts) 0 false), (900000025, .cells 25 [.own 505003800]), (38003, .cells 29 [.int .i64 a.Router, .int .i64 a.Seq, .bool a.Capable, .lst false (ml eGReach a.Links), .lst false (ml eGClaim a.Claims)])] (by kernel_rfl) ?_
    rcases cs_some hm with ⟨c2, hm⟩ | ⟨c2, hm⟩
    · skip
      refine A.cT rfl c2 ?_
      obtain ⟨vx_4, h6, hm⟩ := bnd_some hm
      obtain ⟨l_2, h7, hm⟩ := bnd_some hm
      refine A.R W0 [] [(6, hro (m_database_copied_ok h6) ck60), (7, hix (ix eGAdvert h4)), (8, hso 505003800 (st eGAdvert (off := 0) (ca := [.int .i64 vx_4.Router, .int .i64 vx_4.Seq, .bool vx_4.Capable, .lst false (ml eGReach vx_4.Links), .lst false (ml eGClaim vx_4.Claims)]) h4 h7 rfl) (elO_some h4).1.1)] [] [(505003800, .slice 29 5 (ml eGAdvert l_2) 0 false), (900000025, .cells 25 [.own 505003800])] (by kernel_rfl) ?_
      exact Exists.intro l_2 (And.intro hm (Weak.go [.rn 505003800 700002500] [] (by kernel_rfl)))
    refine A.cF rfl c2 ?_
    refine A.RS W0 [] [] [(4, .bool false)] [(505003800, .slice 29 5 (ml eGAdvert d.Adverts) 0 false), (900000025, .cells 25 [.own 505003800])] (by kernel_rfl) ?_
    refine A.ret ?_
    obtain rfl := some_inj hm
    exact A.fin W0 [.rn 505003800 505003801] rfl (by kernel_rfl)
  rintro m_1 hm
  rw [hJ1] at hm
  refine A.RS W0 [] [] [(4, .bool true)] [(900000025, .cells 25 [.own 700002500]), (700002500, .slice 29 5 (ml eGAdvert m_1) 0 false)] (by kernel_rfl) ?_
  refine A.ret ?_
  obtain rfl := some_inj hm
  exact A.fin W0 [.sw 700002500 505003801] rfl (by kernel_rfl)
theorem m_database_Merge_ok {a : GDatabase} {b : GDatabase} {r : GDatabase × Int} (hm : m_database_Merge a b = some r) : RO Tryz.prog 26 [] [.agg [.lst false (ml eGAdvert a.Adverts)], .agg [.lst false (ml eGAdvert b.Adverts)]] (.tup [.agg [.lst false (ml eGAdvert r.1.Adverts)], .int .i64 r.2]) := by
  refine enterA Tryz.func26 rfl rfl ?_
  unfold m_database_Merge at hm
  refine A.RS W0 [] [(0, .al 26002), (1, .al 26003), (2, .al 26004)] [(2, .ptr 26002 0), (3, .ptr 26003 0), (4, .ptr 26004 0)] [(26002, .cells 25 [.lst false (ml eGAdvert a.Adverts)]), (26003, .cells 25 [.lst false (ml eGAdvert b.Adverts)]), (26004, .cells 25 [.nils])] (by kernel_rfl) ?_
  refine A.seq ?_
  obtain ⟨J1, hJ1, hm⟩ := jn_some hm
  refine A.J (J := J1) (r := r) (fun v_1 => [(2, .ptr 26002 0), (3, .ptr 26003 0), (4, .ptr 26004 0), (16, .bool v_1)]) (fun v_1 => [(26002, .cells 25 [.lst false (ml eGAdvert a.Adverts)]), (26003, .cells 25 [.lst false (ml eGAdvert b.Adverts)]), (26004, .cells 25 [.nils])]) ?_ ?_
  · skip
    obtain ⟨vx_1, h1, hm⟩ := bnd_some hm
    rcases cs_some hm with ⟨c1, hm⟩ | ⟨c1, hm⟩
    · skip
      refine A.R W0 [] [(1, hro (m_database_Check_ok h1) ck30), (3, hto (bE c1))] [(2, .ptr 26002 0), (3, .ptr 26003 0), (4, .ptr 26004 0), (16, .bool true)] [(26002, .cells 25 [.lst false (ml eGAdvert a.Adverts)]), (26003, .cells 25 [.lst false (ml eGAdvert b.Adverts)]), (26004, .cells 25 [.nils])] (by kernel_rfl) ?_
      exact Exists.intro true (And.intro hm (Weak.go [] [] (by kernel_rfl)))
    obtain ⟨vx_2, h2, hm⟩ := bnd_some hm
    refine A.R W0 [] [(1, hro (m_database_Check_ok h1) ck30), (3, hto (bE c1)), (5, hro (m_database_Check_ok h2) ck30)] [(2, .ptr 26002 0), (3, .ptr 26003 0), (4, .ptr 26004 0), (16, .bool (!decide (vx_2 = (0:Int))))] [(26002, .cells 25 [.lst false (ml eGAdvert a.Adverts)]), (26003, .cells 25 [.lst false (ml eGAdvert b.Adverts)]), (26004, .cells 25 [.nils])] (by kernel_rfl) ?_
    exact Exists.intro (!decide (vx_2 = (0:Int))) (And.intro hm (Weak.go [] [] (by kernel_rfl)))
  rintro v_1 hm
  rw [hJ1] at hm
  rcases cs_some hm with ⟨c2, hm⟩ | ⟨c2, hm⟩
  · skip
    refine A.cT rfl c2 ?_
    refine A.RS W0 [] [] [(4, .ptr 26004 0), (5, .int .i64 (1:Int))] [(26004, .cells 25 [.nils])] (by kernel_rfl) ?_
    refine A.ret ?_
    obtain rfl := some_inj hm
    exact A.fin W0 [] rfl (by kernel_rfl)
  refine A.cF rfl c2 ?_
  refine A.skip ?_
  show acode _ _ _ _ _
  obtain ⟨vx_3, h3, hm⟩ := bnd_some hm
  refine A.RS W0 [] [(1, hdc [500003600] (m_database_clone_ok h3) ck36), (2, .al 26006)] [(3, .ptr 26003 0), (4, .ptr 26004 0), (6, .ptr 26006 0)] [(26003, .cells 25 [.lst false (ml eGAdvert b.Adverts)]), (26004, .cells 25 [.nils]), (500003600, .slice 29 5 (ml eGAdvert vx_3.Adverts) 0 false), (26006, .cells 25 [.own 500003600])] (by kernel_rfl) ?_
  refine A.seq ?_
  refine A.RS W0 [] [(2, hto (lnE eGAdvert b.Adverts))] [(4, .ptr 26004 0), (6, .ptr 26006 0), (21, .lst false (ml eGAdvert b.Adverts)), (22, .int .i64 (b.Adverts.length:Int)), (23, .int .i64 (0:Int))] [(26004, .cells 25 [.nils]), (500003600, .slice 29 5 (ml eGAdvert vx_3.Adverts) 0 false), (26006, .cells 25 [.own 500003600])] (by kernel_rfl) ?_
  refine A.block ?_
  refine A.bS 21 rfl fun hb1 => ?_
  obtain ⟨B1, K1, hB1, hK1, hm⟩ := forI_some hm
  refine A.lpI (l := b.Adverts) (j0 := 0) (B := B1) (K := K1) hm (fun j1 => fun m_1 => [(4, .ptr 26004 0), (6, .ptr 26006 0), (21, .lst false (ml eGAdvert b.Adverts)), (22, .int .i64 (b.Adverts.length:Int)), (23, .int .i64 (j1 : Int))]) (fun j1 => fun m_1 => [(26004, .cells 25 [.nils]), (26006, .cells 25 [.own 702600600]), (702600600, .slice 29 5 (ml eGAdvert m_1) 0 false)]) ?_ ?_ ?_
  · exact Weak.go [.sw 500003600 702600600] [] (by kernel_rfl)
  · skip
    rintro j1 e1 Z1 m_1 hj1 hx1 hm
    rw [hB1] at hm
    refine A.RS W0 [] [] [(4, .ptr 26004 0), (6, .ptr 26006 0), (21, .lst false (ml eGAdvert b.Adverts)), (22, .int .i64 (b.Adverts.length:Int)), (23, .int .i64 (j1 : Int)), (24, .bool (decide ((j1 : Int) < (b.Adverts.length:Int))))] [(26004, .cells 25 [.nils]), (26006, .cells 25 [.own 702600600]), (702600600, .slice 29 5 (ml eGAdvert m_1) 0 false)] (by kernel_rfl) ?_
    refine A.seq ?_
    refine A.cT rfl (ltT hx1) ?_
    refine A.skip ?_
    show acode _ _ _ _ _
    refine A.seq ?_
    refine A.block ?_
    refine A.RS W0 [] [(0, hix (ix eGAdvert (elO_nat hx1))), (2, .al 26008)] [(4, .ptr 26004 0), (6, .ptr 26006 0), (21, .lst false (ml eGAdvert b.Adverts)), (22, .int .i64 (b.Adverts.length:Int)), (23, .int .i64 (j1 : Int)), (8, .ptr 26008 0)] [(26004, .cells 25 [.nils]), (26006, .cells 25 [.own 702600600]), (702600600, .slice 29 5 (ml eGAdvert m_1) 0 false), (26008, .cells 29 [.int .i64 e1.Router, .int .i64 e1.Seq, .bool e1.Capable, .lst false (ml eGReach e1.Links), .lst false (ml eGClaim e1.Claims)])] (by kernel_rfl) ?_
    obtain ⟨vx_4, h4, hm⟩ := bnd_some hm
    refine A.R W0 [] [(1, hdc [520026001] (SC.at [(505003800, 702600600), (900000025, 26006), (505003801, 520026001)] (m_database_put_ok h4)) ck38)] [(4, .ptr 26004 0), (6, .ptr 26006 0), (21, .lst false (ml eGAdvert b.Adverts)), (22, .int .i64 (b.Adverts.length:Int)), (23, .int .i64 (j1 : Int))] [(26004, .cells 25 [.nils]), (26006, .cells 25 [.own 520026001]), (520026001, .slice 29 5 (ml eGAdvert vx_4.2.Adverts) 0 false)] (by kernel_rfl) ?_
    show acode _ _ _ _ _
    refine A.R W0 [] [(0, hto (inc hx1 hb1))] [(4, .ptr 26004 0), (6, .ptr 26006 0), (21, .lst false (ml eGAdvert b.Adverts)), (22, .int .i64 (b.Adverts.length:Int)), (23, .int .i64 ((j1 + 1 : Nat) : Int))] [(26004, .cells 25 [.nils]), (26006, .cells 25 [.own 520026001]), (520026001, .slice 29 5 (ml eGAdvert vx_4.2.Adverts) 0 false)] (by kernel_rfl) ?_
    exact Exists.intro vx_4.2.Adverts (And.intro hm (Weak.go [.sw 520026001 702600600] [] (by kernel_rfl)))
  rintro j1 m_1 hj1 hl1 hm
  rw [hK1] at hm
  refine A.RS W0 [] [] [(4, .ptr 26004 0), (6, .ptr 26006 0), (21, .lst false (ml eGAdvert b.Adverts)), (22, .int .i64 (b.Adverts.length:Int)), (23, .int .i64 (j1 : Int)), (24, .bool (decide ((j1 : Int) < (b.Adverts.length:Int))))] [(26004, .cells 25 [.nils]), (26006, .cells 25 [.own 702600600]), (702600600, .slice 29 5 (ml eGAdvert m_1) 0 false)] (by kernel_rfl) ?_
  refine A.seq ?_
  refine A.cF rfl (ltF hl1) ?_
  refine A.exit ?_
  show acode _ _ _ _ _
  refine A.RS W0 [] [] [(4, .ptr 26004 0), (5, .int .i64 (0:Int))] [(26004, .cells 25 [.own 702600600]), (702600600, .slice 29 5 (ml eGAdvert m_1) 0 false)] (by kernel_rfl) ?_
  refine A.ret ?_
  obtain rfl := some_inj hm
  exact A.fin W0 [.fz [702600600]] rfl (by kernel_rfl)
end Go.Proofs.YtmcjffllahcclaaGreat
