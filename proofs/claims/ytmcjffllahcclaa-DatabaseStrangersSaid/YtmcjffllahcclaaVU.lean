/- The walks of functions of the program. No condition but those that stand in each. -/
import Derived.Test.YtmcjffllahcclaaDA
import Derived.Test.YtmcjffllahcclaaVE
import Derived.Test.YtmcjffllahcclaaIN
namespace Go.Proofs.Ytmcjffllahcclaa
open Go
set_option maxRecDepth 100000
set_option linter.all false
theorem m_database_put_1_ok {xa0 : GAdvert} {router : Int} {r : Int} (hm : m_database_put_1 xa0 router = some r) : RO Try.prog 38 [] [.agg [.int .i64 xa0.Router, .int .i64 xa0.Seq, .bool xa0.Capable, .lst false (ml eGReach xa0.Links), .lst false (ml eGClaim xa0.Claims)], .int .i64 router] (.int .i64 r) := by
  refine enterA Try.func38 rfl rfl ?_
  unfold m_database_put_1 at hm
  refine A.RS W0 [] [(0, .al 38002)] [(1, .int .i64 router), (2, .ptr 38002 0)] [(38002, .cells 32 [.int .i64 xa0.Router, .int .i64 xa0.Seq, .bool xa0.Capable, .lst false (ml eGReach xa0.Links), .lst false (ml eGClaim xa0.Claims)])] (by kernel_rfl) ?_
  obtain ⟨vx_1, h1, hm⟩ := bnd_some hm
  refine A.RS W0 [] [(3, hro (m_cmp_Compare_int_ok h1) ck25)] [(4, .int .i64 vx_1)] [] (by kernel_rfl) ?_
  refine A.ret ?_
  obtain rfl := some_inj hm
  exact A.fin W0 [] rfl (by kernel_rfl)
theorem m_database_clone_ok {d : GDatabase} {r : GDatabase} (hm : m_database_clone d = some r) : SCalls Try.prog 17 [] [.agg [.lst false (ml eGAdvert d.Adverts)]] (fun a σ' => a = .agg [.own 500001700] ∧ σ' = [(500001700, .slice 32 5 (ml eGAdvert r.Adverts) 0 false)]) := by
  refine enterA Try.func17 rfl rfl ?_
  unfold m_database_clone at hm
  refine A.RS W0 [] [(0, .al 17001), (1, .al 17002)] [(1, .ptr 17001 0), (2, .ptr 17002 0)] [(17001, .cells 27 [.lst false (ml eGAdvert d.Adverts)]), (17002, .cells 27 [.nils])] (by kernel_rfl) ?_
  refine A.RS W0 [] [(0, .al 17003)] [(1, .ptr 17001 0), (2, .ptr 17002 0), (3, .ptr 17003 0)] [(17001, .cells 27 [.lst false (ml eGAdvert d.Adverts)]), (17002, .cells 27 [.nils]), (17003, .cells 27 [.nils])] (by kernel_rfl) ?_
  refine A.seq ?_
  refine A.RS W0 [] [(2, hto (lnE eGAdvert d.Adverts))] [(2, .ptr 17002 0), (3, .ptr 17003 0), (7, .lst false (ml eGAdvert d.Adverts)), (8, .int .i64 (d.Adverts.length:Int)), (9, .int .i64 (0:Int))] [(17002, .cells 27 [.nils]), (17003, .cells 27 [.nils])] (by kernel_rfl) ?_
  refine A.block ?_
  refine A.bS 7 rfl fun hb1 => ?_
  obtain ⟨B1, K1, hB1, hK1, hm⟩ := forI_some hm
  refine A.lpI (l := d.Adverts) (j0 := 0) (B := B1) (K := K1) hm (fun j1 => fun m_1 => [(2, .ptr 17002 0), (3, .ptr 17003 0), (7, .lst false (ml eGAdvert d.Adverts)), (8, .int .i64 (d.Adverts.length:Int)), (9, .int .i64 (j1 : Int))]) (fun j1 => fun m_1 => [(17002, .cells 27 [.nils]), (17003, .cells 27 [.own 701700300]), (701700300, .slice 32 5 (ml eGAdvert m_1) 0 false)]) ?_ ?_ ?_
  · exact Weak.go [.ac 17003 701700300 32 5 0] [] (by kernel_rfl)
  · skip
    rintro j1 e1 Z1 m_1 hj1 hx1 hm
    rw [hB1] at hm
    refine A.RS W0 [] [] [(2, .ptr 17002 0), (3, .ptr 17003 0), (7, .lst false (ml eGAdvert d.Adverts)), (8, .int .i64 (d.Adverts.length:Int)), (9, .int .i64 (j1 : Int)), (10, .bool (decide ((j1 : Int) < (d.Adverts.length:Int))))] [(17002, .cells 27 [.nils]), (17003, .cells 27 [.own 701700300]), (701700300, .slice 32 5 (ml eGAdvert m_1) 0 false)] (by kernel_rfl) ?_
    refine A.seq ?_
    refine A.cT rfl (ltT hx1) ?_
    refine A.skip ?_
    show acode _ _ _ _ _
    refine A.seq ?_
    refine A.block ?_
    refine A.RS W0 [] [(0, hix (ix eGAdvert (elO_nat hx1))), (2, .al 17005)] [(2, .ptr 17002 0), (3, .ptr 17003 0), (7, .lst false (ml eGAdvert d.Adverts)), (8, .int .i64 (d.Adverts.length:Int)), (9, .int .i64 (j1 : Int)), (5, .ptr 17005 0)] [(17002, .cells 27 [.nils]), (17003, .cells 27 [.own 701700300]), (701700300, .slice 32 5 (ml eGAdvert m_1) 0 false), (17005, .cells 32 [.int .i64 e1.Router, .int .i64 e1.Seq, .bool e1.Capable, .lst false (ml eGReach e1.Links), .lst false (ml eGClaim e1.Claims)])] (by kernel_rfl) ?_
    obtain ⟨vx_1, h1, hm⟩ := bnd_some hm
    obtain ⟨l_1, h2, hm⟩ := bnd_some hm
    refine A.R W0 [] [(3, hro (m_database_copied_ok h1) ck32), (5, hap 17518 (ap eGAdvert (bytes := 72) (by decide) h2))] [(2, .ptr 17002 0), (3, .ptr 17003 0), (7, .lst false (ml eGAdvert d.Adverts)), (8, .int .i64 (d.Adverts.length:Int)), (9, .int .i64 (j1 : Int))] [(17002, .cells 27 [.nils]), (17003, .cells 27 [.own 17518]), (17518, .slice 32 5 (ml eGAdvert l_1) 0 false)] (by kernel_rfl) ?_
    show acode _ _ _ _ _
    refine A.R W0 [] [(0, hto (inc hx1 hb1))] [(2, .ptr 17002 0), (3, .ptr 17003 0), (7, .lst false (ml eGAdvert d.Adverts)), (8, .int .i64 (d.Adverts.length:Int)), (9, .int .i64 ((j1 + 1 : Nat) : Int))] [(17002, .cells 27 [.nils]), (17003, .cells 27 [.own 17518]), (17518, .slice 32 5 (ml eGAdvert l_1) 0 false)] (by kernel_rfl) ?_
    exact Exists.intro l_1 (And.intro hm (Weak.go [.sw 17518 701700300] [] (by kernel_rfl)))
  rintro j1 m_1 hj1 hl1 hm
  rw [hK1] at hm
  refine A.RS W0 [] [] [(2, .ptr 17002 0), (3, .ptr 17003 0), (7, .lst false (ml eGAdvert d.Adverts)), (8, .int .i64 (d.Adverts.length:Int)), (9, .int .i64 (j1 : Int)), (10, .bool (decide ((j1 : Int) < (d.Adverts.length:Int))))] [(17002, .cells 27 [.nils]), (17003, .cells 27 [.own 701700300]), (701700300, .slice 32 5 (ml eGAdvert m_1) 0 false)] (by kernel_rfl) ?_
  refine A.seq ?_
  refine A.cF rfl (ltF hl1) ?_
  refine A.exit ?_
  show acode _ _ _ _ _
  refine A.RS W0 [] [] [(2, .ptr 17002 0)] [(17002, .cells 27 [.own 701700300]), (701700300, .slice 32 5 (ml eGAdvert m_1) 0 false)] (by kernel_rfl) ?_
  refine A.ret ?_
  obtain rfl := some_inj hm
  exact A.fin W0 [.sw 701700300 500001700] rfl (by kernel_rfl)
theorem m_database_put_ok {d : GDatabase} {a : GAdvert} {r : Bool × GDatabase} (hm : m_database_put d a = some r) : SCalls Try.prog 20 [(505002000, .slice 32 5 (ml eGAdvert d.Adverts) 0 false), (900000027, .cells 27 [.own 505002000])] [.ptr 900000027 0, .agg [.int .i64 a.Router, .int .i64 a.Seq, .bool a.Capable, .lst false (ml eGReach a.Links), .lst false (ml eGClaim a.Claims)]] (fun a σ' => a = .bool r.1 ∧ σ' = [(900000027, .cells 27 [.own 505002001]), (505002001, .slice 32 5 (ml eGAdvert r.2.Adverts) 0 false)]) := by
  refine enterA Try.func20 rfl rfl ?_
  unfold m_database_put at hm
  refine A.RS W0 [] [(0, .al 20003)] [(0, .ptr 900000027 0), (3, .ptr 20003 0)] [(505002000, .slice 32 5 (ml eGAdvert d.Adverts) 0 false), (900000027, .cells 27 [.own 505002000]), (20003, .cells 32 [.int .i64 a.Router, .int .i64 a.Seq, .bool a.Capable, .lst false (ml eGReach a.Links), .lst false (ml eGClaim a.Claims)])] (by kernel_rfl) ?_
  obtain ⟨vx_1, h1, hm⟩ := bnd_some hm
  refine A.RS W0 [] [(6, hle [505002000] (m_slices_BinarySearchFunc_Lapi_Advert_api_Advert_int_ok (cmp_g := 38) (cmp_c := []) (cmp_k := ck38) (cmp_f := fun _ _ _ h => m_database_put_1_ok h) h1) ck37)] [(0, .ptr 900000027 0), (3, .ptr 20003 0), (5, .int .i64 vx_1.1), (6, .bool vx_1.2)] [(505002000, .slice 32 5 (ml eGAdvert d.Adverts) 0 false), (900000027, .cells 27 [.own 505002000]), (20003, .cells 32 [.int .i64 a.Router, .int .i64 a.Seq, .bool a.Capable, .lst false (ml eGReach a.Links), .lst false (ml eGClaim a.Claims)])] (by kernel_rfl) ?_
  obtain ⟨J1, hJ1, hm⟩ := jn_some hm
  refine A.J (J := J1) (r := r) (fun m_1 => []) (fun m_1 => [(900000027, .cells 27 [.own 700002700]), (700002700, .slice 32 5 (ml eGAdvert m_1) 0 false)]) ?_ ?_
  · skip
    refine A.block ?_
    refine A.RS W0 [] [] [(0, .ptr 900000027 0), (3, .ptr 20003 0), (5, .int .i64 vx_1.1), (17, .bool (!vx_1.2))] [(505002000, .slice 32 5 (ml eGAdvert d.Adverts) 0 false), (900000027, .cells 27 [.own 505002000]), (20003, .cells 32 [.int .i64 a.Router, .int .i64 a.Seq, .bool a.Capable, .lst false (ml eGReach a.Links), .lst false (ml eGClaim a.Claims)])] (by kernel_rfl) ?_
    rcases cs_some hm with ⟨c1, hm⟩ | ⟨c1, hm⟩
    · skip
      refine A.cT rfl c1 ?_
      obtain ⟨vx_2, h2, hm⟩ := bnd_some hm
      obtain ⟨l_1, h3, hm⟩ := bnd_some hm
      refine A.R W0 [] [(7, hro (m_database_copied_ok h2) ck32), (8, .al 20028), (9, hdc [520020001] (insown39 (d := 505002000) (d2 := 20028) (D := 520020001) h3 (by decide) (by decide)) ck39)] [] [(900000027, .cells 27 [.own 520020001]), (520020001, .slice 32 5 (ml eGAdvert l_1) 0 false)] (by kernel_rfl) ?_
      exact Exists.intro l_1 (And.intro hm (Weak.go [.sw 520020001 700002700] [] (by kernel_rfl)))
    refine A.cF rfl c1 ?_
    obtain ⟨e_1, h4, hm⟩ := bnd_some hm
    obtain ⟨vx_3, h5, hm⟩ := bnd_some hm
    refine A.RS W0 [] [(6, hix (ix eGAdvert h4)), (7, hlo 505002000 0 (ix eGAdvert h4)), (8, hro (m_advert_Newer_ok h5) ck40)] [(0, .ptr 900000027 0), (3, .ptr 20003 0), (5, .int .i64 vx_1.1), (32, .bool vx_3)] [(505002000, .slice 32 5 (ml eGAdvert d.Adverts) 0 false), (900000027, .cells 27 [.own 505002000]), (20003, .cells 32 [.int .i64 a.Router, .int .i64 a.Seq, .bool a.Capable, .lst false (ml eGReach a.Links), .lst false (ml eGClaim a.Claims)])] (by kernel_rfl) ?_
    rcases cs_some hm with ⟨c2, hm⟩ | ⟨c2, hm⟩
    · skip
      refine A.cT rfl c2 ?_
      obtain ⟨vx_4, h6, hm⟩ := bnd_some hm
      obtain ⟨l_2, h7, hm⟩ := bnd_some hm
      refine A.R W0 [] [(6, hro (m_database_copied_ok h6) ck32), (7, hix (ix eGAdvert h4)), (8, hso 505002000 (st eGAdvert (off := 0) (ca := [.int .i64 vx_4.Router, .int .i64 vx_4.Seq, .bool vx_4.Capable, .lst false (ml eGReach vx_4.Links), .lst false (ml eGClaim vx_4.Claims)]) h4 h7 rfl) (elO_some h4).1.1)] [] [(505002000, .slice 32 5 (ml eGAdvert l_2) 0 false), (900000027, .cells 27 [.own 505002000])] (by kernel_rfl) ?_
      exact Exists.intro l_2 (And.intro hm (Weak.go [.rn 505002000 700002700] [] (by kernel_rfl)))
    refine A.cF rfl c2 ?_
    refine A.RS W0 [] [] [(4, .bool false)] [(505002000, .slice 32 5 (ml eGAdvert d.Adverts) 0 false), (900000027, .cells 27 [.own 505002000])] (by kernel_rfl) ?_
    refine A.ret ?_
    obtain rfl := some_inj hm
    exact A.fin W0 [.rn 505002000 505002001] rfl (by kernel_rfl)
  rintro m_1 hm
  rw [hJ1] at hm
  refine A.RS W0 [] [] [(4, .bool true)] [(900000027, .cells 27 [.own 700002700]), (700002700, .slice 32 5 (ml eGAdvert m_1) 0 false)] (by kernel_rfl) ?_
  refine A.ret ?_
  obtain rfl := some_inj hm
  exact A.fin W0 [.sw 700002700 505002001] rfl (by kernel_rfl)
theorem m_database_Put_ok {d : GDatabase} {a : GAdvert} {r : GDatabase × Bool} (hm : m_database_Put d a = some r) : RO Try.prog 7 [] [.agg [.lst false (ml eGAdvert d.Adverts)], .agg [.int .i64 a.Router, .int .i64 a.Seq, .bool a.Capable, .lst false (ml eGReach a.Links), .lst false (ml eGClaim a.Claims)]] (.tup [.agg [.lst false (ml eGAdvert r.1.Adverts)], .bool r.2]) := by
  refine enterA Try.func7 rfl rfl ?_
  unfold m_database_Put at hm
  refine A.RS W0 [] [(0, .al 7002), (1, .al 7003), (2, .al 7004)] [(2, .ptr 7002 0), (3, .ptr 7003 0), (4, .ptr 7004 0)] [(7002, .cells 27 [.lst false (ml eGAdvert d.Adverts)]), (7003, .cells 32 [.int .i64 a.Router, .int .i64 a.Seq, .bool a.Capable, .lst false (ml eGReach a.Links), .lst false (ml eGClaim a.Claims)]), (7004, .cells 27 [.nils])] (by kernel_rfl) ?_
  obtain ⟨vx_1, h1, hm⟩ := bnd_some hm
  refine A.RS W0 [] [(1, hdc [500001700] (m_database_clone_ok h1) ck17), (2, .al 7006)] [(2, .ptr 7002 0), (3, .ptr 7003 0), (4, .ptr 7004 0), (6, .ptr 7006 0)] [(7002, .cells 27 [.lst false (ml eGAdvert d.Adverts)]), (7003, .cells 32 [.int .i64 a.Router, .int .i64 a.Seq, .bool a.Capable, .lst false (ml eGReach a.Links), .lst false (ml eGClaim a.Claims)]), (7004, .cells 27 [.nils]), (500001700, .slice 32 5 (ml eGAdvert vx_1.Adverts) 0 false), (7006, .cells 27 [.own 500001700])] (by kernel_rfl) ?_
  refine A.seq ?_
  obtain ⟨J1, hJ1, hm⟩ := jn_some hm
  refine A.J (J := J1) (r := r) (fun v_1 => [(3, .ptr 7003 0), (4, .ptr 7004 0), (6, .ptr 7006 0), (17, .bool v_1)]) (fun v_1 => [(7003, .cells 32 [.int .i64 a.Router, .int .i64 a.Seq, .bool a.Capable, .lst false (ml eGReach a.Links), .lst false (ml eGClaim a.Claims)]), (7004, .cells 27 [.nils]), (500001700, .slice 32 5 (ml eGAdvert vx_1.Adverts) 0 false), (7006, .cells 27 [.own 500001700])]) ?_ ?_
  · skip
    obtain ⟨vx_2, h2, hm⟩ := bnd_some hm
    rcases cs_some hm with ⟨c1, hm⟩ | ⟨c1, hm⟩
    · skip
      refine A.R W0 [] [(1, hro (m_database_Check_ok h2) ck18), (3, hto (bE c1))] [(3, .ptr 7003 0), (4, .ptr 7004 0), (6, .ptr 7006 0), (17, .bool true)] [(7003, .cells 32 [.int .i64 a.Router, .int .i64 a.Seq, .bool a.Capable, .lst false (ml eGReach a.Links), .lst false (ml eGClaim a.Claims)]), (7004, .cells 27 [.nils]), (500001700, .slice 32 5 (ml eGAdvert vx_1.Adverts) 0 false), (7006, .cells 27 [.own 500001700])] (by kernel_rfl) ?_
      exact Exists.intro true (And.intro hm (Weak.go [] [] (by kernel_rfl)))
    obtain ⟨vx_3, h3, hm⟩ := bnd_some hm
    refine A.R W0 [] [(1, hro (m_database_Check_ok h2) ck18), (3, hto (bE c1)), (5, hro (m_advert_Valid_ok h3) ck19)] [(3, .ptr 7003 0), (4, .ptr 7004 0), (6, .ptr 7006 0), (17, .bool (!vx_3))] [(7003, .cells 32 [.int .i64 a.Router, .int .i64 a.Seq, .bool a.Capable, .lst false (ml eGReach a.Links), .lst false (ml eGClaim a.Claims)]), (7004, .cells 27 [.nils]), (500001700, .slice 32 5 (ml eGAdvert vx_1.Adverts) 0 false), (7006, .cells 27 [.own 500001700])] (by kernel_rfl) ?_
    exact Exists.intro (!vx_3) (And.intro hm (Weak.go [] [] (by kernel_rfl)))
  rintro v_1 hm
  rw [hJ1] at hm
  rcases cs_some hm with ⟨c2, hm⟩ | ⟨c2, hm⟩
  · skip
    refine A.cT rfl c2 ?_
    refine A.RS W0 [] [] [(4, .ptr 7004 0), (5, .bool false)] [(7004, .cells 27 [.own 500001700]), (500001700, .slice 32 5 (ml eGAdvert vx_1.Adverts) 0 false)] (by kernel_rfl) ?_
    refine A.ret ?_
    obtain rfl := some_inj hm
    exact A.fin W0 [.fz [500001700]] rfl (by kernel_rfl)
  refine A.cF rfl c2 ?_
  refine A.skip ?_
  show acode _ _ _ _ _
  obtain ⟨vx_4, h4, hm⟩ := bnd_some hm
  refine A.RS W0 [] [(1, hdc [520007001] (SC.at [(505002000, 500001700), (900000027, 7006), (505002001, 520007001)] (m_database_put_ok h4)) ck20)] [(4, .ptr 7004 0), (6, .ptr 7006 0), (7, .bool vx_4.1)] [(7004, .cells 27 [.nils]), (7006, .cells 27 [.own 520007001]), (520007001, .slice 32 5 (ml eGAdvert vx_4.2.Adverts) 0 false)] (by kernel_rfl) ?_
  refine A.RS W0 [] [] [(4, .ptr 7004 0), (5, .bool vx_4.1)] [(7004, .cells 27 [.own 520007001]), (520007001, .slice 32 5 (ml eGAdvert vx_4.2.Adverts) 0 false)] (by kernel_rfl) ?_
  refine A.ret ?_
  obtain rfl := some_inj hm
  exact A.fin W0 [.fz [520007001]] rfl (by kernel_rfl)
end Go.Proofs.Ytmcjffllahcclaa
