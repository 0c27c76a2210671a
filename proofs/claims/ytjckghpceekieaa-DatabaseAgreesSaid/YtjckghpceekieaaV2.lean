/- The walks of functions of the program. No condition but those that stand in each. -/
import Derived.Test.YtjckghpceekieaaD2
import Derived.Test.YtjckghpceekieaaV0
import Derived.Test.YtjckghpceekieaaV1
namespace Go.Proofs.Ytjckghpceekieaa
open Go
set_option maxRecDepth 100000
set_option linter.all false
theorem m_ref05_Has_ok {t : GTopology} {ra1 : Int} {r : Bool} (hm : m_ref05_Has t ra1 = some r) : RO Try.prog 13 [] [.agg [.lst false (ml eGRouter t.Routers), .lst false (ml eGLink t.Links)], .int .i64 ra1] (.bool r) := by
  refine enterA Try.func13 rfl rfl ?_
  unfold m_ref05_Has at hm
  refine A.RS W0 [] [(0, .al 13002)] [(1, .int .i64 ra1), (2, .ptr 13002 0)] [(13002, .cells 33 [.lst false (ml eGRouter t.Routers), .lst false (ml eGLink t.Links)])] (by kernel_rfl) ?_
  obtain ⟨vx_1, h1, hm⟩ := bnd_some hm
  rcases cs_some hm with ⟨c1, hm⟩ | ⟨c1, hm⟩
  · skip
    obtain ⟨vx_2, h2, hm⟩ := bnd_some hm
    refine A.RS W0 [] [(1, hro (m_ref05_Check_ok h1) ck12), (3, hto (bE c1)), (6, hro (m_ref05_has_ok h2) ck42)] [(4, .bool vx_2)] [] (by kernel_rfl) ?_
    refine A.ret ?_
    obtain rfl := some_inj hm
    exact A.fin W0 [] rfl (by kernel_rfl)
  refine A.RS W0 [] [(1, hro (m_ref05_Check_ok h1) ck12), (3, hto (bE c1))] [(4, .bool false)] [] (by kernel_rfl) ?_
  refine A.ret ?_
  obtain rfl := some_inj hm
  exact A.fin W0 [] rfl (by kernel_rfl)
theorem m_ref05_Near_ok {t : GTopology} {ra1 : Int} {r : (List Int)} (hm : m_ref05_Near t ra1 = some r) : RO Try.prog 74 [] [.agg [.lst false (ml eGRouter t.Routers), .lst false (ml eGLink t.Links)], .int .i64 ra1] (.lst false (ml eInt r)) := by
  refine enterA Try.func74 rfl rfl ?_
  unfold m_ref05_Near at hm
  refine A.RS W0 [] [(0, .al 74002)] [(1, .int .i64 ra1), (2, .ptr 74002 0)] [(74002, .cells 33 [.lst false (ml eGRouter t.Routers), .lst false (ml eGLink t.Links)])] (by kernel_rfl) ?_
  refine A.RS W0 [] [] [(1, .int .i64 ra1), (2, .ptr 74002 0), (5, .nils)] [(74002, .cells 33 [.lst false (ml eGRouter t.Routers), .lst false (ml eGLink t.Links)])] (by kernel_rfl) ?_
  refine A.seq ?_
  refine A.RS W0 [] [] [(1, .int .i64 ra1), (2, .ptr 74002 0), (5, .nils), (6, .int .i64 (0:Int))] [(74002, .cells 33 [.lst false (ml eGRouter t.Routers), .lst false (ml eGLink t.Links)])] (by kernel_rfl) ?_
  refine A.block ?_
  refine A.bC 2 0 rfl rfl rfl fun hb1 => ?_
  obtain ⟨B1, K1, hB1, hK1, hm⟩ := forI_some hm
  refine A.lpI (l := t.Routers) (j0 := 0) (B := B1) (K := K1) hm (fun j1 => fun out_1 => [(1, .int .i64 ra1), (2, .ptr 74002 0), (5, .own 600074005), (6, .int .i64 (j1 : Int))]) (fun j1 => fun out_1 => [(74002, .cells 33 [.lst false (ml eGRouter t.Routers), .lst false (ml eGLink t.Links)]), (600074005, .slice 3 1 (ml eInt out_1) 0 false)]) ?_ ?_ ?_
  · exact Weak.go [.ad 5 600074005 3 1] [] (by kernel_rfl)
  · skip
    rintro j1 e1 Z1 out_1 hj1 hx1 hm
    rw [hB1] at hm
    refine A.seq ?_
    refine A.RS W0 [] [(3, hto (lnE eGRouter t.Routers))] [(1, .int .i64 ra1), (2, .ptr 74002 0), (5, .own 600074005), (6, .int .i64 (j1 : Int)), (13, .bool (decide ((j1 : Int) < (t.Routers.length:Int))))] [(74002, .cells 33 [.lst false (ml eGRouter t.Routers), .lst false (ml eGLink t.Links)]), (600074005, .slice 3 1 (ml eInt out_1) 0 false)] (by kernel_rfl) ?_
    refine A.cT rfl (ltT hx1) ?_
    refine A.skip ?_
    show acode _ _ _ _ _
    obtain ⟨J1, hJ1, hm⟩ := jn_some hm
    refine A.J (J := J1) (r := r) (fun out_2 => [(1, .int .i64 ra1), (2, .ptr 74002 0), (5, .own 600074005), (6, .int .i64 (j1 : Int))]) (fun out_2 => [(74002, .cells 33 [.lst false (ml eGRouter t.Routers), .lst false (ml eGLink t.Links)]), (600074005, .slice 3 1 (ml eInt out_2) 0 false)]) ?_ ?_
    · skip
      refine A.block ?_
      obtain ⟨vx_1, h1, hm⟩ := bnd_some hm
      refine A.RS W0 [] [(5, hix (ix eGRouter (elO_nat hx1))), (8, hro (m_ref05_Price_ok h1) ck109)] [(1, .int .i64 ra1), (2, .ptr 74002 0), (5, .own 600074005), (6, .int .i64 (j1 : Int)), (8, .bool vx_1.2)] [(74002, .cells 33 [.lst false (ml eGRouter t.Routers), .lst false (ml eGLink t.Links)]), (600074005, .slice 3 1 (ml eInt out_1) 0 false)] (by kernel_rfl) ?_
      refine A.RS W0 [] [] [(1, .int .i64 ra1), (2, .ptr 74002 0), (5, .own 600074005), (6, .int .i64 (j1 : Int)), (28, .bool vx_1.2)] [(74002, .cells 33 [.lst false (ml eGRouter t.Routers), .lst false (ml eGLink t.Links)]), (600074005, .slice 3 1 (ml eInt out_1) 0 false)] (by kernel_rfl) ?_
      rcases cs_some hm with ⟨c1, hm⟩ | ⟨c1, hm⟩
      · skip
        refine A.cT rfl c1 ?_
        obtain ⟨l_1, h2, hm⟩ := bnd_some hm
        refine A.R W0 [] [(4, hix (ix eGRouter (elO_nat hx1))), (8, hap 74537 (ap eInt (bytes := 8) (by decide) h2))] [(1, .int .i64 ra1), (2, .ptr 74002 0), (5, .own 74537), (6, .int .i64 (j1 : Int))] [(74002, .cells 33 [.lst false (ml eGRouter t.Routers), .lst false (ml eGLink t.Links)]), (74537, .slice 3 1 (ml eInt l_1) 0 false)] (by kernel_rfl) ?_
        exact Exists.intro l_1 (And.intro hm (Weak.go [.sw 74537 600074005] [] (by kernel_rfl)))
      refine A.cF rfl c1 ?_
      refine A.skip ?_
      exact Exists.intro out_1 (And.intro hm (Weak.go [] [] (by kernel_rfl)))
    rintro out_2 hm
    rw [hJ1] at hm
    refine A.R W0 [] [(1, hto (inc hx1 hb1))] [(1, .int .i64 ra1), (2, .ptr 74002 0), (5, .own 600074005), (6, .int .i64 ((j1 + 1 : Nat) : Int))] [(74002, .cells 33 [.lst false (ml eGRouter t.Routers), .lst false (ml eGLink t.Links)]), (600074005, .slice 3 1 (ml eInt out_2) 0 false)] (by kernel_rfl) ?_
    exact Exists.intro out_2 (And.intro hm (Weak.go [] [] (by kernel_rfl)))
  rintro j1 out_1 hj1 hl1 hm
  rw [hK1] at hm
  refine A.seq ?_
  refine A.RS W0 [] [(3, hto (lnE eGRouter t.Routers))] [(1, .int .i64 ra1), (2, .ptr 74002 0), (5, .own 600074005), (6, .int .i64 (j1 : Int)), (13, .bool (decide ((j1 : Int) < (t.Routers.length:Int))))] [(74002, .cells 33 [.lst false (ml eGRouter t.Routers), .lst false (ml eGLink t.Links)]), (600074005, .slice 3 1 (ml eInt out_1) 0 false)] (by kernel_rfl) ?_
  refine A.cF rfl (ltF hl1) ?_
  refine A.exit ?_
  show acode _ _ _ _ _
  refine A.RS W0 [] [] [(4, .own 600074005)] [(600074005, .slice 3 1 (ml eInt out_1) 0 false)] (by kernel_rfl) ?_
  refine A.ret ?_
  obtain rfl := some_inj hm
  exact A.fin W0 [.fz [600074005]] rfl (by kernel_rfl)
theorem m_ref05_Around_ok {t : GTopology} {ra1 : Int} {r : (List Int)} (hm : m_ref05_Around t ra1 = some r) : RO Try.prog 44 [] [.agg [.lst false (ml eGRouter t.Routers), .lst false (ml eGLink t.Links)], .int .i64 ra1] (.lst false (ml eInt r)) := by
  refine enterA Try.func44 rfl rfl ?_
  unfold m_ref05_Around at hm
  refine A.RS W0 [] [(0, .al 44002)] [(1, .int .i64 ra1), (2, .ptr 44002 0)] [(44002, .cells 33 [.lst false (ml eGRouter t.Routers), .lst false (ml eGLink t.Links)])] (by kernel_rfl) ?_
  refine A.RS W0 [] [(1, .al 44012)] [(2, .ptr 44002 0), (5, .own 44012)] [(44002, .cells 33 [.lst false (ml eGRouter t.Routers), .lst false (ml eGLink t.Links)]), (44012, .slice 3 1 (ml eInt ([ra1] : List Int)) 0 false)] (by kernel_rfl) ?_
  refine A.seq ?_
  refine A.RS W0 [] [] [(2, .ptr 44002 0), (5, .own 44012), (6, .int .i64 (0:Int))] [(44002, .cells 33 [.lst false (ml eGRouter t.Routers), .lst false (ml eGLink t.Links)]), (44012, .slice 3 1 (ml eInt ([ra1] : List Int)) 0 false)] (by kernel_rfl) ?_
  refine A.block ?_
  obtain ⟨F1, n1, hF1, hm⟩ := whl_some hm
  refine A.lpW (F := F1) hm (fun sg => match sg with | (out_1, i_1) => [(2, .ptr 44002 0), (5, .own 600044005), (6, .int .i64 i_1)]) (fun sg => match sg with | (out_1, i_1) => [(44002, .cells 33 [.lst false (ml eGRouter t.Routers), .lst false (ml eGLink t.Links)]), (600044005, .slice 3 1 (ml eInt out_1) 0 false)]) ?_ ?_
  · exact Weak.go [.sw 44012 600044005] [] (by kernel_rfl)
  rintro Z1 ⟨out_1, i_1⟩ hm
  rw [hF1] at hm
  refine A.seq ?_
  refine A.RS W0 [] [(2, hto (lnE eInt out_1))] [(2, .ptr 44002 0), (5, .own 600044005), (6, .int .i64 i_1), (16, .bool (decide (i_1 < (out_1.length:Int))))] [(44002, .cells 33 [.lst false (ml eGRouter t.Routers), .lst false (ml eGLink t.Links)]), (600044005, .slice 3 1 (ml eInt out_1) 0 false)] (by kernel_rfl) ?_
  rcases cs_some hm with ⟨c1, hm⟩ | ⟨c1, hm⟩
  · skip
    refine A.cT rfl c1 ?_
    refine A.skip ?_
    show acode _ _ _ _ _
    refine A.seq ?_
    refine A.block ?_
    obtain ⟨e_1, h1, hm⟩ := bnd_some hm
    obtain ⟨vx_1, h2, hm⟩ := bnd_some hm
    refine A.RS W0 [] [(3, hix (ix eInt h1)), (4, hlo 600044005 0 (ix eInt h1)), (5, hro (m_ref05_Near_ok h2) ck74)] [(2, .ptr 44002 0), (5, .own 600044005), (6, .int .i64 i_1), (7, .lst false (ml eInt vx_1))] [(44002, .cells 33 [.lst false (ml eGRouter t.Routers), .lst false (ml eGLink t.Links)]), (600044005, .slice 3 1 (ml eInt out_1) 0 false)] (by kernel_rfl) ?_
    refine A.RS W0 [] [] [(2, .ptr 44002 0), (5, .own 600044005), (6, .int .i64 i_1), (7, .lst false (ml eInt vx_1)), (8, .int .i64 (0:Int))] [(44002, .cells 33 [.lst false (ml eGRouter t.Routers), .lst false (ml eGLink t.Links)]), (600044005, .slice 3 1 (ml eInt out_1) 0 false)] (by kernel_rfl) ?_
    refine A.block ?_
    refine A.bS 7 rfl fun hb2 => ?_
    obtain ⟨B2, K2, hB2, hK2, hm⟩ := forI_some hm
    refine A.lpI (l := vx_1) (j0 := 0) (B := B2) (K := K2) hm (fun j2 => fun out_2 => [(2, .ptr 44002 0), (5, .own 600044005), (6, .int .i64 i_1), (7, .lst false (ml eInt vx_1)), (8, .int .i64 (j2 : Int))]) (fun j2 => fun out_2 => [(44002, .cells 33 [.lst false (ml eGRouter t.Routers), .lst false (ml eGLink t.Links)]), (600044005, .slice 3 1 (ml eInt out_2) 0 false)]) ?_ ?_ ?_
    · exact Weak.go [] [] (by kernel_rfl)
    · skip
      rintro j2 e2 Z2 out_2 hj2 hx2 hm
      rw [hB2] at hm
      refine A.seq ?_
      refine A.RS W0 [] [(2, hto (lnE eInt vx_1))] [(2, .ptr 44002 0), (5, .own 600044005), (6, .int .i64 i_1), (7, .lst false (ml eInt vx_1)), (8, .int .i64 (j2 : Int)), (28, .bool (decide ((j2 : Int) < (vx_1.length:Int))))] [(44002, .cells 33 [.lst false (ml eGRouter t.Routers), .lst false (ml eGLink t.Links)]), (600044005, .slice 3 1 (ml eInt out_2) 0 false)] (by kernel_rfl) ?_
      refine A.cT rfl (ltT hx2) ?_
      refine A.skip ?_
      show acode _ _ _ _ _
      obtain ⟨J1, hJ1, hm⟩ := jn_some hm
      refine A.J (J := J1) (r := r) (fun out_3 => [(2, .ptr 44002 0), (5, .own 600044005), (6, .int .i64 i_1), (7, .lst false (ml eInt vx_1)), (8, .int .i64 (j2 : Int))]) (fun out_3 => [(44002, .cells 33 [.lst false (ml eGRouter t.Routers), .lst false (ml eGLink t.Links)]), (600044005, .slice 3 1 (ml eInt out_3) 0 false)]) ?_ ?_
      · skip
        refine A.block ?_
        obtain ⟨vx_2, h3, hm⟩ := bnd_some hm
        refine A.RS W0 [] [(3, hix (ix eInt (elO_nat hx2))), (5, hle [600044005] (m_ref04_Has_ok h3) ck43)] [(2, .ptr 44002 0), (5, .own 600044005), (6, .int .i64 i_1), (7, .lst false (ml eInt vx_1)), (8, .int .i64 (j2 : Int)), (37, .bool (!vx_2))] [(44002, .cells 33 [.lst false (ml eGRouter t.Routers), .lst false (ml eGLink t.Links)]), (600044005, .slice 3 1 (ml eInt out_2) 0 false)] (by kernel_rfl) ?_
        rcases cs_some hm with ⟨c2, hm⟩ | ⟨c2, hm⟩
        · skip
          refine A.cT rfl c2 ?_
          obtain ⟨l_1, h4, hm⟩ := bnd_some hm
          refine A.R W0 [] [(3, hix (ix eInt (elO_nat hx2))), (6, hap 44544 (ap eInt (bytes := 8) (by decide) h4))] [(2, .ptr 44002 0), (5, .own 44544), (6, .int .i64 i_1), (7, .lst false (ml eInt vx_1)), (8, .int .i64 (j2 : Int))] [(44002, .cells 33 [.lst false (ml eGRouter t.Routers), .lst false (ml eGLink t.Links)]), (44544, .slice 3 1 (ml eInt l_1) 0 false)] (by kernel_rfl) ?_
          exact Exists.intro l_1 (And.intro hm (Weak.go [.sw 44544 600044005] [] (by kernel_rfl)))
        refine A.cF rfl c2 ?_
        refine A.skip ?_
        exact Exists.intro out_2 (And.intro hm (Weak.go [] [] (by kernel_rfl)))
      rintro out_3 hm
      rw [hJ1] at hm
      refine A.R W0 [] [(1, hto (inc hx2 hb2))] [(2, .ptr 44002 0), (5, .own 600044005), (6, .int .i64 i_1), (7, .lst false (ml eInt vx_1)), (8, .int .i64 ((j2 + 1 : Nat) : Int))] [(44002, .cells 33 [.lst false (ml eGRouter t.Routers), .lst false (ml eGLink t.Links)]), (600044005, .slice 3 1 (ml eInt out_3) 0 false)] (by kernel_rfl) ?_
      exact Exists.intro out_3 (And.intro hm (Weak.go [] [] (by kernel_rfl)))
    rintro j2 out_2 hj2 hl2 hm
    rw [hK2] at hm
    refine A.seq ?_
    refine A.RS W0 [] [(2, hto (lnE eInt vx_1))] [(2, .ptr 44002 0), (5, .own 600044005), (6, .int .i64 i_1), (7, .lst false (ml eInt vx_1)), (8, .int .i64 (j2 : Int)), (28, .bool (decide ((j2 : Int) < (vx_1.length:Int))))] [(44002, .cells 33 [.lst false (ml eGRouter t.Routers), .lst false (ml eGLink t.Links)]), (600044005, .slice 3 1 (ml eInt out_2) 0 false)] (by kernel_rfl) ?_
    refine A.cF rfl (ltF hl2) ?_
    refine A.exit ?_
    show acode _ _ _ _ _
    refine A.R W0 [] [] [(2, .ptr 44002 0), (5, .own 600044005), (6, .int .i64 (w64 (i_1 + (1:Int))))] [(44002, .cells 33 [.lst false (ml eGRouter t.Routers), .lst false (ml eGLink t.Links)]), (600044005, .slice 3 1 (ml eInt out_2) 0 false)] (by kernel_rfl) ?_
    exact Exists.intro (out_2, w64 (i_1 + (1:Int))) (And.intro hm (Weak.go [] [] (by kernel_rfl)))
  refine A.cF rfl c1 ?_
  refine A.exit ?_
  show acode _ _ _ _ _
  refine A.RS W0 [] [] [(5, .own 600044005), (9, .nils)] [(600044005, .slice 3 1 (ml eInt out_1) 0 false)] (by kernel_rfl) ?_
  refine A.seq ?_
  refine A.RS W0 [] [] [(5, .own 600044005), (9, .nils), (10, .int .i64 (0:Int))] [(600044005, .slice 3 1 (ml eInt out_1) 0 false)] (by kernel_rfl) ?_
  refine A.block ?_
  refine A.bW 5 rfl rfl fun hb3 => ?_
  obtain ⟨B3, K3, hB3, hK3, hm⟩ := forI_some hm
  refine A.lpI (l := out_1) (j0 := 0) (B := B3) (K := K3) hm (fun j3 => fun l_2 => [(5, .own 600044005), (9, .lst false (ml eInt l_2)), (10, .int .i64 (j3 : Int))]) (fun j3 => fun l_2 => [(600044005, .slice 3 1 (ml eInt out_1) 0 false)]) ?_ ?_ ?_
  · exact Weak.go [] [9] (by kernel_rfl)
  · skip
    rintro j3 e3 Z3 l_2 hj3 hx3 hm
    rw [hB3] at hm
    refine A.seq ?_
    refine A.RS W0 [] [(2, hto (lnE eInt out_1))] [(5, .own 600044005), (9, .lst false (ml eInt l_2)), (10, .int .i64 (j3 : Int)), (48, .bool (decide ((j3 : Int) < (out_1.length:Int))))] [(600044005, .slice 3 1 (ml eInt out_1) 0 false)] (by kernel_rfl) ?_
    refine A.cT rfl (ltT hx3) ?_
    refine A.skip ?_
    show acode _ _ _ _ _
    refine A.seq ?_
    refine A.block ?_
    obtain ⟨vx_3, h5, hm⟩ := bnd_some hm
    refine A.R W0 [] [(3, hix (ix eInt (elO_nat hx3))), (4, hlo 600044005 0 (ix eInt (elO_nat hx3))), (5, hro (m_ref04_Insert_ok h5) ck75)] [(5, .own 600044005), (9, .lst false (ml eInt vx_3)), (10, .int .i64 (j3 : Int))] [(600044005, .slice 3 1 (ml eInt out_1) 0 false)] (by kernel_rfl) ?_
    show acode _ _ _ _ _
    refine A.R W0 [] [(1, hto (inc hx3 hb3))] [(5, .own 600044005), (9, .lst false (ml eInt vx_3)), (10, .int .i64 ((j3 + 1 : Nat) : Int))] [(600044005, .slice 3 1 (ml eInt out_1) 0 false)] (by kernel_rfl) ?_
    exact Exists.intro vx_3 (And.intro hm (Weak.go [] [9] (by kernel_rfl)))
  rintro j3 l_2 hj3 hl3 hm
  rw [hK3] at hm
  refine A.seq ?_
  refine A.RS W0 [] [(2, hto (lnE eInt out_1))] [(5, .own 600044005), (9, .lst false (ml eInt l_2)), (10, .int .i64 (j3 : Int)), (48, .bool (decide ((j3 : Int) < (out_1.length:Int))))] [(600044005, .slice 3 1 (ml eInt out_1) 0 false)] (by kernel_rfl) ?_
  refine A.cF rfl (ltF hl3) ?_
  refine A.exit ?_
  show acode _ _ _ _ _
  refine A.RS W0 [] [] [(4, .lst false (ml eInt l_2))] [] (by kernel_rfl) ?_
  refine A.ret ?_
  obtain rfl := some_inj hm
  exact A.fin W0 [] rfl (by kernel_rfl)
theorem m_ref05_Connected_ok {t : GTopology} {a : Int} {b : Int} {r : Bool} (hm : m_ref05_Connected t a b = some r) : RO Try.prog 14 [] [.agg [.lst false (ml eGRouter t.Routers), .lst false (ml eGLink t.Links)], .int .i64 a, .int .i64 b] (.bool r) := by
  refine enterA Try.func14 rfl rfl ?_
  unfold m_ref05_Connected at hm
  refine A.RS W0 [] [(0, .al 14003)] [(1, .int .i64 a), (2, .int .i64 b), (3, .ptr 14003 0)] [(14003, .cells 33 [.lst false (ml eGRouter t.Routers), .lst false (ml eGLink t.Links)])] (by kernel_rfl) ?_
  obtain ⟨vx_1, h1, hm⟩ := bnd_some hm
  rcases cs_some hm with ⟨c1, hm⟩ | ⟨c1, hm⟩
  · skip
    obtain ⟨vx_2, h2, hm⟩ := bnd_some hm
    rcases cs_some hm with ⟨c2, hm⟩ | ⟨c2, hm⟩
    · skip
      obtain ⟨vx_3, h3, hm⟩ := bnd_some hm
      obtain ⟨vx_4, h4, hm⟩ := bnd_some hm
      refine A.RS W0 [] [(2, hro (m_ref05_Has_ok h1) ck13), (3, hto (bE c1)), (6, hro (m_ref05_Has_ok h2) ck13), (8, hto (bE c2)), (11, hro (m_ref05_Around_ok h3) ck44), (13, hro (m_ref04_Has_ok h4) ck43)] [(6, .bool vx_4)] [] (by kernel_rfl) ?_
      refine A.ret ?_
      obtain rfl := some_inj hm
      exact A.fin W0 [] rfl (by kernel_rfl)
    refine A.RS W0 [] [(2, hro (m_ref05_Has_ok h1) ck13), (3, hto (bE c1)), (6, hro (m_ref05_Has_ok h2) ck13), (8, hto (bE c2))] [(6, .bool false)] [] (by kernel_rfl) ?_
    refine A.ret ?_
    obtain rfl := some_inj hm
    exact A.fin W0 [] rfl (by kernel_rfl)
  refine A.RS W0 [] [(2, hro (m_ref05_Has_ok h1) ck13), (3, hto (bE c1))] [(6, .bool false)] [] (by kernel_rfl) ?_
  refine A.ret ?_
  obtain rfl := some_inj hm
  exact A.fin W0 [] rfl (by kernel_rfl)
theorem m_ref05_Same_ok {a : GTopology} {b : GTopology} {r : Bool} (hm : m_ref05_Same a b = some r) : RO Try.prog 15 [] [.agg [.lst false (ml eGRouter a.Routers), .lst false (ml eGLink a.Links)], .agg [.lst false (ml eGRouter b.Routers), .lst false (ml eGLink b.Links)]] (.bool r) := by
  refine enterA Try.func15 rfl rfl ?_
  unfold m_ref05_Same at hm
  refine A.RS W0 [] [(0, .al 15002), (1, .al 15003)] [(2, .ptr 15002 0), (3, .ptr 15003 0)] [(15002, .cells 33 [.lst false (ml eGRouter a.Routers), .lst false (ml eGLink a.Links)]), (15003, .cells 33 [.lst false (ml eGRouter b.Routers), .lst false (ml eGLink b.Links)])] (by kernel_rfl) ?_
  refine A.seq ?_
  refine A.mid [(2, .ptr 15002 0), (3, .ptr 15003 0), (22, .bool ((!decide ((a.Routers.length:Int) = (b.Routers.length:Int))) || (!decide ((a.Links.length:Int) = (b.Links.length:Int)))))] [(15002, .cells 33 [.lst false (ml eGRouter a.Routers), .lst false (ml eGLink a.Links)]), (15003, .cells 33 [.lst false (ml eGRouter b.Routers), .lst false (ml eGLink b.Links)])] (fun hk => ?_) ?_
  · skip
    rcases tf (!decide ((a.Routers.length:Int) = (b.Routers.length:Int))) with c1 | c1
    · skip
      exact A.RS W0 [] [(2, hto (lnE eGRouter a.Routers)), (5, hto (lnE eGRouter b.Routers)), (7, hto (bE c1)), (15, hto (orT (q := !decide ((a.Links.length:Int) = (b.Links.length:Int))) c1))] _ _ (by kernel_rfl) hk
    exact A.RS W0 [] [(2, hto (lnE eGRouter a.Routers)), (5, hto (lnE eGRouter b.Routers)), (7, hto (bE c1)), (10, hto (lnE eGLink a.Links)), (13, hto (lnE eGLink b.Links)), (15, hto (orF (q := !decide ((a.Links.length:Int) = (b.Links.length:Int))) c1))] _ _ (by kernel_rfl) hk
  rcases cs_some hm with ⟨c2, hm⟩ | ⟨c2, hm⟩
  · skip
    refine A.cT rfl c2 ?_
    refine A.RS W0 [] [] [(4, .bool false)] [] (by kernel_rfl) ?_
    refine A.ret ?_
    obtain rfl := some_inj hm
    exact A.fin W0 [] rfl (by kernel_rfl)
  refine A.cF rfl c2 ?_
  refine A.skip ?_
  show acode _ _ _ _ _
  refine A.seq ?_
  refine A.RS W0 [] [] [(2, .ptr 15002 0), (3, .ptr 15003 0), (5, .int .i64 (0:Int))] [(15002, .cells 33 [.lst false (ml eGRouter a.Routers), .lst false (ml eGLink a.Links)]), (15003, .cells 33 [.lst false (ml eGRouter b.Routers), .lst false (ml eGLink b.Links)])] (by kernel_rfl) ?_
  refine A.block ?_
  refine A.bC 2 0 rfl rfl rfl fun hb1 => ?_
  obtain ⟨B1, K1, hB1, hK1, hm⟩ := forI_some hm
  refine A.lpI (l := a.Routers) (j0 := 0) (B := B1) (K := K1) hm (fun j1 => fun sg => match sg with | () => [(2, .ptr 15002 0), (3, .ptr 15003 0), (5, .int .i64 (j1 : Int))]) (fun j1 => fun sg => match sg with | () => [(15002, .cells 33 [.lst false (ml eGRouter a.Routers), .lst false (ml eGLink a.Links)]), (15003, .cells 33 [.lst false (ml eGRouter b.Routers), .lst false (ml eGLink b.Links)])]) ?_ ?_ ?_
  · exact Weak.go [] [] (by kernel_rfl)
  · skip
    rintro j1 e1 Z1 ⟨⟩ hj1 hx1 hm
    rw [hB1] at hm
    refine A.seq ?_
    refine A.RS W0 [] [(3, hto (lnE eGRouter a.Routers))] [(2, .ptr 15002 0), (3, .ptr 15003 0), (5, .int .i64 (j1 : Int)), (27, .bool (decide ((j1 : Int) < (a.Routers.length:Int))))] [(15002, .cells 33 [.lst false (ml eGRouter a.Routers), .lst false (ml eGLink a.Links)]), (15003, .cells 33 [.lst false (ml eGRouter b.Routers), .lst false (ml eGLink b.Links)])] (by kernel_rfl) ?_
    refine A.cT rfl (ltT hx1) ?_
    refine A.skip ?_
    show acode _ _ _ _ _
    refine A.seq ?_
    refine A.block ?_
    obtain ⟨e_1, h1, hm⟩ := bnd_some hm
    refine A.RS W0 [] [(3, hix (ix eGRouter (elO_nat hx1))), (8, hix (ix eGRouter h1)), (10, .sq true 46 (.agg [.int .i64 e1.ID, .bool e1.Capable]) (.agg [.int .i64 e_1.ID, .bool e_1.Capable]) (!(eqGRouter e1 e_1)) (fun x y w => eq46_neq x y _ _ _ _ w))] [(2, .ptr 15002 0), (3, .ptr 15003 0), (5, .int .i64 (j1 : Int)), (40, .bool (!(eqGRouter e1 e_1)))] [(15002, .cells 33 [.lst false (ml eGRouter a.Routers), .lst false (ml eGLink a.Links)]), (15003, .cells 33 [.lst false (ml eGRouter b.Routers), .lst false (ml eGLink b.Links)])] (by kernel_rfl) ?_
    rcases cs_some hm with ⟨c3, hm⟩ | ⟨c3, hm⟩
    · skip
      refine A.cT rfl c3 ?_
      refine A.RS W0 [] [] [(4, .bool false)] [] (by kernel_rfl) ?_
      refine A.ret ?_
      obtain rfl := some_inj hm
      exact A.fin W0 [] rfl (by kernel_rfl)
    refine A.cF rfl c3 ?_
    refine A.skip ?_
    show acode _ _ _ _ _
    refine A.R W0 [] [(1, hto (inc hx1 hb1))] [(2, .ptr 15002 0), (3, .ptr 15003 0), (5, .int .i64 ((j1 + 1 : Nat) : Int))] [(15002, .cells 33 [.lst false (ml eGRouter a.Routers), .lst false (ml eGLink a.Links)]), (15003, .cells 33 [.lst false (ml eGRouter b.Routers), .lst false (ml eGLink b.Links)])] (by kernel_rfl) ?_
    exact Exists.intro () (And.intro hm (Weak.go [] [] (by kernel_rfl)))
  rintro j1 ⟨⟩ hj1 hl1 hm
  rw [hK1] at hm
  refine A.seq ?_
  refine A.RS W0 [] [(3, hto (lnE eGRouter a.Routers))] [(2, .ptr 15002 0), (3, .ptr 15003 0), (5, .int .i64 (j1 : Int)), (27, .bool (decide ((j1 : Int) < (a.Routers.length:Int))))] [(15002, .cells 33 [.lst false (ml eGRouter a.Routers), .lst false (ml eGLink a.Links)]), (15003, .cells 33 [.lst false (ml eGRouter b.Routers), .lst false (ml eGLink b.Links)])] (by kernel_rfl) ?_
  refine A.cF rfl (ltF hl1) ?_
  refine A.exit ?_
  show acode _ _ _ _ _
  refine A.seq ?_
  refine A.RS W0 [] [] [(2, .ptr 15002 0), (3, .ptr 15003 0), (6, .int .i64 (0:Int))] [(15002, .cells 33 [.lst false (ml eGRouter a.Routers), .lst false (ml eGLink a.Links)]), (15003, .cells 33 [.lst false (ml eGRouter b.Routers), .lst false (ml eGLink b.Links)])] (by kernel_rfl) ?_
  refine A.block ?_
  refine A.bC 2 1 rfl rfl rfl fun hb2 => ?_
  obtain ⟨B2, K2, hB2, hK2, hm⟩ := forI_some hm
  refine A.lpI (l := a.Links) (j0 := 0) (B := B2) (K := K2) hm (fun j2 => fun sg => match sg with | () => [(2, .ptr 15002 0), (3, .ptr 15003 0), (6, .int .i64 (j2 : Int))]) (fun j2 => fun sg => match sg with | () => [(15002, .cells 33 [.lst false (ml eGRouter a.Routers), .lst false (ml eGLink a.Links)]), (15003, .cells 33 [.lst false (ml eGRouter b.Routers), .lst false (ml eGLink b.Links)])]) ?_ ?_ ?_
  · exact Weak.go [] [] (by kernel_rfl)
  · skip
    rintro j2 e2 Z2 ⟨⟩ hj2 hx2 hm
    rw [hB2] at hm
    refine A.seq ?_
    refine A.RS W0 [] [(3, hto (lnE eGLink a.Links))] [(2, .ptr 15002 0), (3, .ptr 15003 0), (6, .int .i64 (j2 : Int)), (45, .bool (decide ((j2 : Int) < (a.Links.length:Int))))] [(15002, .cells 33 [.lst false (ml eGRouter a.Routers), .lst false (ml eGLink a.Links)]), (15003, .cells 33 [.lst false (ml eGRouter b.Routers), .lst false (ml eGLink b.Links)])] (by kernel_rfl) ?_
    refine A.cT rfl (ltT hx2) ?_
    refine A.skip ?_
    show acode _ _ _ _ _
    refine A.seq ?_
    refine A.block ?_
    obtain ⟨e_2, h2, hm⟩ := bnd_some hm
    refine A.RS W0 [] [(3, hix (ix eGLink (elO_nat hx2))), (8, hix (ix eGLink h2)), (10, .sq true 49 (.agg [.int .i64 e2.A, .int .i64 e2.B, .int .i64 e2.CostA, .int .i64 e2.CostB, .int .i64 e2.Capacity]) (.agg [.int .i64 e_2.A, .int .i64 e_2.B, .int .i64 e_2.CostA, .int .i64 e_2.CostB, .int .i64 e_2.Capacity]) (!(eqGLink e2 e_2)) (fun x y w => eq49_neq x y _ _ _ _ _ _ _ _ _ _ w))] [(2, .ptr 15002 0), (3, .ptr 15003 0), (6, .int .i64 (j2 : Int)), (58, .bool (!(eqGLink e2 e_2)))] [(15002, .cells 33 [.lst false (ml eGRouter a.Routers), .lst false (ml eGLink a.Links)]), (15003, .cells 33 [.lst false (ml eGRouter b.Routers), .lst false (ml eGLink b.Links)])] (by kernel_rfl) ?_
    rcases cs_some hm with ⟨c4, hm⟩ | ⟨c4, hm⟩
    · skip
      refine A.cT rfl c4 ?_
      refine A.RS W0 [] [] [(4, .bool false)] [] (by kernel_rfl) ?_
      refine A.ret ?_
      obtain rfl := some_inj hm
      exact A.fin W0 [] rfl (by kernel_rfl)
    refine A.cF rfl c4 ?_
    refine A.skip ?_
    show acode _ _ _ _ _
    refine A.R W0 [] [(1, hto (inc hx2 hb2))] [(2, .ptr 15002 0), (3, .ptr 15003 0), (6, .int .i64 ((j2 + 1 : Nat) : Int))] [(15002, .cells 33 [.lst false (ml eGRouter a.Routers), .lst false (ml eGLink a.Links)]), (15003, .cells 33 [.lst false (ml eGRouter b.Routers), .lst false (ml eGLink b.Links)])] (by kernel_rfl) ?_
    exact Exists.intro () (And.intro hm (Weak.go [] [] (by kernel_rfl)))
  rintro j2 ⟨⟩ hj2 hl2 hm
  rw [hK2] at hm
  refine A.seq ?_
  refine A.RS W0 [] [(3, hto (lnE eGLink a.Links))] [(2, .ptr 15002 0), (3, .ptr 15003 0), (6, .int .i64 (j2 : Int)), (45, .bool (decide ((j2 : Int) < (a.Links.length:Int))))] [(15002, .cells 33 [.lst false (ml eGRouter a.Routers), .lst false (ml eGLink a.Links)]), (15003, .cells 33 [.lst false (ml eGRouter b.Routers), .lst false (ml eGLink b.Links)])] (by kernel_rfl) ?_
  refine A.cF rfl (ltF hl2) ?_
  refine A.exit ?_
  show acode _ _ _ _ _
  refine A.RS W0 [] [] [(4, .bool true)] [] (by kernel_rfl) ?_
  refine A.ret ?_
  obtain rfl := some_inj hm
  exact A.fin W0 [] rfl (by kernel_rfl)
end Go.Proofs.Ytjckghpceekieaa
