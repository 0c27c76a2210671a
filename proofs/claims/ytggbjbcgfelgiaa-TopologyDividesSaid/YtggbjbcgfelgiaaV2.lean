/- The walks of functions of the program. No condition but those that stand in each. -/
import Derived.Test.YtggbjbcgfelgiaaD2
import Derived.Test.YtggbjbcgfelgiaaV0
import Derived.Test.YtggbjbcgfelgiaaV1
namespace Go.Proofs.Ytggbjbcgfelgiaa
open Go
set_option maxRecDepth 100000
set_option linter.all false
theorem m_ref05_Has_ok {t : GTopology} {ra1 : Int} {r : Bool} (hm : m_ref05_Has t ra1 = some r) : RO Try.prog 38 [] [.agg [.lst false (ml eGRouter t.Routers), .lst false (ml eGLink t.Links)], .int .i64 ra1] (.bool r) := by
  refine enterA Try.func38 rfl rfl ?_
  unfold m_ref05_Has at hm
  refine A.RS W0 [] [(0, .al 38002)] [(1, .int .i64 ra1), (2, .ptr 38002 0)] [(38002, .cells 26 [.lst false (ml eGRouter t.Routers), .lst false (ml eGLink t.Links)])] (by kernel_rfl) ?_
  obtain ⟨vx_1, h1, hm⟩ := bnd_some hm
  rcases cs_some hm with ⟨c1, hm⟩ | ⟨c1, hm⟩
  · skip
    obtain ⟨vx_2, h2, hm⟩ := bnd_some hm
    refine A.RS W0 [] [(1, hro (m_ref05_Check_ok h1) ck14), (3, hto (bE c1)), (6, hro (m_ref05_has_ok h2) ck65)] [(4, .bool vx_2)] [] (by kernel_rfl) ?_
    refine A.ret ?_
    obtain rfl := some_inj hm
    exact A.fin W0 [] rfl (by kernel_rfl)
  refine A.RS W0 [] [(1, hro (m_ref05_Check_ok h1) ck14), (3, hto (bE c1))] [(4, .bool false)] [] (by kernel_rfl) ?_
  refine A.ret ?_
  obtain rfl := some_inj hm
  exact A.fin W0 [] rfl (by kernel_rfl)
theorem m_ref05_Capable_ok {t : GTopology} {ra1 : Int} {r : Bool} (hm : m_ref05_Capable t ra1 = some r) : RO Try.prog 40 [] [.agg [.lst false (ml eGRouter t.Routers), .lst false (ml eGLink t.Links)], .int .i64 ra1] (.bool r) := by
  refine enterA Try.func40 rfl rfl ?_
  unfold m_ref05_Capable at hm
  refine A.RS W0 [] [(0, .al 40002)] [(1, .int .i64 ra1), (2, .ptr 40002 0)] [(40002, .cells 26 [.lst false (ml eGRouter t.Routers), .lst false (ml eGLink t.Links)])] (by kernel_rfl) ?_
  refine A.seq ?_
  obtain ⟨vx_1, h1, hm⟩ := bnd_some hm
  refine A.RS W0 [] [(1, hro (m_ref05_Check_ok h1) ck14)] [(1, .int .i64 ra1), (2, .ptr 40002 0), (8, .bool (!decide (vx_1 = (0:Int))))] [(40002, .cells 26 [.lst false (ml eGRouter t.Routers), .lst false (ml eGLink t.Links)])] (by kernel_rfl) ?_
  rcases cs_some hm with ⟨c1, hm⟩ | ⟨c1, hm⟩
  · skip
    refine A.cT rfl c1 ?_
    refine A.RS W0 [] [] [(4, .bool false)] [] (by kernel_rfl) ?_
    refine A.ret ?_
    obtain rfl := some_inj hm
    exact A.fin W0 [] rfl (by kernel_rfl)
  refine A.cF rfl c1 ?_
  refine A.skip ?_
  show acode _ _ _ _ _
  refine A.seq ?_
  refine A.RS W0 [] [] [(1, .int .i64 ra1), (2, .ptr 40002 0), (5, .int .i64 (0:Int))] [(40002, .cells 26 [.lst false (ml eGRouter t.Routers), .lst false (ml eGLink t.Links)])] (by kernel_rfl) ?_
  refine A.block ?_
  refine A.bC 2 0 rfl rfl rfl fun hb1 => ?_
  obtain ⟨B1, K1, hB1, hK1, hm⟩ := forI_some hm
  refine A.lpI (l := t.Routers) (j0 := 0) (B := B1) (K := K1) hm (fun j1 => fun sg => match sg with | () => [(1, .int .i64 ra1), (2, .ptr 40002 0), (5, .int .i64 (j1 : Int))]) (fun j1 => fun sg => match sg with | () => [(40002, .cells 26 [.lst false (ml eGRouter t.Routers), .lst false (ml eGLink t.Links)])]) ?_ ?_ ?_
  · exact Weak.go [] [] (by kernel_rfl)
  · skip
    rintro j1 e1 Z1 ⟨⟩ hj1 hx1 hm
    rw [hB1] at hm
    refine A.seq ?_
    refine A.RS W0 [] [(3, hto (lnE eGRouter t.Routers))] [(1, .int .i64 ra1), (2, .ptr 40002 0), (5, .int .i64 (j1 : Int)), (13, .bool (decide ((j1 : Int) < (t.Routers.length:Int))))] [(40002, .cells 26 [.lst false (ml eGRouter t.Routers), .lst false (ml eGLink t.Links)])] (by kernel_rfl) ?_
    refine A.cT rfl (ltT hx1) ?_
    refine A.skip ?_
    show acode _ _ _ _ _
    refine A.seq ?_
    refine A.block ?_
    refine A.RS W0 [] [(3, hix (ix eGRouter (elO_nat hx1)))] [(1, .int .i64 ra1), (2, .ptr 40002 0), (5, .int .i64 (j1 : Int)), (23, .bool (decide (e1.ID = ra1)))] [(40002, .cells 26 [.lst false (ml eGRouter t.Routers), .lst false (ml eGLink t.Links)])] (by kernel_rfl) ?_
    rcases cs_some hm with ⟨c2, hm⟩ | ⟨c2, hm⟩
    · skip
      refine A.cT rfl c2 ?_
      refine A.RS W0 [] [(3, hix (ix eGRouter (elO_nat hx1)))] [(4, .bool e1.Capable)] [] (by kernel_rfl) ?_
      refine A.ret ?_
      obtain rfl := some_inj hm
      exact A.fin W0 [] rfl (by kernel_rfl)
    refine A.cF rfl c2 ?_
    refine A.skip ?_
    show acode _ _ _ _ _
    refine A.R W0 [] [(1, hto (inc hx1 hb1))] [(1, .int .i64 ra1), (2, .ptr 40002 0), (5, .int .i64 ((j1 + 1 : Nat) : Int))] [(40002, .cells 26 [.lst false (ml eGRouter t.Routers), .lst false (ml eGLink t.Links)])] (by kernel_rfl) ?_
    exact Exists.intro () (And.intro hm (Weak.go [] [] (by kernel_rfl)))
  rintro j1 ⟨⟩ hj1 hl1 hm
  rw [hK1] at hm
  refine A.seq ?_
  refine A.RS W0 [] [(3, hto (lnE eGRouter t.Routers))] [(1, .int .i64 ra1), (2, .ptr 40002 0), (5, .int .i64 (j1 : Int)), (13, .bool (decide ((j1 : Int) < (t.Routers.length:Int))))] [(40002, .cells 26 [.lst false (ml eGRouter t.Routers), .lst false (ml eGLink t.Links)])] (by kernel_rfl) ?_
  refine A.cF rfl (ltF hl1) ?_
  refine A.exit ?_
  show acode _ _ _ _ _
  refine A.RS W0 [] [] [(4, .bool false)] [] (by kernel_rfl) ?_
  refine A.ret ?_
  obtain rfl := some_inj hm
  exact A.fin W0 [] rfl (by kernel_rfl)
theorem m_ref05_Cost_ok {t : GTopology} {froma1 : Int} {toa2 : Int} {r : Int × Bool} (hm : m_ref05_Cost t froma1 toa2 = some r) : RO Try.prog 44 [] [.agg [.lst false (ml eGRouter t.Routers), .lst false (ml eGLink t.Links)], .int .i64 froma1, .int .i64 toa2] (.tup [.int .i64 r.1, .bool r.2]) := by
  refine enterA Try.func44 rfl rfl ?_
  unfold m_ref05_Cost at hm
  refine A.RS W0 [] [(0, .al 44003)] [(1, .int .i64 froma1), (2, .int .i64 toa2), (3, .ptr 44003 0)] [(44003, .cells 26 [.lst false (ml eGRouter t.Routers), .lst false (ml eGLink t.Links)])] (by kernel_rfl) ?_
  refine A.seq ?_
  obtain ⟨vx_1, h1, hm⟩ := bnd_some hm
  refine A.RS W0 [] [(1, hro (m_ref05_Check_ok h1) ck14)] [(1, .int .i64 froma1), (2, .int .i64 toa2), (3, .ptr 44003 0), (10, .bool (!decide (vx_1 = (0:Int))))] [(44003, .cells 26 [.lst false (ml eGRouter t.Routers), .lst false (ml eGLink t.Links)])] (by kernel_rfl) ?_
  rcases cs_some hm with ⟨c1, hm⟩ | ⟨c1, hm⟩
  · skip
    refine A.cT rfl c1 ?_
    refine A.RS W0 [] [] [(6, .int .i64 (0:Int)), (7, .bool false)] [] (by kernel_rfl) ?_
    refine A.ret ?_
    obtain rfl := some_inj hm
    exact A.fin W0 [] rfl (by kernel_rfl)
  refine A.cF rfl c1 ?_
  refine A.skip ?_
  show acode _ _ _ _ _
  obtain ⟨vx_2, h2, hm⟩ := bnd_some hm
  refine A.RS W0 [] [(3, hro (m_ref05_Price_ok h2) ck78)] [(6, .int .i64 vx_2.1), (7, .bool vx_2.2)] [] (by kernel_rfl) ?_
  refine A.ret ?_
  obtain rfl := some_inj hm
  exact A.fin W0 [] rfl (by kernel_rfl)
theorem m_ref05_Near_ok {t : GTopology} {ra1 : Int} {r : (List Int)} (hm : m_ref05_Near t ra1 = some r) : RO Try.prog 76 [] [.agg [.lst false (ml eGRouter t.Routers), .lst false (ml eGLink t.Links)], .int .i64 ra1] (.lst false (ml eInt r)) := by
  refine enterA Try.func76 rfl rfl ?_
  unfold m_ref05_Near at hm
  refine A.RS W0 [] [(0, .al 76002)] [(1, .int .i64 ra1), (2, .ptr 76002 0)] [(76002, .cells 26 [.lst false (ml eGRouter t.Routers), .lst false (ml eGLink t.Links)])] (by kernel_rfl) ?_
  refine A.RS W0 [] [] [(1, .int .i64 ra1), (2, .ptr 76002 0), (5, .nils)] [(76002, .cells 26 [.lst false (ml eGRouter t.Routers), .lst false (ml eGLink t.Links)])] (by kernel_rfl) ?_
  refine A.seq ?_
  refine A.RS W0 [] [] [(1, .int .i64 ra1), (2, .ptr 76002 0), (5, .nils), (6, .int .i64 (0:Int))] [(76002, .cells 26 [.lst false (ml eGRouter t.Routers), .lst false (ml eGLink t.Links)])] (by kernel_rfl) ?_
  refine A.block ?_
  refine A.bC 2 0 rfl rfl rfl fun hb1 => ?_
  obtain ⟨B1, K1, hB1, hK1, hm⟩ := forI_some hm
  refine A.lpI (l := t.Routers) (j0 := 0) (B := B1) (K := K1) hm (fun j1 => fun out_1 => [(1, .int .i64 ra1), (2, .ptr 76002 0), (5, .own 600076005), (6, .int .i64 (j1 : Int))]) (fun j1 => fun out_1 => [(76002, .cells 26 [.lst false (ml eGRouter t.Routers), .lst false (ml eGLink t.Links)]), (600076005, .slice 3 1 (ml eInt out_1) 0 false)]) ?_ ?_ ?_
  · exact Weak.go [.ad 5 600076005 3 1] [] (by kernel_rfl)
  · skip
    rintro j1 e1 Z1 out_1 hj1 hx1 hm
    rw [hB1] at hm
    refine A.seq ?_
    refine A.RS W0 [] [(3, hto (lnE eGRouter t.Routers))] [(1, .int .i64 ra1), (2, .ptr 76002 0), (5, .own 600076005), (6, .int .i64 (j1 : Int)), (13, .bool (decide ((j1 : Int) < (t.Routers.length:Int))))] [(76002, .cells 26 [.lst false (ml eGRouter t.Routers), .lst false (ml eGLink t.Links)]), (600076005, .slice 3 1 (ml eInt out_1) 0 false)] (by kernel_rfl) ?_
    refine A.cT rfl (ltT hx1) ?_
    refine A.skip ?_
    show acode _ _ _ _ _
    obtain ⟨J1, hJ1, hm⟩ := jn_some hm
    refine A.J (J := J1) (r := r) (fun out_2 => [(1, .int .i64 ra1), (2, .ptr 76002 0), (5, .own 600076005), (6, .int .i64 (j1 : Int))]) (fun out_2 => [(76002, .cells 26 [.lst false (ml eGRouter t.Routers), .lst false (ml eGLink t.Links)]), (600076005, .slice 3 1 (ml eInt out_2) 0 false)]) ?_ ?_
    · skip
      refine A.block ?_
      obtain ⟨vx_1, h1, hm⟩ := bnd_some hm
      refine A.RS W0 [] [(5, hix (ix eGRouter (elO_nat hx1))), (8, hro (m_ref05_Price_ok h1) ck78)] [(1, .int .i64 ra1), (2, .ptr 76002 0), (5, .own 600076005), (6, .int .i64 (j1 : Int)), (8, .bool vx_1.2)] [(76002, .cells 26 [.lst false (ml eGRouter t.Routers), .lst false (ml eGLink t.Links)]), (600076005, .slice 3 1 (ml eInt out_1) 0 false)] (by kernel_rfl) ?_
      refine A.RS W0 [] [] [(1, .int .i64 ra1), (2, .ptr 76002 0), (5, .own 600076005), (6, .int .i64 (j1 : Int)), (28, .bool vx_1.2)] [(76002, .cells 26 [.lst false (ml eGRouter t.Routers), .lst false (ml eGLink t.Links)]), (600076005, .slice 3 1 (ml eInt out_1) 0 false)] (by kernel_rfl) ?_
      rcases cs_some hm with ⟨c1, hm⟩ | ⟨c1, hm⟩
      · skip
        refine A.cT rfl c1 ?_
        obtain ⟨l_1, h2, hm⟩ := bnd_some hm
        refine A.R W0 [] [(4, hix (ix eGRouter (elO_nat hx1))), (8, hap 76537 (ap eInt (bytes := 8) (by decide) h2))] [(1, .int .i64 ra1), (2, .ptr 76002 0), (5, .own 76537), (6, .int .i64 (j1 : Int))] [(76002, .cells 26 [.lst false (ml eGRouter t.Routers), .lst false (ml eGLink t.Links)]), (76537, .slice 3 1 (ml eInt l_1) 0 false)] (by kernel_rfl) ?_
        exact Exists.intro l_1 (And.intro hm (Weak.go [.sw 76537 600076005] [] (by kernel_rfl)))
      refine A.cF rfl c1 ?_
      refine A.skip ?_
      exact Exists.intro out_1 (And.intro hm (Weak.go [] [] (by kernel_rfl)))
    rintro out_2 hm
    rw [hJ1] at hm
    refine A.R W0 [] [(1, hto (inc hx1 hb1))] [(1, .int .i64 ra1), (2, .ptr 76002 0), (5, .own 600076005), (6, .int .i64 ((j1 + 1 : Nat) : Int))] [(76002, .cells 26 [.lst false (ml eGRouter t.Routers), .lst false (ml eGLink t.Links)]), (600076005, .slice 3 1 (ml eInt out_2) 0 false)] (by kernel_rfl) ?_
    exact Exists.intro out_2 (And.intro hm (Weak.go [] [] (by kernel_rfl)))
  rintro j1 out_1 hj1 hl1 hm
  rw [hK1] at hm
  refine A.seq ?_
  refine A.RS W0 [] [(3, hto (lnE eGRouter t.Routers))] [(1, .int .i64 ra1), (2, .ptr 76002 0), (5, .own 600076005), (6, .int .i64 (j1 : Int)), (13, .bool (decide ((j1 : Int) < (t.Routers.length:Int))))] [(76002, .cells 26 [.lst false (ml eGRouter t.Routers), .lst false (ml eGLink t.Links)]), (600076005, .slice 3 1 (ml eInt out_1) 0 false)] (by kernel_rfl) ?_
  refine A.cF rfl (ltF hl1) ?_
  refine A.exit ?_
  show acode _ _ _ _ _
  refine A.RS W0 [] [] [(4, .own 600076005)] [(600076005, .slice 3 1 (ml eInt out_1) 0 false)] (by kernel_rfl) ?_
  refine A.ret ?_
  obtain rfl := some_inj hm
  exact A.fin W0 [.fz [600076005]] rfl (by kernel_rfl)
theorem m_ref05_Neighbours_ok {t : GTopology} {ra1 : Int} {r : (List Int)} (hm : m_ref05_Neighbours t ra1 = some r) : RO Try.prog 42 [] [.agg [.lst false (ml eGRouter t.Routers), .lst false (ml eGLink t.Links)], .int .i64 ra1] (.lst false (ml eInt r)) := by
  refine enterA Try.func42 rfl rfl ?_
  unfold m_ref05_Neighbours at hm
  refine A.RS W0 [] [(0, .al 42002)] [(1, .int .i64 ra1), (2, .ptr 42002 0)] [(42002, .cells 26 [.lst false (ml eGRouter t.Routers), .lst false (ml eGLink t.Links)])] (by kernel_rfl) ?_
  refine A.seq ?_
  obtain ⟨vx_1, h1, hm⟩ := bnd_some hm
  refine A.RS W0 [] [(1, hro (m_ref05_Check_ok h1) ck14)] [(1, .int .i64 ra1), (2, .ptr 42002 0), (7, .bool (!decide (vx_1 = (0:Int))))] [(42002, .cells 26 [.lst false (ml eGRouter t.Routers), .lst false (ml eGLink t.Links)])] (by kernel_rfl) ?_
  rcases cs_some hm with ⟨c1, hm⟩ | ⟨c1, hm⟩
  · skip
    refine A.cT rfl c1 ?_
    refine A.RS W0 [] [] [(4, .nils)] [] (by kernel_rfl) ?_
    refine A.ret ?_
    obtain rfl := some_inj hm
    exact A.fin W0 [] rfl (by kernel_rfl)
  refine A.cF rfl c1 ?_
  refine A.skip ?_
  show acode _ _ _ _ _
  obtain ⟨vx_2, h2, hm⟩ := bnd_some hm
  refine A.RS W0 [] [(2, hro (m_ref05_Near_ok h2) ck76)] [(4, .lst false (ml eInt vx_2))] [] (by kernel_rfl) ?_
  refine A.ret ?_
  obtain rfl := some_inj hm
  exact A.fin W0 [] rfl (by kernel_rfl)
theorem m_ref05_Named_ok {l : List GHop} {a : Int} {b : Int} {r : Bool} (hm : m_ref05_Named l a b = some r) : RO Try.prog 29 [] [.lst false (ml eGHop l), .int .i64 a, .int .i64 b] (.bool r) := by
  refine enterA Try.func29 rfl rfl ?_
  unfold m_ref05_Named at hm
  refine A.RS W0 [] [] [(0, .lst false (ml eGHop l)), (1, .int .i64 a), (2, .int .i64 b)] [] (by kernel_rfl) ?_
  refine A.seq ?_
  refine A.RS W0 [] [] [(0, .lst false (ml eGHop l)), (1, .int .i64 a), (2, .int .i64 b), (7, .int .i64 (0:Int))] [] (by kernel_rfl) ?_
  refine A.block ?_
  refine A.bS 0 rfl fun hb1 => ?_
  obtain ⟨B1, K1, hB1, hK1, hm⟩ := forI_some hm
  refine A.lpI (l := l) (j0 := 0) (B := B1) (K := K1) hm (fun j1 => fun sg => match sg with | () => [(0, .lst false (ml eGHop l)), (1, .int .i64 a), (2, .int .i64 b), (7, .int .i64 (j1 : Int))]) (fun j1 => fun sg => match sg with | () => []) ?_ ?_ ?_
  · exact Weak.go [] [] (by kernel_rfl)
  · skip
    rintro j1 e1 Z1 ⟨⟩ hj1 hx1 hm
    rw [hB1] at hm
    refine A.seq ?_
    refine A.RS W0 [] [(2, hto (lnE eGHop l))] [(0, .lst false (ml eGHop l)), (1, .int .i64 a), (2, .int .i64 b), (7, .int .i64 (j1 : Int)), (11, .bool (decide ((j1 : Int) < (l.length:Int))))] [] (by kernel_rfl) ?_
    refine A.cT rfl (ltT hx1) ?_
    refine A.skip ?_
    show acode _ _ _ _ _
    refine A.seq ?_
    refine A.block ?_
    refine A.mid [(0, .lst false (ml eGHop l)), (1, .int .i64 a), (2, .int .i64 b), (7, .int .i64 (j1 : Int)), (47, .bool (bif decide (e1.From = a) then ((decide (e1.To = b)) || ((decide (e1.From = b)) && (decide (e1.To = a)))) else ((decide (e1.From = b)) && (decide (e1.To = a)))))] [] (fun hk => ?_) ?_
    · skip
      rcases tf (decide (e1.From = a)) with c1 | c1
      · skip
        rcases tf (decide (e1.To = b)) with c2 | c2
        · skip
          exact A.RS W0 [] [(2, hix (ix eGHop (elO_nat hx1))), (7, hto (bE c1)), (10, hix (ix eGHop (elO_nat hx1))), (16, hto (bE c2)), (33, hto ((orT (q := ((decide (e1.From = b)) && (decide (e1.To = a)))) c2).trans (ifT (x := ((decide (e1.To = b)) || ((decide (e1.From = b)) && (decide (e1.To = a))))) (y := ((decide (e1.From = b)) && (decide (e1.To = a)))) c1)))] _ _ (by kernel_rfl) hk
        rcases tf (decide (e1.From = b)) with c3 | c3
        · skip
          exact A.RS W0 [] [(2, hix (ix eGHop (elO_nat hx1))), (7, hto (bE c1)), (10, hix (ix eGHop (elO_nat hx1))), (16, hto (bE c2)), (19, hix (ix eGHop (elO_nat hx1))), (24, hto (bE c3)), (27, hix (ix eGHop (elO_nat hx1))), (33, hto (((andT (q := decide (e1.To = a)) c3).trans (orF (q := ((decide (e1.From = b)) && (decide (e1.To = a)))) c2)).trans (ifT (x := ((decide (e1.To = b)) || ((decide (e1.From = b)) && (decide (e1.To = a))))) (y := ((decide (e1.From = b)) && (decide (e1.To = a)))) c1)))] _ _ (by kernel_rfl) hk
        exact A.RS W0 [] [(2, hix (ix eGHop (elO_nat hx1))), (7, hto (bE c1)), (10, hix (ix eGHop (elO_nat hx1))), (16, hto (bE c2)), (19, hix (ix eGHop (elO_nat hx1))), (24, hto (bE c3)), (33, hto (((andF (q := decide (e1.To = a)) c3).trans (orF (q := ((decide (e1.From = b)) && (decide (e1.To = a)))) c2)).trans (ifT (x := ((decide (e1.To = b)) || ((decide (e1.From = b)) && (decide (e1.To = a))))) (y := ((decide (e1.From = b)) && (decide (e1.To = a)))) c1)))] _ _ (by kernel_rfl) hk
      rcases tf (decide (e1.From = b)) with c4 | c4
      · skip
        exact A.RS W0 [] [(2, hix (ix eGHop (elO_nat hx1))), (7, hto (bE c1)), (19, hix (ix eGHop (elO_nat hx1))), (24, hto (bE c4)), (27, hix (ix eGHop (elO_nat hx1))), (33, hto ((andT (q := decide (e1.To = a)) c4).trans (ifF (x := ((decide (e1.To = b)) || ((decide (e1.From = b)) && (decide (e1.To = a))))) (y := ((decide (e1.From = b)) && (decide (e1.To = a)))) c1)))] _ _ (by kernel_rfl) hk
      exact A.RS W0 [] [(2, hix (ix eGHop (elO_nat hx1))), (7, hto (bE c1)), (19, hix (ix eGHop (elO_nat hx1))), (24, hto (bE c4)), (33, hto ((andF (q := decide (e1.To = a)) c4).trans (ifF (x := ((decide (e1.To = b)) || ((decide (e1.From = b)) && (decide (e1.To = a))))) (y := ((decide (e1.From = b)) && (decide (e1.To = a)))) c1)))] _ _ (by kernel_rfl) hk
    rcases cs_some hm with ⟨c5, hm⟩ | ⟨c5, hm⟩
    · skip
      refine A.cT rfl c5 ?_
      refine A.RS W0 [] [] [(6, .bool true)] [] (by kernel_rfl) ?_
      refine A.ret ?_
      obtain rfl := some_inj hm
      exact A.fin W0 [] rfl (by kernel_rfl)
    refine A.cF rfl c5 ?_
    refine A.skip ?_
    show acode _ _ _ _ _
    refine A.R W0 [] [(1, hto (inc hx1 hb1))] [(0, .lst false (ml eGHop l)), (1, .int .i64 a), (2, .int .i64 b), (7, .int .i64 ((j1 + 1 : Nat) : Int))] [] (by kernel_rfl) ?_
    exact Exists.intro () (And.intro hm (Weak.go [] [] (by kernel_rfl)))
  rintro j1 ⟨⟩ hj1 hl1 hm
  rw [hK1] at hm
  refine A.seq ?_
  refine A.RS W0 [] [(2, hto (lnE eGHop l))] [(0, .lst false (ml eGHop l)), (1, .int .i64 a), (2, .int .i64 b), (7, .int .i64 (j1 : Int)), (11, .bool (decide ((j1 : Int) < (l.length:Int))))] [] (by kernel_rfl) ?_
  refine A.cF rfl (ltF hl1) ?_
  refine A.exit ?_
  show acode _ _ _ _ _
  refine A.RS W0 [] [] [(6, .bool false)] [] (by kernel_rfl) ?_
  refine A.ret ?_
  obtain rfl := some_inj hm
  exact A.fin W0 [] rfl (by kernel_rfl)
theorem m_ref05_Without_ok {t : GTopology} {f : GFailure} {r : GTopology} (hm : m_ref05_Without t f = some r) : RO Try.prog 21 [] [.agg [.lst false (ml eGRouter t.Routers), .lst false (ml eGLink t.Links)], .agg [.lst false (ml eGHop f.Links), .lst false (ml eInt f.Routers)]] (.agg [.lst false (ml eGRouter r.Routers), .lst false (ml eGLink r.Links)]) := by
  refine enterA Try.func21 rfl rfl ?_
  unfold m_ref05_Without at hm
  refine A.RS W0 [] [(0, .al 21002), (1, .al 21003), (2, .al 21004)] [(2, .ptr 21002 0), (3, .ptr 21003 0), (4, .ptr 21004 0)] [(21002, .cells 26 [.lst false (ml eGRouter t.Routers), .lst false (ml eGLink t.Links)]), (21003, .cells 37 [.lst false (ml eGHop f.Links), .lst false (ml eInt f.Routers)]), (21004, .cells 26 [.nils, .nils])] (by kernel_rfl) ?_
  refine A.seq ?_
  obtain ⟨vx_1, h1, hm⟩ := bnd_some hm
  refine A.RS W0 [] [(1, hro (m_ref05_Check_ok h1) ck14)] [(2, .ptr 21002 0), (3, .ptr 21003 0), (4, .ptr 21004 0), (11, .bool (!decide (vx_1 = (0:Int))))] [(21002, .cells 26 [.lst false (ml eGRouter t.Routers), .lst false (ml eGLink t.Links)]), (21003, .cells 37 [.lst false (ml eGHop f.Links), .lst false (ml eInt f.Routers)]), (21004, .cells 26 [.nils, .nils])] (by kernel_rfl) ?_
  rcases cs_some hm with ⟨c1, hm⟩ | ⟨c1, hm⟩
  · skip
    refine A.cT rfl c1 ?_
    refine A.RS W0 [] [] [(4, .ptr 21004 0)] [(21004, .cells 26 [.nils, .nils])] (by kernel_rfl) ?_
    refine A.ret ?_
    obtain rfl := some_inj hm
    exact A.fin W0 [] rfl (by kernel_rfl)
  refine A.cF rfl c1 ?_
  refine A.skip ?_
  show acode _ _ _ _ _
  refine A.RS W0 [] [(0, .al 21005)] [(2, .ptr 21002 0), (3, .ptr 21003 0), (4, .ptr 21004 0), (5, .ptr 21005 0)] [(21002, .cells 26 [.lst false (ml eGRouter t.Routers), .lst false (ml eGLink t.Links)]), (21003, .cells 37 [.lst false (ml eGHop f.Links), .lst false (ml eInt f.Routers)]), (21004, .cells 26 [.nils, .nils]), (21005, .cells 26 [.nils, .nils])] (by kernel_rfl) ?_
  refine A.seq ?_
  refine A.RS W0 [] [] [(2, .ptr 21002 0), (3, .ptr 21003 0), (4, .ptr 21004 0), (5, .ptr 21005 0), (6, .int .i64 (0:Int))] [(21002, .cells 26 [.lst false (ml eGRouter t.Routers), .lst false (ml eGLink t.Links)]), (21003, .cells 37 [.lst false (ml eGHop f.Links), .lst false (ml eInt f.Routers)]), (21004, .cells 26 [.nils, .nils]), (21005, .cells 26 [.nils, .nils])] (by kernel_rfl) ?_
  refine A.block ?_
  refine A.bC 2 0 rfl rfl rfl fun hb1 => ?_
  obtain ⟨B1, K1, hB1, hK1, hm⟩ := forI_some hm
  refine A.lpI (l := t.Routers) (j0 := 0) (B := B1) (K := K1) hm (fun j1 => fun m_1 => [(2, .ptr 21002 0), (3, .ptr 21003 0), (4, .ptr 21004 0), (5, .ptr 21005 0), (6, .int .i64 (j1 : Int))]) (fun j1 => fun m_1 => [(21002, .cells 26 [.lst false (ml eGRouter t.Routers), .lst false (ml eGLink t.Links)]), (21003, .cells 37 [.lst false (ml eGHop f.Links), .lst false (ml eInt f.Routers)]), (21004, .cells 26 [.nils, .nils]), (21005, .cells 26 [.own 702100500, .nils]), (702100500, .slice 55 2 (ml eGRouter m_1) 0 false)]) ?_ ?_ ?_
  · exact Weak.go [.ac 21005 702100500 55 2 0] [] (by kernel_rfl)
  · skip
    rintro j1 e1 Z1 m_1 hj1 hx1 hm
    rw [hB1] at hm
    refine A.seq ?_
    refine A.RS W0 [] [(3, hto (lnE eGRouter t.Routers))] [(2, .ptr 21002 0), (3, .ptr 21003 0), (4, .ptr 21004 0), (5, .ptr 21005 0), (6, .int .i64 (j1 : Int)), (17, .bool (decide ((j1 : Int) < (t.Routers.length:Int))))] [(21002, .cells 26 [.lst false (ml eGRouter t.Routers), .lst false (ml eGLink t.Links)]), (21003, .cells 37 [.lst false (ml eGHop f.Links), .lst false (ml eInt f.Routers)]), (21004, .cells 26 [.nils, .nils]), (21005, .cells 26 [.own 702100500, .nils]), (702100500, .slice 55 2 (ml eGRouter m_1) 0 false)] (by kernel_rfl) ?_
    refine A.cT rfl (ltT hx1) ?_
    refine A.skip ?_
    show acode _ _ _ _ _
    obtain ⟨J1, hJ1, hm⟩ := jn_some hm
    refine A.J (J := J1) (r := r) (fun m_2 => [(2, .ptr 21002 0), (3, .ptr 21003 0), (4, .ptr 21004 0), (5, .ptr 21005 0), (6, .int .i64 (j1 : Int))]) (fun m_2 => [(21002, .cells 26 [.lst false (ml eGRouter t.Routers), .lst false (ml eGLink t.Links)]), (21003, .cells 37 [.lst false (ml eGHop f.Links), .lst false (ml eInt f.Routers)]), (21004, .cells 26 [.nils, .nils]), (21005, .cells 26 [.own 702100500, .nils]), (702100500, .slice 55 2 (ml eGRouter m_2) 0 false)]) ?_ ?_
    · skip
      refine A.block ?_
      obtain ⟨vx_2, h2, hm⟩ := bnd_some hm
      refine A.RS W0 [] [(5, hix (ix eGRouter (elO_nat hx1))), (8, hro (m_ref04_Has_ok h2) ck30)] [(2, .ptr 21002 0), (3, .ptr 21003 0), (4, .ptr 21004 0), (5, .ptr 21005 0), (6, .int .i64 (j1 : Int)), (29, .bool (!vx_2))] [(21002, .cells 26 [.lst false (ml eGRouter t.Routers), .lst false (ml eGLink t.Links)]), (21003, .cells 37 [.lst false (ml eGHop f.Links), .lst false (ml eInt f.Routers)]), (21004, .cells 26 [.nils, .nils]), (21005, .cells 26 [.own 702100500, .nils]), (702100500, .slice 55 2 (ml eGRouter m_1) 0 false)] (by kernel_rfl) ?_
      rcases cs_some hm with ⟨c2, hm⟩ | ⟨c2, hm⟩
      · skip
        refine A.cT rfl c2 ?_
        obtain ⟨l_1, h3, hm⟩ := bnd_some hm
        refine A.R W0 [] [(5, hix (ix eGRouter (elO_nat hx1))), (8, hap 21538 (ap eGRouter (bytes := 16) (by decide) h3))] [(2, .ptr 21002 0), (3, .ptr 21003 0), (4, .ptr 21004 0), (5, .ptr 21005 0), (6, .int .i64 (j1 : Int))] [(21002, .cells 26 [.lst false (ml eGRouter t.Routers), .lst false (ml eGLink t.Links)]), (21003, .cells 37 [.lst false (ml eGHop f.Links), .lst false (ml eInt f.Routers)]), (21004, .cells 26 [.nils, .nils]), (21005, .cells 26 [.own 21538, .nils]), (21538, .slice 55 2 (ml eGRouter l_1) 0 false)] (by kernel_rfl) ?_
        exact Exists.intro l_1 (And.intro hm (Weak.go [.sw 21538 702100500] [] (by kernel_rfl)))
      refine A.cF rfl c2 ?_
      refine A.skip ?_
      exact Exists.intro m_1 (And.intro hm (Weak.go [] [] (by kernel_rfl)))
    rintro m_2 hm
    rw [hJ1] at hm
    refine A.R W0 [] [(1, hto (inc hx1 hb1))] [(2, .ptr 21002 0), (3, .ptr 21003 0), (4, .ptr 21004 0), (5, .ptr 21005 0), (6, .int .i64 ((j1 + 1 : Nat) : Int))] [(21002, .cells 26 [.lst false (ml eGRouter t.Routers), .lst false (ml eGLink t.Links)]), (21003, .cells 37 [.lst false (ml eGHop f.Links), .lst false (ml eInt f.Routers)]), (21004, .cells 26 [.nils, .nils]), (21005, .cells 26 [.own 702100500, .nils]), (702100500, .slice 55 2 (ml eGRouter m_2) 0 false)] (by kernel_rfl) ?_
    exact Exists.intro m_2 (And.intro hm (Weak.go [] [] (by kernel_rfl)))
  rintro j1 m_1 hj1 hl1 hm
  rw [hK1] at hm
  refine A.seq ?_
  refine A.RS W0 [] [(3, hto (lnE eGRouter t.Routers))] [(2, .ptr 21002 0), (3, .ptr 21003 0), (4, .ptr 21004 0), (5, .ptr 21005 0), (6, .int .i64 (j1 : Int)), (17, .bool (decide ((j1 : Int) < (t.Routers.length:Int))))] [(21002, .cells 26 [.lst false (ml eGRouter t.Routers), .lst false (ml eGLink t.Links)]), (21003, .cells 37 [.lst false (ml eGHop f.Links), .lst false (ml eInt f.Routers)]), (21004, .cells 26 [.nils, .nils]), (21005, .cells 26 [.own 702100500, .nils]), (702100500, .slice 55 2 (ml eGRouter m_1) 0 false)] (by kernel_rfl) ?_
  refine A.cF rfl (ltF hl1) ?_
  refine A.exit ?_
  show acode _ _ _ _ _
  refine A.seq ?_
  refine A.RS W0 [] [] [(2, .ptr 21002 0), (3, .ptr 21003 0), (4, .ptr 21004 0), (5, .ptr 21005 0), (7, .int .i64 (0:Int))] [(21002, .cells 26 [.lst false (ml eGRouter t.Routers), .lst false (ml eGLink t.Links)]), (21003, .cells 37 [.lst false (ml eGHop f.Links), .lst false (ml eInt f.Routers)]), (21004, .cells 26 [.nils, .nils]), (21005, .cells 26 [.own 702100500, .nils]), (702100500, .slice 55 2 (ml eGRouter m_1) 0 false)] (by kernel_rfl) ?_
  refine A.block ?_
  refine A.bC 2 1 rfl rfl rfl fun hb2 => ?_
  obtain ⟨B2, K2, hB2, hK2, hm⟩ := forI_some hm
  refine A.lpI (l := t.Links) (j0 := 0) (B := B2) (K := K2) hm (fun j2 => fun m_3 => [(2, .ptr 21002 0), (3, .ptr 21003 0), (4, .ptr 21004 0), (5, .ptr 21005 0), (7, .int .i64 (j2 : Int))]) (fun j2 => fun m_3 => [(21002, .cells 26 [.lst false (ml eGRouter t.Routers), .lst false (ml eGLink t.Links)]), (21003, .cells 37 [.lst false (ml eGHop f.Links), .lst false (ml eInt f.Routers)]), (21004, .cells 26 [.nils, .nils]), (21005, .cells 26 [.own 702100500, .own 702100501]), (702100500, .slice 55 2 (ml eGRouter m_1) 0 false), (702100501, .slice 50 5 (ml eGLink m_3) 0 false)]) ?_ ?_ ?_
  · exact Weak.go [.ac 21005 702100501 50 5 1] [] (by kernel_rfl)
  · skip
    rintro j2 e2 Z2 m_3 hj2 hx2 hm
    rw [hB2] at hm
    refine A.seq ?_
    refine A.RS W0 [] [(3, hto (lnE eGLink t.Links))] [(2, .ptr 21002 0), (3, .ptr 21003 0), (4, .ptr 21004 0), (5, .ptr 21005 0), (7, .int .i64 (j2 : Int)), (44, .bool (decide ((j2 : Int) < (t.Links.length:Int))))] [(21002, .cells 26 [.lst false (ml eGRouter t.Routers), .lst false (ml eGLink t.Links)]), (21003, .cells 37 [.lst false (ml eGHop f.Links), .lst false (ml eInt f.Routers)]), (21004, .cells 26 [.nils, .nils]), (21005, .cells 26 [.own 702100500, .own 702100501]), (702100500, .slice 55 2 (ml eGRouter m_1) 0 false), (702100501, .slice 50 5 (ml eGLink m_3) 0 false)] (by kernel_rfl) ?_
    refine A.cT rfl (ltT hx2) ?_
    refine A.skip ?_
    show acode _ _ _ _ _
    obtain ⟨J2, hJ2, hm⟩ := jn_some hm
    refine A.J (J := J2) (r := r) (fun m_4 => [(2, .ptr 21002 0), (3, .ptr 21003 0), (4, .ptr 21004 0), (5, .ptr 21005 0), (7, .int .i64 (j2 : Int))]) (fun m_4 => [(21002, .cells 26 [.lst false (ml eGRouter t.Routers), .lst false (ml eGLink t.Links)]), (21003, .cells 37 [.lst false (ml eGHop f.Links), .lst false (ml eInt f.Routers)]), (21004, .cells 26 [.nils, .nils]), (21005, .cells 26 [.own 702100500, .own 702100501]), (702100500, .slice 55 2 (ml eGRouter m_1) 0 false), (702100501, .slice 50 5 (ml eGLink m_4) 0 false)]) ?_ ?_
    · skip
      refine A.block ?_
      refine A.RS W0 [] [(3, hix (ix eGLink (elO_nat hx2))), (5, .al 21008)] [(2, .ptr 21002 0), (3, .ptr 21003 0), (4, .ptr 21004 0), (5, .ptr 21005 0), (7, .int .i64 (j2 : Int)), (8, .ptr 21008 0)] [(21002, .cells 26 [.lst false (ml eGRouter t.Routers), .lst false (ml eGLink t.Links)]), (21003, .cells 37 [.lst false (ml eGHop f.Links), .lst false (ml eInt f.Routers)]), (21004, .cells 26 [.nils, .nils]), (21005, .cells 26 [.own 702100500, .own 702100501]), (702100500, .slice 55 2 (ml eGRouter m_1) 0 false), (702100501, .slice 50 5 (ml eGLink m_3) 0 false), (21008, .cells 50 [.int .i64 e2.A, .int .i64 e2.B, .int .i64 e2.CostA, .int .i64 e2.CostB, .int .i64 e2.Capacity])] (by kernel_rfl) ?_
      obtain ⟨J3, hJ3, hm⟩ := jn_some hm
      refine A.J (J := J3) (r := r) (fun v_1 => [(2, .ptr 21002 0), (3, .ptr 21003 0), (4, .ptr 21004 0), (5, .ptr 21005 0), (7, .int .i64 (j2 : Int)), (8, .ptr 21008 0), (75, .bool v_1)]) (fun v_1 => [(21002, .cells 26 [.lst false (ml eGRouter t.Routers), .lst false (ml eGLink t.Links)]), (21003, .cells 37 [.lst false (ml eGHop f.Links), .lst false (ml eInt f.Routers)]), (21004, .cells 26 [.nils, .nils]), (21005, .cells 26 [.own 702100500, .own 702100501]), (702100500, .slice 55 2 (ml eGRouter m_1) 0 false), (702100501, .slice 50 5 (ml eGLink m_3) 0 false), (21008, .cells 50 [.int .i64 e2.A, .int .i64 e2.B, .int .i64 e2.CostA, .int .i64 e2.CostB, .int .i64 e2.Capacity])]) ?_ ?_
      · skip
        obtain ⟨vx_3, h4, hm⟩ := bnd_some hm
        rcases cs_some hm with ⟨c3, hm⟩ | ⟨c3, hm⟩
        · skip
          obtain ⟨vx_4, h5, hm⟩ := bnd_some hm
          rcases cs_some hm with ⟨c4, hm⟩ | ⟨c4, hm⟩
          · skip
            obtain ⟨vx_5, h6, hm⟩ := bnd_some hm
            refine A.R W0 [] [(4, hro (m_ref04_Has_ok h4) ck30), (6, hto (bE c3)), (11, hro (m_ref04_Has_ok h5) ck30), (14, hto (bE c4)), (21, hro (m_ref05_Named_ok h6) ck29)] [(2, .ptr 21002 0), (3, .ptr 21003 0), (4, .ptr 21004 0), (5, .ptr 21005 0), (7, .int .i64 (j2 : Int)), (8, .ptr 21008 0), (75, .bool (!vx_5))] [(21002, .cells 26 [.lst false (ml eGRouter t.Routers), .lst false (ml eGLink t.Links)]), (21003, .cells 37 [.lst false (ml eGHop f.Links), .lst false (ml eInt f.Routers)]), (21004, .cells 26 [.nils, .nils]), (21005, .cells 26 [.own 702100500, .own 702100501]), (702100500, .slice 55 2 (ml eGRouter m_1) 0 false), (702100501, .slice 50 5 (ml eGLink m_3) 0 false), (21008, .cells 50 [.int .i64 e2.A, .int .i64 e2.B, .int .i64 e2.CostA, .int .i64 e2.CostB, .int .i64 e2.Capacity])] (by kernel_rfl) ?_
            exact Exists.intro (!vx_5) (And.intro hm (Weak.go [] [] (by kernel_rfl)))
          refine A.R W0 [] [(4, hro (m_ref04_Has_ok h4) ck30), (6, hto (bE c3)), (11, hro (m_ref04_Has_ok h5) ck30), (14, hto (bE c4))] [(2, .ptr 21002 0), (3, .ptr 21003 0), (4, .ptr 21004 0), (5, .ptr 21005 0), (7, .int .i64 (j2 : Int)), (8, .ptr 21008 0), (75, .bool false)] [(21002, .cells 26 [.lst false (ml eGRouter t.Routers), .lst false (ml eGLink t.Links)]), (21003, .cells 37 [.lst false (ml eGHop f.Links), .lst false (ml eInt f.Routers)]), (21004, .cells 26 [.nils, .nils]), (21005, .cells 26 [.own 702100500, .own 702100501]), (702100500, .slice 55 2 (ml eGRouter m_1) 0 false), (702100501, .slice 50 5 (ml eGLink m_3) 0 false), (21008, .cells 50 [.int .i64 e2.A, .int .i64 e2.B, .int .i64 e2.CostA, .int .i64 e2.CostB, .int .i64 e2.Capacity])] (by kernel_rfl) ?_
          exact Exists.intro false (And.intro hm (Weak.go [] [] (by kernel_rfl)))
        refine A.R W0 [] [(4, hro (m_ref04_Has_ok h4) ck30), (6, hto (bE c3))] [(2, .ptr 21002 0), (3, .ptr 21003 0), (4, .ptr 21004 0), (5, .ptr 21005 0), (7, .int .i64 (j2 : Int)), (8, .ptr 21008 0), (75, .bool false)] [(21002, .cells 26 [.lst false (ml eGRouter t.Routers), .lst false (ml eGLink t.Links)]), (21003, .cells 37 [.lst false (ml eGHop f.Links), .lst false (ml eInt f.Routers)]), (21004, .cells 26 [.nils, .nils]), (21005, .cells 26 [.own 702100500, .own 702100501]), (702100500, .slice 55 2 (ml eGRouter m_1) 0 false), (702100501, .slice 50 5 (ml eGLink m_3) 0 false), (21008, .cells 50 [.int .i64 e2.A, .int .i64 e2.B, .int .i64 e2.CostA, .int .i64 e2.CostB, .int .i64 e2.Capacity])] (by kernel_rfl) ?_
        exact Exists.intro false (And.intro hm (Weak.go [] [] (by kernel_rfl)))
      rintro v_1 hm
      rw [hJ3] at hm
      rcases cs_some hm with ⟨c5, hm⟩ | ⟨c5, hm⟩
      · skip
        refine A.cT rfl c5 ?_
        obtain ⟨l_2, h7, hm⟩ := bnd_some hm
        refine A.R W0 [] [(4, hap 21580 (ap eGLink (bytes := 40) (by decide) h7))] [(2, .ptr 21002 0), (3, .ptr 21003 0), (4, .ptr 21004 0), (5, .ptr 21005 0), (7, .int .i64 (j2 : Int))] [(21002, .cells 26 [.lst false (ml eGRouter t.Routers), .lst false (ml eGLink t.Links)]), (21003, .cells 37 [.lst false (ml eGHop f.Links), .lst false (ml eInt f.Routers)]), (21004, .cells 26 [.nils, .nils]), (21005, .cells 26 [.own 702100500, .own 21580]), (702100500, .slice 55 2 (ml eGRouter m_1) 0 false), (21580, .slice 50 5 (ml eGLink l_2) 0 false)] (by kernel_rfl) ?_
        exact Exists.intro l_2 (And.intro hm (Weak.go [.sw 21580 702100501] [] (by kernel_rfl)))
      refine A.cF rfl c5 ?_
      refine A.skip ?_
      exact Exists.intro m_3 (And.intro hm (Weak.go [] [] (by kernel_rfl)))
    rintro m_4 hm
    rw [hJ2] at hm
    refine A.R W0 [] [(1, hto (inc hx2 hb2))] [(2, .ptr 21002 0), (3, .ptr 21003 0), (4, .ptr 21004 0), (5, .ptr 21005 0), (7, .int .i64 ((j2 + 1 : Nat) : Int))] [(21002, .cells 26 [.lst false (ml eGRouter t.Routers), .lst false (ml eGLink t.Links)]), (21003, .cells 37 [.lst false (ml eGHop f.Links), .lst false (ml eInt f.Routers)]), (21004, .cells 26 [.nils, .nils]), (21005, .cells 26 [.own 702100500, .own 702100501]), (702100500, .slice 55 2 (ml eGRouter m_1) 0 false), (702100501, .slice 50 5 (ml eGLink m_4) 0 false)] (by kernel_rfl) ?_
    exact Exists.intro m_4 (And.intro hm (Weak.go [] [] (by kernel_rfl)))
  rintro j2 m_3 hj2 hl2 hm
  rw [hK2] at hm
  refine A.seq ?_
  refine A.RS W0 [] [(3, hto (lnE eGLink t.Links))] [(2, .ptr 21002 0), (3, .ptr 21003 0), (4, .ptr 21004 0), (5, .ptr 21005 0), (7, .int .i64 (j2 : Int)), (44, .bool (decide ((j2 : Int) < (t.Links.length:Int))))] [(21002, .cells 26 [.lst false (ml eGRouter t.Routers), .lst false (ml eGLink t.Links)]), (21003, .cells 37 [.lst false (ml eGHop f.Links), .lst false (ml eInt f.Routers)]), (21004, .cells 26 [.nils, .nils]), (21005, .cells 26 [.own 702100500, .own 702100501]), (702100500, .slice 55 2 (ml eGRouter m_1) 0 false), (702100501, .slice 50 5 (ml eGLink m_3) 0 false)] (by kernel_rfl) ?_
  refine A.cF rfl (ltF hl2) ?_
  refine A.exit ?_
  show acode _ _ _ _ _
  refine A.RS W0 [] [] [(4, .ptr 21004 0)] [(21004, .cells 26 [.own 702100500, .own 702100501]), (702100500, .slice 55 2 (ml eGRouter m_1) 0 false), (702100501, .slice 50 5 (ml eGLink m_3) 0 false)] (by kernel_rfl) ?_
  refine A.ret ?_
  obtain rfl := some_inj hm
  exact A.fin W0 [.fz [702100500, 702100501]] rfl (by kernel_rfl)
theorem m_ref05_Apply_ok {t : GTopology} {c : GChange} {r : GTopology × Int} (hm : m_ref05_Apply t c = some r) : RO Try.prog 47 [] [.agg [.lst false (ml eGRouter t.Routers), .lst false (ml eGLink t.Links)], .agg [.int .i64 c.A, .int .i64 c.B, .int .i64 c.CostA, .int .i64 c.CostB]] (.tup [.agg [.lst false (ml eGRouter r.1.Routers), .lst false (ml eGLink r.1.Links)], .int .i64 r.2]) := by
  refine enterA Try.func47 rfl rfl ?_
  unfold m_ref05_Apply at hm
  refine A.RS W0 [] [(0, .al 47002), (1, .al 47003), (2, .al 47004)] [(2, .ptr 47002 0), (3, .ptr 47003 0), (4, .ptr 47004 0)] [(47002, .cells 26 [.lst false (ml eGRouter t.Routers), .lst false (ml eGLink t.Links)]), (47003, .cells 71 [.int .i64 c.A, .int .i64 c.B, .int .i64 c.CostA, .int .i64 c.CostB]), (47004, .cells 26 [.nils, .nils])] (by kernel_rfl) ?_
  refine A.seq ?_
  obtain ⟨vx_1, h1, hm⟩ := bnd_some hm
  refine A.RS W0 [] [(1, hro (m_ref05_Check_ok h1) ck14)] [(2, .ptr 47002 0), (3, .ptr 47003 0), (4, .ptr 47004 0), (16, .bool (!decide (vx_1 = (0:Int))))] [(47002, .cells 26 [.lst false (ml eGRouter t.Routers), .lst false (ml eGLink t.Links)]), (47003, .cells 71 [.int .i64 c.A, .int .i64 c.B, .int .i64 c.CostA, .int .i64 c.CostB]), (47004, .cells 26 [.nils, .nils])] (by kernel_rfl) ?_
  rcases cs_some hm with ⟨c1, hm⟩ | ⟨c1, hm⟩
  · skip
    refine A.cT rfl c1 ?_
    refine A.RS W0 [] [] [(4, .ptr 47004 0), (5, .int .i64 (1:Int))] [(47004, .cells 26 [.nils, .nils])] (by kernel_rfl) ?_
    refine A.ret ?_
    obtain rfl := some_inj hm
    exact A.fin W0 [] rfl (by kernel_rfl)
  refine A.cF rfl c1 ?_
  refine A.skip ?_
  show acode _ _ _ _ _
  refine A.seq ?_
  obtain ⟨J1, hJ1, hm⟩ := jn_some hm
  refine A.J (J := J1) (r := r) (fun v_1 => [(2, .ptr 47002 0), (3, .ptr 47003 0), (4, .ptr 47004 0), (29, .bool v_1)]) (fun v_1 => [(47002, .cells 26 [.lst false (ml eGRouter t.Routers), .lst false (ml eGLink t.Links)]), (47003, .cells 71 [.int .i64 c.A, .int .i64 c.B, .int .i64 c.CostA, .int .i64 c.CostB]), (47004, .cells 26 [.nils, .nils])]) ?_ ?_
  · skip
    obtain ⟨vx_2, h2, hm⟩ := bnd_some hm
    rcases cs_some hm with ⟨c2, hm⟩ | ⟨c2, hm⟩
    · skip
      refine A.R W0 [] [(3, hro (m_ref05_has_ok h2) ck65), (5, hto (bE c2))] [(2, .ptr 47002 0), (3, .ptr 47003 0), (4, .ptr 47004 0), (29, .bool true)] [(47002, .cells 26 [.lst false (ml eGRouter t.Routers), .lst false (ml eGLink t.Links)]), (47003, .cells 71 [.int .i64 c.A, .int .i64 c.B, .int .i64 c.CostA, .int .i64 c.CostB]), (47004, .cells 26 [.nils, .nils])] (by kernel_rfl) ?_
      exact Exists.intro true (And.intro hm (Weak.go [] [] (by kernel_rfl)))
    obtain ⟨vx_3, h3, hm⟩ := bnd_some hm
    refine A.R W0 [] [(3, hro (m_ref05_has_ok h2) ck65), (5, hto (bE c2)), (9, hro (m_ref05_has_ok h3) ck65)] [(2, .ptr 47002 0), (3, .ptr 47003 0), (4, .ptr 47004 0), (29, .bool (!vx_3))] [(47002, .cells 26 [.lst false (ml eGRouter t.Routers), .lst false (ml eGLink t.Links)]), (47003, .cells 71 [.int .i64 c.A, .int .i64 c.B, .int .i64 c.CostA, .int .i64 c.CostB]), (47004, .cells 26 [.nils, .nils])] (by kernel_rfl) ?_
    exact Exists.intro (!vx_3) (And.intro hm (Weak.go [] [] (by kernel_rfl)))
  rintro v_1 hm
  rw [hJ1] at hm
  rcases cs_some hm with ⟨c3, hm⟩ | ⟨c3, hm⟩
  · skip
    refine A.cT rfl c3 ?_
    refine A.RS W0 [] [] [(4, .ptr 47004 0), (5, .int .i64 (4:Int))] [(47004, .cells 26 [.nils, .nils])] (by kernel_rfl) ?_
    refine A.ret ?_
    obtain rfl := some_inj hm
    exact A.fin W0 [] rfl (by kernel_rfl)
  refine A.cF rfl c3 ?_
  refine A.skip ?_
  show acode _ _ _ _ _
  refine A.seq ?_
  refine A.RS W0 [] [] [(2, .ptr 47002 0), (3, .ptr 47003 0), (4, .ptr 47004 0), (35, .bool (decide (c.A = c.B)))] [(47002, .cells 26 [.lst false (ml eGRouter t.Routers), .lst false (ml eGLink t.Links)]), (47003, .cells 71 [.int .i64 c.A, .int .i64 c.B, .int .i64 c.CostA, .int .i64 c.CostB]), (47004, .cells 26 [.nils, .nils])] (by kernel_rfl) ?_
  rcases cs_some hm with ⟨c4, hm⟩ | ⟨c4, hm⟩
  · skip
    refine A.cT rfl c4 ?_
    refine A.RS W0 [] [] [(4, .ptr 47004 0), (5, .int .i64 (8:Int))] [(47004, .cells 26 [.nils, .nils])] (by kernel_rfl) ?_
    refine A.ret ?_
    obtain rfl := some_inj hm
    exact A.fin W0 [] rfl (by kernel_rfl)
  refine A.cF rfl c4 ?_
  refine A.skip ?_
  show acode _ _ _ _ _
  refine A.mid [(2, .ptr 47002 0), (3, .ptr 47003 0), (4, .ptr 47004 0), (6, .bool ((decide (c.CostA = (0:Int))) && (decide (c.CostB = (0:Int)))))] [(47002, .cells 26 [.lst false (ml eGRouter t.Routers), .lst false (ml eGLink t.Links)]), (47003, .cells 71 [.int .i64 c.A, .int .i64 c.B, .int .i64 c.CostA, .int .i64 c.CostB]), (47004, .cells 26 [.nils, .nils])] (fun hk => ?_) ?_
  · skip
    rcases tf (decide (c.CostA = (0:Int))) with c5 | c5
    · skip
      exact A.RS W0 [] [(3, hto (bE c5)), (8, hto (andT (q := decide (c.CostB = (0:Int))) c5))] _ _ (by kernel_rfl) hk
    exact A.RS W0 [] [(3, hto (bE c5)), (8, hto (andF (q := decide (c.CostB = (0:Int))) c5))] _ _ (by kernel_rfl) hk
  refine A.seq ?_
  obtain ⟨J2, hJ2, hm⟩ := jn_some hm
  refine A.J (J := J2) (r := r) (fun v_2 => [(2, .ptr 47002 0), (3, .ptr 47003 0), (4, .ptr 47004 0), (6, .bool ((decide (c.CostA = (0:Int))) && (decide (c.CostB = (0:Int))))), (58, .bool v_2)]) (fun v_2 => [(47002, .cells 26 [.lst false (ml eGRouter t.Routers), .lst false (ml eGLink t.Links)]), (47003, .cells 71 [.int .i64 c.A, .int .i64 c.B, .int .i64 c.CostA, .int .i64 c.CostB]), (47004, .cells 26 [.nils, .nils])]) ?_ ?_
  · skip
    rcases cs_some hm with ⟨c6, hm⟩ | ⟨c6, hm⟩
    · skip
      obtain ⟨vx_4, h4, hm⟩ := bnd_some hm
      rcases cs_some hm with ⟨c7, hm⟩ | ⟨c7, hm⟩
      · skip
        refine A.R W0 [] [(2, hto (bE c6)), (5, hro (m_ref05_cost_ok h4) ck64), (7, hto (bE c7))] [(2, .ptr 47002 0), (3, .ptr 47003 0), (4, .ptr 47004 0), (6, .bool ((decide (c.CostA = (0:Int))) && (decide (c.CostB = (0:Int))))), (58, .bool true)] [(47002, .cells 26 [.lst false (ml eGRouter t.Routers), .lst false (ml eGLink t.Links)]), (47003, .cells 71 [.int .i64 c.A, .int .i64 c.B, .int .i64 c.CostA, .int .i64 c.CostB]), (47004, .cells 26 [.nils, .nils])] (by kernel_rfl) ?_
        exact Exists.intro true (And.intro hm (Weak.go [] [] (by kernel_rfl)))
      obtain ⟨vx_5, h5, hm⟩ := bnd_some hm
      refine A.R W0 [] [(2, hto (bE c6)), (5, hro (m_ref05_cost_ok h4) ck64), (7, hto (bE c7)), (10, hro (m_ref05_cost_ok h5) ck64)] [(2, .ptr 47002 0), (3, .ptr 47003 0), (4, .ptr 47004 0), (6, .bool ((decide (c.CostA = (0:Int))) && (decide (c.CostB = (0:Int))))), (58, .bool (!vx_5))] [(47002, .cells 26 [.lst false (ml eGRouter t.Routers), .lst false (ml eGLink t.Links)]), (47003, .cells 71 [.int .i64 c.A, .int .i64 c.B, .int .i64 c.CostA, .int .i64 c.CostB]), (47004, .cells 26 [.nils, .nils])] (by kernel_rfl) ?_
      exact Exists.intro (!vx_5) (And.intro hm (Weak.go [] [] (by kernel_rfl)))
    refine A.R W0 [] [(2, hto (bE c6))] [(2, .ptr 47002 0), (3, .ptr 47003 0), (4, .ptr 47004 0), (6, .bool ((decide (c.CostA = (0:Int))) && (decide (c.CostB = (0:Int))))), (58, .bool false)] [(47002, .cells 26 [.lst false (ml eGRouter t.Routers), .lst false (ml eGLink t.Links)]), (47003, .cells 71 [.int .i64 c.A, .int .i64 c.B, .int .i64 c.CostA, .int .i64 c.CostB]), (47004, .cells 26 [.nils, .nils])] (by kernel_rfl) ?_
    exact Exists.intro false (And.intro hm (Weak.go [] [] (by kernel_rfl)))
  rintro v_2 hm
  rw [hJ2] at hm
  rcases cs_some hm with ⟨c8, hm⟩ | ⟨c8, hm⟩
  · skip
    refine A.cT rfl c8 ?_
    refine A.RS W0 [] [] [(4, .ptr 47004 0), (5, .int .i64 (2:Int))] [(47004, .cells 26 [.nils, .nils])] (by kernel_rfl) ?_
    refine A.ret ?_
    obtain rfl := some_inj hm
    exact A.fin W0 [] rfl (by kernel_rfl)
  refine A.cF rfl c8 ?_
  refine A.skip ?_
  show acode _ _ _ _ _
  obtain ⟨vx_6, h6, hm⟩ := bnd_some hm
  refine A.RS W0 [] [(5, hro (m_ref05_Price_ok h6) ck78)] [(2, .ptr 47002 0), (3, .ptr 47003 0), (4, .ptr 47004 0), (6, .bool ((decide (c.CostA = (0:Int))) && (decide (c.CostB = (0:Int))))), (8, .bool vx_6.2)] [(47002, .cells 26 [.lst false (ml eGRouter t.Routers), .lst false (ml eGLink t.Links)]), (47003, .cells 71 [.int .i64 c.A, .int .i64 c.B, .int .i64 c.CostA, .int .i64 c.CostB]), (47004, .cells 26 [.nils, .nils])] (by kernel_rfl) ?_
  refine A.seq ?_
  refine A.mid [(2, .ptr 47002 0), (3, .ptr 47003 0), (4, .ptr 47004 0), (6, .bool ((decide (c.CostA = (0:Int))) && (decide (c.CostB = (0:Int))))), (8, .bool vx_6.2), (73, .bool (((decide (c.CostA = (0:Int))) && (decide (c.CostB = (0:Int)))) && (!vx_6.2)))] [(47002, .cells 26 [.lst false (ml eGRouter t.Routers), .lst false (ml eGLink t.Links)]), (47003, .cells 71 [.int .i64 c.A, .int .i64 c.B, .int .i64 c.CostA, .int .i64 c.CostB]), (47004, .cells 26 [.nils, .nils])] (fun hk => ?_) ?_
  · skip
    rcases tf ((decide (c.CostA = (0:Int))) && (decide (c.CostB = (0:Int)))) with c9 | c9
    · skip
      exact A.RS W0 [] [(1, hto (bE c9)), (4, hto (andT (q := !vx_6.2) c9))] _ _ (by kernel_rfl) hk
    exact A.RS W0 [] [(1, hto (bE c9)), (4, hto (andF (q := !vx_6.2) c9))] _ _ (by kernel_rfl) hk
  rcases cs_some hm with ⟨c10, hm⟩ | ⟨c10, hm⟩
  · skip
    refine A.cT rfl c10 ?_
    refine A.RS W0 [] [] [(4, .ptr 47004 0), (5, .int .i64 (9:Int))] [(47004, .cells 26 [.nils, .nils])] (by kernel_rfl) ?_
    refine A.ret ?_
    obtain rfl := some_inj hm
    exact A.fin W0 [] rfl (by kernel_rfl)
  refine A.cF rfl c10 ?_
  refine A.skip ?_
  show acode _ _ _ _ _
  refine A.seq ?_
  refine A.RS W0 [] [] [(2, .ptr 47002 0), (3, .ptr 47003 0), (4, .ptr 47004 0), (8, .bool vx_6.2), (75, .bool ((decide (c.CostA = (0:Int))) && (decide (c.CostB = (0:Int)))))] [(47002, .cells 26 [.lst false (ml eGRouter t.Routers), .lst false (ml eGLink t.Links)]), (47003, .cells 71 [.int .i64 c.A, .int .i64 c.B, .int .i64 c.CostA, .int .i64 c.CostB]), (47004, .cells 26 [.nils, .nils])] (by kernel_rfl) ?_
  rcases cs_some hm with ⟨c11, hm⟩ | ⟨c11, hm⟩
  · skip
    refine A.cT rfl c11 ?_
    obtain ⟨vx_7, h7, hm⟩ := bnd_some hm
    refine A.RS W0 [] [(8, hro (m_ref05_Without_ok h7) ck21)] [(4, .ptr 47004 0), (5, .int .i64 (0:Int))] [(47004, .cells 26 [.lst false (ml eGRouter vx_7.Routers), .lst false (ml eGLink vx_7.Links)])] (by kernel_rfl) ?_
    refine A.ret ?_
    obtain rfl := some_inj hm
    exact A.fin W0 [] rfl (by kernel_rfl)
  refine A.cF rfl c11 ?_
  refine A.skip ?_
  show acode _ _ _ _ _
  refine A.RS W0 [] [(9, .al 47009)] [(2, .ptr 47002 0), (3, .ptr 47003 0), (4, .ptr 47004 0), (8, .bool vx_6.2), (9, .ptr 47009 0)] [(47002, .cells 26 [.lst false (ml eGRouter t.Routers), .lst false (ml eGLink t.Links)]), (47003, .cells 71 [.int .i64 c.A, .int .i64 c.B, .int .i64 c.CostA, .int .i64 c.CostB]), (47004, .cells 26 [.nils, .nils]), (47009, .cells 50 [.int .i64 c.A, .int .i64 c.B, .int .i64 c.CostA, .int .i64 c.CostB, .int .i64 (0:Int)])] (by kernel_rfl) ?_
  obtain ⟨J3, hJ3, hm⟩ := jn_some hm
  refine A.J (J := J3) (r := r) (fun sg => match sg with | (m_1, m_2, m_3, m_4) => [(2, .ptr 47002 0), (4, .ptr 47004 0), (8, .bool vx_6.2), (9, .ptr 47009 0)]) (fun sg => match sg with | (m_1, m_2, m_3, m_4) => [(47002, .cells 26 [.lst false (ml eGRouter t.Routers), .lst false (ml eGLink t.Links)]), (47004, .cells 26 [.nils, .nils]), (47009, .cells 50 [.int .i64 m_1, .int .i64 m_2, .int .i64 m_3, .int .i64 m_4, .int .i64 (0:Int)])]) ?_ ?_
  · skip
    refine A.RS W0 [] [] [(2, .ptr 47002 0), (3, .ptr 47003 0), (4, .ptr 47004 0), (8, .bool vx_6.2), (9, .ptr 47009 0), (98, .bool (decide (c.B < c.A)))] [(47002, .cells 26 [.lst false (ml eGRouter t.Routers), .lst false (ml eGLink t.Links)]), (47003, .cells 71 [.int .i64 c.A, .int .i64 c.B, .int .i64 c.CostA, .int .i64 c.CostB]), (47004, .cells 26 [.nils, .nils]), (47009, .cells 50 [.int .i64 c.A, .int .i64 c.B, .int .i64 c.CostA, .int .i64 c.CostB, .int .i64 (0:Int)])] (by kernel_rfl) ?_
    rcases cs_some hm with ⟨c12, hm⟩ | ⟨c12, hm⟩
    · skip
      refine A.cT rfl c12 ?_
      refine A.R W0 [] [] [(2, .ptr 47002 0), (4, .ptr 47004 0), (8, .bool vx_6.2), (9, .ptr 47009 0)] [(47002, .cells 26 [.lst false (ml eGRouter t.Routers), .lst false (ml eGLink t.Links)]), (47004, .cells 26 [.nils, .nils]), (47009, .cells 50 [.int .i64 c.B, .int .i64 c.A, .int .i64 c.CostB, .int .i64 c.CostA, .int .i64 (0:Int)])] (by kernel_rfl) ?_
      exact Exists.intro (c.B, c.A, c.CostB, c.CostA) (And.intro hm (Weak.go [] [] (by kernel_rfl)))
    refine A.cF rfl c12 ?_
    refine A.skip ?_
    exact Exists.intro (c.A, c.B, c.CostA, c.CostB) (And.intro hm (Weak.go [] [] (by kernel_rfl)))
  rintro ⟨m_1, m_2, m_3, m_4⟩ hm
  rw [hJ3] at hm
  refine A.seq ?_
  refine A.mid [(2, .ptr 47002 0), (4, .ptr 47004 0), (9, .ptr 47009 0), (115, .bool ((!vx_6.2) && (decide ((t.Links.length:Int) = (60:Int)))))] [(47002, .cells 26 [.lst false (ml eGRouter t.Routers), .lst false (ml eGLink t.Links)]), (47004, .cells 26 [.nils, .nils]), (47009, .cells 50 [.int .i64 m_1, .int .i64 m_2, .int .i64 m_3, .int .i64 m_4, .int .i64 (0:Int)])] (fun hk => ?_) ?_
  · skip
    rcases tf (!vx_6.2) with c13 | c13
    · skip
      exact A.RS W0 [] [(2, hto (bE c13)), (5, hto (lnE eGLink t.Links)), (7, hto (andT (q := decide ((t.Links.length:Int) = (60:Int))) c13))] _ _ (by kernel_rfl) hk
    exact A.RS W0 [] [(2, hto (bE c13)), (7, hto (andF (q := decide ((t.Links.length:Int) = (60:Int))) c13))] _ _ (by kernel_rfl) hk
  rcases cs_some hm with ⟨c14, hm⟩ | ⟨c14, hm⟩
  · skip
    refine A.cT rfl c14 ?_
    refine A.RS W0 [] [] [(4, .ptr 47004 0), (5, .int .i64 (3:Int))] [(47004, .cells 26 [.nils, .nils])] (by kernel_rfl) ?_
    refine A.ret ?_
    obtain rfl := some_inj hm
    exact A.fin W0 [] rfl (by kernel_rfl)
  refine A.cF rfl c14 ?_
  refine A.skip ?_
  show acode _ _ _ _ _
  refine A.RS W0 [] [(3, .al 47010)] [(2, .ptr 47002 0), (4, .ptr 47004 0), (9, .ptr 47009 0), (10, .ptr 47010 0)] [(47002, .cells 26 [.lst false (ml eGRouter t.Routers), .lst false (ml eGLink t.Links)]), (47004, .cells 26 [.nils, .nils]), (47009, .cells 50 [.int .i64 m_1, .int .i64 m_2, .int .i64 m_3, .int .i64 m_4, .int .i64 (0:Int)]), (47010, .cells 26 [.lst false (ml eGRouter t.Routers), .nils])] (by kernel_rfl) ?_
  refine A.RS W0 [] [] [(2, .ptr 47002 0), (4, .ptr 47004 0), (9, .ptr 47009 0), (10, .ptr 47010 0), (11, .bool false)] [(47002, .cells 26 [.lst false (ml eGRouter t.Routers), .lst false (ml eGLink t.Links)]), (47004, .cells 26 [.nils, .nils]), (47009, .cells 50 [.int .i64 m_1, .int .i64 m_2, .int .i64 m_3, .int .i64 m_4, .int .i64 (0:Int)]), (47010, .cells 26 [.lst false (ml eGRouter t.Routers), .nils])] (by kernel_rfl) ?_
  refine A.seq ?_
  refine A.RS W0 [] [] [(2, .ptr 47002 0), (4, .ptr 47004 0), (9, .ptr 47009 0), (10, .ptr 47010 0), (11, .bool false), (12, .int .i64 (0:Int))] [(47002, .cells 26 [.lst false (ml eGRouter t.Routers), .lst false (ml eGLink t.Links)]), (47004, .cells 26 [.nils, .nils]), (47009, .cells 50 [.int .i64 m_1, .int .i64 m_2, .int .i64 m_3, .int .i64 m_4, .int .i64 (0:Int)]), (47010, .cells 26 [.lst false (ml eGRouter t.Routers), .nils])] (by kernel_rfl) ?_
  refine A.block ?_
  refine A.bC 2 1 rfl rfl rfl fun hb1 => ?_
  obtain ⟨B1, K1, hB1, hK1, hm⟩ := forI_some hm
  refine A.lpI (l := t.Links) (j0 := 0) (B := B1) (K := K1) hm (fun j1 => fun sg => match sg with | (done_1, m_5, m_6) => [(2, .ptr 47002 0), (4, .ptr 47004 0), (9, .ptr 47009 0), (10, .ptr 47010 0), (11, .bool done_1), (12, .int .i64 (j1 : Int))]) (fun j1 => fun sg => match sg with | (done_1, m_5, m_6) => [(47002, .cells 26 [.lst false (ml eGRouter t.Routers), .lst false (ml eGLink t.Links)]), (47004, .cells 26 [.nils, .nils]), (47009, .cells 50 [.int .i64 m_1, .int .i64 m_2, .int .i64 m_3, .int .i64 m_4, .int .i64 m_5]), (47010, .cells 26 [.lst false (ml eGRouter t.Routers), .own 704701001]), (704701001, .slice 50 5 (ml eGLink m_6) 0 false)]) ?_ ?_ ?_
  · exact Weak.go [.ac 47010 704701001 50 5 1] [] (by kernel_rfl)
  · skip
    rintro j1 e1 Z1 ⟨done_1, m_5, m_6⟩ hj1 hx1 hm
    rw [hB1] at hm
    refine A.seq ?_
    refine A.RS W0 [] [(3, hto (lnE eGLink t.Links))] [(2, .ptr 47002 0), (4, .ptr 47004 0), (9, .ptr 47009 0), (10, .ptr 47010 0), (11, .bool done_1), (12, .int .i64 (j1 : Int)), (124, .bool (decide ((j1 : Int) < (t.Links.length:Int))))] [(47002, .cells 26 [.lst false (ml eGRouter t.Routers), .lst false (ml eGLink t.Links)]), (47004, .cells 26 [.nils, .nils]), (47009, .cells 50 [.int .i64 m_1, .int .i64 m_2, .int .i64 m_3, .int .i64 m_4, .int .i64 m_5]), (47010, .cells 26 [.lst false (ml eGRouter t.Routers), .own 704701001]), (704701001, .slice 50 5 (ml eGLink m_6) 0 false)] (by kernel_rfl) ?_
    refine A.cT rfl (ltT hx1) ?_
    refine A.skip ?_
    show acode _ _ _ _ _
    obtain ⟨J4, hJ4, hm⟩ := jn_some hm
    refine A.J (J := J4) (r := r) (fun sg => match sg with | (done_2, m_7, m_8) => [(2, .ptr 47002 0), (4, .ptr 47004 0), (9, .ptr 47009 0), (10, .ptr 47010 0), (11, .bool done_2), (12, .int .i64 (j1 : Int))]) (fun sg => match sg with | (done_2, m_7, m_8) => [(47002, .cells 26 [.lst false (ml eGRouter t.Routers), .lst false (ml eGLink t.Links)]), (47004, .cells 26 [.nils, .nils]), (47009, .cells 50 [.int .i64 m_1, .int .i64 m_2, .int .i64 m_3, .int .i64 m_4, .int .i64 m_7]), (47010, .cells 26 [.lst false (ml eGRouter t.Routers), .own 704701001]), (704701001, .slice 50 5 (ml eGLink m_8) 0 false)]) ?_ ?_
    · skip
      refine A.block ?_
      refine A.RS W0 [] [(3, hix (ix eGLink (elO_nat hx1))), (5, .al 47013)] [(2, .ptr 47002 0), (4, .ptr 47004 0), (9, .ptr 47009 0), (10, .ptr 47010 0), (11, .bool done_1), (12, .int .i64 (j1 : Int)), (13, .ptr 47013 0)] [(47002, .cells 26 [.lst false (ml eGRouter t.Routers), .lst false (ml eGLink t.Links)]), (47004, .cells 26 [.nils, .nils]), (47009, .cells 50 [.int .i64 m_1, .int .i64 m_2, .int .i64 m_3, .int .i64 m_4, .int .i64 m_5]), (47010, .cells 26 [.lst false (ml eGRouter t.Routers), .own 704701001]), (704701001, .slice 50 5 (ml eGLink m_6) 0 false), (47013, .cells 50 [.int .i64 e1.A, .int .i64 e1.B, .int .i64 e1.CostA, .int .i64 e1.CostB, .int .i64 e1.Capacity])] (by kernel_rfl) ?_
      refine A.seq ?_
      refine A.mid [(2, .ptr 47002 0), (4, .ptr 47004 0), (9, .ptr 47009 0), (10, .ptr 47010 0), (11, .bool done_1), (12, .int .i64 (j1 : Int)), (13, .ptr 47013 0), (143, .bool ((decide (e1.A = m_1)) && (decide (e1.B = m_2))))] [(47002, .cells 26 [.lst false (ml eGRouter t.Routers), .lst false (ml eGLink t.Links)]), (47004, .cells 26 [.nils, .nils]), (47009, .cells 50 [.int .i64 m_1, .int .i64 m_2, .int .i64 m_3, .int .i64 m_4, .int .i64 m_5]), (47010, .cells 26 [.lst false (ml eGRouter t.Routers), .own 704701001]), (704701001, .slice 50 5 (ml eGLink m_6) 0 false), (47013, .cells 50 [.int .i64 e1.A, .int .i64 e1.B, .int .i64 e1.CostA, .int .i64 e1.CostB, .int .i64 e1.Capacity])] (fun hk => ?_) ?_
      · skip
        rcases tf (decide (e1.A = m_1)) with c15 | c15
        · skip
          exact A.RS W0 [] [(5, hto (bE c15)), (11, hto (andT (q := decide (e1.B = m_2)) c15))] _ _ (by kernel_rfl) hk
        exact A.RS W0 [] [(5, hto (bE c15)), (11, hto (andF (q := decide (e1.B = m_2)) c15))] _ _ (by kernel_rfl) hk
      rcases cs_some hm with ⟨c16, hm⟩ | ⟨c16, hm⟩
      · skip
        refine A.cT rfl c16 ?_
        refine A.RS W0 [] [] [(2, .ptr 47002 0), (4, .ptr 47004 0), (9, .ptr 47009 0), (10, .ptr 47010 0), (12, .int .i64 (j1 : Int)), (13, .ptr 47013 0)] [(47002, .cells 26 [.lst false (ml eGRouter t.Routers), .lst false (ml eGLink t.Links)]), (47004, .cells 26 [.nils, .nils]), (47009, .cells 50 [.int .i64 m_1, .int .i64 m_2, .int .i64 m_3, .int .i64 m_4, .int .i64 e1.Capacity]), (47010, .cells 26 [.lst false (ml eGRouter t.Routers), .own 704701001]), (704701001, .slice 50 5 (ml eGLink m_6) 0 false), (47013, .cells 50 [.int .i64 e1.A, .int .i64 e1.B, .int .i64 e1.CostA, .int .i64 e1.CostB, .int .i64 e1.Capacity])] (by kernel_rfl) ?_
        obtain ⟨l_1, h8, hm⟩ := bnd_some hm
        refine A.RS W0 [] [(4, hap 47651 (ap eGLink (bytes := 40) (by decide) h8))] [(2, .ptr 47002 0), (4, .ptr 47004 0), (9, .ptr 47009 0), (10, .ptr 47010 0), (12, .int .i64 (j1 : Int)), (13, .ptr 47013 0)] [(47002, .cells 26 [.lst false (ml eGRouter t.Routers), .lst false (ml eGLink t.Links)]), (47004, .cells 26 [.nils, .nils]), (47009, .cells 50 [.int .i64 m_1, .int .i64 m_2, .int .i64 m_3, .int .i64 m_4, .int .i64 e1.Capacity]), (47010, .cells 26 [.lst false (ml eGRouter t.Routers), .own 47651]), (47013, .cells 50 [.int .i64 e1.A, .int .i64 e1.B, .int .i64 e1.CostA, .int .i64 e1.CostB, .int .i64 e1.Capacity]), (47651, .slice 50 5 (ml eGLink l_1) 0 false)] (by kernel_rfl) ?_
        refine A.RS W0 [] [] [(2, .ptr 47002 0), (4, .ptr 47004 0), (9, .ptr 47009 0), (10, .ptr 47010 0), (12, .int .i64 (j1 : Int)), (13, .ptr 47013 0), (11, .bool true)] [(47002, .cells 26 [.lst false (ml eGRouter t.Routers), .lst false (ml eGLink t.Links)]), (47004, .cells 26 [.nils, .nils]), (47009, .cells 50 [.int .i64 m_1, .int .i64 m_2, .int .i64 m_3, .int .i64 m_4, .int .i64 e1.Capacity]), (47010, .cells 26 [.lst false (ml eGRouter t.Routers), .own 47651]), (47013, .cells 50 [.int .i64 e1.A, .int .i64 e1.B, .int .i64 e1.CostA, .int .i64 e1.CostB, .int .i64 e1.Capacity]), (47651, .slice 50 5 (ml eGLink l_1) 0 false)] (by kernel_rfl) ?_
        refine A.exit ?_
        exact Exists.intro (true, e1.Capacity, l_1) (And.intro hm (Weak.go [.sw 47651 704701001] [] (by kernel_rfl)))
      refine A.cF rfl c16 ?_
      refine A.skip ?_
      show acode _ _ _ _ _
      obtain ⟨J5, hJ5, hm⟩ := jn_some hm
      refine A.J (J := J5) (r := r) (fun sg => match sg with | (done_3, m_9) => [(2, .ptr 47002 0), (4, .ptr 47004 0), (9, .ptr 47009 0), (10, .ptr 47010 0), (11, .bool done_3), (12, .int .i64 (j1 : Int)), (13, .ptr 47013 0)]) (fun sg => match sg with | (done_3, m_9) => [(47002, .cells 26 [.lst false (ml eGRouter t.Routers), .lst false (ml eGLink t.Links)]), (47004, .cells 26 [.nils, .nils]), (47009, .cells 50 [.int .i64 m_1, .int .i64 m_2, .int .i64 m_3, .int .i64 m_4, .int .i64 m_5]), (47010, .cells 26 [.lst false (ml eGRouter t.Routers), .own 704701001]), (704701001, .slice 50 5 (ml eGLink m_9) 0 false), (47013, .cells 50 [.int .i64 e1.A, .int .i64 e1.B, .int .i64 e1.CostA, .int .i64 e1.CostB, .int .i64 e1.Capacity])]) ?_ ?_
      · skip
        refine A.mid [(2, .ptr 47002 0), (4, .ptr 47004 0), (9, .ptr 47009 0), (10, .ptr 47010 0), (11, .bool done_1), (12, .int .i64 (j1 : Int)), (13, .ptr 47013 0), (175, .bool ((!done_1) && ((decide (m_1 < e1.A)) || ((decide (m_1 = e1.A)) && (decide (m_2 < e1.B))))))] [(47002, .cells 26 [.lst false (ml eGRouter t.Routers), .lst false (ml eGLink t.Links)]), (47004, .cells 26 [.nils, .nils]), (47009, .cells 50 [.int .i64 m_1, .int .i64 m_2, .int .i64 m_3, .int .i64 m_4, .int .i64 m_5]), (47010, .cells 26 [.lst false (ml eGRouter t.Routers), .own 704701001]), (704701001, .slice 50 5 (ml eGLink m_6) 0 false), (47013, .cells 50 [.int .i64 e1.A, .int .i64 e1.B, .int .i64 e1.CostA, .int .i64 e1.CostB, .int .i64 e1.Capacity])] (fun hk => ?_) ?_
        · skip
          rcases tf (!done_1) with c17 | c17
          · skip
            rcases tf (decide (m_1 < e1.A)) with c18 | c18
            · skip
              exact A.RS W0 [] [(2, hto (bE c17)), (8, hto (bE c18)), (22, hto ((orT (q := ((decide (m_1 = e1.A)) && (decide (m_2 < e1.B)))) c18).trans (andT (q := ((decide (m_1 < e1.A)) || ((decide (m_1 = e1.A)) && (decide (m_2 < e1.B))))) c17)))] _ _ (by kernel_rfl) hk
            rcases tf (decide (m_1 = e1.A)) with c19 | c19
            · skip
              exact A.RS W0 [] [(2, hto (bE c17)), (8, hto (bE c18)), (14, hto (bE c19)), (22, hto (((andT (q := decide (m_2 < e1.B)) c19).trans (orF (q := ((decide (m_1 = e1.A)) && (decide (m_2 < e1.B)))) c18)).trans (andT (q := ((decide (m_1 < e1.A)) || ((decide (m_1 = e1.A)) && (decide (m_2 < e1.B))))) c17)))] _ _ (by kernel_rfl) hk
            exact A.RS W0 [] [(2, hto (bE c17)), (8, hto (bE c18)), (14, hto (bE c19)), (22, hto (((andF (q := decide (m_2 < e1.B)) c19).trans (orF (q := ((decide (m_1 = e1.A)) && (decide (m_2 < e1.B)))) c18)).trans (andT (q := ((decide (m_1 < e1.A)) || ((decide (m_1 = e1.A)) && (decide (m_2 < e1.B))))) c17)))] _ _ (by kernel_rfl) hk
          exact A.RS W0 [] [(2, hto (bE c17)), (22, hto (andF (q := ((decide (m_1 < e1.A)) || ((decide (m_1 = e1.A)) && (decide (m_2 < e1.B))))) c17))] _ _ (by kernel_rfl) hk
        rcases cs_some hm with ⟨c20, hm⟩ | ⟨c20, hm⟩
        · skip
          refine A.cT rfl c20 ?_
          obtain ⟨l_2, h9, hm⟩ := bnd_some hm
          refine A.RS W0 [] [(4, hap 47680 (ap eGLink (bytes := 40) (by decide) h9))] [(2, .ptr 47002 0), (4, .ptr 47004 0), (9, .ptr 47009 0), (10, .ptr 47010 0), (12, .int .i64 (j1 : Int)), (13, .ptr 47013 0)] [(47002, .cells 26 [.lst false (ml eGRouter t.Routers), .lst false (ml eGLink t.Links)]), (47004, .cells 26 [.nils, .nils]), (47009, .cells 50 [.int .i64 m_1, .int .i64 m_2, .int .i64 m_3, .int .i64 m_4, .int .i64 m_5]), (47010, .cells 26 [.lst false (ml eGRouter t.Routers), .own 47680]), (47013, .cells 50 [.int .i64 e1.A, .int .i64 e1.B, .int .i64 e1.CostA, .int .i64 e1.CostB, .int .i64 e1.Capacity]), (47680, .slice 50 5 (ml eGLink l_2) 0 false)] (by kernel_rfl) ?_
          refine A.R W0 [] [] [(2, .ptr 47002 0), (4, .ptr 47004 0), (9, .ptr 47009 0), (10, .ptr 47010 0), (12, .int .i64 (j1 : Int)), (13, .ptr 47013 0), (11, .bool true)] [(47002, .cells 26 [.lst false (ml eGRouter t.Routers), .lst false (ml eGLink t.Links)]), (47004, .cells 26 [.nils, .nils]), (47009, .cells 50 [.int .i64 m_1, .int .i64 m_2, .int .i64 m_3, .int .i64 m_4, .int .i64 m_5]), (47010, .cells 26 [.lst false (ml eGRouter t.Routers), .own 47680]), (47013, .cells 50 [.int .i64 e1.A, .int .i64 e1.B, .int .i64 e1.CostA, .int .i64 e1.CostB, .int .i64 e1.Capacity]), (47680, .slice 50 5 (ml eGLink l_2) 0 false)] (by kernel_rfl) ?_
          exact Exists.intro (true, l_2) (And.intro hm (Weak.go [.sw 47680 704701001] [] (by kernel_rfl)))
        refine A.cF rfl c20 ?_
        refine A.skip ?_
        exact Exists.intro (done_1, m_6) (And.intro hm (Weak.go [] [] (by kernel_rfl)))
      rintro ⟨done_3, m_9⟩ hm
      rw [hJ5] at hm
      obtain ⟨l_3, h10, hm⟩ := bnd_some hm
      refine A.R W0 [] [(4, hap 47686 (ap eGLink (bytes := 40) (by decide) h10))] [(2, .ptr 47002 0), (4, .ptr 47004 0), (9, .ptr 47009 0), (10, .ptr 47010 0), (11, .bool done_3), (12, .int .i64 (j1 : Int))] [(47002, .cells 26 [.lst false (ml eGRouter t.Routers), .lst false (ml eGLink t.Links)]), (47004, .cells 26 [.nils, .nils]), (47009, .cells 50 [.int .i64 m_1, .int .i64 m_2, .int .i64 m_3, .int .i64 m_4, .int .i64 m_5]), (47010, .cells 26 [.lst false (ml eGRouter t.Routers), .own 47686]), (47686, .slice 50 5 (ml eGLink l_3) 0 false)] (by kernel_rfl) ?_
      exact Exists.intro (done_3, m_5, l_3) (And.intro hm (Weak.go [.sw 47686 704701001] [] (by kernel_rfl)))
    rintro ⟨done_2, m_7, m_8⟩ hm
    rw [hJ4] at hm
    refine A.R W0 [] [(1, hto (inc hx1 hb1))] [(2, .ptr 47002 0), (4, .ptr 47004 0), (9, .ptr 47009 0), (10, .ptr 47010 0), (11, .bool done_2), (12, .int .i64 ((j1 + 1 : Nat) : Int))] [(47002, .cells 26 [.lst false (ml eGRouter t.Routers), .lst false (ml eGLink t.Links)]), (47004, .cells 26 [.nils, .nils]), (47009, .cells 50 [.int .i64 m_1, .int .i64 m_2, .int .i64 m_3, .int .i64 m_4, .int .i64 m_7]), (47010, .cells 26 [.lst false (ml eGRouter t.Routers), .own 704701001]), (704701001, .slice 50 5 (ml eGLink m_8) 0 false)] (by kernel_rfl) ?_
    exact Exists.intro (done_2, m_7, m_8) (And.intro hm (Weak.go [] [] (by kernel_rfl)))
  rintro j1 ⟨done_1, m_5, m_6⟩ hj1 hl1 hm
  rw [hK1] at hm
  refine A.seq ?_
  refine A.RS W0 [] [(3, hto (lnE eGLink t.Links))] [(2, .ptr 47002 0), (4, .ptr 47004 0), (9, .ptr 47009 0), (10, .ptr 47010 0), (11, .bool done_1), (12, .int .i64 (j1 : Int)), (124, .bool (decide ((j1 : Int) < (t.Links.length:Int))))] [(47002, .cells 26 [.lst false (ml eGRouter t.Routers), .lst false (ml eGLink t.Links)]), (47004, .cells 26 [.nils, .nils]), (47009, .cells 50 [.int .i64 m_1, .int .i64 m_2, .int .i64 m_3, .int .i64 m_4, .int .i64 m_5]), (47010, .cells 26 [.lst false (ml eGRouter t.Routers), .own 704701001]), (704701001, .slice 50 5 (ml eGLink m_6) 0 false)] (by kernel_rfl) ?_
  refine A.cF rfl (ltF hl1) ?_
  refine A.exit ?_
  show acode _ _ _ _ _
  obtain ⟨J6, hJ6, hm⟩ := jn_some hm
  refine A.J (J := J6) (r := r) (fun m_10 => [(4, .ptr 47004 0), (10, .ptr 47010 0)]) (fun m_10 => [(47004, .cells 26 [.nils, .nils]), (47010, .cells 26 [.lst false (ml eGRouter t.Routers), .own 704701001]), (704701001, .slice 50 5 (ml eGLink m_10) 0 false)]) ?_ ?_
  · skip
    refine A.RS W0 [] [] [(4, .ptr 47004 0), (9, .ptr 47009 0), (10, .ptr 47010 0), (189, .bool (!done_1))] [(47004, .cells 26 [.nils, .nils]), (47009, .cells 50 [.int .i64 m_1, .int .i64 m_2, .int .i64 m_3, .int .i64 m_4, .int .i64 m_5]), (47010, .cells 26 [.lst false (ml eGRouter t.Routers), .own 704701001]), (704701001, .slice 50 5 (ml eGLink m_6) 0 false)] (by kernel_rfl) ?_
    rcases cs_some hm with ⟨c21, hm⟩ | ⟨c21, hm⟩
    · skip
      refine A.cT rfl c21 ?_
      obtain ⟨l_4, h11, hm⟩ := bnd_some hm
      refine A.R W0 [] [(4, hap 47694 (ap eGLink (bytes := 40) (by decide) h11))] [(4, .ptr 47004 0), (10, .ptr 47010 0)] [(47004, .cells 26 [.nils, .nils]), (47010, .cells 26 [.lst false (ml eGRouter t.Routers), .own 47694]), (47694, .slice 50 5 (ml eGLink l_4) 0 false)] (by kernel_rfl) ?_
      exact Exists.intro l_4 (And.intro hm (Weak.go [.sw 47694 704701001] [] (by kernel_rfl)))
    refine A.cF rfl c21 ?_
    refine A.skip ?_
    exact Exists.intro m_6 (And.intro hm (Weak.go [] [] (by kernel_rfl)))
  rintro m_10 hm
  rw [hJ6] at hm
  refine A.RS W0 [] [] [(4, .ptr 47004 0), (5, .int .i64 (0:Int))] [(47004, .cells 26 [.lst false (ml eGRouter t.Routers), .own 704701001]), (704701001, .slice 50 5 (ml eGLink m_10) 0 false)] (by kernel_rfl) ?_
  refine A.ret ?_
  obtain rfl := some_inj hm
  exact A.fin W0 [.fz [704701001]] rfl (by kernel_rfl)
theorem m_ref05_Around_ok {t : GTopology} {ra1 : Int} {r : (List Int)} (hm : m_ref05_Around t ra1 = some r) : RO Try.prog 72 [] [.agg [.lst false (ml eGRouter t.Routers), .lst false (ml eGLink t.Links)], .int .i64 ra1] (.lst false (ml eInt r)) := by
  refine enterA Try.func72 rfl rfl ?_
  unfold m_ref05_Around at hm
  refine A.RS W0 [] [(0, .al 72002)] [(1, .int .i64 ra1), (2, .ptr 72002 0)] [(72002, .cells 26 [.lst false (ml eGRouter t.Routers), .lst false (ml eGLink t.Links)])] (by kernel_rfl) ?_
  refine A.RS W0 [] [(1, .al 72012)] [(2, .ptr 72002 0), (5, .own 72012)] [(72002, .cells 26 [.lst false (ml eGRouter t.Routers), .lst false (ml eGLink t.Links)]), (72012, .slice 3 1 (ml eInt ([ra1] : List Int)) 0 false)] (by kernel_rfl) ?_
  refine A.seq ?_
  refine A.RS W0 [] [] [(2, .ptr 72002 0), (5, .own 72012), (6, .int .i64 (0:Int))] [(72002, .cells 26 [.lst false (ml eGRouter t.Routers), .lst false (ml eGLink t.Links)]), (72012, .slice 3 1 (ml eInt ([ra1] : List Int)) 0 false)] (by kernel_rfl) ?_
  refine A.block ?_
  obtain ⟨F1, n1, hF1, hm⟩ := whl_some hm
  refine A.lpW (F := F1) hm (fun sg => match sg with | (out_1, i_1) => [(2, .ptr 72002 0), (5, .own 600072005), (6, .int .i64 i_1)]) (fun sg => match sg with | (out_1, i_1) => [(72002, .cells 26 [.lst false (ml eGRouter t.Routers), .lst false (ml eGLink t.Links)]), (600072005, .slice 3 1 (ml eInt out_1) 0 false)]) ?_ ?_
  · exact Weak.go [.sw 72012 600072005] [] (by kernel_rfl)
  rintro Z1 ⟨out_1, i_1⟩ hm
  rw [hF1] at hm
  refine A.seq ?_
  refine A.RS W0 [] [(2, hto (lnE eInt out_1))] [(2, .ptr 72002 0), (5, .own 600072005), (6, .int .i64 i_1), (16, .bool (decide (i_1 < (out_1.length:Int))))] [(72002, .cells 26 [.lst false (ml eGRouter t.Routers), .lst false (ml eGLink t.Links)]), (600072005, .slice 3 1 (ml eInt out_1) 0 false)] (by kernel_rfl) ?_
  rcases cs_some hm with ⟨c1, hm⟩ | ⟨c1, hm⟩
  · skip
    refine A.cT rfl c1 ?_
    refine A.skip ?_
    show acode _ _ _ _ _
    refine A.seq ?_
    refine A.block ?_
    obtain ⟨e_1, h1, hm⟩ := bnd_some hm
    obtain ⟨vx_1, h2, hm⟩ := bnd_some hm
    refine A.RS W0 [] [(3, hix (ix eInt h1)), (4, hlo 600072005 0 (ix eInt h1)), (5, hro (m_ref05_Near_ok h2) ck76)] [(2, .ptr 72002 0), (5, .own 600072005), (6, .int .i64 i_1), (7, .lst false (ml eInt vx_1))] [(72002, .cells 26 [.lst false (ml eGRouter t.Routers), .lst false (ml eGLink t.Links)]), (600072005, .slice 3 1 (ml eInt out_1) 0 false)] (by kernel_rfl) ?_
    refine A.RS W0 [] [] [(2, .ptr 72002 0), (5, .own 600072005), (6, .int .i64 i_1), (7, .lst false (ml eInt vx_1)), (8, .int .i64 (0:Int))] [(72002, .cells 26 [.lst false (ml eGRouter t.Routers), .lst false (ml eGLink t.Links)]), (600072005, .slice 3 1 (ml eInt out_1) 0 false)] (by kernel_rfl) ?_
    refine A.block ?_
    refine A.bS 7 rfl fun hb2 => ?_
    obtain ⟨B2, K2, hB2, hK2, hm⟩ := forI_some hm
    refine A.lpI (l := vx_1) (j0 := 0) (B := B2) (K := K2) hm (fun j2 => fun out_2 => [(2, .ptr 72002 0), (5, .own 600072005), (6, .int .i64 i_1), (7, .lst false (ml eInt vx_1)), (8, .int .i64 (j2 : Int))]) (fun j2 => fun out_2 => [(72002, .cells 26 [.lst false (ml eGRouter t.Routers), .lst false (ml eGLink t.Links)]), (600072005, .slice 3 1 (ml eInt out_2) 0 false)]) ?_ ?_ ?_
    · exact Weak.go [] [] (by kernel_rfl)
    · skip
      rintro j2 e2 Z2 out_2 hj2 hx2 hm
      rw [hB2] at hm
      refine A.seq ?_
      refine A.RS W0 [] [(2, hto (lnE eInt vx_1))] [(2, .ptr 72002 0), (5, .own 600072005), (6, .int .i64 i_1), (7, .lst false (ml eInt vx_1)), (8, .int .i64 (j2 : Int)), (28, .bool (decide ((j2 : Int) < (vx_1.length:Int))))] [(72002, .cells 26 [.lst false (ml eGRouter t.Routers), .lst false (ml eGLink t.Links)]), (600072005, .slice 3 1 (ml eInt out_2) 0 false)] (by kernel_rfl) ?_
      refine A.cT rfl (ltT hx2) ?_
      refine A.skip ?_
      show acode _ _ _ _ _
      obtain ⟨J1, hJ1, hm⟩ := jn_some hm
      refine A.J (J := J1) (r := r) (fun out_3 => [(2, .ptr 72002 0), (5, .own 600072005), (6, .int .i64 i_1), (7, .lst false (ml eInt vx_1)), (8, .int .i64 (j2 : Int))]) (fun out_3 => [(72002, .cells 26 [.lst false (ml eGRouter t.Routers), .lst false (ml eGLink t.Links)]), (600072005, .slice 3 1 (ml eInt out_3) 0 false)]) ?_ ?_
      · skip
        refine A.block ?_
        obtain ⟨vx_2, h3, hm⟩ := bnd_some hm
        refine A.RS W0 [] [(3, hix (ix eInt (elO_nat hx2))), (5, hle [600072005] (m_ref04_Has_ok h3) ck30)] [(2, .ptr 72002 0), (5, .own 600072005), (6, .int .i64 i_1), (7, .lst false (ml eInt vx_1)), (8, .int .i64 (j2 : Int)), (37, .bool (!vx_2))] [(72002, .cells 26 [.lst false (ml eGRouter t.Routers), .lst false (ml eGLink t.Links)]), (600072005, .slice 3 1 (ml eInt out_2) 0 false)] (by kernel_rfl) ?_
        rcases cs_some hm with ⟨c2, hm⟩ | ⟨c2, hm⟩
        · skip
          refine A.cT rfl c2 ?_
          obtain ⟨l_1, h4, hm⟩ := bnd_some hm
          refine A.R W0 [] [(3, hix (ix eInt (elO_nat hx2))), (6, hap 72544 (ap eInt (bytes := 8) (by decide) h4))] [(2, .ptr 72002 0), (5, .own 72544), (6, .int .i64 i_1), (7, .lst false (ml eInt vx_1)), (8, .int .i64 (j2 : Int))] [(72002, .cells 26 [.lst false (ml eGRouter t.Routers), .lst false (ml eGLink t.Links)]), (72544, .slice 3 1 (ml eInt l_1) 0 false)] (by kernel_rfl) ?_
          exact Exists.intro l_1 (And.intro hm (Weak.go [.sw 72544 600072005] [] (by kernel_rfl)))
        refine A.cF rfl c2 ?_
        refine A.skip ?_
        exact Exists.intro out_2 (And.intro hm (Weak.go [] [] (by kernel_rfl)))
      rintro out_3 hm
      rw [hJ1] at hm
      refine A.R W0 [] [(1, hto (inc hx2 hb2))] [(2, .ptr 72002 0), (5, .own 600072005), (6, .int .i64 i_1), (7, .lst false (ml eInt vx_1)), (8, .int .i64 ((j2 + 1 : Nat) : Int))] [(72002, .cells 26 [.lst false (ml eGRouter t.Routers), .lst false (ml eGLink t.Links)]), (600072005, .slice 3 1 (ml eInt out_3) 0 false)] (by kernel_rfl) ?_
      exact Exists.intro out_3 (And.intro hm (Weak.go [] [] (by kernel_rfl)))
    rintro j2 out_2 hj2 hl2 hm
    rw [hK2] at hm
    refine A.seq ?_
    refine A.RS W0 [] [(2, hto (lnE eInt vx_1))] [(2, .ptr 72002 0), (5, .own 600072005), (6, .int .i64 i_1), (7, .lst false (ml eInt vx_1)), (8, .int .i64 (j2 : Int)), (28, .bool (decide ((j2 : Int) < (vx_1.length:Int))))] [(72002, .cells 26 [.lst false (ml eGRouter t.Routers), .lst false (ml eGLink t.Links)]), (600072005, .slice 3 1 (ml eInt out_2) 0 false)] (by kernel_rfl) ?_
    refine A.cF rfl (ltF hl2) ?_
    refine A.exit ?_
    show acode _ _ _ _ _
    refine A.R W0 [] [] [(2, .ptr 72002 0), (5, .own 600072005), (6, .int .i64 (w64 (i_1 + (1:Int))))] [(72002, .cells 26 [.lst false (ml eGRouter t.Routers), .lst false (ml eGLink t.Links)]), (600072005, .slice 3 1 (ml eInt out_2) 0 false)] (by kernel_rfl) ?_
    exact Exists.intro (out_2, w64 (i_1 + (1:Int))) (And.intro hm (Weak.go [] [] (by kernel_rfl)))
  refine A.cF rfl c1 ?_
  refine A.exit ?_
  show acode _ _ _ _ _
  refine A.RS W0 [] [] [(5, .own 600072005), (9, .nils)] [(600072005, .slice 3 1 (ml eInt out_1) 0 false)] (by kernel_rfl) ?_
  refine A.seq ?_
  refine A.RS W0 [] [] [(5, .own 600072005), (9, .nils), (10, .int .i64 (0:Int))] [(600072005, .slice 3 1 (ml eInt out_1) 0 false)] (by kernel_rfl) ?_
  refine A.block ?_
  refine A.bW 5 rfl rfl fun hb3 => ?_
  obtain ⟨B3, K3, hB3, hK3, hm⟩ := forI_some hm
  refine A.lpI (l := out_1) (j0 := 0) (B := B3) (K := K3) hm (fun j3 => fun l_2 => [(5, .own 600072005), (9, .lst false (ml eInt l_2)), (10, .int .i64 (j3 : Int))]) (fun j3 => fun l_2 => [(600072005, .slice 3 1 (ml eInt out_1) 0 false)]) ?_ ?_ ?_
  · exact Weak.go [] [9] (by kernel_rfl)
  · skip
    rintro j3 e3 Z3 l_2 hj3 hx3 hm
    rw [hB3] at hm
    refine A.seq ?_
    refine A.RS W0 [] [(2, hto (lnE eInt out_1))] [(5, .own 600072005), (9, .lst false (ml eInt l_2)), (10, .int .i64 (j3 : Int)), (48, .bool (decide ((j3 : Int) < (out_1.length:Int))))] [(600072005, .slice 3 1 (ml eInt out_1) 0 false)] (by kernel_rfl) ?_
    refine A.cT rfl (ltT hx3) ?_
    refine A.skip ?_
    show acode _ _ _ _ _
    refine A.seq ?_
    refine A.block ?_
    obtain ⟨vx_3, h5, hm⟩ := bnd_some hm
    refine A.R W0 [] [(3, hix (ix eInt (elO_nat hx3))), (4, hlo 600072005 0 (ix eInt (elO_nat hx3))), (5, hro (m_ref04_Insert_ok h5) ck91)] [(5, .own 600072005), (9, .lst false (ml eInt vx_3)), (10, .int .i64 (j3 : Int))] [(600072005, .slice 3 1 (ml eInt out_1) 0 false)] (by kernel_rfl) ?_
    show acode _ _ _ _ _
    refine A.R W0 [] [(1, hto (inc hx3 hb3))] [(5, .own 600072005), (9, .lst false (ml eInt vx_3)), (10, .int .i64 ((j3 + 1 : Nat) : Int))] [(600072005, .slice 3 1 (ml eInt out_1) 0 false)] (by kernel_rfl) ?_
    exact Exists.intro vx_3 (And.intro hm (Weak.go [] [9] (by kernel_rfl)))
  rintro j3 l_2 hj3 hl3 hm
  rw [hK3] at hm
  refine A.seq ?_
  refine A.RS W0 [] [(2, hto (lnE eInt out_1))] [(5, .own 600072005), (9, .lst false (ml eInt l_2)), (10, .int .i64 (j3 : Int)), (48, .bool (decide ((j3 : Int) < (out_1.length:Int))))] [(600072005, .slice 3 1 (ml eInt out_1) 0 false)] (by kernel_rfl) ?_
  refine A.cF rfl (ltF hl3) ?_
  refine A.exit ?_
  show acode _ _ _ _ _
  refine A.RS W0 [] [] [(4, .lst false (ml eInt l_2))] [] (by kernel_rfl) ?_
  refine A.ret ?_
  obtain rfl := some_inj hm
  exact A.fin W0 [] rfl (by kernel_rfl)
theorem m_ref05_Components_ok {t : GTopology} {r : (List (List Int))} (hm : m_ref05_Components t = some r) : RO Try.prog 31 [] [.agg [.lst false (ml eGRouter t.Routers), .lst false (ml eGLink t.Links)]] (.lst false (ml (eL eInt) r)) := by
  refine enterA Try.func31 rfl rfl ?_
  unfold m_ref05_Components at hm
  refine A.RS W0 [] [(0, .al 31001)] [(1, .ptr 31001 0)] [(31001, .cells 26 [.lst false (ml eGRouter t.Routers), .lst false (ml eGLink t.Links)])] (by kernel_rfl) ?_
  refine A.seq ?_
  obtain ⟨vx_1, h1, hm⟩ := bnd_some hm
  refine A.RS W0 [] [(1, hro (m_ref05_Check_ok h1) ck14)] [(1, .ptr 31001 0), (8, .bool (!decide (vx_1 = (0:Int))))] [(31001, .cells 26 [.lst false (ml eGRouter t.Routers), .lst false (ml eGLink t.Links)])] (by kernel_rfl) ?_
  rcases cs_some hm with ⟨c1, hm⟩ | ⟨c1, hm⟩
  · skip
    refine A.cT rfl c1 ?_
    refine A.RS W0 [] [] [(2, .nils)] [] (by kernel_rfl) ?_
    refine A.ret ?_
    obtain rfl := some_inj hm
    exact A.fin W0 [] rfl (by kernel_rfl)
  refine A.cF rfl c1 ?_
  refine A.skip ?_
  show acode _ _ _ _ _
  refine A.RS W0 [] [] [(1, .ptr 31001 0), (3, .nils)] [(31001, .cells 26 [.lst false (ml eGRouter t.Routers), .lst false (ml eGLink t.Links)])] (by kernel_rfl) ?_
  refine A.seq ?_
  refine A.RS W0 [] [] [(1, .ptr 31001 0), (3, .nils), (4, .int .i64 (0:Int))] [(31001, .cells 26 [.lst false (ml eGRouter t.Routers), .lst false (ml eGLink t.Links)])] (by kernel_rfl) ?_
  refine A.block ?_
  refine A.bC 1 0 rfl rfl rfl fun hb1 => ?_
  obtain ⟨B1, K1, hB1, hK1, hm⟩ := forI_some hm
  refine A.lpI (l := t.Routers) (j0 := 0) (B := B1) (K := K1) hm (fun j1 => fun out_1 => [(1, .ptr 31001 0), (3, .own 600031003), (4, .int .i64 (j1 : Int))]) (fun j1 => fun out_1 => [(31001, .cells 26 [.lst false (ml eGRouter t.Routers), .lst false (ml eGLink t.Links)]), (600031003, .slice 22 1 (ml (eL eInt) out_1) 0 false)]) ?_ ?_ ?_
  · exact Weak.go [.ad 3 600031003 22 1] [] (by kernel_rfl)
  · skip
    rintro j1 e1 Z1 out_1 hj1 hx1 hm
    rw [hB1] at hm
    refine A.seq ?_
    refine A.RS W0 [] [(3, hto (lnE eGRouter t.Routers))] [(1, .ptr 31001 0), (3, .own 600031003), (4, .int .i64 (j1 : Int)), (13, .bool (decide ((j1 : Int) < (t.Routers.length:Int))))] [(31001, .cells 26 [.lst false (ml eGRouter t.Routers), .lst false (ml eGLink t.Links)]), (600031003, .slice 22 1 (ml (eL eInt) out_1) 0 false)] (by kernel_rfl) ?_
    refine A.cT rfl (ltT hx1) ?_
    refine A.skip ?_
    show acode _ _ _ _ _
    obtain ⟨J1, hJ1, hm⟩ := jn_some hm
    refine A.J (J := J1) (r := r) (fun out_2 => [(1, .ptr 31001 0), (3, .own 600031003), (4, .int .i64 (j1 : Int))]) (fun out_2 => [(31001, .cells 26 [.lst false (ml eGRouter t.Routers), .lst false (ml eGLink t.Links)]), (600031003, .slice 22 1 (ml (eL eInt) out_2) 0 false)]) ?_ ?_
    · skip
      refine A.block ?_
      obtain ⟨vx_2, h2, hm⟩ := bnd_some hm
      refine A.RS W0 [] [(4, hix (ix eGRouter (elO_nat hx1))), (7, hro (m_ref05_Around_ok h2) ck72)] [(1, .ptr 31001 0), (3, .own 600031003), (4, .int .i64 (j1 : Int)), (5, .lst false (ml eInt vx_2))] [(31001, .cells 26 [.lst false (ml eGRouter t.Routers), .lst false (ml eGLink t.Links)]), (600031003, .slice 22 1 (ml (eL eInt) out_1) 0 false)] (by kernel_rfl) ?_
      obtain ⟨e_1, h3, hm⟩ := bnd_some hm
      refine A.RS W0 [] [(1, hix (ix eInt h3)), (6, hix (ix eGRouter (elO_nat hx1)))] [(1, .ptr 31001 0), (3, .own 600031003), (4, .int .i64 (j1 : Int)), (5, .lst false (ml eInt vx_2)), (33, .bool (decide (e_1 = e1.ID)))] [(31001, .cells 26 [.lst false (ml eGRouter t.Routers), .lst false (ml eGLink t.Links)]), (600031003, .slice 22 1 (ml (eL eInt) out_1) 0 false)] (by kernel_rfl) ?_
      rcases cs_some hm with ⟨c2, hm⟩ | ⟨c2, hm⟩
      · skip
        refine A.cT rfl c2 ?_
        obtain ⟨l_1, h4, hm⟩ := bnd_some hm
        refine A.R W0 [] [(3, hap 31537 (ap (eL eInt) (bytes := 24) (by decide) h4))] [(1, .ptr 31001 0), (3, .own 31537), (4, .int .i64 (j1 : Int))] [(31001, .cells 26 [.lst false (ml eGRouter t.Routers), .lst false (ml eGLink t.Links)]), (31537, .slice 22 1 (ml (eL eInt) l_1) 0 false)] (by kernel_rfl) ?_
        exact Exists.intro l_1 (And.intro hm (Weak.go [.sw 31537 600031003] [] (by kernel_rfl)))
      refine A.cF rfl c2 ?_
      refine A.skip ?_
      exact Exists.intro out_1 (And.intro hm (Weak.go [] [] (by kernel_rfl)))
    rintro out_2 hm
    rw [hJ1] at hm
    refine A.R W0 [] [(1, hto (inc hx1 hb1))] [(1, .ptr 31001 0), (3, .own 600031003), (4, .int .i64 ((j1 + 1 : Nat) : Int))] [(31001, .cells 26 [.lst false (ml eGRouter t.Routers), .lst false (ml eGLink t.Links)]), (600031003, .slice 22 1 (ml (eL eInt) out_2) 0 false)] (by kernel_rfl) ?_
    exact Exists.intro out_2 (And.intro hm (Weak.go [] [] (by kernel_rfl)))
  rintro j1 out_1 hj1 hl1 hm
  rw [hK1] at hm
  refine A.seq ?_
  refine A.RS W0 [] [(3, hto (lnE eGRouter t.Routers))] [(1, .ptr 31001 0), (3, .own 600031003), (4, .int .i64 (j1 : Int)), (13, .bool (decide ((j1 : Int) < (t.Routers.length:Int))))] [(31001, .cells 26 [.lst false (ml eGRouter t.Routers), .lst false (ml eGLink t.Links)]), (600031003, .slice 22 1 (ml (eL eInt) out_1) 0 false)] (by kernel_rfl) ?_
  refine A.cF rfl (ltF hl1) ?_
  refine A.exit ?_
  show acode _ _ _ _ _
  refine A.RS W0 [] [] [(2, .own 600031003)] [(600031003, .slice 22 1 (ml (eL eInt) out_1) 0 false)] (by kernel_rfl) ?_
  refine A.ret ?_
  obtain rfl := some_inj hm
  exact A.fin W0 [.fz [600031003]] rfl (by kernel_rfl)
theorem m_ref05_Connected_ok {t : GTopology} {a : Int} {b : Int} {r : Bool} (hm : m_ref05_Connected t a b = some r) : RO Try.prog 34 [] [.agg [.lst false (ml eGRouter t.Routers), .lst false (ml eGLink t.Links)], .int .i64 a, .int .i64 b] (.bool r) := by
  refine enterA Try.func34 rfl rfl ?_
  unfold m_ref05_Connected at hm
  refine A.RS W0 [] [(0, .al 34003)] [(1, .int .i64 a), (2, .int .i64 b), (3, .ptr 34003 0)] [(34003, .cells 26 [.lst false (ml eGRouter t.Routers), .lst false (ml eGLink t.Links)])] (by kernel_rfl) ?_
  obtain ⟨vx_1, h1, hm⟩ := bnd_some hm
  rcases cs_some hm with ⟨c1, hm⟩ | ⟨c1, hm⟩
  · skip
    obtain ⟨vx_2, h2, hm⟩ := bnd_some hm
    rcases cs_some hm with ⟨c2, hm⟩ | ⟨c2, hm⟩
    · skip
      obtain ⟨vx_3, h3, hm⟩ := bnd_some hm
      obtain ⟨vx_4, h4, hm⟩ := bnd_some hm
      refine A.RS W0 [] [(2, hro (m_ref05_Has_ok h1) ck38), (3, hto (bE c1)), (6, hro (m_ref05_Has_ok h2) ck38), (8, hto (bE c2)), (11, hro (m_ref05_Around_ok h3) ck72), (13, hro (m_ref04_Has_ok h4) ck30)] [(6, .bool vx_4)] [] (by kernel_rfl) ?_
      refine A.ret ?_
      obtain rfl := some_inj hm
      exact A.fin W0 [] rfl (by kernel_rfl)
    refine A.RS W0 [] [(2, hro (m_ref05_Has_ok h1) ck38), (3, hto (bE c1)), (6, hro (m_ref05_Has_ok h2) ck38), (8, hto (bE c2))] [(6, .bool false)] [] (by kernel_rfl) ?_
    refine A.ret ?_
    obtain rfl := some_inj hm
    exact A.fin W0 [] rfl (by kernel_rfl)
  refine A.RS W0 [] [(2, hro (m_ref05_Has_ok h1) ck38), (3, hto (bE c1))] [(6, .bool false)] [] (by kernel_rfl) ?_
  refine A.ret ?_
  obtain rfl := some_inj hm
  exact A.fin W0 [] rfl (by kernel_rfl)
theorem m_ref05_Bridges_ok {t : GTopology} {r : (List GHop)} (hm : m_ref05_Bridges t = some r) : RO Try.prog 25 [] [.agg [.lst false (ml eGRouter t.Routers), .lst false (ml eGLink t.Links)]] (.lst false (ml eGHop r)) := by
  refine enterA Try.func25 rfl rfl ?_
  unfold m_ref05_Bridges at hm
  refine A.RS W0 [] [(0, .al 25001)] [(1, .ptr 25001 0)] [(25001, .cells 26 [.lst false (ml eGRouter t.Routers), .lst false (ml eGLink t.Links)])] (by kernel_rfl) ?_
  refine A.seq ?_
  obtain ⟨vx_1, h1, hm⟩ := bnd_some hm
  refine A.RS W0 [] [(1, hro (m_ref05_Check_ok h1) ck14)] [(1, .ptr 25001 0), (8, .bool (!decide (vx_1 = (0:Int))))] [(25001, .cells 26 [.lst false (ml eGRouter t.Routers), .lst false (ml eGLink t.Links)])] (by kernel_rfl) ?_
  rcases cs_some hm with ⟨c1, hm⟩ | ⟨c1, hm⟩
  · skip
    refine A.cT rfl c1 ?_
    refine A.RS W0 [] [] [(2, .nils)] [] (by kernel_rfl) ?_
    refine A.ret ?_
    obtain rfl := some_inj hm
    exact A.fin W0 [] rfl (by kernel_rfl)
  refine A.cF rfl c1 ?_
  refine A.skip ?_
  show acode _ _ _ _ _
  refine A.RS W0 [] [] [(1, .ptr 25001 0), (3, .nils)] [(25001, .cells 26 [.lst false (ml eGRouter t.Routers), .lst false (ml eGLink t.Links)])] (by kernel_rfl) ?_
  refine A.seq ?_
  refine A.RS W0 [] [] [(1, .ptr 25001 0), (3, .nils), (4, .int .i64 (0:Int))] [(25001, .cells 26 [.lst false (ml eGRouter t.Routers), .lst false (ml eGLink t.Links)])] (by kernel_rfl) ?_
  refine A.block ?_
  refine A.bC 1 1 rfl rfl rfl fun hb1 => ?_
  obtain ⟨B1, K1, hB1, hK1, hm⟩ := forI_some hm
  refine A.lpI (l := t.Links) (j0 := 0) (B := B1) (K := K1) hm (fun j1 => fun out_1 => [(1, .ptr 25001 0), (3, .own 600025003), (4, .int .i64 (j1 : Int))]) (fun j1 => fun out_1 => [(25001, .cells 26 [.lst false (ml eGRouter t.Routers), .lst false (ml eGLink t.Links)]), (600025003, .slice 52 2 (ml eGHop out_1) 0 false)]) ?_ ?_ ?_
  · exact Weak.go [.ad 3 600025003 52 2] [] (by kernel_rfl)
  · skip
    rintro j1 e1 Z1 out_1 hj1 hx1 hm
    rw [hB1] at hm
    refine A.seq ?_
    refine A.RS W0 [] [(3, hto (lnE eGLink t.Links))] [(1, .ptr 25001 0), (3, .own 600025003), (4, .int .i64 (j1 : Int)), (13, .bool (decide ((j1 : Int) < (t.Links.length:Int))))] [(25001, .cells 26 [.lst false (ml eGRouter t.Routers), .lst false (ml eGLink t.Links)]), (600025003, .slice 52 2 (ml eGHop out_1) 0 false)] (by kernel_rfl) ?_
    refine A.cT rfl (ltT hx1) ?_
    refine A.skip ?_
    show acode _ _ _ _ _
    obtain ⟨J1, hJ1, hm⟩ := jn_some hm
    refine A.J (J := J1) (r := r) (fun out_2 => [(1, .ptr 25001 0), (3, .own 600025003), (4, .int .i64 (j1 : Int))]) (fun out_2 => [(25001, .cells 26 [.lst false (ml eGRouter t.Routers), .lst false (ml eGLink t.Links)]), (600025003, .slice 52 2 (ml eGHop out_2) 0 false)]) ?_ ?_
    · skip
      refine A.block ?_
      refine A.RS W0 [] [(3, hix (ix eGLink (elO_nat hx1))), (9, hix (ix eGLink (elO_nat hx1))), (13, .al 25005)] [(1, .ptr 25001 0), (3, .own 600025003), (4, .int .i64 (j1 : Int)), (5, .ptr 25005 0)] [(25001, .cells 26 [.lst false (ml eGRouter t.Routers), .lst false (ml eGLink t.Links)]), (600025003, .slice 52 2 (ml eGHop out_1) 0 false), (25005, .cells 52 [.int .i64 e1.A, .int .i64 e1.B])] (by kernel_rfl) ?_
      obtain ⟨vx_2, h2, hm⟩ := bnd_some hm
      obtain ⟨vx_3, h3, hm⟩ := bnd_some hm
      refine A.RS W0 [] [(4, hro (m_ref05_Without_ok h2) ck21), (9, hro (m_ref05_Connected_ok h3) ck34)] [(1, .ptr 25001 0), (3, .own 600025003), (4, .int .i64 (j1 : Int)), (5, .ptr 25005 0), (39, .bool (!vx_3))] [(25001, .cells 26 [.lst false (ml eGRouter t.Routers), .lst false (ml eGLink t.Links)]), (600025003, .slice 52 2 (ml eGHop out_1) 0 false), (25005, .cells 52 [.int .i64 e1.A, .int .i64 e1.B])] (by kernel_rfl) ?_
      rcases cs_some hm with ⟨c2, hm⟩ | ⟨c2, hm⟩
      · skip
        refine A.cT rfl c2 ?_
        obtain ⟨l_1, h4, hm⟩ := bnd_some hm
        refine A.R W0 [] [(3, hap 25543 (ap eGHop (bytes := 16) (by decide) h4))] [(1, .ptr 25001 0), (3, .own 25543), (4, .int .i64 (j1 : Int))] [(25001, .cells 26 [.lst false (ml eGRouter t.Routers), .lst false (ml eGLink t.Links)]), (25543, .slice 52 2 (ml eGHop l_1) 0 false)] (by kernel_rfl) ?_
        exact Exists.intro l_1 (And.intro hm (Weak.go [.sw 25543 600025003] [] (by kernel_rfl)))
      refine A.cF rfl c2 ?_
      refine A.skip ?_
      exact Exists.intro out_1 (And.intro hm (Weak.go [] [] (by kernel_rfl)))
    rintro out_2 hm
    rw [hJ1] at hm
    refine A.R W0 [] [(1, hto (inc hx1 hb1))] [(1, .ptr 25001 0), (3, .own 600025003), (4, .int .i64 ((j1 + 1 : Nat) : Int))] [(25001, .cells 26 [.lst false (ml eGRouter t.Routers), .lst false (ml eGLink t.Links)]), (600025003, .slice 52 2 (ml eGHop out_2) 0 false)] (by kernel_rfl) ?_
    exact Exists.intro out_2 (And.intro hm (Weak.go [] [] (by kernel_rfl)))
  rintro j1 out_1 hj1 hl1 hm
  rw [hK1] at hm
  refine A.seq ?_
  refine A.RS W0 [] [(3, hto (lnE eGLink t.Links))] [(1, .ptr 25001 0), (3, .own 600025003), (4, .int .i64 (j1 : Int)), (13, .bool (decide ((j1 : Int) < (t.Links.length:Int))))] [(25001, .cells 26 [.lst false (ml eGRouter t.Routers), .lst false (ml eGLink t.Links)]), (600025003, .slice 52 2 (ml eGHop out_1) 0 false)] (by kernel_rfl) ?_
  refine A.cF rfl (ltF hl1) ?_
  refine A.exit ?_
  show acode _ _ _ _ _
  refine A.RS W0 [] [] [(2, .own 600025003)] [(600025003, .slice 52 2 (ml eGHop out_1) 0 false)] (by kernel_rfl) ?_
  refine A.ret ?_
  obtain rfl := some_inj hm
  exact A.fin W0 [.fz [600025003]] rfl (by kernel_rfl)
theorem m_ref05_Cuts_ok {t : GTopology} {r : (List Int)} (hm : m_ref05_Cuts t = some r) : RO Try.prog 27 [] [.agg [.lst false (ml eGRouter t.Routers), .lst false (ml eGLink t.Links)]] (.lst false (ml eInt r)) := by
  refine enterA Try.func27 rfl rfl ?_
  unfold m_ref05_Cuts at hm
  refine A.RS W0 [] [(0, .al 27001)] [(1, .ptr 27001 0)] [(27001, .cells 26 [.lst false (ml eGRouter t.Routers), .lst false (ml eGLink t.Links)])] (by kernel_rfl) ?_
  refine A.seq ?_
  obtain ⟨vx_1, h1, hm⟩ := bnd_some hm
  refine A.RS W0 [] [(1, hro (m_ref05_Check_ok h1) ck14)] [(1, .ptr 27001 0), (14, .bool (!decide (vx_1 = (0:Int))))] [(27001, .cells 26 [.lst false (ml eGRouter t.Routers), .lst false (ml eGLink t.Links)])] (by kernel_rfl) ?_
  rcases cs_some hm with ⟨c1, hm⟩ | ⟨c1, hm⟩
  · skip
    refine A.cT rfl c1 ?_
    refine A.RS W0 [] [] [(2, .nils)] [] (by kernel_rfl) ?_
    refine A.ret ?_
    obtain rfl := some_inj hm
    exact A.fin W0 [] rfl (by kernel_rfl)
  refine A.cF rfl c1 ?_
  refine A.skip ?_
  show acode _ _ _ _ _
  refine A.RS W0 [] [] [(1, .ptr 27001 0), (3, .nils)] [(27001, .cells 26 [.lst false (ml eGRouter t.Routers), .lst false (ml eGLink t.Links)])] (by kernel_rfl) ?_
  refine A.seq ?_
  refine A.RS W0 [] [] [(1, .ptr 27001 0), (3, .nils), (4, .int .i64 (0:Int))] [(27001, .cells 26 [.lst false (ml eGRouter t.Routers), .lst false (ml eGLink t.Links)])] (by kernel_rfl) ?_
  refine A.block ?_
  refine A.bC 1 0 rfl rfl rfl fun hb1 => ?_
  obtain ⟨B1, K1, hB1, hK1, hm⟩ := forI_some hm
  refine A.lpI (l := t.Routers) (j0 := 0) (B := B1) (K := K1) hm (fun j1 => fun out_1 => [(1, .ptr 27001 0), (3, .own 600027003), (4, .int .i64 (j1 : Int))]) (fun j1 => fun out_1 => [(27001, .cells 26 [.lst false (ml eGRouter t.Routers), .lst false (ml eGLink t.Links)]), (600027003, .slice 3 1 (ml eInt out_1) 0 false)]) ?_ ?_ ?_
  · exact Weak.go [.ad 3 600027003 3 1] [] (by kernel_rfl)
  · skip
    rintro j1 e1 Z1 out_1 hj1 hx1 hm
    rw [hB1] at hm
    refine A.seq ?_
    refine A.RS W0 [] [(3, hto (lnE eGRouter t.Routers))] [(1, .ptr 27001 0), (3, .own 600027003), (4, .int .i64 (j1 : Int)), (19, .bool (decide ((j1 : Int) < (t.Routers.length:Int))))] [(27001, .cells 26 [.lst false (ml eGRouter t.Routers), .lst false (ml eGLink t.Links)]), (600027003, .slice 3 1 (ml eInt out_1) 0 false)] (by kernel_rfl) ?_
    refine A.cT rfl (ltT hx1) ?_
    refine A.skip ?_
    show acode _ _ _ _ _
    obtain ⟨J1, hJ1, hm⟩ := jn_some hm
    refine A.J (J := J1) (r := r) (fun out_2 => [(1, .ptr 27001 0), (3, .own 600027003), (4, .int .i64 (j1 : Int))]) (fun out_2 => [(27001, .cells 26 [.lst false (ml eGRouter t.Routers), .lst false (ml eGLink t.Links)]), (600027003, .slice 3 1 (ml eInt out_2) 0 false)]) ?_ ?_
    · skip
      refine A.block ?_
      refine A.RS W0 [] [(3, hix (ix eGRouter (elO_nat hx1)))] [(1, .ptr 27001 0), (3, .own 600027003), (4, .int .i64 (j1 : Int)), (5, .int .i64 e1.ID)] [(27001, .cells 26 [.lst false (ml eGRouter t.Routers), .lst false (ml eGLink t.Links)]), (600027003, .slice 3 1 (ml eInt out_1) 0 false)] (by kernel_rfl) ?_
      obtain ⟨vx_2, h2, hm⟩ := bnd_some hm
      refine A.RS W0 [] [(4, hro (m_ref05_Without_ok h2) ck21), (5, .al 27006)] [(1, .ptr 27001 0), (3, .own 600027003), (4, .int .i64 (j1 : Int)), (5, .int .i64 e1.ID), (6, .ptr 27006 0)] [(27001, .cells 26 [.lst false (ml eGRouter t.Routers), .lst false (ml eGLink t.Links)]), (600027003, .slice 3 1 (ml eInt out_1) 0 false), (27006, .cells 26 [.lst false (ml eGRouter vx_2.Routers), .lst false (ml eGLink vx_2.Links)])] (by kernel_rfl) ?_
      refine A.RS W0 [] [] [(1, .ptr 27001 0), (3, .own 600027003), (4, .int .i64 (j1 : Int)), (5, .int .i64 e1.ID), (6, .ptr 27006 0), (7, .bool false)] [(27001, .cells 26 [.lst false (ml eGRouter t.Routers), .lst false (ml eGLink t.Links)]), (600027003, .slice 3 1 (ml eInt out_1) 0 false), (27006, .cells 26 [.lst false (ml eGRouter vx_2.Routers), .lst false (ml eGLink vx_2.Links)])] (by kernel_rfl) ?_
      refine A.seq ?_
      refine A.RS W0 [] [] [(1, .ptr 27001 0), (3, .own 600027003), (4, .int .i64 (j1 : Int)), (5, .int .i64 e1.ID), (6, .ptr 27006 0), (7, .bool false), (8, .int .i64 (0:Int))] [(27001, .cells 26 [.lst false (ml eGRouter t.Routers), .lst false (ml eGLink t.Links)]), (600027003, .slice 3 1 (ml eInt out_1) 0 false), (27006, .cells 26 [.lst false (ml eGRouter vx_2.Routers), .lst false (ml eGLink vx_2.Links)])] (by kernel_rfl) ?_
      refine A.block ?_
      refine A.bC 6 0 rfl rfl rfl fun hb2 => ?_
      obtain ⟨B2, K2, hB2, hK2, hm⟩ := forI_some hm
      refine A.lpI (l := vx_2.Routers) (j0 := 0) (B := B2) (K := K2) hm (fun j2 => fun cut_1 => [(1, .ptr 27001 0), (3, .own 600027003), (4, .int .i64 (j1 : Int)), (5, .int .i64 e1.ID), (6, .ptr 27006 0), (7, .bool cut_1), (8, .int .i64 (j2 : Int))]) (fun j2 => fun cut_1 => [(27001, .cells 26 [.lst false (ml eGRouter t.Routers), .lst false (ml eGLink t.Links)]), (600027003, .slice 3 1 (ml eInt out_1) 0 false), (27006, .cells 26 [.lst false (ml eGRouter vx_2.Routers), .lst false (ml eGLink vx_2.Links)])]) ?_ ?_ ?_
      · exact Weak.go [] [] (by kernel_rfl)
      · skip
        rintro j2 e2 Z2 cut_1 hj2 hx2 hm
        rw [hB2] at hm
        refine A.seq ?_
        refine A.RS W0 [] [(3, hto (lnE eGRouter vx_2.Routers))] [(1, .ptr 27001 0), (3, .own 600027003), (4, .int .i64 (j1 : Int)), (5, .int .i64 e1.ID), (6, .ptr 27006 0), (7, .bool cut_1), (8, .int .i64 (j2 : Int)), (37, .bool (decide ((j2 : Int) < (vx_2.Routers.length:Int))))] [(27001, .cells 26 [.lst false (ml eGRouter t.Routers), .lst false (ml eGLink t.Links)]), (600027003, .slice 3 1 (ml eInt out_1) 0 false), (27006, .cells 26 [.lst false (ml eGRouter vx_2.Routers), .lst false (ml eGLink vx_2.Links)])] (by kernel_rfl) ?_
        refine A.cT rfl (ltT hx2) ?_
        refine A.skip ?_
        show acode _ _ _ _ _
        refine A.seq ?_
        refine A.block ?_
        refine A.RS W0 [] [] [(1, .ptr 27001 0), (3, .own 600027003), (4, .int .i64 (j1 : Int)), (5, .int .i64 e1.ID), (6, .ptr 27006 0), (7, .bool cut_1), (8, .int .i64 (j2 : Int)), (9, .int .i64 (0:Int))] [(27001, .cells 26 [.lst false (ml eGRouter t.Routers), .lst false (ml eGLink t.Links)]), (600027003, .slice 3 1 (ml eInt out_1) 0 false), (27006, .cells 26 [.lst false (ml eGRouter vx_2.Routers), .lst false (ml eGLink vx_2.Links)])] (by kernel_rfl) ?_
        refine A.block ?_
        obtain ⟨hh3, hm⟩ := chk_some hm
        obtain ⟨B3, K3, hB3, hK3, hm⟩ := forN_some hm
        refine A.lpN (hi := (j2 : Int)) (B := B3) (K := K3) hm rfl (fun j3 => fun cut_2 => [(1, .ptr 27001 0), (3, .own 600027003), (4, .int .i64 (j1 : Int)), (5, .int .i64 e1.ID), (6, .ptr 27006 0), (7, .bool cut_2), (8, .int .i64 (j2 : Int)), (9, .int .i64 (j3 : Int))]) (fun j3 => fun cut_2 => [(27001, .cells 26 [.lst false (ml eGRouter t.Routers), .lst false (ml eGLink t.Links)]), (600027003, .slice 3 1 (ml eInt out_1) 0 false), (27006, .cells 26 [.lst false (ml eGRouter vx_2.Routers), .lst false (ml eGLink vx_2.Links)])]) ?_ ?_ ?_
        · exact Weak.go [] [] (by kernel_rfl)
        · skip
          rintro j3 Z3 cut_2 hj3 hx3 hm
          rw [hB3] at hm
          refine A.seq ?_
          refine A.RS W0 [] [] [(1, .ptr 27001 0), (3, .own 600027003), (4, .int .i64 (j1 : Int)), (5, .int .i64 e1.ID), (6, .ptr 27006 0), (7, .bool cut_2), (8, .int .i64 (j2 : Int)), (9, .int .i64 (j3 : Int)), (42, .bool (decide ((j3 : Int) < (j2 : Int))))] [(27001, .cells 26 [.lst false (ml eGRouter t.Routers), .lst false (ml eGLink t.Links)]), (600027003, .slice 3 1 (ml eInt out_1) 0 false), (27006, .cells 26 [.lst false (ml eGRouter vx_2.Routers), .lst false (ml eGLink vx_2.Links)])] (by kernel_rfl) ?_
          refine A.cT rfl (decide_eq_true hx3) ?_
          refine A.skip ?_
          show acode _ _ _ _ _
          refine A.seq ?_
          refine A.block ?_
          obtain ⟨e_1, h3, hm⟩ := bnd_some hm
          refine A.RS W0 [] [(3, hix (ix eGRouter (elO_nat hx2))), (9, hix (ix eGRouter h3))] [(1, .ptr 27001 0), (3, .own 600027003), (4, .int .i64 (j1 : Int)), (5, .int .i64 e1.ID), (6, .ptr 27006 0), (7, .bool cut_2), (8, .int .i64 (j2 : Int)), (9, .int .i64 (j3 : Int)), (10, .int .i64 e2.ID), (11, .int .i64 e_1.ID)] [(27001, .cells 26 [.lst false (ml eGRouter t.Routers), .lst false (ml eGLink t.Links)]), (600027003, .slice 3 1 (ml eInt out_1) 0 false), (27006, .cells 26 [.lst false (ml eGRouter vx_2.Routers), .lst false (ml eGLink vx_2.Links)])] (by kernel_rfl) ?_
          rcases cs_some hm with ⟨c2, hm⟩ | ⟨c2, hm⟩
          · skip
            refine A.R W0 [] [(1, hto (bE c2))] [(1, .ptr 27001 0), (3, .own 600027003), (4, .int .i64 (j1 : Int)), (5, .int .i64 e1.ID), (6, .ptr 27006 0), (7, .bool true), (8, .int .i64 (j2 : Int)), (9, .int .i64 (j3 : Int))] [(27001, .cells 26 [.lst false (ml eGRouter t.Routers), .lst false (ml eGLink t.Links)]), (600027003, .slice 3 1 (ml eInt out_1) 0 false), (27006, .cells 26 [.lst false (ml eGRouter vx_2.Routers), .lst false (ml eGLink vx_2.Links)])] (by kernel_rfl) ?_
            show acode _ _ _ _ _
            refine A.R W0 [] [(1, hto (incN (by omega) hx3 (of_decide_eq_true hh3)))] [(1, .ptr 27001 0), (3, .own 600027003), (4, .int .i64 (j1 : Int)), (5, .int .i64 e1.ID), (6, .ptr 27006 0), (7, .bool true), (8, .int .i64 (j2 : Int)), (9, .int .i64 (j3 + 1 : Int))] [(27001, .cells 26 [.lst false (ml eGRouter t.Routers), .lst false (ml eGLink t.Links)]), (600027003, .slice 3 1 (ml eInt out_1) 0 false), (27006, .cells 26 [.lst false (ml eGRouter vx_2.Routers), .lst false (ml eGLink vx_2.Links)])] (by kernel_rfl) ?_
            exact Exists.intro true (And.intro hm (Weak.go [] [] (by kernel_rfl)))
          obtain ⟨vx_3, h4, hm⟩ := bnd_some hm
          rcases cs_some hm with ⟨c3, hm⟩ | ⟨c3, hm⟩
          · skip
            obtain ⟨vx_4, h5, hm⟩ := bnd_some hm
            refine A.R W0 [] [(1, hto (bE c2)), (5, hro (m_ref05_Connected_ok h4) ck34), (6, hto (bE c3)), (10, hro (m_ref05_Connected_ok h5) ck34)] [(1, .ptr 27001 0), (3, .own 600027003), (4, .int .i64 (j1 : Int)), (5, .int .i64 e1.ID), (6, .ptr 27006 0), (7, .bool (!vx_4)), (8, .int .i64 (j2 : Int)), (9, .int .i64 (j3 : Int))] [(27001, .cells 26 [.lst false (ml eGRouter t.Routers), .lst false (ml eGLink t.Links)]), (600027003, .slice 3 1 (ml eInt out_1) 0 false), (27006, .cells 26 [.lst false (ml eGRouter vx_2.Routers), .lst false (ml eGLink vx_2.Links)])] (by kernel_rfl) ?_
            show acode _ _ _ _ _
            refine A.R W0 [] [(1, hto (incN (by omega) hx3 (of_decide_eq_true hh3)))] [(1, .ptr 27001 0), (3, .own 600027003), (4, .int .i64 (j1 : Int)), (5, .int .i64 e1.ID), (6, .ptr 27006 0), (7, .bool (!vx_4)), (8, .int .i64 (j2 : Int)), (9, .int .i64 (j3 + 1 : Int))] [(27001, .cells 26 [.lst false (ml eGRouter t.Routers), .lst false (ml eGLink t.Links)]), (600027003, .slice 3 1 (ml eInt out_1) 0 false), (27006, .cells 26 [.lst false (ml eGRouter vx_2.Routers), .lst false (ml eGLink vx_2.Links)])] (by kernel_rfl) ?_
            exact Exists.intro (!vx_4) (And.intro hm (Weak.go [] [] (by kernel_rfl)))
          refine A.R W0 [] [(1, hto (bE c2)), (5, hro (m_ref05_Connected_ok h4) ck34), (6, hto (bE c3))] [(1, .ptr 27001 0), (3, .own 600027003), (4, .int .i64 (j1 : Int)), (5, .int .i64 e1.ID), (6, .ptr 27006 0), (7, .bool false), (8, .int .i64 (j2 : Int)), (9, .int .i64 (j3 : Int))] [(27001, .cells 26 [.lst false (ml eGRouter t.Routers), .lst false (ml eGLink t.Links)]), (600027003, .slice 3 1 (ml eInt out_1) 0 false), (27006, .cells 26 [.lst false (ml eGRouter vx_2.Routers), .lst false (ml eGLink vx_2.Links)])] (by kernel_rfl) ?_
          show acode _ _ _ _ _
          refine A.R W0 [] [(1, hto (incN (by omega) hx3 (of_decide_eq_true hh3)))] [(1, .ptr 27001 0), (3, .own 600027003), (4, .int .i64 (j1 : Int)), (5, .int .i64 e1.ID), (6, .ptr 27006 0), (7, .bool false), (8, .int .i64 (j2 : Int)), (9, .int .i64 (j3 + 1 : Int))] [(27001, .cells 26 [.lst false (ml eGRouter t.Routers), .lst false (ml eGLink t.Links)]), (600027003, .slice 3 1 (ml eInt out_1) 0 false), (27006, .cells 26 [.lst false (ml eGRouter vx_2.Routers), .lst false (ml eGLink vx_2.Links)])] (by kernel_rfl) ?_
          exact Exists.intro false (And.intro hm (Weak.go [] [] (by kernel_rfl)))
        rintro j3 cut_2 hj3 hl3 hm
        rw [hK3] at hm
        refine A.seq ?_
        refine A.RS W0 [] [] [(1, .ptr 27001 0), (3, .own 600027003), (4, .int .i64 (j1 : Int)), (5, .int .i64 e1.ID), (6, .ptr 27006 0), (7, .bool cut_2), (8, .int .i64 (j2 : Int)), (9, .int .i64 (j3 : Int)), (42, .bool (decide ((j3 : Int) < (j2 : Int))))] [(27001, .cells 26 [.lst false (ml eGRouter t.Routers), .lst false (ml eGLink t.Links)]), (600027003, .slice 3 1 (ml eInt out_1) 0 false), (27006, .cells 26 [.lst false (ml eGRouter vx_2.Routers), .lst false (ml eGLink vx_2.Links)])] (by kernel_rfl) ?_
        refine A.cF rfl (geF hl3) ?_
        refine A.exit ?_
        show acode _ _ _ _ _
        refine A.R W0 [] [(1, hto (inc hx2 hb2))] [(1, .ptr 27001 0), (3, .own 600027003), (4, .int .i64 (j1 : Int)), (5, .int .i64 e1.ID), (6, .ptr 27006 0), (7, .bool cut_2), (8, .int .i64 ((j2 + 1 : Nat) : Int))] [(27001, .cells 26 [.lst false (ml eGRouter t.Routers), .lst false (ml eGLink t.Links)]), (600027003, .slice 3 1 (ml eInt out_1) 0 false), (27006, .cells 26 [.lst false (ml eGRouter vx_2.Routers), .lst false (ml eGLink vx_2.Links)])] (by kernel_rfl) ?_
        exact Exists.intro cut_2 (And.intro hm (Weak.go [] [] (by kernel_rfl)))
      rintro j2 cut_1 hj2 hl2 hm
      rw [hK2] at hm
      refine A.seq ?_
      refine A.RS W0 [] [(3, hto (lnE eGRouter vx_2.Routers))] [(1, .ptr 27001 0), (3, .own 600027003), (4, .int .i64 (j1 : Int)), (5, .int .i64 e1.ID), (6, .ptr 27006 0), (7, .bool cut_1), (8, .int .i64 (j2 : Int)), (37, .bool (decide ((j2 : Int) < (vx_2.Routers.length:Int))))] [(27001, .cells 26 [.lst false (ml eGRouter t.Routers), .lst false (ml eGLink t.Links)]), (600027003, .slice 3 1 (ml eInt out_1) 0 false), (27006, .cells 26 [.lst false (ml eGRouter vx_2.Routers), .lst false (ml eGLink vx_2.Links)])] (by kernel_rfl) ?_
      refine A.cF rfl (ltF hl2) ?_
      refine A.exit ?_
      show acode _ _ _ _ _
      refine A.RS W0 [] [] [(1, .ptr 27001 0), (3, .own 600027003), (4, .int .i64 (j1 : Int)), (5, .int .i64 e1.ID), (71, .bool cut_1)] [(27001, .cells 26 [.lst false (ml eGRouter t.Routers), .lst false (ml eGLink t.Links)]), (600027003, .slice 3 1 (ml eInt out_1) 0 false)] (by kernel_rfl) ?_
      rcases cs_some hm with ⟨c4, hm⟩ | ⟨c4, hm⟩
      · skip
        refine A.cT rfl c4 ?_
        obtain ⟨l_1, h6, hm⟩ := bnd_some hm
        refine A.R W0 [] [(3, hap 27575 (ap eInt (bytes := 8) (by decide) h6))] [(1, .ptr 27001 0), (3, .own 27575), (4, .int .i64 (j1 : Int))] [(27001, .cells 26 [.lst false (ml eGRouter t.Routers), .lst false (ml eGLink t.Links)]), (27575, .slice 3 1 (ml eInt l_1) 0 false)] (by kernel_rfl) ?_
        exact Exists.intro l_1 (And.intro hm (Weak.go [.sw 27575 600027003] [] (by kernel_rfl)))
      refine A.cF rfl c4 ?_
      refine A.skip ?_
      exact Exists.intro out_1 (And.intro hm (Weak.go [] [] (by kernel_rfl)))
    rintro out_2 hm
    rw [hJ1] at hm
    refine A.R W0 [] [(1, hto (inc hx1 hb1))] [(1, .ptr 27001 0), (3, .own 600027003), (4, .int .i64 ((j1 + 1 : Nat) : Int))] [(27001, .cells 26 [.lst false (ml eGRouter t.Routers), .lst false (ml eGLink t.Links)]), (600027003, .slice 3 1 (ml eInt out_2) 0 false)] (by kernel_rfl) ?_
    exact Exists.intro out_2 (And.intro hm (Weak.go [] [] (by kernel_rfl)))
  rintro j1 out_1 hj1 hl1 hm
  rw [hK1] at hm
  refine A.seq ?_
  refine A.RS W0 [] [(3, hto (lnE eGRouter t.Routers))] [(1, .ptr 27001 0), (3, .own 600027003), (4, .int .i64 (j1 : Int)), (19, .bool (decide ((j1 : Int) < (t.Routers.length:Int))))] [(27001, .cells 26 [.lst false (ml eGRouter t.Routers), .lst false (ml eGLink t.Links)]), (600027003, .slice 3 1 (ml eInt out_1) 0 false)] (by kernel_rfl) ?_
  refine A.cF rfl (ltF hl1) ?_
  refine A.exit ?_
  show acode _ _ _ _ _
  refine A.RS W0 [] [] [(2, .own 600027003)] [(600027003, .slice 3 1 (ml eInt out_1) 0 false)] (by kernel_rfl) ?_
  refine A.ret ?_
  obtain rfl := some_inj hm
  exact A.fin W0 [.fz [600027003]] rfl (by kernel_rfl)
theorem m_ref05_Same_ok {a : GTopology} {b : GTopology} {r : Bool} (hm : m_ref05_Same a b = some r) : RO Try.prog 20 [] [.agg [.lst false (ml eGRouter a.Routers), .lst false (ml eGLink a.Links)], .agg [.lst false (ml eGRouter b.Routers), .lst false (ml eGLink b.Links)]] (.bool r) := by
  refine enterA Try.func20 rfl rfl ?_
  unfold m_ref05_Same at hm
  refine A.RS W0 [] [(0, .al 20002), (1, .al 20003)] [(2, .ptr 20002 0), (3, .ptr 20003 0)] [(20002, .cells 26 [.lst false (ml eGRouter a.Routers), .lst false (ml eGLink a.Links)]), (20003, .cells 26 [.lst false (ml eGRouter b.Routers), .lst false (ml eGLink b.Links)])] (by kernel_rfl) ?_
  refine A.seq ?_
  refine A.mid [(2, .ptr 20002 0), (3, .ptr 20003 0), (22, .bool ((!decide ((a.Routers.length:Int) = (b.Routers.length:Int))) || (!decide ((a.Links.length:Int) = (b.Links.length:Int)))))] [(20002, .cells 26 [.lst false (ml eGRouter a.Routers), .lst false (ml eGLink a.Links)]), (20003, .cells 26 [.lst false (ml eGRouter b.Routers), .lst false (ml eGLink b.Links)])] (fun hk => ?_) ?_
  · skip
    rcases tf (!decide ((a.Routers.length:Int) = (b.Routers.length:Int))) with c1 | c1
    · skip
      exact A.RS W0 [] [(2, hto (lnE eGRouter a.Routers)), (5, hto (lnE eGRouter b.Routers)), (7, hto (bE c1)), (15, hto (orT (q := !decide ((a.Links.length:Int) = (b.Links.length:Int))) c1))] _ _ (by kernel_rfl) hk
    exact A.RS W0 [] [(2, hto (lnE eGRouter a.Routers)), (5, hto (lnE eGRouter b.Routers)), (7, hto (bE c1)), (10, hto (lnE eGLink a.Links)), (13, hto (lnE eGLink b.Links)), (15, hto (orF (q := !decide ((a.Links.length:Int) = (b.Links.length:Int))) c1))] _ _ (by kernel_rfl) hk
  rcases cs_some hm with ⟨c2, hm⟩ | ⟨c2, hm⟩
  · skip
    refine A.cT rfl c2 ?_
    refine A.RS W0 [] [] [(4, .bool false)] [] (by kernel_rfl) ?_
    refine A.ret ?_
    obtain rfl := some_inj hm
    exact A.fin W0 [] rfl (by kernel_rfl)
  refine A.cF rfl c2 ?_
  refine A.skip ?_
  show acode _ _ _ _ _
  refine A.seq ?_
  refine A.RS W0 [] [] [(2, .ptr 20002 0), (3, .ptr 20003 0), (5, .int .i64 (0:Int))] [(20002, .cells 26 [.lst false (ml eGRouter a.Routers), .lst false (ml eGLink a.Links)]), (20003, .cells 26 [.lst false (ml eGRouter b.Routers), .lst false (ml eGLink b.Links)])] (by kernel_rfl) ?_
  refine A.block ?_
  refine A.bC 2 0 rfl rfl rfl fun hb1 => ?_
  obtain ⟨B1, K1, hB1, hK1, hm⟩ := forI_some hm
  refine A.lpI (l := a.Routers) (j0 := 0) (B := B1) (K := K1) hm (fun j1 => fun sg => match sg with | () => [(2, .ptr 20002 0), (3, .ptr 20003 0), (5, .int .i64 (j1 : Int))]) (fun j1 => fun sg => match sg with | () => [(20002, .cells 26 [.lst false (ml eGRouter a.Routers), .lst false (ml eGLink a.Links)]), (20003, .cells 26 [.lst false (ml eGRouter b.Routers), .lst false (ml eGLink b.Links)])]) ?_ ?_ ?_
  · exact Weak.go [] [] (by kernel_rfl)
  · skip
    rintro j1 e1 Z1 ⟨⟩ hj1 hx1 hm
    rw [hB1] at hm
    refine A.seq ?_
    refine A.RS W0 [] [(3, hto (lnE eGRouter a.Routers))] [(2, .ptr 20002 0), (3, .ptr 20003 0), (5, .int .i64 (j1 : Int)), (27, .bool (decide ((j1 : Int) < (a.Routers.length:Int))))] [(20002, .cells 26 [.lst false (ml eGRouter a.Routers), .lst false (ml eGLink a.Links)]), (20003, .cells 26 [.lst false (ml eGRouter b.Routers), .lst false (ml eGLink b.Links)])] (by kernel_rfl) ?_
    refine A.cT rfl (ltT hx1) ?_
    refine A.skip ?_
    show acode _ _ _ _ _
    refine A.seq ?_
    refine A.block ?_
    obtain ⟨e_1, h1, hm⟩ := bnd_some hm
    refine A.RS W0 [] [(3, hix (ix eGRouter (elO_nat hx1))), (8, hix (ix eGRouter h1)), (10, .sq true 55 (.agg [.int .i64 e1.ID, .bool e1.Capable]) (.agg [.int .i64 e_1.ID, .bool e_1.Capable]) (!(eqGRouter e1 e_1)) (fun x y w => eq55_neq x y _ _ _ _ w))] [(2, .ptr 20002 0), (3, .ptr 20003 0), (5, .int .i64 (j1 : Int)), (40, .bool (!(eqGRouter e1 e_1)))] [(20002, .cells 26 [.lst false (ml eGRouter a.Routers), .lst false (ml eGLink a.Links)]), (20003, .cells 26 [.lst false (ml eGRouter b.Routers), .lst false (ml eGLink b.Links)])] (by kernel_rfl) ?_
    rcases cs_some hm with ⟨c3, hm⟩ | ⟨c3, hm⟩
    · skip
      refine A.cT rfl c3 ?_
      refine A.RS W0 [] [] [(4, .bool false)] [] (by kernel_rfl) ?_
      refine A.ret ?_
      obtain rfl := some_inj hm
      exact A.fin W0 [] rfl (by kernel_rfl)
    refine A.cF rfl c3 ?_
    refine A.skip ?_
    show acode _ _ _ _ _
    refine A.R W0 [] [(1, hto (inc hx1 hb1))] [(2, .ptr 20002 0), (3, .ptr 20003 0), (5, .int .i64 ((j1 + 1 : Nat) : Int))] [(20002, .cells 26 [.lst false (ml eGRouter a.Routers), .lst false (ml eGLink a.Links)]), (20003, .cells 26 [.lst false (ml eGRouter b.Routers), .lst false (ml eGLink b.Links)])] (by kernel_rfl) ?_
    exact Exists.intro () (And.intro hm (Weak.go [] [] (by kernel_rfl)))
  rintro j1 ⟨⟩ hj1 hl1 hm
  rw [hK1] at hm
  refine A.seq ?_
  refine A.RS W0 [] [(3, hto (lnE eGRouter a.Routers))] [(2, .ptr 20002 0), (3, .ptr 20003 0), (5, .int .i64 (j1 : Int)), (27, .bool (decide ((j1 : Int) < (a.Routers.length:Int))))] [(20002, .cells 26 [.lst false (ml eGRouter a.Routers), .lst false (ml eGLink a.Links)]), (20003, .cells 26 [.lst false (ml eGRouter b.Routers), .lst false (ml eGLink b.Links)])] (by kernel_rfl) ?_
  refine A.cF rfl (ltF hl1) ?_
  refine A.exit ?_
  show acode _ _ _ _ _
  refine A.seq ?_
  refine A.RS W0 [] [] [(2, .ptr 20002 0), (3, .ptr 20003 0), (6, .int .i64 (0:Int))] [(20002, .cells 26 [.lst false (ml eGRouter a.Routers), .lst false (ml eGLink a.Links)]), (20003, .cells 26 [.lst false (ml eGRouter b.Routers), .lst false (ml eGLink b.Links)])] (by kernel_rfl) ?_
  refine A.block ?_
  refine A.bC 2 1 rfl rfl rfl fun hb2 => ?_
  obtain ⟨B2, K2, hB2, hK2, hm⟩ := forI_some hm
  refine A.lpI (l := a.Links) (j0 := 0) (B := B2) (K := K2) hm (fun j2 => fun sg => match sg with | () => [(2, .ptr 20002 0), (3, .ptr 20003 0), (6, .int .i64 (j2 : Int))]) (fun j2 => fun sg => match sg with | () => [(20002, .cells 26 [.lst false (ml eGRouter a.Routers), .lst false (ml eGLink a.Links)]), (20003, .cells 26 [.lst false (ml eGRouter b.Routers), .lst false (ml eGLink b.Links)])]) ?_ ?_ ?_
  · exact Weak.go [] [] (by kernel_rfl)
  · skip
    rintro j2 e2 Z2 ⟨⟩ hj2 hx2 hm
    rw [hB2] at hm
    refine A.seq ?_
    refine A.RS W0 [] [(3, hto (lnE eGLink a.Links))] [(2, .ptr 20002 0), (3, .ptr 20003 0), (6, .int .i64 (j2 : Int)), (45, .bool (decide ((j2 : Int) < (a.Links.length:Int))))] [(20002, .cells 26 [.lst false (ml eGRouter a.Routers), .lst false (ml eGLink a.Links)]), (20003, .cells 26 [.lst false (ml eGRouter b.Routers), .lst false (ml eGLink b.Links)])] (by kernel_rfl) ?_
    refine A.cT rfl (ltT hx2) ?_
    refine A.skip ?_
    show acode _ _ _ _ _
    refine A.seq ?_
    refine A.block ?_
    obtain ⟨e_2, h2, hm⟩ := bnd_some hm
    refine A.RS W0 [] [(3, hix (ix eGLink (elO_nat hx2))), (8, hix (ix eGLink h2)), (10, .sq true 50 (.agg [.int .i64 e2.A, .int .i64 e2.B, .int .i64 e2.CostA, .int .i64 e2.CostB, .int .i64 e2.Capacity]) (.agg [.int .i64 e_2.A, .int .i64 e_2.B, .int .i64 e_2.CostA, .int .i64 e_2.CostB, .int .i64 e_2.Capacity]) (!(eqGLink e2 e_2)) (fun x y w => eq50_neq x y _ _ _ _ _ _ _ _ _ _ w))] [(2, .ptr 20002 0), (3, .ptr 20003 0), (6, .int .i64 (j2 : Int)), (58, .bool (!(eqGLink e2 e_2)))] [(20002, .cells 26 [.lst false (ml eGRouter a.Routers), .lst false (ml eGLink a.Links)]), (20003, .cells 26 [.lst false (ml eGRouter b.Routers), .lst false (ml eGLink b.Links)])] (by kernel_rfl) ?_
    rcases cs_some hm with ⟨c4, hm⟩ | ⟨c4, hm⟩
    · skip
      refine A.cT rfl c4 ?_
      refine A.RS W0 [] [] [(4, .bool false)] [] (by kernel_rfl) ?_
      refine A.ret ?_
      obtain rfl := some_inj hm
      exact A.fin W0 [] rfl (by kernel_rfl)
    refine A.cF rfl c4 ?_
    refine A.skip ?_
    show acode _ _ _ _ _
    refine A.R W0 [] [(1, hto (inc hx2 hb2))] [(2, .ptr 20002 0), (3, .ptr 20003 0), (6, .int .i64 ((j2 + 1 : Nat) : Int))] [(20002, .cells 26 [.lst false (ml eGRouter a.Routers), .lst false (ml eGLink a.Links)]), (20003, .cells 26 [.lst false (ml eGRouter b.Routers), .lst false (ml eGLink b.Links)])] (by kernel_rfl) ?_
    exact Exists.intro () (And.intro hm (Weak.go [] [] (by kernel_rfl)))
  rintro j2 ⟨⟩ hj2 hl2 hm
  rw [hK2] at hm
  refine A.seq ?_
  refine A.RS W0 [] [(3, hto (lnE eGLink a.Links))] [(2, .ptr 20002 0), (3, .ptr 20003 0), (6, .int .i64 (j2 : Int)), (45, .bool (decide ((j2 : Int) < (a.Links.length:Int))))] [(20002, .cells 26 [.lst false (ml eGRouter a.Routers), .lst false (ml eGLink a.Links)]), (20003, .cells 26 [.lst false (ml eGRouter b.Routers), .lst false (ml eGLink b.Links)])] (by kernel_rfl) ?_
  refine A.cF rfl (ltF hl2) ?_
  refine A.exit ?_
  show acode _ _ _ _ _
  refine A.RS W0 [] [] [(4, .bool true)] [] (by kernel_rfl) ?_
  refine A.ret ?_
  obtain rfl := some_inj hm
  exact A.fin W0 [] rfl (by kernel_rfl)
end Go.Proofs.Ytggbjbcgfelgiaa
