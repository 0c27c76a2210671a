/- The walks of functions of the program. No condition but those that stand in each. -/
import Derived.Test.YtckhladakpjlgaaD2
import Derived.Test.YtckhladakpjlgaaV0
import Derived.Test.YtckhladakpjlgaaV1
namespace Go.Proofs.Ytckhladakpjlgaa
open Go
set_option maxRecDepth 100000
set_option linter.all false
theorem m_ref05_Named_ok {l : List GHop} {a : Int} {b : Int} {r : Bool} (hm : m_ref05_Named l a b = some r) : RO Try.prog 54 [] [.lst false (ml eGHop l), .int .i64 a, .int .i64 b] (.bool r) := by
  refine enterA Try.func54 rfl rfl ?_
  unfold m_ref05_Named at hm
  refine A.RS W0 [] [] [(0, .lst false (ml eGHop l)), (1, .int .i64 a), (2, .int .i64 b)] [] (by kernel_rfl) ?_
  refine A.seq ?_
  refine A.RS W0 [] [] [(0, .lst false (ml eGHop l)), (1, .int .i64 a), (2, .int .i64 b), (7, .int .i64 (0:Int))] [] (by kernel_rfl) ?_
  refine A.block ?_
  refine A.bS 0 rfl fun hb1 => ?_
  obtain ⟨B1, K1, hB1, hK1, hm⟩ := forI_some hm
  refine A.lpI (l := l) (j0 := 0) (B := B1) (K := K1) hm (fun j1 => fun sg => match sg with | () => [(0, .lst false (ml eGHop l)), (1, .int .i64 a), (2, .int .i64 b), (7, .int .i64 (j1 : Int))]) (fun j1 => fun sg => match sg with | () => []) ?_ ?_ ?_
  · exact Weak.go [] [] (by kernel_rfl)
  · skip
    rintro j1 e1 Z1 ⟨⟩ hj1 hx1 hm
    rw [hB1] at hm
    refine A.seq ?_
    refine A.RS W0 [] [(2, hto (lnE eGHop l))] [(0, .lst false (ml eGHop l)), (1, .int .i64 a), (2, .int .i64 b), (7, .int .i64 (j1 : Int)), (11, .bool (decide ((j1 : Int) < (l.length:Int))))] [] (by kernel_rfl) ?_
    refine A.cT rfl (ltT hx1) ?_
    refine A.skip ?_
    show acode _ _ _ _ _
    refine A.seq ?_
    refine A.block ?_
    refine A.mid [(0, .lst false (ml eGHop l)), (1, .int .i64 a), (2, .int .i64 b), (7, .int .i64 (j1 : Int)), (47, .bool (bif decide (e1.From = a) then ((decide (e1.To = b)) || ((decide (e1.From = b)) && (decide (e1.To = a)))) else ((decide (e1.From = b)) && (decide (e1.To = a)))))] [] (fun hk => ?_) ?_
    · skip
      rcases tf (decide (e1.From = a)) with c1 | c1
      · skip
        rcases tf (decide (e1.To = b)) with c2 | c2
        · skip
          exact A.RS W0 [] [(2, hix (ix eGHop (elO_nat hx1))), (7, hto (bE c1)), (10, hix (ix eGHop (elO_nat hx1))), (16, hto (bE c2)), (33, hto ((orT (q := ((decide (e1.From = b)) && (decide (e1.To = a)))) c2).trans (ifT (x := ((decide (e1.To = b)) || ((decide (e1.From = b)) && (decide (e1.To = a))))) (y := ((decide (e1.From = b)) && (decide (e1.To = a)))) c1)))] _ _ (by kernel_rfl) hk
        rcases tf (decide (e1.From = b)) with c3 | c3
        · skip
          exact A.RS W0 [] [(2, hix (ix eGHop (elO_nat hx1))), (7, hto (bE c1)), (10, hix (ix eGHop (elO_nat hx1))), (16, hto (bE c2)), (19, hix (ix eGHop (elO_nat hx1))), (24, hto (bE c3)), (27, hix (ix eGHop (elO_nat hx1))), (33, hto (((andT (q := decide (e1.To = a)) c3).trans (orF (q := ((decide (e1.From = b)) && (decide (e1.To = a)))) c2)).trans (ifT (x := ((decide (e1.To = b)) || ((decide (e1.From = b)) && (decide (e1.To = a))))) (y := ((decide (e1.From = b)) && (decide (e1.To = a)))) c1)))] _ _ (by kernel_rfl) hk
        exact A.RS W0 [] [(2, hix (ix eGHop (elO_nat hx1))), (7, hto (bE c1)), (10, hix (ix eGHop (elO_nat hx1))), (16, hto (bE c2)), (19, hix (ix eGHop (elO_nat hx1))), (24, hto (bE c3)), (33, hto (((andF (q := decide (e1.To = a)) c3).trans (orF (q := ((decide (e1.From = b)) && (decide (e1.To = a)))) c2)).trans (ifT (x := ((decide (e1.To = b)) || ((decide (e1.From = b)) && (decide (e1.To = a))))) (y := ((decide (e1.From = b)) && (decide (e1.To = a)))) c1)))] _ _ (by kernel_rfl) hk
      rcases tf (decide (e1.From = b)) with c4 | c4
      · skip
        exact A.RS W0 [] [(2, hix (ix eGHop (elO_nat hx1))), (7, hto (bE c1)), (19, hix (ix eGHop (elO_nat hx1))), (24, hto (bE c4)), (27, hix (ix eGHop (elO_nat hx1))), (33, hto ((andT (q := decide (e1.To = a)) c4).trans (ifF (x := ((decide (e1.To = b)) || ((decide (e1.From = b)) && (decide (e1.To = a))))) (y := ((decide (e1.From = b)) && (decide (e1.To = a)))) c1)))] _ _ (by kernel_rfl) hk
      exact A.RS W0 [] [(2, hix (ix eGHop (elO_nat hx1))), (7, hto (bE c1)), (19, hix (ix eGHop (elO_nat hx1))), (24, hto (bE c4)), (33, hto ((andF (q := decide (e1.To = a)) c4).trans (ifF (x := ((decide (e1.To = b)) || ((decide (e1.From = b)) && (decide (e1.To = a))))) (y := ((decide (e1.From = b)) && (decide (e1.To = a)))) c1)))] _ _ (by kernel_rfl) hk
    rcases cs_some hm with ⟨c5, hm⟩ | ⟨c5, hm⟩
    · skip
      refine A.cT rfl c5 ?_
      refine A.RS W0 [] [] [(6, .bool true)] [] (by kernel_rfl) ?_
      refine A.ret ?_
      obtain rfl := some_inj hm
      exact A.fin W0 [] rfl (by kernel_rfl)
    refine A.cF rfl c5 ?_
    refine A.skip ?_
    show acode _ _ _ _ _
    refine A.R W0 [] [(1, hto (inc hx1 hb1))] [(0, .lst false (ml eGHop l)), (1, .int .i64 a), (2, .int .i64 b), (7, .int .i64 ((j1 + 1 : Nat) : Int))] [] (by kernel_rfl) ?_
    exact Exists.intro () (And.intro hm (Weak.go [] [] (by kernel_rfl)))
  rintro j1 ⟨⟩ hj1 hl1 hm
  rw [hK1] at hm
  refine A.seq ?_
  refine A.RS W0 [] [(2, hto (lnE eGHop l))] [(0, .lst false (ml eGHop l)), (1, .int .i64 a), (2, .int .i64 b), (7, .int .i64 (j1 : Int)), (11, .bool (decide ((j1 : Int) < (l.length:Int))))] [] (by kernel_rfl) ?_
  refine A.cF rfl (ltF hl1) ?_
  refine A.exit ?_
  show acode _ _ _ _ _
  refine A.RS W0 [] [] [(6, .bool false)] [] (by kernel_rfl) ?_
  refine A.ret ?_
  obtain rfl := some_inj hm
  exact A.fin W0 [] rfl (by kernel_rfl)
theorem m_ref05_Without_ok {t : GTopology} {f : GFailure} {r : GTopology} (hm : m_ref05_Without t f = some r) : RO Try.prog 32 [] [.agg [.lst false (ml eGRouter t.Routers), .lst false (ml eGLink t.Links)], .agg [.lst false (ml eGHop f.Links), .lst false (ml eInt f.Routers)]] (.agg [.lst false (ml eGRouter r.Routers), .lst false (ml eGLink r.Links)]) := by
  refine enterA Try.func32 rfl rfl ?_
  unfold m_ref05_Without at hm
  refine A.RS W0 [] [(0, .al 32002), (1, .al 32003), (2, .al 32004)] [(2, .ptr 32002 0), (3, .ptr 32003 0), (4, .ptr 32004 0)] [(32002, .cells 30 [.lst false (ml eGRouter t.Routers), .lst false (ml eGLink t.Links)]), (32003, .cells 69 [.lst false (ml eGHop f.Links), .lst false (ml eInt f.Routers)]), (32004, .cells 30 [.nils, .nils])] (by kernel_rfl) ?_
  refine A.seq ?_
  obtain ⟨vx_1, h1, hm⟩ := bnd_some hm
  refine A.RS W0 [] [(1, hro (m_ref05_Check_ok h1) ck28)] [(2, .ptr 32002 0), (3, .ptr 32003 0), (4, .ptr 32004 0), (11, .bool (!decide (vx_1 = (0:Int))))] [(32002, .cells 30 [.lst false (ml eGRouter t.Routers), .lst false (ml eGLink t.Links)]), (32003, .cells 69 [.lst false (ml eGHop f.Links), .lst false (ml eInt f.Routers)]), (32004, .cells 30 [.nils, .nils])] (by kernel_rfl) ?_
  rcases cs_some hm with ⟨c1, hm⟩ | ⟨c1, hm⟩
  · skip
    refine A.cT rfl c1 ?_
    refine A.RS W0 [] [] [(4, .ptr 32004 0)] [(32004, .cells 30 [.nils, .nils])] (by kernel_rfl) ?_
    refine A.ret ?_
    obtain rfl := some_inj hm
    exact A.fin W0 [] rfl (by kernel_rfl)
  refine A.cF rfl c1 ?_
  refine A.skip ?_
  show acode _ _ _ _ _
  refine A.RS W0 [] [(0, .al 32005)] [(2, .ptr 32002 0), (3, .ptr 32003 0), (4, .ptr 32004 0), (5, .ptr 32005 0)] [(32002, .cells 30 [.lst false (ml eGRouter t.Routers), .lst false (ml eGLink t.Links)]), (32003, .cells 69 [.lst false (ml eGHop f.Links), .lst false (ml eInt f.Routers)]), (32004, .cells 30 [.nils, .nils]), (32005, .cells 30 [.nils, .nils])] (by kernel_rfl) ?_
  refine A.seq ?_
  refine A.RS W0 [] [] [(2, .ptr 32002 0), (3, .ptr 32003 0), (4, .ptr 32004 0), (5, .ptr 32005 0), (6, .int .i64 (0:Int))] [(32002, .cells 30 [.lst false (ml eGRouter t.Routers), .lst false (ml eGLink t.Links)]), (32003, .cells 69 [.lst false (ml eGHop f.Links), .lst false (ml eInt f.Routers)]), (32004, .cells 30 [.nils, .nils]), (32005, .cells 30 [.nils, .nils])] (by kernel_rfl) ?_
  refine A.block ?_
  refine A.bC 2 0 rfl rfl rfl fun hb1 => ?_
  obtain ⟨B1, K1, hB1, hK1, hm⟩ := forI_some hm
  refine A.lpI (l := t.Routers) (j0 := 0) (B := B1) (K := K1) hm (fun j1 => fun m_1 => [(2, .ptr 32002 0), (3, .ptr 32003 0), (4, .ptr 32004 0), (5, .ptr 32005 0), (6, .int .i64 (j1 : Int))]) (fun j1 => fun m_1 => [(32002, .cells 30 [.lst false (ml eGRouter t.Routers), .lst false (ml eGLink t.Links)]), (32003, .cells 69 [.lst false (ml eGHop f.Links), .lst false (ml eInt f.Routers)]), (32004, .cells 30 [.nils, .nils]), (32005, .cells 30 [.own 703200500, .nils]), (703200500, .slice 42 2 (ml eGRouter m_1) 0 false)]) ?_ ?_ ?_
  · exact Weak.go [.ac 32005 703200500 42 2 0] [] (by kernel_rfl)
  · skip
    rintro j1 e1 Z1 m_1 hj1 hx1 hm
    rw [hB1] at hm
    refine A.seq ?_
    refine A.RS W0 [] [(3, hto (lnE eGRouter t.Routers))] [(2, .ptr 32002 0), (3, .ptr 32003 0), (4, .ptr 32004 0), (5, .ptr 32005 0), (6, .int .i64 (j1 : Int)), (17, .bool (decide ((j1 : Int) < (t.Routers.length:Int))))] [(32002, .cells 30 [.lst false (ml eGRouter t.Routers), .lst false (ml eGLink t.Links)]), (32003, .cells 69 [.lst false (ml eGHop f.Links), .lst false (ml eInt f.Routers)]), (32004, .cells 30 [.nils, .nils]), (32005, .cells 30 [.own 703200500, .nils]), (703200500, .slice 42 2 (ml eGRouter m_1) 0 false)] (by kernel_rfl) ?_
    refine A.cT rfl (ltT hx1) ?_
    refine A.skip ?_
    show acode _ _ _ _ _
    obtain ⟨J1, hJ1, hm⟩ := jn_some hm
    refine A.J (J := J1) (r := r) (fun m_2 => [(2, .ptr 32002 0), (3, .ptr 32003 0), (4, .ptr 32004 0), (5, .ptr 32005 0), (6, .int .i64 (j1 : Int))]) (fun m_2 => [(32002, .cells 30 [.lst false (ml eGRouter t.Routers), .lst false (ml eGLink t.Links)]), (32003, .cells 69 [.lst false (ml eGHop f.Links), .lst false (ml eInt f.Routers)]), (32004, .cells 30 [.nils, .nils]), (32005, .cells 30 [.own 703200500, .nils]), (703200500, .slice 42 2 (ml eGRouter m_2) 0 false)]) ?_ ?_
    · skip
      refine A.block ?_
      obtain ⟨vx_2, h2, hm⟩ := bnd_some hm
      refine A.RS W0 [] [(5, hix (ix eGRouter (elO_nat hx1))), (8, hro (m_ref04_Has_ok h2) ck53)] [(2, .ptr 32002 0), (3, .ptr 32003 0), (4, .ptr 32004 0), (5, .ptr 32005 0), (6, .int .i64 (j1 : Int)), (29, .bool (!vx_2))] [(32002, .cells 30 [.lst false (ml eGRouter t.Routers), .lst false (ml eGLink t.Links)]), (32003, .cells 69 [.lst false (ml eGHop f.Links), .lst false (ml eInt f.Routers)]), (32004, .cells 30 [.nils, .nils]), (32005, .cells 30 [.own 703200500, .nils]), (703200500, .slice 42 2 (ml eGRouter m_1) 0 false)] (by kernel_rfl) ?_
      rcases cs_some hm with ⟨c2, hm⟩ | ⟨c2, hm⟩
      · skip
        refine A.cT rfl c2 ?_
        obtain ⟨l_1, h3, hm⟩ := bnd_some hm
        refine A.R W0 [] [(5, hix (ix eGRouter (elO_nat hx1))), (8, hap 32538 (ap eGRouter (bytes := 16) (by decide) h3))] [(2, .ptr 32002 0), (3, .ptr 32003 0), (4, .ptr 32004 0), (5, .ptr 32005 0), (6, .int .i64 (j1 : Int))] [(32002, .cells 30 [.lst false (ml eGRouter t.Routers), .lst false (ml eGLink t.Links)]), (32003, .cells 69 [.lst false (ml eGHop f.Links), .lst false (ml eInt f.Routers)]), (32004, .cells 30 [.nils, .nils]), (32005, .cells 30 [.own 32538, .nils]), (32538, .slice 42 2 (ml eGRouter l_1) 0 false)] (by kernel_rfl) ?_
        exact Exists.intro l_1 (And.intro hm (Weak.go [.sw 32538 703200500] [] (by kernel_rfl)))
      refine A.cF rfl c2 ?_
      refine A.skip ?_
      exact Exists.intro m_1 (And.intro hm (Weak.go [] [] (by kernel_rfl)))
    rintro m_2 hm
    rw [hJ1] at hm
    refine A.R W0 [] [(1, hto (inc hx1 hb1))] [(2, .ptr 32002 0), (3, .ptr 32003 0), (4, .ptr 32004 0), (5, .ptr 32005 0), (6, .int .i64 ((j1 + 1 : Nat) : Int))] [(32002, .cells 30 [.lst false (ml eGRouter t.Routers), .lst false (ml eGLink t.Links)]), (32003, .cells 69 [.lst false (ml eGHop f.Links), .lst false (ml eInt f.Routers)]), (32004, .cells 30 [.nils, .nils]), (32005, .cells 30 [.own 703200500, .nils]), (703200500, .slice 42 2 (ml eGRouter m_2) 0 false)] (by kernel_rfl) ?_
    exact Exists.intro m_2 (And.intro hm (Weak.go [] [] (by kernel_rfl)))
  rintro j1 m_1 hj1 hl1 hm
  rw [hK1] at hm
  refine A.seq ?_
  refine A.RS W0 [] [(3, hto (lnE eGRouter t.Routers))] [(2, .ptr 32002 0), (3, .ptr 32003 0), (4, .ptr 32004 0), (5, .ptr 32005 0), (6, .int .i64 (j1 : Int)), (17, .bool (decide ((j1 : Int) < (t.Routers.length:Int))))] [(32002, .cells 30 [.lst false (ml eGRouter t.Routers), .lst false (ml eGLink t.Links)]), (32003, .cells 69 [.lst false (ml eGHop f.Links), .lst false (ml eInt f.Routers)]), (32004, .cells 30 [.nils, .nils]), (32005, .cells 30 [.own 703200500, .nils]), (703200500, .slice 42 2 (ml eGRouter m_1) 0 false)] (by kernel_rfl) ?_
  refine A.cF rfl (ltF hl1) ?_
  refine A.exit ?_
  show acode _ _ _ _ _
  refine A.seq ?_
  refine A.RS W0 [] [] [(2, .ptr 32002 0), (3, .ptr 32003 0), (4, .ptr 32004 0), (5, .ptr 32005 0), (7, .int .i64 (0:Int))] [(32002, .cells 30 [.lst false (ml eGRouter t.Routers), .lst false (ml eGLink t.Links)]), (32003, .cells 69 [.lst false (ml eGHop f.Links), .lst false (ml eInt f.Routers)]), (32004, .cells 30 [.nils, .nils]), (32005, .cells 30 [.own 703200500, .nils]), (703200500, .slice 42 2 (ml eGRouter m_1) 0 false)] (by kernel_rfl) ?_
  refine A.block ?_
  refine A.bC 2 1 rfl rfl rfl fun hb2 => ?_
  obtain ⟨B2, K2, hB2, hK2, hm⟩ := forI_some hm
  refine A.lpI (l := t.Links) (j0 := 0) (B := B2) (K := K2) hm (fun j2 => fun m_3 => [(2, .ptr 32002 0), (3, .ptr 32003 0), (4, .ptr 32004 0), (5, .ptr 32005 0), (7, .int .i64 (j2 : Int))]) (fun j2 => fun m_3 => [(32002, .cells 30 [.lst false (ml eGRouter t.Routers), .lst false (ml eGLink t.Links)]), (32003, .cells 69 [.lst false (ml eGHop f.Links), .lst false (ml eInt f.Routers)]), (32004, .cells 30 [.nils, .nils]), (32005, .cells 30 [.own 703200500, .own 703200501]), (703200500, .slice 42 2 (ml eGRouter m_1) 0 false), (703200501, .slice 44 5 (ml eGLink m_3) 0 false)]) ?_ ?_ ?_
  · exact Weak.go [.ac 32005 703200501 44 5 1] [] (by kernel_rfl)
  · skip
    rintro j2 e2 Z2 m_3 hj2 hx2 hm
    rw [hB2] at hm
    refine A.seq ?_
    refine A.RS W0 [] [(3, hto (lnE eGLink t.Links))] [(2, .ptr 32002 0), (3, .ptr 32003 0), (4, .ptr 32004 0), (5, .ptr 32005 0), (7, .int .i64 (j2 : Int)), (44, .bool (decide ((j2 : Int) < (t.Links.length:Int))))] [(32002, .cells 30 [.lst false (ml eGRouter t.Routers), .lst false (ml eGLink t.Links)]), (32003, .cells 69 [.lst false (ml eGHop f.Links), .lst false (ml eInt f.Routers)]), (32004, .cells 30 [.nils, .nils]), (32005, .cells 30 [.own 703200500, .own 703200501]), (703200500, .slice 42 2 (ml eGRouter m_1) 0 false), (703200501, .slice 44 5 (ml eGLink m_3) 0 false)] (by kernel_rfl) ?_
    refine A.cT rfl (ltT hx2) ?_
    refine A.skip ?_
    show acode _ _ _ _ _
    obtain ⟨J2, hJ2, hm⟩ := jn_some hm
    refine A.J (J := J2) (r := r) (fun m_4 => [(2, .ptr 32002 0), (3, .ptr 32003 0), (4, .ptr 32004 0), (5, .ptr 32005 0), (7, .int .i64 (j2 : Int))]) (fun m_4 => [(32002, .cells 30 [.lst false (ml eGRouter t.Routers), .lst false (ml eGLink t.Links)]), (32003, .cells 69 [.lst false (ml eGHop f.Links), .lst false (ml eInt f.Routers)]), (32004, .cells 30 [.nils, .nils]), (32005, .cells 30 [.own 703200500, .own 703200501]), (703200500, .slice 42 2 (ml eGRouter m_1) 0 false), (703200501, .slice 44 5 (ml eGLink m_4) 0 false)]) ?_ ?_
    · skip
      refine A.block ?_
      refine A.RS W0 [] [(3, hix (ix eGLink (elO_nat hx2))), (5, .al 32008)] [(2, .ptr 32002 0), (3, .ptr 32003 0), (4, .ptr 32004 0), (5, .ptr 32005 0), (7, .int .i64 (j2 : Int)), (8, .ptr 32008 0)] [(32002, .cells 30 [.lst false (ml eGRouter t.Routers), .lst false (ml eGLink t.Links)]), (32003, .cells 69 [.lst false (ml eGHop f.Links), .lst false (ml eInt f.Routers)]), (32004, .cells 30 [.nils, .nils]), (32005, .cells 30 [.own 703200500, .own 703200501]), (703200500, .slice 42 2 (ml eGRouter m_1) 0 false), (703200501, .slice 44 5 (ml eGLink m_3) 0 false), (32008, .cells 44 [.int .i64 e2.A, .int .i64 e2.B, .int .i64 e2.CostA, .int .i64 e2.CostB, .int .i64 e2.Capacity])] (by kernel_rfl) ?_
      obtain ⟨J3, hJ3, hm⟩ := jn_some hm
      refine A.J (J := J3) (r := r) (fun v_1 => [(2, .ptr 32002 0), (3, .ptr 32003 0), (4, .ptr 32004 0), (5, .ptr 32005 0), (7, .int .i64 (j2 : Int)), (8, .ptr 32008 0), (75, .bool v_1)]) (fun v_1 => [(32002, .cells 30 [.lst false (ml eGRouter t.Routers), .lst false (ml eGLink t.Links)]), (32003, .cells 69 [.lst false (ml eGHop f.Links), .lst false (ml eInt f.Routers)]), (32004, .cells 30 [.nils, .nils]), (32005, .cells 30 [.own 703200500, .own 703200501]), (703200500, .slice 42 2 (ml eGRouter m_1) 0 false), (703200501, .slice 44 5 (ml eGLink m_3) 0 false), (32008, .cells 44 [.int .i64 e2.A, .int .i64 e2.B, .int .i64 e2.CostA, .int .i64 e2.CostB, .int .i64 e2.Capacity])]) ?_ ?_
      · skip
        obtain ⟨vx_3, h4, hm⟩ := bnd_some hm
        rcases cs_some hm with ⟨c3, hm⟩ | ⟨c3, hm⟩
        · skip
          obtain ⟨vx_4, h5, hm⟩ := bnd_some hm
          rcases cs_some hm with ⟨c4, hm⟩ | ⟨c4, hm⟩
          · skip
            obtain ⟨vx_5, h6, hm⟩ := bnd_some hm
            refine A.R W0 [] [(4, hro (m_ref04_Has_ok h4) ck53), (6, hto (bE c3)), (11, hro (m_ref04_Has_ok h5) ck53), (14, hto (bE c4)), (21, hro (m_ref05_Named_ok h6) ck54)] [(2, .ptr 32002 0), (3, .ptr 32003 0), (4, .ptr 32004 0), (5, .ptr 32005 0), (7, .int .i64 (j2 : Int)), (8, .ptr 32008 0), (75, .bool (!vx_5))] [(32002, .cells 30 [.lst false (ml eGRouter t.Routers), .lst false (ml eGLink t.Links)]), (32003, .cells 69 [.lst false (ml eGHop f.Links), .lst false (ml eInt f.Routers)]), (32004, .cells 30 [.nils, .nils]), (32005, .cells 30 [.own 703200500, .own 703200501]), (703200500, .slice 42 2 (ml eGRouter m_1) 0 false), (703200501, .slice 44 5 (ml eGLink m_3) 0 false), (32008, .cells 44 [.int .i64 e2.A, .int .i64 e2.B, .int .i64 e2.CostA, .int .i64 e2.CostB, .int .i64 e2.Capacity])] (by kernel_rfl) ?_
            exact Exists.intro (!vx_5) (And.intro hm (Weak.go [] [] (by kernel_rfl)))
          refine A.R W0 [] [(4, hro (m_ref04_Has_ok h4) ck53), (6, hto (bE c3)), (11, hro (m_ref04_Has_ok h5) ck53), (14, hto (bE c4))] [(2, .ptr 32002 0), (3, .ptr 32003 0), (4, .ptr 32004 0), (5, .ptr 32005 0), (7, .int .i64 (j2 : Int)), (8, .ptr 32008 0), (75, .bool false)] [(32002, .cells 30 [.lst false (ml eGRouter t.Routers), .lst false (ml eGLink t.Links)]), (32003, .cells 69 [.lst false (ml eGHop f.Links), .lst false (ml eInt f.Routers)]), (32004, .cells 30 [.nils, .nils]), (32005, .cells 30 [.own 703200500, .own 703200501]), (703200500, .slice 42 2 (ml eGRouter m_1) 0 false), (703200501, .slice 44 5 (ml eGLink m_3) 0 false), (32008, .cells 44 [.int .i64 e2.A, .int .i64 e2.B, .int .i64 e2.CostA, .int .i64 e2.CostB, .int .i64 e2.Capacity])] (by kernel_rfl) ?_
          exact Exists.intro false (And.intro hm (Weak.go [] [] (by kernel_rfl)))
        refine A.R W0 [] [(4, hro (m_ref04_Has_ok h4) ck53), (6, hto (bE c3))] [(2, .ptr 32002 0), (3, .ptr 32003 0), (4, .ptr 32004 0), (5, .ptr 32005 0), (7, .int .i64 (j2 : Int)), (8, .ptr 32008 0), (75, .bool false)] [(32002, .cells 30 [.lst false (ml eGRouter t.Routers), .lst false (ml eGLink t.Links)]), (32003, .cells 69 [.lst false (ml eGHop f.Links), .lst false (ml eInt f.Routers)]), (32004, .cells 30 [.nils, .nils]), (32005, .cells 30 [.own 703200500, .own 703200501]), (703200500, .slice 42 2 (ml eGRouter m_1) 0 false), (703200501, .slice 44 5 (ml eGLink m_3) 0 false), (32008, .cells 44 [.int .i64 e2.A, .int .i64 e2.B, .int .i64 e2.CostA, .int .i64 e2.CostB, .int .i64 e2.Capacity])] (by kernel_rfl) ?_
        exact Exists.intro false (And.intro hm (Weak.go [] [] (by kernel_rfl)))
      rintro v_1 hm
      rw [hJ3] at hm
      rcases cs_some hm with ⟨c5, hm⟩ | ⟨c5, hm⟩
      · skip
        refine A.cT rfl c5 ?_
        obtain ⟨l_2, h7, hm⟩ := bnd_some hm
        refine A.R W0 [] [(4, hap 32580 (ap eGLink (bytes := 40) (by decide) h7))] [(2, .ptr 32002 0), (3, .ptr 32003 0), (4, .ptr 32004 0), (5, .ptr 32005 0), (7, .int .i64 (j2 : Int))] [(32002, .cells 30 [.lst false (ml eGRouter t.Routers), .lst false (ml eGLink t.Links)]), (32003, .cells 69 [.lst false (ml eGHop f.Links), .lst false (ml eInt f.Routers)]), (32004, .cells 30 [.nils, .nils]), (32005, .cells 30 [.own 703200500, .own 32580]), (703200500, .slice 42 2 (ml eGRouter m_1) 0 false), (32580, .slice 44 5 (ml eGLink l_2) 0 false)] (by kernel_rfl) ?_
        exact Exists.intro l_2 (And.intro hm (Weak.go [.sw 32580 703200501] [] (by kernel_rfl)))
      refine A.cF rfl c5 ?_
      refine A.skip ?_
      exact Exists.intro m_3 (And.intro hm (Weak.go [] [] (by kernel_rfl)))
    rintro m_4 hm
    rw [hJ2] at hm
    refine A.R W0 [] [(1, hto (inc hx2 hb2))] [(2, .ptr 32002 0), (3, .ptr 32003 0), (4, .ptr 32004 0), (5, .ptr 32005 0), (7, .int .i64 ((j2 + 1 : Nat) : Int))] [(32002, .cells 30 [.lst false (ml eGRouter t.Routers), .lst false (ml eGLink t.Links)]), (32003, .cells 69 [.lst false (ml eGHop f.Links), .lst false (ml eInt f.Routers)]), (32004, .cells 30 [.nils, .nils]), (32005, .cells 30 [.own 703200500, .own 703200501]), (703200500, .slice 42 2 (ml eGRouter m_1) 0 false), (703200501, .slice 44 5 (ml eGLink m_4) 0 false)] (by kernel_rfl) ?_
    exact Exists.intro m_4 (And.intro hm (Weak.go [] [] (by kernel_rfl)))
  rintro j2 m_3 hj2 hl2 hm
  rw [hK2] at hm
  refine A.seq ?_
  refine A.RS W0 [] [(3, hto (lnE eGLink t.Links))] [(2, .ptr 32002 0), (3, .ptr 32003 0), (4, .ptr 32004 0), (5, .ptr 32005 0), (7, .int .i64 (j2 : Int)), (44, .bool (decide ((j2 : Int) < (t.Links.length:Int))))] [(32002, .cells 30 [.lst false (ml eGRouter t.Routers), .lst false (ml eGLink t.Links)]), (32003, .cells 69 [.lst false (ml eGHop f.Links), .lst false (ml eInt f.Routers)]), (32004, .cells 30 [.nils, .nils]), (32005, .cells 30 [.own 703200500, .own 703200501]), (703200500, .slice 42 2 (ml eGRouter m_1) 0 false), (703200501, .slice 44 5 (ml eGLink m_3) 0 false)] (by kernel_rfl) ?_
  refine A.cF rfl (ltF hl2) ?_
  refine A.exit ?_
  show acode _ _ _ _ _
  refine A.RS W0 [] [] [(4, .ptr 32004 0)] [(32004, .cells 30 [.own 703200500, .own 703200501]), (703200500, .slice 42 2 (ml eGRouter m_1) 0 false), (703200501, .slice 44 5 (ml eGLink m_3) 0 false)] (by kernel_rfl) ?_
  refine A.ret ?_
  obtain rfl := some_inj hm
  exact A.fin W0 [.fz [703200500, 703200501]] rfl (by kernel_rfl)
theorem m_ref05_Apply_ok {t : GTopology} {c : GChange} {r : GTopology × Int} (hm : m_ref05_Apply t c = some r) : RO Try.prog 9 [] [.agg [.lst false (ml eGRouter t.Routers), .lst false (ml eGLink t.Links)], .agg [.int .i64 c.A, .int .i64 c.B, .int .i64 c.CostA, .int .i64 c.CostB]] (.tup [.agg [.lst false (ml eGRouter r.1.Routers), .lst false (ml eGLink r.1.Links)], .int .i64 r.2]) := by
  refine enterA Try.func9 rfl rfl ?_
  unfold m_ref05_Apply at hm
  refine A.RS W0 [] [(0, .al 9002), (1, .al 9003), (2, .al 9004)] [(2, .ptr 9002 0), (3, .ptr 9003 0), (4, .ptr 9004 0)] [(9002, .cells 30 [.lst false (ml eGRouter t.Routers), .lst false (ml eGLink t.Links)]), (9003, .cells 24 [.int .i64 c.A, .int .i64 c.B, .int .i64 c.CostA, .int .i64 c.CostB]), (9004, .cells 30 [.nils, .nils])] (by kernel_rfl) ?_
  refine A.seq ?_
  obtain ⟨vx_1, h1, hm⟩ := bnd_some hm
  refine A.RS W0 [] [(1, hro (m_ref05_Check_ok h1) ck28)] [(2, .ptr 9002 0), (3, .ptr 9003 0), (4, .ptr 9004 0), (16, .bool (!decide (vx_1 = (0:Int))))] [(9002, .cells 30 [.lst false (ml eGRouter t.Routers), .lst false (ml eGLink t.Links)]), (9003, .cells 24 [.int .i64 c.A, .int .i64 c.B, .int .i64 c.CostA, .int .i64 c.CostB]), (9004, .cells 30 [.nils, .nils])] (by kernel_rfl) ?_
  rcases cs_some hm with ⟨c1, hm⟩ | ⟨c1, hm⟩
  · skip
    refine A.cT rfl c1 ?_
    refine A.RS W0 [] [] [(4, .ptr 9004 0), (5, .int .i64 (1:Int))] [(9004, .cells 30 [.nils, .nils])] (by kernel_rfl) ?_
    refine A.ret ?_
    obtain rfl := some_inj hm
    exact A.fin W0 [] rfl (by kernel_rfl)
  refine A.cF rfl c1 ?_
  refine A.skip ?_
  show acode _ _ _ _ _
  refine A.seq ?_
  obtain ⟨J1, hJ1, hm⟩ := jn_some hm
  refine A.J (J := J1) (r := r) (fun v_1 => [(2, .ptr 9002 0), (3, .ptr 9003 0), (4, .ptr 9004 0), (29, .bool v_1)]) (fun v_1 => [(9002, .cells 30 [.lst false (ml eGRouter t.Routers), .lst false (ml eGLink t.Links)]), (9003, .cells 24 [.int .i64 c.A, .int .i64 c.B, .int .i64 c.CostA, .int .i64 c.CostB]), (9004, .cells 30 [.nils, .nils])]) ?_ ?_
  · skip
    obtain ⟨vx_2, h2, hm⟩ := bnd_some hm
    rcases cs_some hm with ⟨c2, hm⟩ | ⟨c2, hm⟩
    · skip
      refine A.R W0 [] [(3, hro (m_ref05_has_ok h2) ck29), (5, hto (bE c2))] [(2, .ptr 9002 0), (3, .ptr 9003 0), (4, .ptr 9004 0), (29, .bool true)] [(9002, .cells 30 [.lst false (ml eGRouter t.Routers), .lst false (ml eGLink t.Links)]), (9003, .cells 24 [.int .i64 c.A, .int .i64 c.B, .int .i64 c.CostA, .int .i64 c.CostB]), (9004, .cells 30 [.nils, .nils])] (by kernel_rfl) ?_
      exact Exists.intro true (And.intro hm (Weak.go [] [] (by kernel_rfl)))
    obtain ⟨vx_3, h3, hm⟩ := bnd_some hm
    refine A.R W0 [] [(3, hro (m_ref05_has_ok h2) ck29), (5, hto (bE c2)), (9, hro (m_ref05_has_ok h3) ck29)] [(2, .ptr 9002 0), (3, .ptr 9003 0), (4, .ptr 9004 0), (29, .bool (!vx_3))] [(9002, .cells 30 [.lst false (ml eGRouter t.Routers), .lst false (ml eGLink t.Links)]), (9003, .cells 24 [.int .i64 c.A, .int .i64 c.B, .int .i64 c.CostA, .int .i64 c.CostB]), (9004, .cells 30 [.nils, .nils])] (by kernel_rfl) ?_
    exact Exists.intro (!vx_3) (And.intro hm (Weak.go [] [] (by kernel_rfl)))
  rintro v_1 hm
  rw [hJ1] at hm
  rcases cs_some hm with ⟨c3, hm⟩ | ⟨c3, hm⟩
  · skip
    refine A.cT rfl c3 ?_
    refine A.RS W0 [] [] [(4, .ptr 9004 0), (5, .int .i64 (4:Int))] [(9004, .cells 30 [.nils, .nils])] (by kernel_rfl) ?_
    refine A.ret ?_
    obtain rfl := some_inj hm
    exact A.fin W0 [] rfl (by kernel_rfl)
  refine A.cF rfl c3 ?_
  refine A.skip ?_
  show acode _ _ _ _ _
  refine A.seq ?_
  refine A.RS W0 [] [] [(2, .ptr 9002 0), (3, .ptr 9003 0), (4, .ptr 9004 0), (35, .bool (decide (c.A = c.B)))] [(9002, .cells 30 [.lst false (ml eGRouter t.Routers), .lst false (ml eGLink t.Links)]), (9003, .cells 24 [.int .i64 c.A, .int .i64 c.B, .int .i64 c.CostA, .int .i64 c.CostB]), (9004, .cells 30 [.nils, .nils])] (by kernel_rfl) ?_
  rcases cs_some hm with ⟨c4, hm⟩ | ⟨c4, hm⟩
  · skip
    refine A.cT rfl c4 ?_
    refine A.RS W0 [] [] [(4, .ptr 9004 0), (5, .int .i64 (8:Int))] [(9004, .cells 30 [.nils, .nils])] (by kernel_rfl) ?_
    refine A.ret ?_
    obtain rfl := some_inj hm
    exact A.fin W0 [] rfl (by kernel_rfl)
  refine A.cF rfl c4 ?_
  refine A.skip ?_
  show acode _ _ _ _ _
  refine A.mid [(2, .ptr 9002 0), (3, .ptr 9003 0), (4, .ptr 9004 0), (6, .bool ((decide (c.CostA = (0:Int))) && (decide (c.CostB = (0:Int)))))] [(9002, .cells 30 [.lst false (ml eGRouter t.Routers), .lst false (ml eGLink t.Links)]), (9003, .cells 24 [.int .i64 c.A, .int .i64 c.B, .int .i64 c.CostA, .int .i64 c.CostB]), (9004, .cells 30 [.nils, .nils])] (fun hk => ?_) ?_
  · skip
    rcases tf (decide (c.CostA = (0:Int))) with c5 | c5
    · skip
      exact A.RS W0 [] [(3, hto (bE c5)), (8, hto (andT (q := decide (c.CostB = (0:Int))) c5))] _ _ (by kernel_rfl) hk
    exact A.RS W0 [] [(3, hto (bE c5)), (8, hto (andF (q := decide (c.CostB = (0:Int))) c5))] _ _ (by kernel_rfl) hk
  refine A.seq ?_
  obtain ⟨J2, hJ2, hm⟩ := jn_some hm
  refine A.J (J := J2) (r := r) (fun v_2 => [(2, .ptr 9002 0), (3, .ptr 9003 0), (4, .ptr 9004 0), (6, .bool ((decide (c.CostA = (0:Int))) && (decide (c.CostB = (0:Int))))), (58, .bool v_2)]) (fun v_2 => [(9002, .cells 30 [.lst false (ml eGRouter t.Routers), .lst false (ml eGLink t.Links)]), (9003, .cells 24 [.int .i64 c.A, .int .i64 c.B, .int .i64 c.CostA, .int .i64 c.CostB]), (9004, .cells 30 [.nils, .nils])]) ?_ ?_
  · skip
    rcases cs_some hm with ⟨c6, hm⟩ | ⟨c6, hm⟩
    · skip
      obtain ⟨vx_4, h4, hm⟩ := bnd_some hm
      rcases cs_some hm with ⟨c7, hm⟩ | ⟨c7, hm⟩
      · skip
        refine A.R W0 [] [(2, hto (bE c6)), (5, hro (m_ref05_cost_ok h4) ck30), (7, hto (bE c7))] [(2, .ptr 9002 0), (3, .ptr 9003 0), (4, .ptr 9004 0), (6, .bool ((decide (c.CostA = (0:Int))) && (decide (c.CostB = (0:Int))))), (58, .bool true)] [(9002, .cells 30 [.lst false (ml eGRouter t.Routers), .lst false (ml eGLink t.Links)]), (9003, .cells 24 [.int .i64 c.A, .int .i64 c.B, .int .i64 c.CostA, .int .i64 c.CostB]), (9004, .cells 30 [.nils, .nils])] (by kernel_rfl) ?_
        exact Exists.intro true (And.intro hm (Weak.go [] [] (by kernel_rfl)))
      obtain ⟨vx_5, h5, hm⟩ := bnd_some hm
      refine A.R W0 [] [(2, hto (bE c6)), (5, hro (m_ref05_cost_ok h4) ck30), (7, hto (bE c7)), (10, hro (m_ref05_cost_ok h5) ck30)] [(2, .ptr 9002 0), (3, .ptr 9003 0), (4, .ptr 9004 0), (6, .bool ((decide (c.CostA = (0:Int))) && (decide (c.CostB = (0:Int))))), (58, .bool (!vx_5))] [(9002, .cells 30 [.lst false (ml eGRouter t.Routers), .lst false (ml eGLink t.Links)]), (9003, .cells 24 [.int .i64 c.A, .int .i64 c.B, .int .i64 c.CostA, .int .i64 c.CostB]), (9004, .cells 30 [.nils, .nils])] (by kernel_rfl) ?_
      exact Exists.intro (!vx_5) (And.intro hm (Weak.go [] [] (by kernel_rfl)))
    refine A.R W0 [] [(2, hto (bE c6))] [(2, .ptr 9002 0), (3, .ptr 9003 0), (4, .ptr 9004 0), (6, .bool ((decide (c.CostA = (0:Int))) && (decide (c.CostB = (0:Int))))), (58, .bool false)] [(9002, .cells 30 [.lst false (ml eGRouter t.Routers), .lst false (ml eGLink t.Links)]), (9003, .cells 24 [.int .i64 c.A, .int .i64 c.B, .int .i64 c.CostA, .int .i64 c.CostB]), (9004, .cells 30 [.nils, .nils])] (by kernel_rfl) ?_
    exact Exists.intro false (And.intro hm (Weak.go [] [] (by kernel_rfl)))
  rintro v_2 hm
  rw [hJ2] at hm
  rcases cs_some hm with ⟨c8, hm⟩ | ⟨c8, hm⟩
  · skip
    refine A.cT rfl c8 ?_
    refine A.RS W0 [] [] [(4, .ptr 9004 0), (5, .int .i64 (2:Int))] [(9004, .cells 30 [.nils, .nils])] (by kernel_rfl) ?_
    refine A.ret ?_
    obtain rfl := some_inj hm
    exact A.fin W0 [] rfl (by kernel_rfl)
  refine A.cF rfl c8 ?_
  refine A.skip ?_
  show acode _ _ _ _ _
  obtain ⟨vx_6, h6, hm⟩ := bnd_some hm
  refine A.RS W0 [] [(5, hro (m_ref05_Price_ok h6) ck31)] [(2, .ptr 9002 0), (3, .ptr 9003 0), (4, .ptr 9004 0), (6, .bool ((decide (c.CostA = (0:Int))) && (decide (c.CostB = (0:Int))))), (8, .bool vx_6.2)] [(9002, .cells 30 [.lst false (ml eGRouter t.Routers), .lst false (ml eGLink t.Links)]), (9003, .cells 24 [.int .i64 c.A, .int .i64 c.B, .int .i64 c.CostA, .int .i64 c.CostB]), (9004, .cells 30 [.nils, .nils])] (by kernel_rfl) ?_
  refine A.seq ?_
  refine A.mid [(2, .ptr 9002 0), (3, .ptr 9003 0), (4, .ptr 9004 0), (6, .bool ((decide (c.CostA = (0:Int))) && (decide (c.CostB = (0:Int))))), (8, .bool vx_6.2), (73, .bool (((decide (c.CostA = (0:Int))) && (decide (c.CostB = (0:Int)))) && (!vx_6.2)))] [(9002, .cells 30 [.lst false (ml eGRouter t.Routers), .lst false (ml eGLink t.Links)]), (9003, .cells 24 [.int .i64 c.A, .int .i64 c.B, .int .i64 c.CostA, .int .i64 c.CostB]), (9004, .cells 30 [.nils, .nils])] (fun hk => ?_) ?_
  · skip
    rcases tf ((decide (c.CostA = (0:Int))) && (decide (c.CostB = (0:Int)))) with c9 | c9
    · skip
      exact A.RS W0 [] [(1, hto (bE c9)), (4, hto (andT (q := !vx_6.2) c9))] _ _ (by kernel_rfl) hk
    exact A.RS W0 [] [(1, hto (bE c9)), (4, hto (andF (q := !vx_6.2) c9))] _ _ (by kernel_rfl) hk
  rcases cs_some hm with ⟨c10, hm⟩ | ⟨c10, hm⟩
  · skip
    refine A.cT rfl c10 ?_
    refine A.RS W0 [] [] [(4, .ptr 9004 0), (5, .int .i64 (9:Int))] [(9004, .cells 30 [.nils, .nils])] (by kernel_rfl) ?_
    refine A.ret ?_
    obtain rfl := some_inj hm
    exact A.fin W0 [] rfl (by kernel_rfl)
  refine A.cF rfl c10 ?_
  refine A.skip ?_
  show acode _ _ _ _ _
  refine A.seq ?_
  refine A.RS W0 [] [] [(2, .ptr 9002 0), (3, .ptr 9003 0), (4, .ptr 9004 0), (8, .bool vx_6.2), (75, .bool ((decide (c.CostA = (0:Int))) && (decide (c.CostB = (0:Int)))))] [(9002, .cells 30 [.lst false (ml eGRouter t.Routers), .lst false (ml eGLink t.Links)]), (9003, .cells 24 [.int .i64 c.A, .int .i64 c.B, .int .i64 c.CostA, .int .i64 c.CostB]), (9004, .cells 30 [.nils, .nils])] (by kernel_rfl) ?_
  rcases cs_some hm with ⟨c11, hm⟩ | ⟨c11, hm⟩
  · skip
    refine A.cT rfl c11 ?_
    obtain ⟨vx_7, h7, hm⟩ := bnd_some hm
    refine A.RS W0 [] [(8, hro (m_ref05_Without_ok h7) ck32)] [(4, .ptr 9004 0), (5, .int .i64 (0:Int))] [(9004, .cells 30 [.lst false (ml eGRouter vx_7.Routers), .lst false (ml eGLink vx_7.Links)])] (by kernel_rfl) ?_
    refine A.ret ?_
    obtain rfl := some_inj hm
    exact A.fin W0 [] rfl (by kernel_rfl)
  refine A.cF rfl c11 ?_
  refine A.skip ?_
  show acode _ _ _ _ _
  refine A.RS W0 [] [(9, .al 9009)] [(2, .ptr 9002 0), (3, .ptr 9003 0), (4, .ptr 9004 0), (8, .bool vx_6.2), (9, .ptr 9009 0)] [(9002, .cells 30 [.lst false (ml eGRouter t.Routers), .lst false (ml eGLink t.Links)]), (9003, .cells 24 [.int .i64 c.A, .int .i64 c.B, .int .i64 c.CostA, .int .i64 c.CostB]), (9004, .cells 30 [.nils, .nils]), (9009, .cells 44 [.int .i64 c.A, .int .i64 c.B, .int .i64 c.CostA, .int .i64 c.CostB, .int .i64 (0:Int)])] (by kernel_rfl) ?_
  obtain ⟨J3, hJ3, hm⟩ := jn_some hm
  refine A.J (J := J3) (r := r) (fun sg => match sg with | (m_1, m_2, m_3, m_4) => [(2, .ptr 9002 0), (4, .ptr 9004 0), (8, .bool vx_6.2), (9, .ptr 9009 0)]) (fun sg => match sg with | (m_1, m_2, m_3, m_4) => [(9002, .cells 30 [.lst false (ml eGRouter t.Routers), .lst false (ml eGLink t.Links)]), (9004, .cells 30 [.nils, .nils]), (9009, .cells 44 [.int .i64 m_1, .int .i64 m_2, .int .i64 m_3, .int .i64 m_4, .int .i64 (0:Int)])]) ?_ ?_
  · skip
    refine A.RS W0 [] [] [(2, .ptr 9002 0), (3, .ptr 9003 0), (4, .ptr 9004 0), (8, .bool vx_6.2), (9, .ptr 9009 0), (98, .bool (decide (c.B < c.A)))] [(9002, .cells 30 [.lst false (ml eGRouter t.Routers), .lst false (ml eGLink t.Links)]), (9003, .cells 24 [.int .i64 c.A, .int .i64 c.B, .int .i64 c.CostA, .int .i64 c.CostB]), (9004, .cells 30 [.nils, .nils]), (9009, .cells 44 [.int .i64 c.A, .int .i64 c.B, .int .i64 c.CostA, .int .i64 c.CostB, .int .i64 (0:Int)])] (by kernel_rfl) ?_
    rcases cs_some hm with ⟨c12, hm⟩ | ⟨c12, hm⟩
    · skip
      refine A.cT rfl c12 ?_
      refine A.R W0 [] [] [(2, .ptr 9002 0), (4, .ptr 9004 0), (8, .bool vx_6.2), (9, .ptr 9009 0)] [(9002, .cells 30 [.lst false (ml eGRouter t.Routers), .lst false (ml eGLink t.Links)]), (9004, .cells 30 [.nils, .nils]), (9009, .cells 44 [.int .i64 c.B, .int .i64 c.A, .int .i64 c.CostB, .int .i64 c.CostA, .int .i64 (0:Int)])] (by kernel_rfl) ?_
      exact Exists.intro (c.B, c.A, c.CostB, c.CostA) (And.intro hm (Weak.go [] [] (by kernel_rfl)))
    refine A.cF rfl c12 ?_
    refine A.skip ?_
    exact Exists.intro (c.A, c.B, c.CostA, c.CostB) (And.intro hm (Weak.go [] [] (by kernel_rfl)))
  rintro ⟨m_1, m_2, m_3, m_4⟩ hm
  rw [hJ3] at hm
  refine A.seq ?_
  refine A.mid [(2, .ptr 9002 0), (4, .ptr 9004 0), (9, .ptr 9009 0), (115, .bool ((!vx_6.2) && (decide ((t.Links.length:Int) = (60:Int)))))] [(9002, .cells 30 [.lst false (ml eGRouter t.Routers), .lst false (ml eGLink t.Links)]), (9004, .cells 30 [.nils, .nils]), (9009, .cells 44 [.int .i64 m_1, .int .i64 m_2, .int .i64 m_3, .int .i64 m_4, .int .i64 (0:Int)])] (fun hk => ?_) ?_
  · skip
    rcases tf (!vx_6.2) with c13 | c13
    · skip
      exact A.RS W0 [] [(2, hto (bE c13)), (5, hto (lnE eGLink t.Links)), (7, hto (andT (q := decide ((t.Links.length:Int) = (60:Int))) c13))] _ _ (by kernel_rfl) hk
    exact A.RS W0 [] [(2, hto (bE c13)), (7, hto (andF (q := decide ((t.Links.length:Int) = (60:Int))) c13))] _ _ (by kernel_rfl) hk
  rcases cs_some hm with ⟨c14, hm⟩ | ⟨c14, hm⟩
  · skip
    refine A.cT rfl c14 ?_
    refine A.RS W0 [] [] [(4, .ptr 9004 0), (5, .int .i64 (3:Int))] [(9004, .cells 30 [.nils, .nils])] (by kernel_rfl) ?_
    refine A.ret ?_
    obtain rfl := some_inj hm
    exact A.fin W0 [] rfl (by kernel_rfl)
  refine A.cF rfl c14 ?_
  refine A.skip ?_
  show acode _ _ _ _ _
  refine A.RS W0 [] [(3, .al 9010)] [(2, .ptr 9002 0), (4, .ptr 9004 0), (9, .ptr 9009 0), (10, .ptr 9010 0)] [(9002, .cells 30 [.lst false (ml eGRouter t.Routers), .lst false (ml eGLink t.Links)]), (9004, .cells 30 [.nils, .nils]), (9009, .cells 44 [.int .i64 m_1, .int .i64 m_2, .int .i64 m_3, .int .i64 m_4, .int .i64 (0:Int)]), (9010, .cells 30 [.lst false (ml eGRouter t.Routers), .nils])] (by kernel_rfl) ?_
  refine A.RS W0 [] [] [(2, .ptr 9002 0), (4, .ptr 9004 0), (9, .ptr 9009 0), (10, .ptr 9010 0), (11, .bool false)] [(9002, .cells 30 [.lst false (ml eGRouter t.Routers), .lst false (ml eGLink t.Links)]), (9004, .cells 30 [.nils, .nils]), (9009, .cells 44 [.int .i64 m_1, .int .i64 m_2, .int .i64 m_3, .int .i64 m_4, .int .i64 (0:Int)]), (9010, .cells 30 [.lst false (ml eGRouter t.Routers), .nils])] (by kernel_rfl) ?_
  refine A.seq ?_
  refine A.RS W0 [] [] [(2, .ptr 9002 0), (4, .ptr 9004 0), (9, .ptr 9009 0), (10, .ptr 9010 0), (11, .bool false), (12, .int .i64 (0:Int))] [(9002, .cells 30 [.lst false (ml eGRouter t.Routers), .lst false (ml eGLink t.Links)]), (9004, .cells 30 [.nils, .nils]), (9009, .cells 44 [.int .i64 m_1, .int .i64 m_2, .int .i64 m_3, .int .i64 m_4, .int .i64 (0:Int)]), (9010, .cells 30 [.lst false (ml eGRouter t.Routers), .nils])] (by kernel_rfl) ?_
  refine A.block ?_
  refine A.bC 2 1 rfl rfl rfl fun hb1 => ?_
  obtain ⟨B1, K1, hB1, hK1, hm⟩ := forI_some hm
  refine A.lpI (l := t.Links) (j0 := 0) (B := B1) (K := K1) hm (fun j1 => fun sg => match sg with | (done_1, m_5, m_6) => [(2, .ptr 9002 0), (4, .ptr 9004 0), (9, .ptr 9009 0), (10, .ptr 9010 0), (11, .bool done_1), (12, .int .i64 (j1 : Int))]) (fun j1 => fun sg => match sg with | (done_1, m_5, m_6) => [(9002, .cells 30 [.lst false (ml eGRouter t.Routers), .lst false (ml eGLink t.Links)]), (9004, .cells 30 [.nils, .nils]), (9009, .cells 44 [.int .i64 m_1, .int .i64 m_2, .int .i64 m_3, .int .i64 m_4, .int .i64 m_5]), (9010, .cells 30 [.lst false (ml eGRouter t.Routers), .own 700901001]), (700901001, .slice 44 5 (ml eGLink m_6) 0 false)]) ?_ ?_ ?_
  · exact Weak.go [.ac 9010 700901001 44 5 1] [] (by kernel_rfl)
  · skip
    rintro j1 e1 Z1 ⟨done_1, m_5, m_6⟩ hj1 hx1 hm
    rw [hB1] at hm
    refine A.seq ?_
    refine A.RS W0 [] [(3, hto (lnE eGLink t.Links))] [(2, .ptr 9002 0), (4, .ptr 9004 0), (9, .ptr 9009 0), (10, .ptr 9010 0), (11, .bool done_1), (12, .int .i64 (j1 : Int)), (124, .bool (decide ((j1 : Int) < (t.Links.length:Int))))] [(9002, .cells 30 [.lst false (ml eGRouter t.Routers), .lst false (ml eGLink t.Links)]), (9004, .cells 30 [.nils, .nils]), (9009, .cells 44 [.int .i64 m_1, .int .i64 m_2, .int .i64 m_3, .int .i64 m_4, .int .i64 m_5]), (9010, .cells 30 [.lst false (ml eGRouter t.Routers), .own 700901001]), (700901001, .slice 44 5 (ml eGLink m_6) 0 false)] (by kernel_rfl) ?_
    refine A.cT rfl (ltT hx1) ?_
    refine A.skip ?_
    show acode _ _ _ _ _
    obtain ⟨J4, hJ4, hm⟩ := jn_some hm
    refine A.J (J := J4) (r := r) (fun sg => match sg with | (done_2, m_7, m_8) => [(2, .ptr 9002 0), (4, .ptr 9004 0), (9, .ptr 9009 0), (10, .ptr 9010 0), (11, .bool done_2), (12, .int .i64 (j1 : Int))]) (fun sg => match sg with | (done_2, m_7, m_8) => [(9002, .cells 30 [.lst false (ml eGRouter t.Routers), .lst false (ml eGLink t.Links)]), (9004, .cells 30 [.nils, .nils]), (9009, .cells 44 [.int .i64 m_1, .int .i64 m_2, .int .i64 m_3, .int .i64 m_4, .int .i64 m_7]), (9010, .cells 30 [.lst false (ml eGRouter t.Routers), .own 700901001]), (700901001, .slice 44 5 (ml eGLink m_8) 0 false)]) ?_ ?_
    · skip
      refine A.block ?_
      refine A.RS W0 [] [(3, hix (ix eGLink (elO_nat hx1))), (5, .al 9013)] [(2, .ptr 9002 0), (4, .ptr 9004 0), (9, .ptr 9009 0), (10, .ptr 9010 0), (11, .bool done_1), (12, .int .i64 (j1 : Int)), (13, .ptr 9013 0)] [(9002, .cells 30 [.lst false (ml eGRouter t.Routers), .lst false (ml eGLink t.Links)]), (9004, .cells 30 [.nils, .nils]), (9009, .cells 44 [.int .i64 m_1, .int .i64 m_2, .int .i64 m_3, .int .i64 m_4, .int .i64 m_5]), (9010, .cells 30 [.lst false (ml eGRouter t.Routers), .own 700901001]), (700901001, .slice 44 5 (ml eGLink m_6) 0 false), (9013, .cells 44 [.int .i64 e1.A, .int .i64 e1.B, .int .i64 e1.CostA, .int .i64 e1.CostB, .int .i64 e1.Capacity])] (by kernel_rfl) ?_
      refine A.seq ?_
      refine A.mid [(2, .ptr 9002 0), (4, .ptr 9004 0), (9, .ptr 9009 0), (10, .ptr 9010 0), (11, .bool done_1), (12, .int .i64 (j1 : Int)), (13, .ptr 9013 0), (143, .bool ((decide (e1.A = m_1)) && (decide (e1.B = m_2))))] [(9002, .cells 30 [.lst false (ml eGRouter t.Routers), .lst false (ml eGLink t.Links)]), (9004, .cells 30 [.nils, .nils]), (9009, .cells 44 [.int .i64 m_1, .int .i64 m_2, .int .i64 m_3, .int .i64 m_4, .int .i64 m_5]), (9010, .cells 30 [.lst false (ml eGRouter t.Routers), .own 700901001]), (700901001, .slice 44 5 (ml eGLink m_6) 0 false), (9013, .cells 44 [.int .i64 e1.A, .int .i64 e1.B, .int .i64 e1.CostA, .int .i64 e1.CostB, .int .i64 e1.Capacity])] (fun hk => ?_) ?_
      · skip
        rcases tf (decide (e1.A = m_1)) with c15 | c15
        · skip
          exact A.RS W0 [] [(5, hto (bE c15)), (11, hto (andT (q := decide (e1.B = m_2)) c15))] _ _ (by kernel_rfl) hk
        exact A.RS W0 [] [(5, hto (bE c15)), (11, hto (andF (q := decide (e1.B = m_2)) c15))] _ _ (by kernel_rfl) hk
      rcases cs_some hm with ⟨c16, hm⟩ | ⟨c16, hm⟩
      · skip
        refine A.cT rfl c16 ?_
        refine A.RS W0 [] [] [(2, .ptr 9002 0), (4, .ptr 9004 0), (9, .ptr 9009 0), (10, .ptr 9010 0), (12, .int .i64 (j1 : Int)), (13, .ptr 9013 0)] [(9002, .cells 30 [.lst false (ml eGRouter t.Routers), .lst false (ml eGLink t.Links)]), (9004, .cells 30 [.nils, .nils]), (9009, .cells 44 [.int .i64 m_1, .int .i64 m_2, .int .i64 m_3, .int .i64 m_4, .int .i64 e1.Capacity]), (9010, .cells 30 [.lst false (ml eGRouter t.Routers), .own 700901001]), (700901001, .slice 44 5 (ml eGLink m_6) 0 false), (9013, .cells 44 [.int .i64 e1.A, .int .i64 e1.B, .int .i64 e1.CostA, .int .i64 e1.CostB, .int .i64 e1.Capacity])] (by kernel_rfl) ?_
        obtain ⟨l_1, h8, hm⟩ := bnd_some hm
        refine A.RS W0 [] [(4, hap 9651 (ap eGLink (bytes := 40) (by decide) h8))] [(2, .ptr 9002 0), (4, .ptr 9004 0), (9, .ptr 9009 0), (10, .ptr 9010 0), (12, .int .i64 (j1 : Int)), (13, .ptr 9013 0)] [(9002, .cells 30 [.lst false (ml eGRouter t.Routers), .lst false (ml eGLink t.Links)]), (9004, .cells 30 [.nils, .nils]), (9009, .cells 44 [.int .i64 m_1, .int .i64 m_2, .int .i64 m_3, .int .i64 m_4, .int .i64 e1.Capacity]), (9010, .cells 30 [.lst false (ml eGRouter t.Routers), .own 9651]), (9013, .cells 44 [.int .i64 e1.A, .int .i64 e1.B, .int .i64 e1.CostA, .int .i64 e1.CostB, .int .i64 e1.Capacity]), (9651, .slice 44 5 (ml eGLink l_1) 0 false)] (by kernel_rfl) ?_
        refine A.RS W0 [] [] [(2, .ptr 9002 0), (4, .ptr 9004 0), (9, .ptr 9009 0), (10, .ptr 9010 0), (12, .int .i64 (j1 : Int)), (13, .ptr 9013 0), (11, .bool true)] [(9002, .cells 30 [.lst false (ml eGRouter t.Routers), .lst false (ml eGLink t.Links)]), (9004, .cells 30 [.nils, .nils]), (9009, .cells 44 [.int .i64 m_1, .int .i64 m_2, .int .i64 m_3, .int .i64 m_4, .int .i64 e1.Capacity]), (9010, .cells 30 [.lst false (ml eGRouter t.Routers), .own 9651]), (9013, .cells 44 [.int .i64 e1.A, .int .i64 e1.B, .int .i64 e1.CostA, .int .i64 e1.CostB, .int .i64 e1.Capacity]), (9651, .slice 44 5 (ml eGLink l_1) 0 false)] (by kernel_rfl) ?_
        refine A.exit ?_
        exact Exists.intro (true, e1.Capacity, l_1) (And.intro hm (Weak.go [.sw 9651 700901001] [] (by kernel_rfl)))
      refine A.cF rfl c16 ?_
      refine A.skip ?_
      show acode _ _ _ _ _
      obtain ⟨J5, hJ5, hm⟩ := jn_some hm
      refine A.J (J := J5) (r := r) (fun sg => match sg with | (done_3, m_9) => [(2, .ptr 9002 0), (4, .ptr 9004 0), (9, .ptr 9009 0), (10, .ptr 9010 0), (11, .bool done_3), (12, .int .i64 (j1 : Int)), (13, .ptr 9013 0)]) (fun sg => match sg with | (done_3, m_9) => [(9002, .cells 30 [.lst false (ml eGRouter t.Routers), .lst false (ml eGLink t.Links)]), (9004, .cells 30 [.nils, .nils]), (9009, .cells 44 [.int .i64 m_1, .int .i64 m_2, .int .i64 m_3, .int .i64 m_4, .int .i64 m_5]), (9010, .cells 30 [.lst false (ml eGRouter t.Routers), .own 700901001]), (700901001, .slice 44 5 (ml eGLink m_9) 0 false), (9013, .cells 44 [.int .i64 e1.A, .int .i64 e1.B, .int .i64 e1.CostA, .int .i64 e1.CostB, .int .i64 e1.Capacity])]) ?_ ?_
      · skip
        refine A.mid [(2, .ptr 9002 0), (4, .ptr 9004 0), (9, .ptr 9009 0), (10, .ptr 9010 0), (11, .bool done_1), (12, .int .i64 (j1 : Int)), (13, .ptr 9013 0), (175, .bool ((!done_1) && ((decide (m_1 < e1.A)) || ((decide (m_1 = e1.A)) && (decide (m_2 < e1.B))))))] [(9002, .cells 30 [.lst false (ml eGRouter t.Routers), .lst false (ml eGLink t.Links)]), (9004, .cells 30 [.nils, .nils]), (9009, .cells 44 [.int .i64 m_1, .int .i64 m_2, .int .i64 m_3, .int .i64 m_4, .int .i64 m_5]), (9010, .cells 30 [.lst false (ml eGRouter t.Routers), .own 700901001]), (700901001, .slice 44 5 (ml eGLink m_6) 0 false), (9013, .cells 44 [.int .i64 e1.A, .int .i64 e1.B, .int .i64 e1.CostA, .int .i64 e1.CostB, .int .i64 e1.Capacity])] (fun hk => ?_) ?_
        · skip
          rcases tf (!done_1) with c17 | c17
          · skip
            rcases tf (decide (m_1 < e1.A)) with c18 | c18
            · skip
              exact A.RS W0 [] [(2, hto (bE c17)), (8, hto (bE c18)), (22, hto ((orT (q := ((decide (m_1 = e1.A)) && (decide (m_2 < e1.B)))) c18).trans (andT (q := ((decide (m_1 < e1.A)) || ((decide (m_1 = e1.A)) && (decide (m_2 < e1.B))))) c17)))] _ _ (by kernel_rfl) hk
            rcases tf (decide (m_1 = e1.A)) with c19 | c19
            · skip
              exact A.RS W0 [] [(2, hto (bE c17)), (8, hto (bE c18)), (14, hto (bE c19)), (22, hto (((andT (q := decide (m_2 < e1.B)) c19).trans (orF (q := ((decide (m_1 = e1.A)) && (decide (m_2 < e1.B)))) c18)).trans (andT (q := ((decide (m_1 < e1.A)) || ((decide (m_1 = e1.A)) && (decide (m_2 < e1.B))))) c17)))] _ _ (by kernel_rfl) hk
            exact A.RS W0 [] [(2, hto (bE c17)), (8, hto (bE c18)), (14, hto (bE c19)), (22, hto (((andF (q := decide (m_2 < e1.B)) c19).trans (orF (q := ((decide (m_1 = e1.A)) && (decide (m_2 < e1.B)))) c18)).trans (andT (q := ((decide (m_1 < e1.A)) || ((decide (m_1 = e1.A)) && (decide (m_2 < e1.B))))) c17)))] _ _ (by kernel_rfl) hk
          exact A.RS W0 [] [(2, hto (bE c17)), (22, hto (andF (q := ((decide (m_1 < e1.A)) || ((decide (m_1 = e1.A)) && (decide (m_2 < e1.B))))) c17))] _ _ (by kernel_rfl) hk
        rcases cs_some hm with ⟨c20, hm⟩ | ⟨c20, hm⟩
        · skip
          refine A.cT rfl c20 ?_
          obtain ⟨l_2, h9, hm⟩ := bnd_some hm
          refine A.RS W0 [] [(4, hap 9680 (ap eGLink (bytes := 40) (by decide) h9))] [(2, .ptr 9002 0), (4, .ptr 9004 0), (9, .ptr 9009 0), (10, .ptr 9010 0), (12, .int .i64 (j1 : Int)), (13, .ptr 9013 0)] [(9002, .cells 30 [.lst false (ml eGRouter t.Routers), .lst false (ml eGLink t.Links)]), (9004, .cells 30 [.nils, .nils]), (9009, .cells 44 [.int .i64 m_1, .int .i64 m_2, .int .i64 m_3, .int .i64 m_4, .int .i64 m_5]), (9010, .cells 30 [.lst false (ml eGRouter t.Routers), .own 9680]), (9013, .cells 44 [.int .i64 e1.A, .int .i64 e1.B, .int .i64 e1.CostA, .int .i64 e1.CostB, .int .i64 e1.Capacity]), (9680, .slice 44 5 (ml eGLink l_2) 0 false)] (by kernel_rfl) ?_
          refine A.R W0 [] [] [(2, .ptr 9002 0), (4, .ptr 9004 0), (9, .ptr 9009 0), (10, .ptr 9010 0), (12, .int .i64 (j1 : Int)), (13, .ptr 9013 0), (11, .bool true)] [(9002, .cells 30 [.lst false (ml eGRouter t.Routers), .lst false (ml eGLink t.Links)]), (9004, .cells 30 [.nils, .nils]), (9009, .cells 44 [.int .i64 m_1, .int .i64 m_2, .int .i64 m_3, .int .i64 m_4, .int .i64 m_5]), (9010, .cells 30 [.lst false (ml eGRouter t.Routers), .own 9680]), (9013, .cells 44 [.int .i64 e1.A, .int .i64 e1.B, .int .i64 e1.CostA, .int .i64 e1.CostB, .int .i64 e1.Capacity]), (9680, .slice 44 5 (ml eGLink l_2) 0 false)] (by kernel_rfl) ?_
          exact Exists.intro (true, l_2) (And.intro hm (Weak.go [.sw 9680 700901001] [] (by kernel_rfl)))
        refine A.cF rfl c20 ?_
        refine A.skip ?_
        exact Exists.intro (done_1, m_6) (And.intro hm (Weak.go [] [] (by kernel_rfl)))
      rintro ⟨done_3, m_9⟩ hm
      rw [hJ5] at hm
      obtain ⟨l_3, h10, hm⟩ := bnd_some hm
      refine A.R W0 [] [(4, hap 9686 (ap eGLink (bytes := 40) (by decide) h10))] [(2, .ptr 9002 0), (4, .ptr 9004 0), (9, .ptr 9009 0), (10, .ptr 9010 0), (11, .bool done_3), (12, .int .i64 (j1 : Int))] [(9002, .cells 30 [.lst false (ml eGRouter t.Routers), .lst false (ml eGLink t.Links)]), (9004, .cells 30 [.nils, .nils]), (9009, .cells 44 [.int .i64 m_1, .int .i64 m_2, .int .i64 m_3, .int .i64 m_4, .int .i64 m_5]), (9010, .cells 30 [.lst false (ml eGRouter t.Routers), .own 9686]), (9686, .slice 44 5 (ml eGLink l_3) 0 false)] (by kernel_rfl) ?_
      exact Exists.intro (done_3, m_5, l_3) (And.intro hm (Weak.go [.sw 9686 700901001] [] (by kernel_rfl)))
    rintro ⟨done_2, m_7, m_8⟩ hm
    rw [hJ4] at hm
    refine A.R W0 [] [(1, hto (inc hx1 hb1))] [(2, .ptr 9002 0), (4, .ptr 9004 0), (9, .ptr 9009 0), (10, .ptr 9010 0), (11, .bool done_2), (12, .int .i64 ((j1 + 1 : Nat) : Int))] [(9002, .cells 30 [.lst false (ml eGRouter t.Routers), .lst false (ml eGLink t.Links)]), (9004, .cells 30 [.nils, .nils]), (9009, .cells 44 [.int .i64 m_1, .int .i64 m_2, .int .i64 m_3, .int .i64 m_4, .int .i64 m_7]), (9010, .cells 30 [.lst false (ml eGRouter t.Routers), .own 700901001]), (700901001, .slice 44 5 (ml eGLink m_8) 0 false)] (by kernel_rfl) ?_
    exact Exists.intro (done_2, m_7, m_8) (And.intro hm (Weak.go [] [] (by kernel_rfl)))
  rintro j1 ⟨done_1, m_5, m_6⟩ hj1 hl1 hm
  rw [hK1] at hm
  refine A.seq ?_
  refine A.RS W0 [] [(3, hto (lnE eGLink t.Links))] [(2, .ptr 9002 0), (4, .ptr 9004 0), (9, .ptr 9009 0), (10, .ptr 9010 0), (11, .bool done_1), (12, .int .i64 (j1 : Int)), (124, .bool (decide ((j1 : Int) < (t.Links.length:Int))))] [(9002, .cells 30 [.lst false (ml eGRouter t.Routers), .lst false (ml eGLink t.Links)]), (9004, .cells 30 [.nils, .nils]), (9009, .cells 44 [.int .i64 m_1, .int .i64 m_2, .int .i64 m_3, .int .i64 m_4, .int .i64 m_5]), (9010, .cells 30 [.lst false (ml eGRouter t.Routers), .own 700901001]), (700901001, .slice 44 5 (ml eGLink m_6) 0 false)] (by kernel_rfl) ?_
  refine A.cF rfl (ltF hl1) ?_
  refine A.exit ?_
  show acode _ _ _ _ _
  obtain ⟨J6, hJ6, hm⟩ := jn_some hm
  refine A.J (J := J6) (r := r) (fun m_10 => [(4, .ptr 9004 0), (10, .ptr 9010 0)]) (fun m_10 => [(9004, .cells 30 [.nils, .nils]), (9010, .cells 30 [.lst false (ml eGRouter t.Routers), .own 700901001]), (700901001, .slice 44 5 (ml eGLink m_10) 0 false)]) ?_ ?_
  · skip
    refine A.RS W0 [] [] [(4, .ptr 9004 0), (9, .ptr 9009 0), (10, .ptr 9010 0), (189, .bool (!done_1))] [(9004, .cells 30 [.nils, .nils]), (9009, .cells 44 [.int .i64 m_1, .int .i64 m_2, .int .i64 m_3, .int .i64 m_4, .int .i64 m_5]), (9010, .cells 30 [.lst false (ml eGRouter t.Routers), .own 700901001]), (700901001, .slice 44 5 (ml eGLink m_6) 0 false)] (by kernel_rfl) ?_
    rcases cs_some hm with ⟨c21, hm⟩ | ⟨c21, hm⟩
    · skip
      refine A.cT rfl c21 ?_
      obtain ⟨l_4, h11, hm⟩ := bnd_some hm
      refine A.R W0 [] [(4, hap 9694 (ap eGLink (bytes := 40) (by decide) h11))] [(4, .ptr 9004 0), (10, .ptr 9010 0)] [(9004, .cells 30 [.nils, .nils]), (9010, .cells 30 [.lst false (ml eGRouter t.Routers), .own 9694]), (9694, .slice 44 5 (ml eGLink l_4) 0 false)] (by kernel_rfl) ?_
      exact Exists.intro l_4 (And.intro hm (Weak.go [.sw 9694 700901001] [] (by kernel_rfl)))
    refine A.cF rfl c21 ?_
    refine A.skip ?_
    exact Exists.intro m_6 (And.intro hm (Weak.go [] [] (by kernel_rfl)))
  rintro m_10 hm
  rw [hJ6] at hm
  refine A.RS W0 [] [] [(4, .ptr 9004 0), (5, .int .i64 (0:Int))] [(9004, .cells 30 [.lst false (ml eGRouter t.Routers), .own 700901001]), (700901001, .slice 44 5 (ml eGLink m_10) 0 false)] (by kernel_rfl) ?_
  refine A.ret ?_
  obtain rfl := some_inj hm
  exact A.fin W0 [.fz [700901001]] rfl (by kernel_rfl)
theorem m_ref05_Same_ok {a : GTopology} {b : GTopology} {r : Bool} (hm : m_ref05_Same a b = some r) : RO Try.prog 10 [] [.agg [.lst false (ml eGRouter a.Routers), .lst false (ml eGLink a.Links)], .agg [.lst false (ml eGRouter b.Routers), .lst false (ml eGLink b.Links)]] (.bool r) := by
  refine enterA Try.func10 rfl rfl ?_
  unfold m_ref05_Same at hm
  refine A.RS W0 [] [(0, .al 10002), (1, .al 10003)] [(2, .ptr 10002 0), (3, .ptr 10003 0)] [(10002, .cells 30 [.lst false (ml eGRouter a.Routers), .lst false (ml eGLink a.Links)]), (10003, .cells 30 [.lst false (ml eGRouter b.Routers), .lst false (ml eGLink b.Links)])] (by kernel_rfl) ?_
  refine A.seq ?_
  refine A.mid [(2, .ptr 10002 0), (3, .ptr 10003 0), (22, .bool ((!decide ((a.Routers.length:Int) = (b.Routers.length:Int))) || (!decide ((a.Links.length:Int) = (b.Links.length:Int)))))] [(10002, .cells 30 [.lst false (ml eGRouter a.Routers), .lst false (ml eGLink a.Links)]), (10003, .cells 30 [.lst false (ml eGRouter b.Routers), .lst false (ml eGLink b.Links)])] (fun hk => ?_) ?_
  · skip
    rcases tf (!decide ((a.Routers.length:Int) = (b.Routers.length:Int))) with c1 | c1
    · skip
      exact A.RS W0 [] [(2, hto (lnE eGRouter a.Routers)), (5, hto (lnE eGRouter b.Routers)), (7, hto (bE c1)), (15, hto (orT (q := !decide ((a.Links.length:Int) = (b.Links.length:Int))) c1))] _ _ (by kernel_rfl) hk
    exact A.RS W0 [] [(2, hto (lnE eGRouter a.Routers)), (5, hto (lnE eGRouter b.Routers)), (7, hto (bE c1)), (10, hto (lnE eGLink a.Links)), (13, hto (lnE eGLink b.Links)), (15, hto (orF (q := !decide ((a.Links.length:Int) = (b.Links.length:Int))) c1))] _ _ (by kernel_rfl) hk
  rcases cs_some hm with ⟨c2, hm⟩ | ⟨c2, hm⟩
  · skip
    refine A.cT rfl c2 ?_
    refine A.RS W0 [] [] [(4, .bool false)] [] (by kernel_rfl) ?_
    refine A.ret ?_
    obtain rfl := some_inj hm
    exact A.fin W0 [] rfl (by kernel_rfl)
  refine A.cF rfl c2 ?_
  refine A.skip ?_
  show acode _ _ _ _ _
  refine A.seq ?_
  refine A.RS W0 [] [] [(2, .ptr 10002 0), (3, .ptr 10003 0), (5, .int .i64 (0:Int))] [(10002, .cells 30 [.lst false (ml eGRouter a.Routers), .lst false (ml eGLink a.Links)]), (10003, .cells 30 [.lst false (ml eGRouter b.Routers), .lst false (ml eGLink b.Links)])] (by kernel_rfl) ?_
  refine A.block ?_
  refine A.bC 2 0 rfl rfl rfl fun hb1 => ?_
  obtain ⟨B1, K1, hB1, hK1, hm⟩ := forI_some hm
  refine A.lpI (l := a.Routers) (j0 := 0) (B := B1) (K := K1) hm (fun j1 => fun sg => match sg with | () => [(2, .ptr 10002 0), (3, .ptr 10003 0), (5, .int .i64 (j1 : Int))]) (fun j1 => fun sg => match sg with | () => [(10002, .cells 30 [.lst false (ml eGRouter a.Routers), .lst false (ml eGLink a.Links)]), (10003, .cells 30 [.lst false (ml eGRouter b.Routers), .lst false (ml eGLink b.Links)])]) ?_ ?_ ?_
  · exact Weak.go [] [] (by kernel_rfl)
  · skip
    rintro j1 e1 Z1 ⟨⟩ hj1 hx1 hm
    rw [hB1] at hm
    refine A.seq ?_
    refine A.RS W0 [] [(3, hto (lnE eGRouter a.Routers))] [(2, .ptr 10002 0), (3, .ptr 10003 0), (5, .int .i64 (j1 : Int)), (27, .bool (decide ((j1 : Int) < (a.Routers.length:Int))))] [(10002, .cells 30 [.lst false (ml eGRouter a.Routers), .lst false (ml eGLink a.Links)]), (10003, .cells 30 [.lst false (ml eGRouter b.Routers), .lst false (ml eGLink b.Links)])] (by kernel_rfl) ?_
    refine A.cT rfl (ltT hx1) ?_
    refine A.skip ?_
    show acode _ _ _ _ _
    refine A.seq ?_
    refine A.block ?_
    obtain ⟨e_1, h1, hm⟩ := bnd_some hm
    refine A.RS W0 [] [(3, hix (ix eGRouter (elO_nat hx1))), (8, hix (ix eGRouter h1)), (10, .sq true 42 (.agg [.int .i64 e1.ID, .bool e1.Capable]) (.agg [.int .i64 e_1.ID, .bool e_1.Capable]) (!(eqGRouter e1 e_1)) (fun x y w => eq42_neq x y _ _ _ _ w))] [(2, .ptr 10002 0), (3, .ptr 10003 0), (5, .int .i64 (j1 : Int)), (40, .bool (!(eqGRouter e1 e_1)))] [(10002, .cells 30 [.lst false (ml eGRouter a.Routers), .lst false (ml eGLink a.Links)]), (10003, .cells 30 [.lst false (ml eGRouter b.Routers), .lst false (ml eGLink b.Links)])] (by kernel_rfl) ?_
    rcases cs_some hm with ⟨c3, hm⟩ | ⟨c3, hm⟩
    · skip
      refine A.cT rfl c3 ?_
      refine A.RS W0 [] [] [(4, .bool false)] [] (by kernel_rfl) ?_
      refine A.ret ?_
      obtain rfl := some_inj hm
      exact A.fin W0 [] rfl (by kernel_rfl)
    refine A.cF rfl c3 ?_
    refine A.skip ?_
    show acode _ _ _ _ _
    refine A.R W0 [] [(1, hto (inc hx1 hb1))] [(2, .ptr 10002 0), (3, .ptr 10003 0), (5, .int .i64 ((j1 + 1 : Nat) : Int))] [(10002, .cells 30 [.lst false (ml eGRouter a.Routers), .lst false (ml eGLink a.Links)]), (10003, .cells 30 [.lst false (ml eGRouter b.Routers), .lst false (ml eGLink b.Links)])] (by kernel_rfl) ?_
    exact Exists.intro () (And.intro hm (Weak.go [] [] (by kernel_rfl)))
  rintro j1 ⟨⟩ hj1 hl1 hm
  rw [hK1] at hm
  refine A.seq ?_
  refine A.RS W0 [] [(3, hto (lnE eGRouter a.Routers))] [(2, .ptr 10002 0), (3, .ptr 10003 0), (5, .int .i64 (j1 : Int)), (27, .bool (decide ((j1 : Int) < (a.Routers.length:Int))))] [(10002, .cells 30 [.lst false (ml eGRouter a.Routers), .lst false (ml eGLink a.Links)]), (10003, .cells 30 [.lst false (ml eGRouter b.Routers), .lst false (ml eGLink b.Links)])] (by kernel_rfl) ?_
  refine A.cF rfl (ltF hl1) ?_
  refine A.exit ?_
  show acode _ _ _ _ _
  refine A.seq ?_
  refine A.RS W0 [] [] [(2, .ptr 10002 0), (3, .ptr 10003 0), (6, .int .i64 (0:Int))] [(10002, .cells 30 [.lst false (ml eGRouter a.Routers), .lst false (ml eGLink a.Links)]), (10003, .cells 30 [.lst false (ml eGRouter b.Routers), .lst false (ml eGLink b.Links)])] (by kernel_rfl) ?_
  refine A.block ?_
  refine A.bC 2 1 rfl rfl rfl fun hb2 => ?_
  obtain ⟨B2, K2, hB2, hK2, hm⟩ := forI_some hm
  refine A.lpI (l := a.Links) (j0 := 0) (B := B2) (K := K2) hm (fun j2 => fun sg => match sg with | () => [(2, .ptr 10002 0), (3, .ptr 10003 0), (6, .int .i64 (j2 : Int))]) (fun j2 => fun sg => match sg with | () => [(10002, .cells 30 [.lst false (ml eGRouter a.Routers), .lst false (ml eGLink a.Links)]), (10003, .cells 30 [.lst false (ml eGRouter b.Routers), .lst false (ml eGLink b.Links)])]) ?_ ?_ ?_
  · exact Weak.go [] [] (by kernel_rfl)
  · skip
    rintro j2 e2 Z2 ⟨⟩ hj2 hx2 hm
    rw [hB2] at hm
    refine A.seq ?_
    refine A.RS W0 [] [(3, hto (lnE eGLink a.Links))] [(2, .ptr 10002 0), (3, .ptr 10003 0), (6, .int .i64 (j2 : Int)), (45, .bool (decide ((j2 : Int) < (a.Links.length:Int))))] [(10002, .cells 30 [.lst false (ml eGRouter a.Routers), .lst false (ml eGLink a.Links)]), (10003, .cells 30 [.lst false (ml eGRouter b.Routers), .lst false (ml eGLink b.Links)])] (by kernel_rfl) ?_
    refine A.cT rfl (ltT hx2) ?_
    refine A.skip ?_
    show acode _ _ _ _ _
    refine A.seq ?_
    refine A.block ?_
    obtain ⟨e_2, h2, hm⟩ := bnd_some hm
    refine A.RS W0 [] [(3, hix (ix eGLink (elO_nat hx2))), (8, hix (ix eGLink h2)), (10, .sq true 44 (.agg [.int .i64 e2.A, .int .i64 e2.B, .int .i64 e2.CostA, .int .i64 e2.CostB, .int .i64 e2.Capacity]) (.agg [.int .i64 e_2.A, .int .i64 e_2.B, .int .i64 e_2.CostA, .int .i64 e_2.CostB, .int .i64 e_2.Capacity]) (!(eqGLink e2 e_2)) (fun x y w => eq44_neq x y _ _ _ _ _ _ _ _ _ _ w))] [(2, .ptr 10002 0), (3, .ptr 10003 0), (6, .int .i64 (j2 : Int)), (58, .bool (!(eqGLink e2 e_2)))] [(10002, .cells 30 [.lst false (ml eGRouter a.Routers), .lst false (ml eGLink a.Links)]), (10003, .cells 30 [.lst false (ml eGRouter b.Routers), .lst false (ml eGLink b.Links)])] (by kernel_rfl) ?_
    rcases cs_some hm with ⟨c4, hm⟩ | ⟨c4, hm⟩
    · skip
      refine A.cT rfl c4 ?_
      refine A.RS W0 [] [] [(4, .bool false)] [] (by kernel_rfl) ?_
      refine A.ret ?_
      obtain rfl := some_inj hm
      exact A.fin W0 [] rfl (by kernel_rfl)
    refine A.cF rfl c4 ?_
    refine A.skip ?_
    show acode _ _ _ _ _
    refine A.R W0 [] [(1, hto (inc hx2 hb2))] [(2, .ptr 10002 0), (3, .ptr 10003 0), (6, .int .i64 ((j2 + 1 : Nat) : Int))] [(10002, .cells 30 [.lst false (ml eGRouter a.Routers), .lst false (ml eGLink a.Links)]), (10003, .cells 30 [.lst false (ml eGRouter b.Routers), .lst false (ml eGLink b.Links)])] (by kernel_rfl) ?_
    exact Exists.intro () (And.intro hm (Weak.go [] [] (by kernel_rfl)))
  rintro j2 ⟨⟩ hj2 hl2 hm
  rw [hK2] at hm
  refine A.seq ?_
  refine A.RS W0 [] [(3, hto (lnE eGLink a.Links))] [(2, .ptr 10002 0), (3, .ptr 10003 0), (6, .int .i64 (j2 : Int)), (45, .bool (decide ((j2 : Int) < (a.Links.length:Int))))] [(10002, .cells 30 [.lst false (ml eGRouter a.Routers), .lst false (ml eGLink a.Links)]), (10003, .cells 30 [.lst false (ml eGRouter b.Routers), .lst false (ml eGLink b.Links)])] (by kernel_rfl) ?_
  refine A.cF rfl (ltF hl2) ?_
  refine A.exit ?_
  show acode _ _ _ _ _
  refine A.RS W0 [] [] [(4, .bool true)] [] (by kernel_rfl) ?_
  refine A.ret ?_
  obtain rfl := some_inj hm
  exact A.fin W0 [] rfl (by kernel_rfl)
end Go.Proofs.Ytckhladakpjlgaa
