/- The walks of functions of the program. No condition but those that stand in each. -/
import Derived.Test.YtmcjffllahcclaaGreatDA
import Derived.Test.YtmcjffllahcclaaGreatV0
import Derived.Test.YtmcjffllahcclaaGreatV1
namespace Go.Proofs.YtmcjffllahcclaaGreat
open Go
set_option maxRecDepth 100000
set_option linter.all false
theorem m_ref05_Has_ok {t : GTopology} {ra1 : Int} {r : Bool} (hm : m_ref05_Has t ra1 = some r) : RO Tryz.prog 46 [] [.agg [.lst false (ml eGRouter t.Routers), .lst false (ml eGLink t.Links)], .int .i64 ra1] (.bool r) := by
  refine enterA Tryz.func46 rfl rfl ?_
  unfold m_ref05_Has at hm
  refine A.RS W0 [] [(0, .al 46002)] [(1, .int .i64 ra1), (2, .ptr 46002 0)] [(46002, .cells 46 [.lst false (ml eGRouter t.Routers), .lst false (ml eGLink t.Links)])] (by kernel_rfl) ?_
  obtain ⟨vx_1, h1, hm⟩ := bnd_some hm
  rcases cs_some hm with ⟨c1, hm⟩ | ⟨c1, hm⟩
  · skip
    obtain ⟨vx_2, h2, hm⟩ := bnd_some hm
    refine A.RS W0 [] [(1, hro (m_ref05_Check_ok h1) ck45), (3, hto (bE c1)), (6, hro (m_ref05_has_ok h2) ck74)] [(4, .bool vx_2)] [] (by kernel_rfl) ?_
    refine A.ret ?_
    obtain rfl := some_inj hm
    exact A.fin W0 [] rfl (by kernel_rfl)
  refine A.RS W0 [] [(1, hro (m_ref05_Check_ok h1) ck45), (3, hto (bE c1))] [(4, .bool false)] [] (by kernel_rfl) ?_
  refine A.ret ?_
  obtain rfl := some_inj hm
  exact A.fin W0 [] rfl (by kernel_rfl)
theorem m_ref05_Capable_ok {t : GTopology} {ra1 : Int} {r : Bool} (hm : m_ref05_Capable t ra1 = some r) : RO Tryz.prog 47 [] [.agg [.lst false (ml eGRouter t.Routers), .lst false (ml eGLink t.Links)], .int .i64 ra1] (.bool r) := by
  refine enterA Tryz.func47 rfl rfl ?_
  unfold m_ref05_Capable at hm
  refine A.RS W0 [] [(0, .al 47002)] [(1, .int .i64 ra1), (2, .ptr 47002 0)] [(47002, .cells 46 [.lst false (ml eGRouter t.Routers), .lst false (ml eGLink t.Links)])] (by kernel_rfl) ?_
  refine A.seq ?_
  obtain ⟨vx_1, h1, hm⟩ := bnd_some hm
  refine A.RS W0 [] [(1, hro (m_ref05_Check_ok h1) ck45)] [(1, .int .i64 ra1), (2, .ptr 47002 0), (8, .bool (!decide (vx_1 = (0:Int))))] [(47002, .cells 46 [.lst false (ml eGRouter t.Routers), .lst false (ml eGLink t.Links)])] (by kernel_rfl) ?_
  rcases cs_some hm with ⟨c1, hm⟩ | ⟨c1, hm⟩
  · skip
    refine A.cT rfl c1 ?_
    refine A.RS W0 [] [] [(4, .bool false)] [] (by kernel_rfl) ?_
    refine A.ret ?_
    obtain rfl := some_inj hm
    exact A.fin W0 [] rfl (by kernel_rfl)
  refine A.cF rfl c1 ?_
  refine A.skip ?_
  show acode _ _ _ _ _
  refine A.seq ?_
  refine A.RS W0 [] [] [(1, .int .i64 ra1), (2, .ptr 47002 0), (5, .int .i64 (0:Int))] [(47002, .cells 46 [.lst false (ml eGRouter t.Routers), .lst false (ml eGLink t.Links)])] (by kernel_rfl) ?_
  refine A.block ?_
  refine A.bC 2 0 rfl rfl rfl fun hb1 => ?_
  obtain ⟨B1, K1, hB1, hK1, hm⟩ := forI_some hm
  refine A.lpI (l := t.Routers) (j0 := 0) (B := B1) (K := K1) hm (fun j1 => fun sg => match sg with | () => [(1, .int .i64 ra1), (2, .ptr 47002 0), (5, .int .i64 (j1 : Int))]) (fun j1 => fun sg => match sg with | () => [(47002, .cells 46 [.lst false (ml eGRouter t.Routers), .lst false (ml eGLink t.Links)])]) ?_ ?_ ?_
  · exact Weak.go [] [] (by kernel_rfl)
  · skip
    rintro j1 e1 Z1 ⟨⟩ hj1 hx1 hm
    rw [hB1] at hm
    refine A.seq ?_
    refine A.RS W0 [] [(3, hto (lnE eGRouter t.Routers))] [(1, .int .i64 ra1), (2, .ptr 47002 0), (5, .int .i64 (j1 : Int)), (13, .bool (decide ((j1 : Int) < (t.Routers.length:Int))))] [(47002, .cells 46 [.lst false (ml eGRouter t.Routers), .lst false (ml eGLink t.Links)])] (by kernel_rfl) ?_
    refine A.cT rfl (ltT hx1) ?_
    refine A.skip ?_
    show acode _ _ _ _ _
    refine A.seq ?_
    refine A.block ?_
    refine A.RS W0 [] [(3, hix (ix eGRouter (elO_nat hx1)))] [(1, .int .i64 ra1), (2, .ptr 47002 0), (5, .int .i64 (j1 : Int)), (23, .bool (decide (e1.ID = ra1)))] [(47002, .cells 46 [.lst false (ml eGRouter t.Routers), .lst false (ml eGLink t.Links)])] (by kernel_rfl) ?_
    rcases cs_some hm with ⟨c2, hm⟩ | ⟨c2, hm⟩
    · skip
      refine A.cT rfl c2 ?_
      refine A.RS W0 [] [(3, hix (ix eGRouter (elO_nat hx1)))] [(4, .bool e1.Capable)] [] (by kernel_rfl) ?_
      refine A.ret ?_
      obtain rfl := some_inj hm
      exact A.fin W0 [] rfl (by kernel_rfl)
    refine A.cF rfl c2 ?_
    refine A.skip ?_
    show acode _ _ _ _ _
    refine A.R W0 [] [(1, hto (inc hx1 hb1))] [(1, .int .i64 ra1), (2, .ptr 47002 0), (5, .int .i64 ((j1 + 1 : Nat) : Int))] [(47002, .cells 46 [.lst false (ml eGRouter t.Routers), .lst false (ml eGLink t.Links)])] (by kernel_rfl) ?_
    exact Exists.intro () (And.intro hm (Weak.go [] [] (by kernel_rfl)))
  rintro j1 ⟨⟩ hj1 hl1 hm
  rw [hK1] at hm
  refine A.seq ?_
  refine A.RS W0 [] [(3, hto (lnE eGRouter t.Routers))] [(1, .int .i64 ra1), (2, .ptr 47002 0), (5, .int .i64 (j1 : Int)), (13, .bool (decide ((j1 : Int) < (t.Routers.length:Int))))] [(47002, .cells 46 [.lst false (ml eGRouter t.Routers), .lst false (ml eGLink t.Links)])] (by kernel_rfl) ?_
  refine A.cF rfl (ltF hl1) ?_
  refine A.exit ?_
  show acode _ _ _ _ _
  refine A.RS W0 [] [] [(4, .bool false)] [] (by kernel_rfl) ?_
  refine A.ret ?_
  obtain rfl := some_inj hm
  exact A.fin W0 [] rfl (by kernel_rfl)
theorem m_ref05_Near_ok {t : GTopology} {ra1 : Int} {r : (List Int)} (hm : m_ref05_Near t ra1 = some r) : RO Tryz.prog 48 [] [.agg [.lst false (ml eGRouter t.Routers), .lst false (ml eGLink t.Links)], .int .i64 ra1] (.lst false (ml eInt r)) := by
  refine enterA Tryz.func48 rfl rfl ?_
  unfold m_ref05_Near at hm
  refine A.RS W0 [] [(0, .al 48002)] [(1, .int .i64 ra1), (2, .ptr 48002 0)] [(48002, .cells 46 [.lst false (ml eGRouter t.Routers), .lst false (ml eGLink t.Links)])] (by kernel_rfl) ?_
  refine A.RS W0 [] [] [(1, .int .i64 ra1), (2, .ptr 48002 0), (5, .nils)] [(48002, .cells 46 [.lst false (ml eGRouter t.Routers), .lst false (ml eGLink t.Links)])] (by kernel_rfl) ?_
  refine A.seq ?_
  refine A.RS W0 [] [] [(1, .int .i64 ra1), (2, .ptr 48002 0), (5, .nils), (6, .int .i64 (0:Int))] [(48002, .cells 46 [.lst false (ml eGRouter t.Routers), .lst false (ml eGLink t.Links)])] (by kernel_rfl) ?_
  refine A.block ?_
  refine A.bC 2 0 rfl rfl rfl fun hb1 => ?_
  obtain ⟨B1, K1, hB1, hK1, hm⟩ := forI_some hm
  refine A.lpI (l := t.Routers) (j0 := 0) (B := B1) (K := K1) hm (fun j1 => fun out_1 => [(1, .int .i64 ra1), (2, .ptr 48002 0), (5, .own 600048005), (6, .int .i64 (j1 : Int))]) (fun j1 => fun out_1 => [(48002, .cells 46 [.lst false (ml eGRouter t.Routers), .lst false (ml eGLink t.Links)]), (600048005, .slice 3 1 (ml eInt out_1) 0 false)]) ?_ ?_ ?_
  · exact Weak.go [.ad 5 600048005 3 1] [] (by kernel_rfl)
  · skip
    rintro j1 e1 Z1 out_1 hj1 hx1 hm
    rw [hB1] at hm
    refine A.seq ?_
    refine A.RS W0 [] [(3, hto (lnE eGRouter t.Routers))] [(1, .int .i64 ra1), (2, .ptr 48002 0), (5, .own 600048005), (6, .int .i64 (j1 : Int)), (13, .bool (decide ((j1 : Int) < (t.Routers.length:Int))))] [(48002, .cells 46 [.lst false (ml eGRouter t.Routers), .lst false (ml eGLink t.Links)]), (600048005, .slice 3 1 (ml eInt out_1) 0 false)] (by kernel_rfl) ?_
    refine A.cT rfl (ltT hx1) ?_
    refine A.skip ?_
    show acode _ _ _ _ _
    obtain ⟨J1, hJ1, hm⟩ := jn_some hm
    refine A.J (J := J1) (r := r) (fun out_2 => [(1, .int .i64 ra1), (2, .ptr 48002 0), (5, .own 600048005), (6, .int .i64 (j1 : Int))]) (fun out_2 => [(48002, .cells 46 [.lst false (ml eGRouter t.Routers), .lst false (ml eGLink t.Links)]), (600048005, .slice 3 1 (ml eInt out_2) 0 false)]) ?_ ?_
    · skip
      refine A.block ?_
      obtain ⟨vx_1, h1, hm⟩ := bnd_some hm
      refine A.RS W0 [] [(5, hix (ix eGRouter (elO_nat hx1))), (8, hro (m_ref05_Price_ok h1) ck49)] [(1, .int .i64 ra1), (2, .ptr 48002 0), (5, .own 600048005), (6, .int .i64 (j1 : Int)), (8, .bool vx_1.2)] [(48002, .cells 46 [.lst false (ml eGRouter t.Routers), .lst false (ml eGLink t.Links)]), (600048005, .slice 3 1 (ml eInt out_1) 0 false)] (by kernel_rfl) ?_
      refine A.RS W0 [] [] [(1, .int .i64 ra1), (2, .ptr 48002 0), (5, .own 600048005), (6, .int .i64 (j1 : Int)), (28, .bool vx_1.2)] [(48002, .cells 46 [.lst false (ml eGRouter t.Routers), .lst false (ml eGLink t.Links)]), (600048005, .slice 3 1 (ml eInt out_1) 0 false)] (by kernel_rfl) ?_
      rcases cs_some hm with ⟨c1, hm⟩ | ⟨c1, hm⟩
      · skip
        refine A.cT rfl c1 ?_
        obtain ⟨l_1, h2, hm⟩ := bnd_some hm
        refine A.R W0 [] [(4, hix (ix eGRouter (elO_nat hx1))), (8, hap 48537 (ap eInt (bytes := 8) (by decide) h2))] [(1, .int .i64 ra1), (2, .ptr 48002 0), (5, .own 48537), (6, .int .i64 (j1 : Int))] [(48002, .cells 46 [.lst false (ml eGRouter t.Routers), .lst false (ml eGLink t.Links)]), (48537, .slice 3 1 (ml eInt l_1) 0 false)] (by kernel_rfl) ?_
        exact Exists.intro l_1 (And.intro hm (Weak.go [.sw 48537 600048005] [] (by kernel_rfl)))
      refine A.cF rfl c1 ?_
      refine A.skip ?_
      exact Exists.intro out_1 (And.intro hm (Weak.go [] [] (by kernel_rfl)))
    rintro out_2 hm
    rw [hJ1] at hm
    refine A.R W0 [] [(1, hto (inc hx1 hb1))] [(1, .int .i64 ra1), (2, .ptr 48002 0), (5, .own 600048005), (6, .int .i64 ((j1 + 1 : Nat) : Int))] [(48002, .cells 46 [.lst false (ml eGRouter t.Routers), .lst false (ml eGLink t.Links)]), (600048005, .slice 3 1 (ml eInt out_2) 0 false)] (by kernel_rfl) ?_
    exact Exists.intro out_2 (And.intro hm (Weak.go [] [] (by kernel_rfl)))
  rintro j1 out_1 hj1 hl1 hm
  rw [hK1] at hm
  refine A.seq ?_
  refine A.RS W0 [] [(3, hto (lnE eGRouter t.Routers))] [(1, .int .i64 ra1), (2, .ptr 48002 0), (5, .own 600048005), (6, .int .i64 (j1 : Int)), (13, .bool (decide ((j1 : Int) < (t.Routers.length:Int))))] [(48002, .cells 46 [.lst false (ml eGRouter t.Routers), .lst false (ml eGLink t.Links)]), (600048005, .slice 3 1 (ml eInt out_1) 0 false)] (by kernel_rfl) ?_
  refine A.cF rfl (ltF hl1) ?_
  refine A.exit ?_
  show acode _ _ _ _ _
  refine A.RS W0 [] [] [(4, .own 600048005)] [(600048005, .slice 3 1 (ml eInt out_1) 0 false)] (by kernel_rfl) ?_
  refine A.ret ?_
  obtain rfl := some_inj hm
  exact A.fin W0 [.fz [600048005]] rfl (by kernel_rfl)
theorem m_ref05_Named_ok {l : List GHop} {a : Int} {b : Int} {r : Bool} (hm : m_ref05_Named l a b = some r) : RO Tryz.prog 59 [] [.lst false (ml eGHop l), .int .i64 a, .int .i64 b] (.bool r) := by
  refine enterA Tryz.func59 rfl rfl ?_
  unfold m_ref05_Named at hm
  refine A.RS W0 [] [] [(0, .lst false (ml eGHop l)), (1, .int .i64 a), (2, .int .i64 b)] [] (by kernel_rfl) ?_
  refine A.seq ?_
  refine A.RS W0 [] [] [(0, .lst false (ml eGHop l)), (1, .int .i64 a), (2, .int .i64 b), (7, .int .i64 (0:Int))] [] (by kernel_rfl) ?_
  refine A.block ?_
  refine A.bS 0 rfl fun hb1 => ?_
  obtain ⟨B1, K1, hB1, hK1, hm⟩ := forI_some hm
  refine A.lpI (l := l) (j0 := 0) (B := B1) (K := K1) hm (fun j1 => fun sg => match sg with | () => [(0, .lst false (ml eGHop l)), (1, .int .i64 a), (2, .int .i64 b), (7, .int .i64 (j1 : Int))]) (fun j1 => fun sg => match sg with | () => []) ?_ ?_ ?_
  · exact Weak.go [] [] (by kernel_rfl)
  · skip
    rintro j1 e1 Z1 ⟨⟩ hj1 hx1 hm
    rw [hB1] at hm
    refine A.seq ?_
    refine A.RS W0 [] [(2, hto (lnE eGHop l))] [(0, .lst false (ml eGHop l)), (1, .int .i64 a), (2, .int .i64 b), (7, .int .i64 (j1 : Int)), (11, .bool (decide ((j1 : Int) < (l.length:Int))))] [] (by kernel_rfl) ?_
    refine A.cT rfl (ltT hx1) ?_
    refine A.skip ?_
    show acode _ _ _ _ _
    refine A.seq ?_
    refine A.block ?_
    refine A.mid [(0, .lst false (ml eGHop l)), (1, .int .i64 a), (2, .int .i64 b), (7, .int .i64 (j1 : Int)), (47, .bool (bif decide (e1.From = a) then ((decide (e1.To = b)) || ((decide (e1.From = b)) && (decide (e1.To = a)))) else ((decide (e1.From = b)) && (decide (e1.To = a)))))] [] (fun hk => ?_) ?_
    · skip
      rcases tf (decide (e1.From = a)) with c1 | c1
      · skip
        rcases tf (decide (e1.To = b)) with c2 | c2
        · skip
          exact A.RS W0 [] [(2, hix (ix eGHop (elO_nat hx1))), (7, hto (bE c1)), (10, hix (ix eGHop (elO_nat hx1))), (16, hto (bE c2)), (33, hto ((orT (q := ((decide (e1.From = b)) && (decide (e1.To = a)))) c2).trans (ifT (x := ((decide (e1.To = b)) || ((decide (e1.From = b)) && (decide (e1.To = a))))) (y := ((decide (e1.From = b)) && (decide (e1.To = a)))) c1)))] _ _ (by kernel_rfl) hk
        rcases tf (decide (e1.From = b)) with c3 | c3
        · skip
          exact A.RS W0 [] [(2, hix (ix eGHop (elO_nat hx1))), (7, hto (bE c1)), (10, hix (ix eGHop (elO_nat hx1))), (16, hto (bE c2)), (19, hix (ix eGHop (elO_nat hx1))), (24, hto (bE c3)), (27, hix (ix eGHop (elO_nat hx1))), (33, hto (((andT (q := decide (e1.To = a)) c3).trans (orF (q := ((decide (e1.From = b)) && (decide (e1.To = a)))) c2)).trans (ifT (x := ((decide (e1.To = b)) || ((decide (e1.From = b)) && (decide (e1.To = a))))) (y := ((decide (e1.From = b)) && (decide (e1.To = a)))) c1)))] _ _ (by kernel_rfl) hk
        exact A.RS W0 [] [(2, hix (ix eGHop (elO_nat hx1))), (7, hto (bE c1)), (10, hix (ix eGHop (elO_nat hx1))), (16, hto (bE c2)), (19, hix (ix eGHop (elO_nat hx1))), (24, hto (bE c3)), (33, hto (((andF (q := decide (e1.To = a)) c3).trans (orF (q := ((decide (e1.From = b)) && (decide (e1.To = a)))) c2)).trans (ifT (x := ((decide (e1.To = b)) || ((decide (e1.From = b)) && (decide (e1.To = a))))) (y := ((decide (e1.From = b)) && (decide (e1.To = a)))) c1)))] _ _ (by kernel_rfl) hk
      rcases tf (decide (e1.From = b)) with c4 | c4
      · skip
        exact A.RS W0 [] [(2, hix (ix eGHop (elO_nat hx1))), (7, hto (bE c1)), (19, hix (ix eGHop (elO_nat hx1))), (24, hto (bE c4)), (27, hix (ix eGHop (elO_nat hx1))), (33, hto ((andT (q := decide (e1.To = a)) c4).trans (ifF (x := ((decide (e1.To = b)) || ((decide (e1.From = b)) && (decide (e1.To = a))))) (y := ((decide (e1.From = b)) && (decide (e1.To = a)))) c1)))] _ _ (by kernel_rfl) hk
      exact A.RS W0 [] [(2, hix (ix eGHop (elO_nat hx1))), (7, hto (bE c1)), (19, hix (ix eGHop (elO_nat hx1))), (24, hto (bE c4)), (33, hto ((andF (q := decide (e1.To = a)) c4).trans (ifF (x := ((decide (e1.To = b)) || ((decide (e1.From = b)) && (decide (e1.To = a))))) (y := ((decide (e1.From = b)) && (decide (e1.To = a)))) c1)))] _ _ (by kernel_rfl) hk
    rcases cs_some hm with ⟨c5, hm⟩ | ⟨c5, hm⟩
    · skip
      refine A.cT rfl c5 ?_
      refine A.RS W0 [] [] [(6, .bool true)] [] (by kernel_rfl) ?_
      refine A.ret ?_
      obtain rfl := some_inj hm
      exact A.fin W0 [] rfl (by kernel_rfl)
    refine A.cF rfl c5 ?_
    refine A.skip ?_
    show acode _ _ _ _ _
    refine A.R W0 [] [(1, hto (inc hx1 hb1))] [(0, .lst false (ml eGHop l)), (1, .int .i64 a), (2, .int .i64 b), (7, .int .i64 ((j1 + 1 : Nat) : Int))] [] (by kernel_rfl) ?_
    exact Exists.intro () (And.intro hm (Weak.go [] [] (by kernel_rfl)))
  rintro j1 ⟨⟩ hj1 hl1 hm
  rw [hK1] at hm
  refine A.seq ?_
  refine A.RS W0 [] [(2, hto (lnE eGHop l))] [(0, .lst false (ml eGHop l)), (1, .int .i64 a), (2, .int .i64 b), (7, .int .i64 (j1 : Int)), (11, .bool (decide ((j1 : Int) < (l.length:Int))))] [] (by kernel_rfl) ?_
  refine A.cF rfl (ltF hl1) ?_
  refine A.exit ?_
  show acode _ _ _ _ _
  refine A.RS W0 [] [] [(6, .bool false)] [] (by kernel_rfl) ?_
  refine A.ret ?_
  obtain rfl := some_inj hm
  exact A.fin W0 [] rfl (by kernel_rfl)
theorem m_ref05_Without_ok {t : GTopology} {f : GFailure} {r : GTopology} (hm : m_ref05_Without t f = some r) : RO Tryz.prog 25 [] [.agg [.lst false (ml eGRouter t.Routers), .lst false (ml eGLink t.Links)], .agg [.lst false (ml eGHop f.Links), .lst false (ml eInt f.Routers)]] (.agg [.lst false (ml eGRouter r.Routers), .lst false (ml eGLink r.Links)]) := by
  refine enterA Tryz.func25 rfl rfl ?_
  unfold m_ref05_Without at hm
  refine A.RS W0 [] [(0, .al 25002), (1, .al 25003), (2, .al 25004)] [(2, .ptr 25002 0), (3, .ptr 25003 0), (4, .ptr 25004 0)] [(25002, .cells 46 [.lst false (ml eGRouter t.Routers), .lst false (ml eGLink t.Links)]), (25003, .cells 61 [.lst false (ml eGHop f.Links), .lst false (ml eInt f.Routers)]), (25004, .cells 46 [.nils, .nils])] (by kernel_rfl) ?_
  refine A.seq ?_
  obtain ⟨vx_1, h1, hm⟩ := bnd_some hm
  refine A.RS W0 [] [(1, hro (m_ref05_Check_ok h1) ck45)] [(2, .ptr 25002 0), (3, .ptr 25003 0), (4, .ptr 25004 0), (11, .bool (!decide (vx_1 = (0:Int))))] [(25002, .cells 46 [.lst false (ml eGRouter t.Routers), .lst false (ml eGLink t.Links)]), (25003, .cells 61 [.lst false (ml eGHop f.Links), .lst false (ml eInt f.Routers)]), (25004, .cells 46 [.nils, .nils])] (by kernel_rfl) ?_
  rcases cs_some hm with ⟨c1, hm⟩ | ⟨c1, hm⟩
  · skip
    refine A.cT rfl c1 ?_
    refine A.RS W0 [] [] [(4, .ptr 25004 0)] [(25004, .cells 46 [.nils, .nils])] (by kernel_rfl) ?_
    refine A.ret ?_
    obtain rfl := some_inj hm
    exact A.fin W0 [] rfl (by kernel_rfl)
  refine A.cF rfl c1 ?_
  refine A.skip ?_
  show acode _ _ _ _ _
  refine A.RS W0 [] [(0, .al 25005)] [(2, .ptr 25002 0), (3, .ptr 25003 0), (4, .ptr 25004 0), (5, .ptr 25005 0)] [(25002, .cells 46 [.lst false (ml eGRouter t.Routers), .lst false (ml eGLink t.Links)]), (25003, .cells 61 [.lst false (ml eGHop f.Links), .lst false (ml eInt f.Routers)]), (25004, .cells 46 [.nils, .nils]), (25005, .cells 46 [.nils, .nils])] (by kernel_rfl) ?_
  refine A.seq ?_
  refine A.RS W0 [] [] [(2, .ptr 25002 0), (3, .ptr 25003 0), (4, .ptr 25004 0), (5, .ptr 25005 0), (6, .int .i64 (0:Int))] [(25002, .cells 46 [.lst false (ml eGRouter t.Routers), .lst false (ml eGLink t.Links)]), (25003, .cells 61 [.lst false (ml eGHop f.Links), .lst false (ml eInt f.Routers)]), (25004, .cells 46 [.nils, .nils]), (25005, .cells 46 [.nils, .nils])] (by kernel_rfl) ?_
  refine A.block ?_
  refine A.bC 2 0 rfl rfl rfl fun hb1 => ?_
  obtain ⟨B1, K1, hB1, hK1, hm⟩ := forI_some hm
  refine A.lpI (l := t.Routers) (j0 := 0) (B := B1) (K := K1) hm (fun j1 => fun m_1 => [(2, .ptr 25002 0), (3, .ptr 25003 0), (4, .ptr 25004 0), (5, .ptr 25005 0), (6, .int .i64 (j1 : Int))]) (fun j1 => fun m_1 => [(25002, .cells 46 [.lst false (ml eGRouter t.Routers), .lst false (ml eGLink t.Links)]), (25003, .cells 61 [.lst false (ml eGHop f.Links), .lst false (ml eInt f.Routers)]), (25004, .cells 46 [.nils, .nils]), (25005, .cells 46 [.own 702500500, .nils]), (702500500, .slice 52 2 (ml eGRouter m_1) 0 false)]) ?_ ?_ ?_
  · exact Weak.go [.ac 25005 702500500 52 2 0] [] (by kernel_rfl)
  · skip
    rintro j1 e1 Z1 m_1 hj1 hx1 hm
    rw [hB1] at hm
    refine A.seq ?_
    refine A.RS W0 [] [(3, hto (lnE eGRouter t.Routers))] [(2, .ptr 25002 0), (3, .ptr 25003 0), (4, .ptr 25004 0), (5, .ptr 25005 0), (6, .int .i64 (j1 : Int)), (17, .bool (decide ((j1 : Int) < (t.Routers.length:Int))))] [(25002, .cells 46 [.lst false (ml eGRouter t.Routers), .lst false (ml eGLink t.Links)]), (25003, .cells 61 [.lst false (ml eGHop f.Links), .lst false (ml eInt f.Routers)]), (25004, .cells 46 [.nils, .nils]), (25005, .cells 46 [.own 702500500, .nils]), (702500500, .slice 52 2 (ml eGRouter m_1) 0 false)] (by kernel_rfl) ?_
    refine A.cT rfl (ltT hx1) ?_
    refine A.skip ?_
    show acode _ _ _ _ _
    obtain ⟨J1, hJ1, hm⟩ := jn_some hm
    refine A.J (J := J1) (r := r) (fun m_2 => [(2, .ptr 25002 0), (3, .ptr 25003 0), (4, .ptr 25004 0), (5, .ptr 25005 0), (6, .int .i64 (j1 : Int))]) (fun m_2 => [(25002, .cells 46 [.lst false (ml eGRouter t.Routers), .lst false (ml eGLink t.Links)]), (25003, .cells 61 [.lst false (ml eGHop f.Links), .lst false (ml eInt f.Routers)]), (25004, .cells 46 [.nils, .nils]), (25005, .cells 46 [.own 702500500, .nils]), (702500500, .slice 52 2 (ml eGRouter m_2) 0 false)]) ?_ ?_
    · skip
      refine A.block ?_
      obtain ⟨vx_2, h2, hm⟩ := bnd_some hm
      refine A.RS W0 [] [(5, hix (ix eGRouter (elO_nat hx1))), (8, hro (m_ref04_Has_ok h2) ck22)] [(2, .ptr 25002 0), (3, .ptr 25003 0), (4, .ptr 25004 0), (5, .ptr 25005 0), (6, .int .i64 (j1 : Int)), (29, .bool (!vx_2))] [(25002, .cells 46 [.lst false (ml eGRouter t.Routers), .lst false (ml eGLink t.Links)]), (25003, .cells 61 [.lst false (ml eGHop f.Links), .lst false (ml eInt f.Routers)]), (25004, .cells 46 [.nils, .nils]), (25005, .cells 46 [.own 702500500, .nils]), (702500500, .slice 52 2 (ml eGRouter m_1) 0 false)] (by kernel_rfl) ?_
      rcases cs_some hm with ⟨c2, hm⟩ | ⟨c2, hm⟩
      · skip
        refine A.cT rfl c2 ?_
        obtain ⟨l_1, h3, hm⟩ := bnd_some hm
        refine A.R W0 [] [(5, hix (ix eGRouter (elO_nat hx1))), (8, hap 25538 (ap eGRouter (bytes := 16) (by decide) h3))] [(2, .ptr 25002 0), (3, .ptr 25003 0), (4, .ptr 25004 0), (5, .ptr 25005 0), (6, .int .i64 (j1 : Int))] [(25002, .cells 46 [.lst false (ml eGRouter t.Routers), .lst false (ml eGLink t.Links)]), (25003, .cells 61 [.lst false (ml eGHop f.Links), .lst false (ml eInt f.Routers)]), (25004, .cells 46 [.nils, .nils]), (25005, .cells 46 [.own 25538, .nils]), (25538, .slice 52 2 (ml eGRouter l_1) 0 false)] (by kernel_rfl) ?_
        exact Exists.intro l_1 (And.intro hm (Weak.go [.sw 25538 702500500] [] (by kernel_rfl)))
      refine A.cF rfl c2 ?_
      refine A.skip ?_
      exact Exists.intro m_1 (And.intro hm (Weak.go [] [] (by kernel_rfl)))
    rintro m_2 hm
    rw [hJ1] at hm
    refine A.R W0 [] [(1, hto (inc hx1 hb1))] [(2, .ptr 25002 0), (3, .ptr 25003 0), (4, .ptr 25004 0), (5, .ptr 25005 0), (6, .int .i64 ((j1 + 1 : Nat) : Int))] [(25002, .cells 46 [.lst false (ml eGRouter t.Routers), .lst false (ml eGLink t.Links)]), (25003, .cells 61 [.lst false (ml eGHop f.Links), .lst false (ml eInt f.Routers)]), (25004, .cells 46 [.nils, .nils]), (25005, .cells 46 [.own 702500500, .nils]), (702500500, .slice 52 2 (ml eGRouter m_2) 0 false)] (by kernel_rfl) ?_
    exact Exists.intro m_2 (And.intro hm (Weak.go [] [] (by kernel_rfl)))
  rintro j1 m_1 hj1 hl1 hm
  rw [hK1] at hm
  refine A.seq ?_
  refine A.RS W0 [] [(3, hto (lnE eGRouter t.Routers))] [(2, .ptr 25002 0), (3, .ptr 25003 0), (4, .ptr 25004 0), (5, .ptr 25005 0), (6, .int .i64 (j1 : Int)), (17, .bool (decide ((j1 : Int) < (t.Routers.length:Int))))] [(25002, .cells 46 [.lst false (ml eGRouter t.Routers), .lst false (ml eGLink t.Links)]), (25003, .cells 61 [.lst false (ml eGHop f.Links), .lst false (ml eInt f.Routers)]), (25004, .cells 46 [.nils, .nils]), (25005, .cells 46 [.own 702500500, .nils]), (702500500, .slice 52 2 (ml eGRouter m_1) 0 false)] (by kernel_rfl) ?_
  refine A.cF rfl (ltF hl1) ?_
  refine A.exit ?_
  show acode _ _ _ _ _
  refine A.seq ?_
  refine A.RS W0 [] [] [(2, .ptr 25002 0), (3, .ptr 25003 0), (4, .ptr 25004 0), (5, .ptr 25005 0), (7, .int .i64 (0:Int))] [(25002, .cells 46 [.lst false (ml eGRouter t.Routers), .lst false (ml eGLink t.Links)]), (25003, .cells 61 [.lst false (ml eGHop f.Links), .lst false (ml eInt f.Routers)]), (25004, .cells 46 [.nils, .nils]), (25005, .cells 46 [.own 702500500, .nils]), (702500500, .slice 52 2 (ml eGRouter m_1) 0 false)] (by kernel_rfl) ?_
  refine A.block ?_
  refine A.bC 2 1 rfl rfl rfl fun hb2 => ?_
  obtain ⟨B2, K2, hB2, hK2, hm⟩ := forI_some hm
  refine A.lpI (l := t.Links) (j0 := 0) (B := B2) (K := K2) hm (fun j2 => fun m_3 => [(2, .ptr 25002 0), (3, .ptr 25003 0), (4, .ptr 25004 0), (5, .ptr 25005 0), (7, .int .i64 (j2 : Int))]) (fun j2 => fun m_3 => [(25002, .cells 46 [.lst false (ml eGRouter t.Routers), .lst false (ml eGLink t.Links)]), (25003, .cells 61 [.lst false (ml eGHop f.Links), .lst false (ml eInt f.Routers)]), (25004, .cells 46 [.nils, .nils]), (25005, .cells 46 [.own 702500500, .own 702500501]), (702500500, .slice 52 2 (ml eGRouter m_1) 0 false), (702500501, .slice 84 5 (ml eGLink m_3) 0 false)]) ?_ ?_ ?_
  · exact Weak.go [.ac 25005 702500501 84 5 1] [] (by kernel_rfl)
  · skip
    rintro j2 e2 Z2 m_3 hj2 hx2 hm
    rw [hB2] at hm
    refine A.seq ?_
    refine A.RS W0 [] [(3, hto (lnE eGLink t.Links))] [(2, .ptr 25002 0), (3, .ptr 25003 0), (4, .ptr 25004 0), (5, .ptr 25005 0), (7, .int .i64 (j2 : Int)), (44, .bool (decide ((j2 : Int) < (t.Links.length:Int))))] [(25002, .cells 46 [.lst false (ml eGRouter t.Routers), .lst false (ml eGLink t.Links)]), (25003, .cells 61 [.lst false (ml eGHop f.Links), .lst false (ml eInt f.Routers)]), (25004, .cells 46 [.nils, .nils]), (25005, .cells 46 [.own 702500500, .own 702500501]), (702500500, .slice 52 2 (ml eGRouter m_1) 0 false), (702500501, .slice 84 5 (ml eGLink m_3) 0 false)] (by kernel_rfl) ?_
    refine A.cT rfl (ltT hx2) ?_
    refine A.skip ?_
    show acode _ _ _ _ _
    obtain ⟨J2, hJ2, hm⟩ := jn_some hm
    refine A.J (J := J2) (r := r) (fun m_4 => [(2, .ptr 25002 0), (3, .ptr 25003 0), (4, .ptr 25004 0), (5, .ptr 25005 0), (7, .int .i64 (j2 : Int))]) (fun m_4 => [(25002, .cells 46 [.lst false (ml eGRouter t.Routers), .lst false (ml eGLink t.Links)]), (25003, .cells 61 [.lst false (ml eGHop f.Links), .lst false (ml eInt f.Routers)]), (25004, .cells 46 [.nils, .nils]), (25005, .cells 46 [.own 702500500, .own 702500501]), (702500500, .slice 52 2 (ml eGRouter m_1) 0 false), (702500501, .slice 84 5 (ml eGLink m_4) 0 false)]) ?_ ?_
    · skip
      refine A.block ?_
      refine A.RS W0 [] [(3, hix (ix eGLink (elO_nat hx2))), (5, .al 25008)] [(2, .ptr 25002 0), (3, .ptr 25003 0), (4, .ptr 25004 0), (5, .ptr 25005 0), (7, .int .i64 (j2 : Int)), (8, .ptr 25008 0)] [(25002, .cells 46 [.lst false (ml eGRouter t.Routers), .lst false (ml eGLink t.Links)]), (25003, .cells 61 [.lst false (ml eGHop f.Links), .lst false (ml eInt f.Routers)]), (25004, .cells 46 [.nils, .nils]), (25005, .cells 46 [.own 702500500, .own 702500501]), (702500500, .slice 52 2 (ml eGRouter m_1) 0 false), (702500501, .slice 84 5 (ml eGLink m_3) 0 false), (25008, .cells 84 [.int .i64 e2.A, .int .i64 e2.B, .int .i64 e2.CostA, .int .i64 e2.CostB, .int .i64 e2.Capacity])] (by kernel_rfl) ?_
      obtain ⟨J3, hJ3, hm⟩ := jn_some hm
      refine A.J (J := J3) (r := r) (fun v_1 => [(2, .ptr 25002 0), (3, .ptr 25003 0), (4, .ptr 25004 0), (5, .ptr 25005 0), (7, .int .i64 (j2 : Int)), (8, .ptr 25008 0), (75, .bool v_1)]) (fun v_1 => [(25002, .cells 46 [.lst false (ml eGRouter t.Routers), .lst false (ml eGLink t.Links)]), (25003, .cells 61 [.lst false (ml eGHop f.Links), .lst false (ml eInt f.Routers)]), (25004, .cells 46 [.nils, .nils]), (25005, .cells 46 [.own 702500500, .own 702500501]), (702500500, .slice 52 2 (ml eGRouter m_1) 0 false), (702500501, .slice 84 5 (ml eGLink m_3) 0 false), (25008, .cells 84 [.int .i64 e2.A, .int .i64 e2.B, .int .i64 e2.CostA, .int .i64 e2.CostB, .int .i64 e2.Capacity])]) ?_ ?_
      · skip
        obtain ⟨vx_3, h4, hm⟩ := bnd_some hm
        rcases cs_some hm with ⟨c3, hm⟩ | ⟨c3, hm⟩
        · skip
          obtain ⟨vx_4, h5, hm⟩ := bnd_some hm
          rcases cs_some hm with ⟨c4, hm⟩ | ⟨c4, hm⟩
          · skip
            obtain ⟨vx_5, h6, hm⟩ := bnd_some hm
            refine A.R W0 [] [(4, hro (m_ref04_Has_ok h4) ck22), (6, hto (bE c3)), (11, hro (m_ref04_Has_ok h5) ck22), (14, hto (bE c4)), (21, hro (m_ref05_Named_ok h6) ck59)] [(2, .ptr 25002 0), (3, .ptr 25003 0), (4, .ptr 25004 0), (5, .ptr 25005 0), (7, .int .i64 (j2 : Int)), (8, .ptr 25008 0), (75, .bool (!vx_5))] [(25002, .cells 46 [.lst false (ml eGRouter t.Routers), .lst false (ml eGLink t.Links)]), (25003, .cells 61 [.lst false (ml eGHop f.Links), .lst false (ml eInt f.Routers)]), (25004, .cells 46 [.nils, .nils]), (25005, .cells 46 [.own 702500500, .own 702500501]), (702500500, .slice 52 2 (ml eGRouter m_1) 0 false), (702500501, .slice 84 5 (ml eGLink m_3) 0 false), (25008, .cells 84 [.int .i64 e2.A, .int .i64 e2.B, .int .i64 e2.CostA, .int .i64 e2.CostB, .int .i64 e2.Capacity])] (by kernel_rfl) ?_
            exact Exists.intro (!vx_5) (And.intro hm (Weak.go [] [] (by kernel_rfl)))
          refine A.R W0 [] [(4, hro (m_ref04_Has_ok h4) ck22), (6, hto (bE c3)), (11, hro (m_ref04_Has_ok h5) ck22), (14, hto (bE c4))] [(2, .ptr 25002 0), (3, .ptr 25003 0), (4, .ptr 25004 0), (5, .ptr 25005 0), (7, .int .i64 (j2 : Int)), (8, .ptr 25008 0), (75, .bool false)] [(25002, .cells 46 [.lst false (ml eGRouter t.Routers), .lst false (ml eGLink t.Links)]), (25003, .cells 61 [.lst false (ml eGHop f.Links), .lst false (ml eInt f.Routers)]), (25004, .cells 46 [.nils, .nils]), (25005, .cells 46 [.own 702500500, .own 702500501]), (702500500, .slice 52 2 (ml eGRouter m_1) 0 false), (702500501, .slice 84 5 (ml eGLink m_3) 0 false), (25008, .cells 84 [.int .i64 e2.A, .int .i64 e2.B, .int .i64 e2.CostA, .int .i64 e2.CostB, .int .i64 e2.Capacity])] (by kernel_rfl) ?_
          exact Exists.intro false (And.intro hm (Weak.go [] [] (by kernel_rfl)))
        refine A.R W0 [] [(4, hro (m_ref04_Has_ok h4) ck22), (6, hto (bE c3))] [(2, .ptr 25002 0), (3, .ptr 25003 0), (4, .ptr 25004 0), (5, .ptr 25005 0), (7, .int .i64 (j2 : Int)), (8, .ptr 25008 0), (75, .bool false)] [(25002, .cells 46 [.lst false (ml eGRouter t.Routers), .lst false (ml eGLink t.Links)]), (25003, .cells 61 [.lst false (ml eGHop f.Links), .lst false (ml eInt f.Routers)]), (25004, .cells 46 [.nils, .nils]), (25005, .cells 46 [.own 702500500, .own 702500501]), (702500500, .slice 52 2 (ml eGRouter m_1) 0 false), (702500501, .slice 84 5 (ml eGLink m_3) 0 false), (25008, .cells 84 [.int .i64 e2.A, .int .i64 e2.B, .int .i64 e2.CostA, .int .i64 e2.CostB, .int .i64 e2.Capacity])] (by kernel_rfl) ?_
        exact Exists.intro false (And.intro hm (Weak.go [] [] (by kernel_rfl)))
      rintro v_1 hm
      rw [hJ3] at hm
      rcases cs_some hm with ⟨c5, hm⟩ | ⟨c5, hm⟩
      · skip
        refine A.cT rfl c5 ?_
        obtain ⟨l_2, h7, hm⟩ := bnd_some hm
        refine A.R W0 [] [(4, hap 25580 (ap eGLink (bytes := 40) (by decide) h7))] [(2, .ptr 25002 0), (3, .ptr 25003 0), (4, .ptr 25004 0), (5, .ptr 25005 0), (7, .int .i64 (j2 : Int))] [(25002, .cells 46 [.lst false (ml eGRouter t.Routers), .lst false (ml eGLink t.Links)]), (25003, .cells 61 [.lst false (ml eGHop f.Links), .lst false (ml eInt f.Routers)]), (25004, .cells 46 [.nils, .nils]), (25005, .cells 46 [.own 702500500, .own 25580]), (702500500, .slice 52 2 (ml eGRouter m_1) 0 false), (25580, .slice 84 5 (ml eGLink l_2) 0 false)] (by kernel_rfl) ?_
        exact Exists.intro l_2 (And.intro hm (Weak.go [.sw 25580 702500501] [] (by kernel_rfl)))
      refine A.cF rfl c5 ?_
      refine A.skip ?_
      exact Exists.intro m_3 (And.intro hm (Weak.go [] [] (by kernel_rfl)))
    rintro m_4 hm
    rw [hJ2] at hm
    refine A.R W0 [] [(1, hto (inc hx2 hb2))] [(2, .ptr 25002 0), (3, .ptr 25003 0), (4, .ptr 25004 0), (5, .ptr 25005 0), (7, .int .i64 ((j2 + 1 : Nat) : Int))] [(25002, .cells 46 [.lst false (ml eGRouter t.Routers), .lst false (ml eGLink t.Links)]), (25003, .cells 61 [.lst false (ml eGHop f.Links), .lst false (ml eInt f.Routers)]), (25004, .cells 46 [.nils, .nils]), (25005, .cells 46 [.own 702500500, .own 702500501]), (702500500, .slice 52 2 (ml eGRouter m_1) 0 false), (702500501, .slice 84 5 (ml eGLink m_4) 0 false)] (by kernel_rfl) ?_
    exact Exists.intro m_4 (And.intro hm (Weak.go [] [] (by kernel_rfl)))
  rintro j2 m_3 hj2 hl2 hm
  rw [hK2] at hm
  refine A.seq ?_
  refine A.RS W0 [] [(3, hto (lnE eGLink t.Links))] [(2, .ptr 25002 0), (3, .ptr 25003 0), (4, .ptr 25004 0), (5, .ptr 25005 0), (7, .int .i64 (j2 : Int)), (44, .bool (decide ((j2 : Int) < (t.Links.length:Int))))] [(25002, .cells 46 [.lst false (ml eGRouter t.Routers), .lst false (ml eGLink t.Links)]), (25003, .cells 61 [.lst false (ml eGHop f.Links), .lst false (ml eInt f.Routers)]), (25004, .cells 46 [.nils, .nils]), (25005, .cells 46 [.own 702500500, .own 702500501]), (702500500, .slice 52 2 (ml eGRouter m_1) 0 false), (702500501, .slice 84 5 (ml eGLink m_3) 0 false)] (by kernel_rfl) ?_
  refine A.cF rfl (ltF hl2) ?_
  refine A.exit ?_
  show acode _ _ _ _ _
  refine A.RS W0 [] [] [(4, .ptr 25004 0)] [(25004, .cells 46 [.own 702500500, .own 702500501]), (702500500, .slice 52 2 (ml eGRouter m_1) 0 false), (702500501, .slice 84 5 (ml eGLink m_3) 0 false)] (by kernel_rfl) ?_
  refine A.ret ?_
  obtain rfl := some_inj hm
  exact A.fin W0 [.fz [702500500, 702500501]] rfl (by kernel_rfl)
theorem m_ref05_Around_ok {t : GTopology} {ra1 : Int} {r : (List Int)} (hm : m_ref05_Around t ra1 = some r) : RO Tryz.prog 21 [] [.agg [.lst false (ml eGRouter t.Routers), .lst false (ml eGLink t.Links)], .int .i64 ra1] (.lst false (ml eInt r)) := by
  refine enterA Tryz.func21 rfl rfl ?_
  unfold m_ref05_Around at hm
  refine A.RS W0 [] [(0, .al 21002)] [(1, .int .i64 ra1), (2, .ptr 21002 0)] [(21002, .cells 46 [.lst false (ml eGRouter t.Routers), .lst false (ml eGLink t.Links)])] (by kernel_rfl) ?_
  refine A.RS W0 [] [(1, .al 21012)] [(2, .ptr 21002 0), (5, .own 21012)] [(21002, .cells 46 [.lst false (ml eGRouter t.Routers), .lst false (ml eGLink t.Links)]), (21012, .slice 3 1 (ml eInt ([ra1] : List Int)) 0 false)] (by kernel_rfl) ?_
  refine A.seq ?_
  refine A.RS W0 [] [] [(2, .ptr 21002 0), (5, .own 21012), (6, .int .i64 (0:Int))] [(21002, .cells 46 [.lst false (ml eGRouter t.Routers), .lst false (ml eGLink t.Links)]), (21012, .slice 3 1 (ml eInt ([ra1] : List Int)) 0 false)] (by kernel_rfl) ?_
  refine A.block ?_
  obtain ⟨F1, n1, hF1, hm⟩ := whl_some hm
  refine A.lpW (F := F1) hm (fun sg => match sg with | (out_1, i_1) => [(2, .ptr 21002 0), (5, .own 600021005), (6, .int .i64 i_1)]) (fun sg => match sg with | (out_1, i_1) => [(21002, .cells 46 [.lst false (ml eGRouter t.Routers), .lst false (ml eGLink t.Links)]), (600021005, .slice 3 1 (ml eInt out_1) 0 false)]) ?_ ?_
  · exact Weak.go [.sw 21012 600021005] [] (by kernel_rfl)
  rintro Z1 ⟨out_1, i_1⟩ hm
  rw [hF1] at hm
  refine A.seq ?_
  refine A.RS W0 [] [(2, hto (lnE eInt out_1))] [(2, .ptr 21002 0), (5, .own 600021005), (6, .int .i64 i_1), (16, .bool (decide (i_1 < (out_1.length:Int))))] [(21002, .cells 46 [.lst false (ml eGRouter t.Routers), .lst false (ml eGLink t.Links)]), (600021005, .slice 3 1 (ml eInt out_1) 0 false)] (by kernel_rfl) ?_
  rcases cs_some hm with ⟨c1, hm⟩ | ⟨c1, hm⟩
  · skip
    refine A.cT rfl c1 ?_
    refine A.skip ?_
    show acode _ _ _ _ _
    refine A.seq ?_
    refine A.block ?_
    obtain ⟨e_1, h1, hm⟩ := bnd_some hm
    obtain ⟨vx_1, h2, hm⟩ := bnd_some hm
    refine A.RS W0 [] [(3, hix (ix eInt h1)), (4, hlo 600021005 0 (ix eInt h1)), (5, hro (m_ref05_Near_ok h2) ck48)] [(2, .ptr 21002 0), (5, .own 600021005), (6, .int .i64 i_1), (7, .lst false (ml eInt vx_1))] [(21002, .cells 46 [.lst false (ml eGRouter t.Routers), .lst false (ml eGLink t.Links)]), (600021005, .slice 3 1 (ml eInt out_1) 0 false)] (by kernel_rfl) ?_
    refine A.RS W0 [] [] [(2, .ptr 21002 0), (5, .own 600021005), (6, .int .i64 i_1), (7, .lst false (ml eInt vx_1)), (8, .int .i64 (0:Int))] [(21002, .cells 46 [.lst false (ml eGRouter t.Routers), .lst false (ml eGLink t.Links)]), (600021005, .slice 3 1 (ml eInt out_1) 0 false)] (by kernel_rfl) ?_
    refine A.block ?_
    refine A.bS 7 rfl fun hb2 => ?_
    obtain ⟨B2, K2, hB2, hK2, hm⟩ := forI_some hm
    refine A.lpI (l := vx_1) (j0 := 0) (B := B2) (K := K2) hm (fun j2 => fun out_2 => [(2, .ptr 21002 0), (5, .own 600021005), (6, .int .i64 i_1), (7, .lst false (ml eInt vx_1)), (8, .int .i64 (j2 : Int))]) (fun j2 => fun out_2 => [(21002, .cells 46 [.lst false (ml eGRouter t.Routers), .lst false (ml eGLink t.Links)]), (600021005, .slice 3 1 (ml eInt out_2) 0 false)]) ?_ ?_ ?_
    · exact Weak.go [] [] (by kernel_rfl)
    · skip
      rintro j2 e2 Z2 out_2 hj2 hx2 hm
      rw [hB2] at hm
      refine A.seq ?_
      refine A.RS W0 [] [(2, hto (lnE eInt vx_1))] [(2, .ptr 21002 0), (5, .own 600021005), (6, .int .i64 i_1), (7, .lst false (ml eInt vx_1)), (8, .int .i64 (j2 : Int)), (28, .bool (decide ((j2 : Int) < (vx_1.length:Int))))] [(21002, .cells 46 [.lst false (ml eGRouter t.Routers), .lst false (ml eGLink t.Links)]), (600021005, .slice 3 1 (ml eInt out_2) 0 false)] (by kernel_rfl) ?_
      refine A.cT rfl (ltT hx2) ?_
      refine A.skip ?_
      show acode _ _ _ _ _
      obtain ⟨J1, hJ1, hm⟩ := jn_some hm
      refine A.J (J := J1) (r := r) (fun out_3 => [(2, .ptr 21002 0), (5, .own 600021005), (6, .int .i64 i_1), (7, .lst false (ml eInt vx_1)), (8, .int .i64 (j2 : Int))]) (fun out_3 => [(21002, .cells 46 [.lst false (ml eGRouter t.Routers), .lst false (ml eGLink t.Links)]), (600021005, .slice 3 1 (ml eInt out_3) 0 false)]) ?_ ?_
      · skip
        refine A.block ?_
        obtain ⟨vx_2, h3, hm⟩ := bnd_some hm
        refine A.RS W0 [] [(3, hix (ix eInt (elO_nat hx2))), (5, hle [600021005] (m_ref04_Has_ok h3) ck22)] [(2, .ptr 21002 0), (5, .own 600021005), (6, .int .i64 i_1), (7, .lst false (ml eInt vx_1)), (8, .int .i64 (j2 : Int)), (37, .bool (!vx_2))] [(21002, .cells 46 [.lst false (ml eGRouter t.Routers), .lst false (ml eGLink t.Links)]), (600021005, .slice 3 1 (ml eInt out_2) 0 false)] (by kernel_rfl) ?_
        rcases cs_some hm with ⟨c2, hm⟩ | ⟨c2, hm⟩
        · skip
          refine A.cT rfl c2 ?_
          obtain ⟨l_1, h4, hm⟩ := bnd_some hm
          refine A.R W0 [] [(3, hix (ix eInt (elO_nat hx2))), (6, hap 21544 (ap eInt (bytes := 8) (by decide) h4))] [(2, .ptr 21002 0), (5, .own 21544), (6, .int .i64 i_1), (7, .lst false (ml eInt vx_1)), (8, .int .i64 (j2 : Int))] [(21002, .cells 46 [.lst false (ml eGRouter t.Routers), .lst false (ml eGLink t.Links)]), (21544, .slice 3 1 (ml eInt l_1) 0 false)] (by kernel_rfl) ?_
          exact Exists.intro l_1 (And.intro hm (Weak.go [.sw 21544 600021005] [] (by kernel_rfl)))
        refine A.cF rfl c2 ?_
        refine A.skip ?_
        exact Exists.intro out_2 (And.intro hm (Weak.go [] [] (by kernel_rfl)))
      rintro out_3 hm
      rw [hJ1] at hm
      refine A.R W0 [] [(1, hto (inc hx2 hb2))] [(2, .ptr 21002 0), (5, .own 600021005), (6, .int .i64 i_1), (7, .lst false (ml eInt vx_1)), (8, .int .i64 ((j2 + 1 : Nat) : Int))] [(21002, .cells 46 [.lst false (ml eGRouter t.Routers), .lst false (ml eGLink t.Links)]), (600021005, .slice 3 1 (ml eInt out_3) 0 false)] (by kernel_rfl) ?_
      exact Exists.intro out_3 (And.intro hm (Weak.go [] [] (by kernel_rfl)))
    rintro j2 out_2 hj2 hl2 hm
    rw [hK2] at hm
    refine A.seq ?_
    refine A.RS W0 [] [(2, hto (lnE eInt vx_1))] [(2, .ptr 21002 0), (5, .own 600021005), (6, .int .i64 i_1), (7, .lst false (ml eInt vx_1)), (8, .int .i64 (j2 : Int)), (28, .bool (decide ((j2 : Int) < (vx_1.length:Int))))] [(21002, .cells 46 [.lst false (ml eGRouter t.Routers), .lst false (ml eGLink t.Links)]), (600021005, .slice 3 1 (ml eInt out_2) 0 false)] (by kernel_rfl) ?_
    refine A.cF rfl (ltF hl2) ?_
    refine A.exit ?_
    show acode _ _ _ _ _
    refine A.R W0 [] [] [(2, .ptr 21002 0), (5, .own 600021005), (6, .int .i64 (w64 (i_1 + (1:Int))))] [(21002, .cells 46 [.lst false (ml eGRouter t.Routers), .lst false (ml eGLink t.Links)]), (600021005, .slice 3 1 (ml eInt out_2) 0 false)] (by kernel_rfl) ?_
    exact Exists.intro (out_2, w64 (i_1 + (1:Int))) (And.intro hm (Weak.go [] [] (by kernel_rfl)))
  refine A.cF rfl c1 ?_
  refine A.exit ?_
  show acode _ _ _ _ _
  refine A.RS W0 [] [] [(5, .own 600021005), (9, .nils)] [(600021005, .slice 3 1 (ml eInt out_1) 0 false)] (by kernel_rfl) ?_
  refine A.seq ?_
  refine A.RS W0 [] [] [(5, .own 600021005), (9, .nils), (10, .int .i64 (0:Int))] [(600021005, .slice 3 1 (ml eInt out_1) 0 false)] (by kernel_rfl) ?_
  refine A.block ?_
  refine A.bW 5 rfl rfl fun hb3 => ?_
  obtain ⟨B3, K3, hB3, hK3, hm⟩ := forI_some hm
  refine A.lpI (l := out_1) (j0 := 0) (B := B3) (K := K3) hm (fun j3 => fun l_2 => [(5, .own 600021005), (9, .lst false (ml eInt l_2)), (10, .int .i64 (j3 : Int))]) (fun j3 => fun l_2 => [(600021005, .slice 3 1 (ml eInt out_1) 0 false)]) ?_ ?_ ?_
  · exact Weak.go [] [9] (by kernel_rfl)
  · skip
    rintro j3 e3 Z3 l_2 hj3 hx3 hm
    rw [hB3] at hm
    refine A.seq ?_
    refine A.RS W0 [] [(2, hto (lnE eInt out_1))] [(5, .own 600021005), (9, .lst false (ml eInt l_2)), (10, .int .i64 (j3 : Int)), (48, .bool (decide ((j3 : Int) < (out_1.length:Int))))] [(600021005, .slice 3 1 (ml eInt out_1) 0 false)] (by kernel_rfl) ?_
    refine A.cT rfl (ltT hx3) ?_
    refine A.skip ?_
    show acode _ _ _ _ _
    refine A.seq ?_
    refine A.block ?_
    obtain ⟨vx_3, h5, hm⟩ := bnd_some hm
    refine A.R W0 [] [(3, hix (ix eInt (elO_nat hx3))), (4, hlo 600021005 0 (ix eInt (elO_nat hx3))), (5, hro (m_ref04_Insert_ok h5) ck50)] [(5, .own 600021005), (9, .lst false (ml eInt vx_3)), (10, .int .i64 (j3 : Int))] [(600021005, .slice 3 1 (ml eInt out_1) 0 false)] (by kernel_rfl) ?_
    show acode _ _ _ _ _
    refine A.R W0 [] [(1, hto (inc hx3 hb3))] [(5, .own 600021005), (9, .lst false (ml eInt vx_3)), (10, .int .i64 ((j3 + 1 : Nat) : Int))] [(600021005, .slice 3 1 (ml eInt out_1) 0 false)] (by kernel_rfl) ?_
    exact Exists.intro vx_3 (And.intro hm (Weak.go [] [9] (by kernel_rfl)))
  rintro j3 l_2 hj3 hl3 hm
  rw [hK3] at hm
  refine A.seq ?_
  refine A.RS W0 [] [(2, hto (lnE eInt out_1))] [(5, .own 600021005), (9, .lst false (ml eInt l_2)), (10, .int .i64 (j3 : Int)), (48, .bool (decide ((j3 : Int) < (out_1.length:Int))))] [(600021005, .slice 3 1 (ml eInt out_1) 0 false)] (by kernel_rfl) ?_
  refine A.cF rfl (ltF hl3) ?_
  refine A.exit ?_
  show acode _ _ _ _ _
  refine A.RS W0 [] [] [(4, .lst false (ml eInt l_2))] [] (by kernel_rfl) ?_
  refine A.ret ?_
  obtain rfl := some_inj hm
  exact A.fin W0 [] rfl (by kernel_rfl)
theorem m_ref05_Same_ok {a : GTopology} {b : GTopology} {r : Bool} (hm : m_ref05_Same a b = some r) : RO Tryz.prog 23 [] [.agg [.lst false (ml eGRouter a.Routers), .lst false (ml eGLink a.Links)], .agg [.lst false (ml eGRouter b.Routers), .lst false (ml eGLink b.Links)]] (.bool r) := by
  refine enterA Tryz.func23 rfl rfl ?_
  unfold m_ref05_Same at hm
  refine A.RS W0 [] [(0, .al 23002), (1, .al 23003)] [(2, .ptr 23002 0), (3, .ptr 23003 0)] [(23002, .cells 46 [.lst false (ml eGRouter a.Routers), .lst false (ml eGLink a.Links)]), (23003, .cells 46 [.lst false (ml eGRouter b.Routers), .lst false (ml eGLink b.Links)])] (by kernel_rfl) ?_
  refine A.seq ?_
  refine A.mid [(2, .ptr 23002 0), (3, .ptr 23003 0), (22, .bool ((!decide ((a.Routers.length:Int) = (b.Routers.length:Int))) || (!decide ((a.Links.length:Int) = (b.Links.length:Int)))))] [(23002, .cells 46 [.lst false (ml eGRouter a.Routers), .lst false (ml eGLink a.Links)]), (23003, .cells 46 [.lst false (ml eGRouter b.Routers), .lst false (ml eGLink b.Links)])] (fun hk => ?_) ?_
  · skip
    rcases tf (!decide ((a.Routers.length:Int) = (b.Routers.length:Int))) with c1 | c1
    · skip
      exact A.RS W0 [] [(2, hto (lnE eGRouter a.Routers)), (5, hto (lnE eGRouter b.Routers)), (7, hto (bE c1)), (15, hto (orT (q := !decide ((a.Links.length:Int) = (b.Links.length:Int))) c1))] _ _ (by kernel_rfl) hk
    exact A.RS W0 [] [(2, hto (lnE eGRouter a.Routers)), (5, hto (lnE eGRouter b.Routers)), (7, hto (bE c1)), (10, hto (lnE eGLink a.Links)), (13, hto (lnE eGLink b.Links)), (15, hto (orF (q := !decide ((a.Links.length:Int) = (b.Links.length:Int))) c1))] _ _ (by kernel_rfl) hk
  rcases cs_some hm with ⟨c2, hm⟩ | ⟨c2, hm⟩
  · skip
    refine A.cT rfl c2 ?_
    refine A.RS W0 [] [] [(4, .bool false)] [] (by kernel_rfl) ?_
    refine A.ret ?_
    obtain rfl := some_inj hm
    exact A.fin W0 [] rfl (by kernel_rfl)
  refine A.cF rfl c2 ?_
  refine A.skip ?_
  show acode _ _ _ _ _
  refine A.seq ?_
  refine A.RS W0 [] [] [(2, .ptr 23002 0), (3, .ptr 23003 0), (5, .int .i64 (0:Int))] [(23002, .cells 46 [.lst false (ml eGRouter a.Routers), .lst false (ml eGLink a.Links)]), (23003, .cells 46 [.lst false (ml eGRouter b.Routers), .lst false (ml eGLink b.Links)])] (by kernel_rfl) ?_
  refine A.block ?_
  refine A.bC 2 0 rfl rfl rfl fun hb1 => ?_
  obtain ⟨B1, K1, hB1, hK1, hm⟩ := forI_some hm
  refine A.lpI (l := a.Routers) (j0 := 0) (B := B1) (K := K1) hm (fun j1 => fun sg => match sg with | () => [(2, .ptr 23002 0), (3, .ptr 23003 0), (5, .int .i64 (j1 : Int))]) (fun j1 => fun sg => match sg with | () => [(23002, .cells 46 [.lst false (ml eGRouter a.Routers), .lst false (ml eGLink a.Links)]), (23003, .cells 46 [.lst false (ml eGRouter b.Routers), .lst false (ml eGLink b.Links)])]) ?_ ?_ ?_
  · exact Weak.go [] [] (by kernel_rfl)
  · skip
    rintro j1 e1 Z1 ⟨⟩ hj1 hx1 hm
    rw [hB1] at hm
    refine A.seq ?_
    refine A.RS W0 [] [(3, hto (lnE eGRouter a.Routers))] [(2, .ptr 23002 0), (3, .ptr 23003 0), (5, .int .i64 (j1 : Int)), (27, .bool (decide ((j1 : Int) < (a.Routers.length:Int))))] [(23002, .cells 46 [.lst false (ml eGRouter a.Routers), .lst false (ml eGLink a.Links)]), (23003, .cells 46 [.lst false (ml eGRouter b.Routers), .lst false (ml eGLink b.Links)])] (by kernel_rfl) ?_
    refine A.cT rfl (ltT hx1) ?_
    refine A.skip ?_
    show acode _ _ _ _ _
    refine A.seq ?_
    refine A.block ?_
    obtain ⟨e_1, h1, hm⟩ := bnd_some hm
    refine A.RS W0 [] [(3, hix (ix eGRouter (elO_nat hx1))), (8, hix (ix eGRouter h1)), (10, .sq true 52 (.agg [.int .i64 e1.ID, .bool e1.Capable]) (.agg [.int .i64 e_1.ID, .bool e_1.Capable]) (!(eqGRouter e1 e_1)) (fun x y w => eq52_neq x y _ _ _ _ w))] [(2, .ptr 23002 0), (3, .ptr 23003 0), (5, .int .i64 (j1 : Int)), (40, .bool (!(eqGRouter e1 e_1)))] [(23002, .cells 46 [.lst false (ml eGRouter a.Routers), .lst false (ml eGLink a.Links)]), (23003, .cells 46 [.lst false (ml eGRouter b.Routers), .lst false (ml eGLink b.Links)])] (by kernel_rfl) ?_
    rcases cs_some hm with ⟨c3, hm⟩ | ⟨c3, hm⟩
    · skip
      refine A.cT rfl c3 ?_
      refine A.RS W0 [] [] [(4, .bool false)] [] (by kernel_rfl) ?_
      refine A.ret ?_
      obtain rfl := some_inj hm
      exact A.fin W0 [] rfl (by kernel_rfl)
    refine A.cF rfl c3 ?_
    refine A.skip ?_
    show acode _ _ _ _ _
    refine A.R W0 [] [(1, hto (inc hx1 hb1))] [(2, .ptr 23002 0), (3, .ptr 23003 0), (5, .int .i64 ((j1 + 1 : Nat) : Int))] [(23002, .cells 46 [.lst false (ml eGRouter a.Routers), .lst false (ml eGLink a.Links)]), (23003, .cells 46 [.lst false (ml eGRouter b.Routers), .lst false (ml eGLink b.Links)])] (by kernel_rfl) ?_
    exact Exists.intro () (And.intro hm (Weak.go [] [] (by kernel_rfl)))
  rintro j1 ⟨⟩ hj1 hl1 hm
  rw [hK1] at hm
  refine A.seq ?_
  refine A.RS W0 [] [(3, hto (lnE eGRouter a.Routers))] [(2, .ptr 23002 0), (3, .ptr 23003 0), (5, .int .i64 (j1 : Int)), (27, .bool (decide ((j1 : Int) < (a.Routers.length:Int))))] [(23002, .cells 46 [.lst false (ml eGRouter a.Routers), .lst false (ml eGLink a.Links)]), (23003, .cells 46 [.lst false (ml eGRouter b.Routers), .lst false (ml eGLink b.Links)])] (by kernel_rfl) ?_
  refine A.cF rfl (ltF hl1) ?_
  refine A.exit ?_
  show acode _ _ _ _ _
  refine A.seq ?_
  refine A.RS W0 [] [] [(2, .ptr 23002 0), (3, .ptr 23003 0), (6, .int .i64 (0:Int))] [(23002, .cells 46 [.lst false (ml eGRouter a.Routers), .lst false (ml eGLink a.Links)]), (23003, .cells 46 [.lst false (ml eGRouter b.Routers), .lst false (ml eGLink b.Links)])] (by kernel_rfl) ?_
  refine A.block ?_
  refine A.bC 2 1 rfl rfl rfl fun hb2 => ?_
  obtain ⟨B2, K2, hB2, hK2, hm⟩ := forI_some hm
  refine A.lpI (l := a.Links) (j0 := 0) (B := B2) (K := K2) hm (fun j2 => fun sg => match sg with | () => [(2, .ptr 23002 0), (3, .ptr 23003 0), (6, .int .i64 (j2 : Int))]) (fun j2 => fun sg => match sg with | () => [(23002, .cells 46 [.lst false (ml eGRouter a.Routers), .lst false (ml eGLink a.Links)]), (23003, .cells 46 [.lst false (ml eGRouter b.Routers), .lst false (ml eGLink b.Links)])]) ?_ ?_ ?_
  · exact Weak.go [] [] (by kernel_rfl)
  · skip
    rintro j2 e2 Z2 ⟨⟩ hj2 hx2 hm
    rw [hB2] at hm
    refine A.seq ?_
    refine A.RS W0 [] [(3, hto (lnE eGLink a.Links))] [(2, .ptr 23002 0), (3, .ptr 23003 0), (6, .int .i64 (j2 : Int)), (45, .bool (decide ((j2 : Int) < (a.Links.length:Int))))] [(23002, .cells 46 [.lst false (ml eGRouter a.Routers), .lst false (ml eGLink a.Links)]), (23003, .cells 46 [.lst false (ml eGRouter b.Routers), .lst false (ml eGLink b.Links)])] (by kernel_rfl) ?_
    refine A.cT rfl (ltT hx2) ?_
    refine A.skip ?_
    show acode _ _ _ _ _
    refine A.seq ?_
    refine A.block ?_
    obtain ⟨e_2, h2, hm⟩ := bnd_some hm
    refine A.RS W0 [] [(3, hix (ix eGLink (elO_nat hx2))), (8, hix (ix eGLink h2)), (10, .sq true 84 (.agg [.int .i64 e2.A, .int .i64 e2.B, .int .i64 e2.CostA, .int .i64 e2.CostB, .int .i64 e2.Capacity]) (.agg [.int .i64 e_2.A, .int .i64 e_2.B, .int .i64 e_2.CostA, .int .i64 e_2.CostB, .int .i64 e_2.Capacity]) (!(eqGLink e2 e_2)) (fun x y w => eq84_neq x y _ _ _ _ _ _ _ _ _ _ w))] [(2, .ptr 23002 0), (3, .ptr 23003 0), (6, .int .i64 (j2 : Int)), (58, .bool (!(eqGLink e2 e_2)))] [(23002, .cells 46 [.lst false (ml eGRouter a.Routers), .lst false (ml eGLink a.Links)]), (23003, .cells 46 [.lst false (ml eGRouter b.Routers), .lst false (ml eGLink b.Links)])] (by kernel_rfl) ?_
    rcases cs_some hm with ⟨c4, hm⟩ | ⟨c4, hm⟩
    · skip
      refine A.cT rfl c4 ?_
      refine A.RS W0 [] [] [(4, .bool false)] [] (by kernel_rfl) ?_
      refine A.ret ?_
      obtain rfl := some_inj hm
      exact A.fin W0 [] rfl (by kernel_rfl)
    refine A.cF rfl c4 ?_
    refine A.skip ?_
    show acode _ _ _ _ _
    refine A.R W0 [] [(1, hto (inc hx2 hb2))] [(2, .ptr 23002 0), (3, .ptr 23003 0), (6, .int .i64 ((j2 + 1 : Nat) : Int))] [(23002, .cells 46 [.lst false (ml eGRouter a.Routers), .lst false (ml eGLink a.Links)]), (23003, .cells 46 [.lst false (ml eGRouter b.Routers), .lst false (ml eGLink b.Links)])] (by kernel_rfl) ?_
    exact Exists.intro () (And.intro hm (Weak.go [] [] (by kernel_rfl)))
  rintro j2 ⟨⟩ hj2 hl2 hm
  rw [hK2] at hm
  refine A.seq ?_
  refine A.RS W0 [] [(3, hto (lnE eGLink a.Links))] [(2, .ptr 23002 0), (3, .ptr 23003 0), (6, .int .i64 (j2 : Int)), (45, .bool (decide ((j2 : Int) < (a.Links.length:Int))))] [(23002, .cells 46 [.lst false (ml eGRouter a.Routers), .lst false (ml eGLink a.Links)]), (23003, .cells 46 [.lst false (ml eGRouter b.Routers), .lst false (ml eGLink b.Links)])] (by kernel_rfl) ?_
  refine A.cF rfl (ltF hl2) ?_
  refine A.exit ?_
  show acode _ _ _ _ _
  refine A.RS W0 [] [] [(4, .bool true)] [] (by kernel_rfl) ?_
  refine A.ret ?_
  obtain rfl := some_inj hm
  exact A.fin W0 [] rfl (by kernel_rfl)
end Go.Proofs.YtmcjffllahcclaaGreat
