/- The walks of functions of the program. No condition but those that stand in each. -/
import Derived.Test.YtflifgcoleknlaaDA
import Derived.Test.YtflifgcoleknlaaV1
namespace Go.Proofs.Ytflifgcoleknlaa
open Go
set_option maxRecDepth 100000
set_option linter.all false
theorem m_mk_Tape_Pick_ok {t : GTape} {l : List Int} {r : Int × GTape} (hm : m_mk_Tape_Pick t l = some r) : SCalls Try.prog 42 [(900000064, .cells 64 (k3 t))] [.ptr 900000064 0, lf eInt l] (fun a σ' => a = i6 r.1 ∧ σ' = [(900000064, .cells 64 (k3 r.2))]) := by
 refine enterA Try.func42 rfl rfl ?_
 unfold m_mk_Tape_Pick at hm
 refine qS [] [(0, .ptr 900000064 0), (1, lf eInt l)] [(900000064, .cells 64 (k3 t))] ?_
 obtain ⟨vx_1, h1, hm⟩ := bnd_some hm
 obtain ⟨e_1, h2, hm⟩ := bnd_some hm
 refine qS [(3, hto (lnE eInt l)), (4, hdc [] (m_mk_Tape_Next_ok h1) ck23), (5, hix (ix eInt h2))] [(4, i6 e_1)] [(900000064, .cells 64 (k3 vx_1.2))] ?_
 cases hm
 exact A.ret qE
theorem m_mk_Tape_One_ok {t : GTape} {n : Int} {r : Bool × GTape} (hm : m_mk_Tape_One t n = some r) : SCalls Try.prog 43 [(900000064, .cells 64 (k3 t))] [.ptr 900000064 0, i6 n] (fun a σ' => a = .bool r.1 ∧ σ' = [(900000064, .cells 64 (k3 r.2))]) := by
 refine enterA Try.func43 rfl rfl ?_
 unfold m_mk_Tape_One at hm
 refine qS [] [(0, .ptr 900000064 0), (1, i6 n)] [(900000064, .cells 64 (k3 t))] ?_
 obtain ⟨vx_1, h1, hm⟩ := bnd_some hm
 refine qS [(2, hdc [] (m_mk_Tape_Next_ok h1) ck23)] [(4, .bool (decide (vx_1.1 = w64 (n - (1:Int)))))] [(900000064, .cells 64 (k3 vx_1.2))] ?_
 cases hm
 exact A.ret qE
theorem m_mk_Tape_Wild_ok {t : GTape} {r : Int × GTape} (hm : m_mk_Tape_Wild t = some r) : SCalls Try.prog 45 [(900000064, .cells 64 (k3 t))] [.ptr 900000064 0] (fun a σ' => a = i6 r.1 ∧ σ' = [(900000064, .cells 64 (k3 r.2))]) := by
 refine enterA Try.func45 rfl rfl ?_
 unfold m_mk_Tape_Wild at hm
 refine qS [] [(0, .ptr 900000064 0)] [(900000064, .cells 64 (k3 t))] ?_
 obtain ⟨vx_1, h1, hm⟩ := bnd_some hm
 refine qS [(2, hdc [] (m_mk_Tape_Pick_ok h1) ck42)] [(2, i6 vx_1.1)] [(900000064, .cells 64 (k3 vx_1.2))] ?_
 cases hm
 exact A.ret qE
theorem m_mk_order_ok {l : List GLink} {r : (List GLink)} (hm : m_mk_order l = some r) : SCalls Try.prog 44 [] [lf eGLink l] (fun a σ' => a = .own 500004400 ∧ σ' = [(500004400, .slice 42 5 (ml eGLink r) 0 false)]) := by
 refine enterA Try.func44 rfl rfl ?_
 unfold m_mk_order at hm
 refine qS [] [(0, lf eGLink l)] [] ?_
 refine qDs [] [] [(3, .nils)] ?_
 refine A.seq ?_
 refine qDs [] [] [(4, i6 0)] ?_
 refine A.block ?_
 refine A.bS 0 rfl fun hb1 => ?_
 obtain ⟨B1, K1, hB1, hK1, hm⟩ := forI_some hm
 refine A.lpI (l := l) (j0 := 0) (B := B1) (K := K1) hm (fun j1 => fun out_1 => [(0, lf eGLink l), (3, .own 600044003), (4, i6 (j1 : Int))]) (fun j1 => fun out_1 => [(600044003, .slice 42 5 (ml eGLink out_1) 0 false)]) ?_ ?_ ?_
 ·exact Weak.go [.ad 3 600044003 42 5] [] (by kernel_rfl)
 ·rintro j1 e1 Z1 out_1 hj1 hx1 hm
  rw [hB1] at hm
  refine A.seq ?_
  refine qDs [(2, hto (lnE eGLink l))] [] [(10, .bool (decide ((j1 : Int) < (l.length:Int))))] ?_
  refine qT (ltT hx1) ?_
  refine A.skip ?_
  show acode _ _ _ _ _
  refine A.seq ?_
  refine A.block ?_
  refine qDs [] [10] [(5, i6 0)] ?_
  refine A.seq ?_
  refine A.block ?_
  obtain ⟨F2, n2, hF2, hm⟩ := whl_some hm
  refine A.lpW (F := F2) hm (fun vat_1 => [(0, lf eGLink l), (3, .own 600044003), (4, i6 (j1 : Int)), (5, i6 vat_1)]) (fun vat_1 => [(600044003, .slice 42 5 (ml eGLink out_1) 0 false)]) ?_ ?_
  ·exact qW
  rintro Z2 vat_1 hm
  rw [hF2] at hm
  refine A.seq ?_
  obtain ⟨J1, hJ1, hm⟩ := jn_some hm
  refine A.J (J := J1) (r := r) (fun v_1 => [(0, lf eGLink l), (3, .own 600044003), (4, i6 (j1 : Int)), (5, i6 vat_1), (55, .bool v_1)]) (fun v_1 => [(600044003, .slice 42 5 (ml eGLink out_1) 0 false)]) ?_ ?_
  ·rcases cs_some hm with ⟨c1,hm⟩|⟨c1,hm⟩
   ·obtain ⟨e_1, h1, hm⟩ := bnd_some hm
    rcases cs_some hm with ⟨c2,hm⟩|⟨c2,hm⟩
    ·refine qGs [(2, hto (lnE eGLink out_1)), (4, hto (bE c1)), (7, hix (ix eGLink h1)), (9, hlo 600044003 0 (ix eGLink h1)), (12, hix (ix eGLink (elO_nat hx1))), (16, hto (bE c2))] [] [(55, .bool true)] ?_
     exact qX true hm
    rcases cs_some hm with ⟨c3,hm⟩|⟨c3,hm⟩
    ·refine qGs [(2, hto (lnE eGLink out_1)), (4, hto (bE c1)), (7, hix (ix eGLink h1)), (9, hlo 600044003 0 (ix eGLink h1)), (12, hix (ix eGLink (elO_nat hx1))), (16, hto (bE c2)), (19, hix (ix eGLink h1)), (21, hlo 600044003 0 (ix eGLink h1)), (24, hix (ix eGLink (elO_nat hx1))), (28, hto (bE c3)), (31, hix (ix eGLink h1)), (33, hlo 600044003 1 (ix eGLink h1)), (36, hix (ix eGLink (elO_nat hx1)))] [] [(55, .bool (decide (e_1.B < e1.B)))] ?_
     exact qX (decide (e_1.B < e1.B)) hm
    refine qGs [(2, hto (lnE eGLink out_1)), (4, hto (bE c1)), (7, hix (ix eGLink h1)), (9, hlo 600044003 0 (ix eGLink h1)), (12, hix (ix eGLink (elO_nat hx1))), (16, hto (bE c2)), (19, hix (ix eGLink h1)), (21, hlo 600044003 0 (ix eGLink h1)), (24, hix (ix eGLink (elO_nat hx1))), (28, hto (bE c3))] [] [(55, .bool false)] ?_
    exact qX false hm
   refine qGs [(2, hto (lnE eGLink out_1)), (4, hto (bE c1))] [] [(55, .bool false)] ?_
   exact qX false hm
  rintro v_1 hm
  rw [hJ1] at hm
  rcases cs_some hm with ⟨c4,hm⟩|⟨c4,hm⟩
  ·refine qT c4 ?_
   refine A.skip ?_
   show acode _ _ _ _ _
   refine A.block ?_
   refine qGs [] [5, 55] [(5, i6 (w64 (vat_1 + (1:Int))))] ?_
   exact qX (w64 (vat_1 + (1:Int))) hm
  refine qF c4 ?_
  refine A.exit ?_
  show acode _ _ _ _ _
  refine qDs [] [55] [(6, .nils)] ?_
  obtain ⟨l_1, h2, hm⟩ := bnd_some hm
  obtain ⟨l_2, h3, hm⟩ := bnd_some hm
  refine A.RS W0 [.fz [600044003]] [(3, hsl (sl eGLink h2)), (4, hap 44562 (ap eGLink (bytes := 40) (by decide) h3))] [(0, lf eGLink l), (3, .own 600044003), (4, i6 (j1 : Int)), (5, i6 vat_1), (6, .own 44562)] [(600044003, .slice 42 5 (ml eGLink out_1) (ml eGLink out_1).length true), (44562, .slice 42 5 (ml eGLink l_2) 0 false)] (by kernel_rfl) ?_
  obtain ⟨l_3, h4, hm⟩ := bnd_some hm
  refine qS [(3, hix (ix eGLink (elO_nat hx1))), (6, hap 44569 (ap eGLink (bytes := 40) (by decide) h4))] [(0, lf eGLink l), (3, .own 600044003), (4, i6 (j1 : Int)), (5, i6 vat_1), (6, .own 44569)] [(600044003, .slice 42 5 (ml eGLink out_1) (ml eGLink out_1).length true), (44569, .slice 42 5 (ml eGLink l_3) 0 false)] ?_
  obtain ⟨l_4, h5, hm⟩ := bnd_some hm
  obtain ⟨l_5, h6, hm⟩ := bnd_some hm
  refine qG [(3, hsl (slE2 eGLink h5)), (4, hap 44574 (ap eGLink (bytes := 40) (by decide) h6))] [3, 5, 6] [(3, .own 44574)] [600044003, 44569] [(44574, .slice 42 5 (ml eGLink l_5) 0 false)] ?_
  show acode _ _ _ _ _
  refine qGs [(1, hto (inc hx1 hb1))] [4] [(4, i6 ((j1 + 1 : Nat) : Int))] ?_
  exact Exists.intro l_5 (And.intro hm (Weak.go [.sw 44574 600044003] [] (by kernel_rfl)))
 rintro j1 out_1 hj1 hl1 hm
 rw [hK1] at hm
 refine A.seq ?_
 refine qDs [(2, hto (lnE eGLink l))] [] [(10, .bool (decide ((j1 : Int) < (l.length:Int))))] ?_
 refine qF (ltF hl1) ?_
 refine A.exit ?_
 show acode _ _ _ _ _
 refine qDs [] [0, 3, 4, 10] [(2, .own 600044003)] ?_
 refine A.ret ?_
 obtain rfl := some_inj hm
 exact A.fin W0 [.sw 600044003 500004400] rfl (by kernel_rfl)
theorem m_mk_New_ok {l : List Int} {r : GTape} (hm : m_mk_New l = some r) : SCalls Try.prog 12 [] [lf eInt l] (fun a σ' => a = .ptr 900000064 0 ∧ σ' = [(900000064, .cells 64 (k3 r))]) := by
 refine enterA Try.func12 rfl rfl ?_
 unfold m_mk_New at hm
 refine qS [] [(0, lf eInt l)] [] ?_
 obtain ⟨J1, hJ1, hm⟩ := jn_some hm
 refine A.J (J := J1) (r := r) (fun l_1 => [(0, lf eInt l_1)]) (fun l_1 => []) ?_ ?_
 ·refine qDs [(1, hto (lnE eInt l))] [] [(5, .bool (decide ((600:Int) < (l.length:Int))))] ?_
  rcases cs_some hm with ⟨c1,hm⟩|⟨c1,hm⟩
  ·refine qT c1 ?_
   obtain ⟨l_2, h1, hm⟩ := bnd_some hm
   refine qR [(1, hsl (sl eInt h1))] [(0, lf eInt l_2)] [] ?_
   exact Exists.intro l_2 (And.intro hm (Weak.go [] [0] (by kernel_rfl)))
  refine qF c1 ?_
  refine A.skip ?_
  exact Exists.intro l (And.intro hm (Weak.go [] [0] (by kernel_rfl)))
 rintro l_1 hm
 rw [hJ1] at hm
 refine qS [(2, .al 12010)] [(2, .ptr 12010 0)] [(12010, .cells 64 [lf eInt l_1, i6 0])] ?_
 refine A.ret ?_
 obtain rfl := some_inj hm
 exact A.fin W0 [.sw 12010 900000064] rfl (by kernel_rfl)
theorem m_mk_Any_ok {g : GTopology} {r : (List Int)} (hm : m_mk_Any g = some r) : RO Try.prog 28 [] [.agg (k2 g)] (lf eInt r) := by
 refine enterA Try.func28 rfl rfl ?_
 unfold m_mk_Any at hm
 refine qS [(0, .al 28001)] [(1, .ptr 28001 0)] [(28001, .cells 28 (k2 g))] ?_
 refine qDs [] [] [(3, .nils)] ?_
 refine A.seq ?_
 refine qDs [] [] [(4, i6 0)] ?_
 refine A.block ?_
 refine A.bC 1 0 rfl rfl rfl fun hb1 => ?_
 obtain ⟨B1, K1, hB1, hK1, hm⟩ := forI_some hm
 refine A.lpI (l := g.Routers) (j0 := 0) (B := B1) (K := K1) hm (fun j1 => fun out_1 => [(1, .ptr 28001 0), (3, .own 600028003), (4, i6 (j1 : Int))]) (fun j1 => fun out_1 => [(28001, .cells 28 (k2 g)), (600028003, .slice 3 1 (ml eInt out_1) 0 false)]) ?_ ?_ ?_
 ·exact Weak.go [.ad 3 600028003 3 1] [] (by kernel_rfl)
 ·rintro j1 e1 Z1 out_1 hj1 hx1 hm
  rw [hB1] at hm
  refine A.seq ?_
  refine qDs [(3, hto (lnE eGRouter g.Routers))] [] [(9, .bool (decide ((j1 : Int) < (g.Routers.length:Int))))] ?_
  refine qT (ltT hx1) ?_
  refine A.skip ?_
  show acode _ _ _ _ _
  refine A.seq ?_
  refine A.block ?_
  obtain ⟨l_1, h1, hm⟩ := bnd_some hm
  refine qG [(4, hix (ix eGRouter (elO_nat hx1))), (8, hap 28520 (ap eInt (bytes := 8) (by decide) h1))] [3, 9] [(3, .own 28520)] [600028003] [(28520, .slice 3 1 (ml eInt l_1) 0 false)] ?_
  show acode _ _ _ _ _
  refine qGs [(1, hto (inc hx1 hb1))] [4] [(4, i6 ((j1 + 1 : Nat) : Int))] ?_
  exact Exists.intro l_1 (And.intro hm (Weak.go [.sw 28520 600028003] [] (by kernel_rfl)))
 rintro j1 out_1 hj1 hl1 hm
 rw [hK1] at hm
 refine A.seq ?_
 refine qDs [(3, hto (lnE eGRouter g.Routers))] [] [(9, .bool (decide ((j1 : Int) < (g.Routers.length:Int))))] ?_
 refine qF (ltF hl1) ?_
 refine A.exit ?_
 show acode _ _ _ _ _
 refine qD [] [1, 3, 4, 9] [(2, .own 600028003)] [28001] [] ?_
 refine A.ret ?_
 obtain rfl := some_inj hm
 exact A.fin W0 [.fz [600028003]] rfl (by kernel_rfl)
theorem m_mk_Tape_Topology_ok {t : GTape} {most : Int} {n : Int} {r : GTopology × GTape} (hm : m_mk_Tape_Topology t most n = some r) : SCalls Try.prog 13 [(900000064, .cells 64 (k3 t))] [.ptr 900000064 0, i6 most, i6 n] (fun a σ' => a = .agg [.own 500001300, .own 500001301] ∧ σ' = [(900000064, .cells 64 (k3 r.2)), (500001300, .slice 67 2 (ml eGRouter r.1.Routers) 0 false), (500001301, .slice 42 5 (ml eGLink r.1.Links) 0 false)]) := by
 refine enterA Try.func13 rfl rfl ?_
 unfold m_mk_Tape_Topology at hm
 refine qS [(0, .al 13006)] [(0, .ptr 900000064 0), (1, i6 most), (2, i6 n), (6, .ptr 13006 0)] [(900000064, .cells 64 (k3 t)), (13006, .cells 28 [.nils, .nils])] ?_
 refine qD [(0, .al 13007)] [] [(7, .ptr 13007 0)] [] [(13007, .cells 28 [.nils, .nils])] ?_
 obtain ⟨vx_1, h1, hm⟩ := bnd_some hm
 refine qD [(2, hdc [] (m_mk_Tape_Range_ok h1) ck41)] [1] [(8, i6 vx_1.1)] [900000064] [(900000064, .cells 64 (k3 vx_1.2))] ?_
 refine A.seq ?_
 refine qDs [] [] [(9, i6 1)] ?_
 refine A.block ?_
 obtain ⟨hh1, hm⟩ := chk_some hm
 obtain ⟨B1, K1, hB1, hK1, hm⟩ := forN_some hm
 refine A.lpN (hi := (vx_1.1 + 1)) (B := B1) (K := K1) hm rfl (fun j1 => fun m_1 => [(0, .ptr 900000064 0), (2, i6 n), (6, .ptr 13006 0), (7, .ptr 13007 0), (8, i6 vx_1.1), (9, i6 (j1 : Int))]) (fun j1 => fun m_1 => [(900000064, .cells 64 (k3 vx_1.2)), (13006, .cells 28 [.nils, .nils]), (13007, .cells 28 [.own 701300700, .nils]), (701300700, .slice 67 2 (ml eGRouter m_1) 0 false)]) ?_ ?_ ?_
 ·exact Weak.go [.ac 13007 701300700 67 2 0] [] (by kernel_rfl)
 ·rintro j1 Z1 m_1 hj1 hx1 hm
  rw [hB1] at hm
  refine A.seq ?_
  refine qDs [] [] [(21, .bool (decide ((j1 : Int) ≤ vx_1.1)))] ?_
  refine A.cT rfl (leT hx1) ?_
  refine A.skip ?_
  show acode _ _ _ _ _
  refine A.seq ?_
  refine A.block ?_
  obtain ⟨l_1, h2, hm⟩ := bnd_some hm
  refine qG [(5, hap 13529 (ap eGRouter (bytes := 16) (by decide) h2))] [21] [] [13007, 701300700] [(13007, .cells 28 [.own 13529, .nils]), (13529, .slice 67 2 (ml eGRouter l_1) 0 false)] ?_
  show acode _ _ _ _ _
  refine qGs [(1, hto (incN (by omega) hx1 (of_decide_eq_true hh1)))] [9] [(9, i6 (j1 + 1 : Int))] ?_
  exact Exists.intro l_1 (And.intro hm (Weak.go [.sw 13529 701300700] [] (by kernel_rfl)))
 rintro j1 m_1 hj1 hl1 hm
 rw [hK1] at hm
 refine A.seq ?_
 refine qDs [] [] [(21, .bool (decide ((j1 : Int) ≤ vx_1.1)))] ?_
 refine A.cF rfl (gtF hl1) ?_
 refine A.exit ?_
 show acode _ _ _ _ _
 obtain ⟨vx_2, h3, hm⟩ := bnd_some hm
 refine qD [(2, hdc [] (m_mk_Tape_Pick_ok h3) ck42)] [9, 21] [(10, i6 vx_2.1)] [900000064] [(900000064, .cells 64 (k3 vx_2.2))] ?_
 refine A.seq ?_
 refine qDs [] [] [(11, i6 2)] ?_
 refine A.block ?_
 obtain ⟨hh2, hm⟩ := chk_some hm
 obtain ⟨B2, K2, hB2, hK2, hm⟩ := forN_some hm
 refine A.lpN (hi := (vx_1.1 + 1)) (B := B2) (K := K2) hm rfl (fun j2 => fun sg => match sg with | (m_2, m_3, m_4) => [(0, .ptr 900000064 0), (2, i6 n), (6, .ptr 13006 0), (7, .ptr 13007 0), (8, i6 vx_1.1), (10, i6 vx_2.1), (11, i6 (j2 : Int))]) (fun j2 => fun sg => match sg with | (m_2, m_3, m_4) => [(900000064, .cells 64 [lf eInt m_3, i6 m_4]), (13006, .cells 28 [.nils, .nils]), (13007, .cells 28 [.own 701300700, .own 701300701]), (701300700, .slice 67 2 (ml eGRouter m_1) 0 false), (701300701, .slice 42 5 (ml eGLink m_2) 0 false)]) ?_ ?_ ?_
 ·exact Weak.go [.ac 13007 701300701 42 5 1] [] (by kernel_rfl)
 ·rintro j2 Z2 ⟨m_2, m_3, m_4⟩ hj2 hx2 hm
  rw [hB2] at hm
  refine A.seq ?_
  refine qDs [] [] [(36, .bool (decide ((j2 : Int) ≤ vx_1.1)))] ?_
  refine A.cT rfl (leT hx2) ?_
  refine A.skip ?_
  show acode _ _ _ _ _
  refine A.seq ?_
  refine A.block ?_
  obtain ⟨vx_3, h4, hm⟩ := bnd_some hm
  refine qD [(3, hdc [] (m_mk_Tape_Range_ok h4) ck41)] [36] [(12, i6 vx_3.1)] [900000064] [(900000064, .cells 64 (k3 vx_3.2))] ?_
  obtain ⟨vx_4, h5, hm⟩ := bnd_some hm
  refine qD [(1, hdc [] (m_mk_Tape_One_ok h5) ck43)] [] [(13, .bool vx_4.1)] [900000064] [(900000064, .cells 64 (k3 vx_4.2))] ?_
  refine qDs [] [] [(14, i6 1)] ?_
  refine A.block ?_
  obtain ⟨hh3, hm⟩ := chk_some hm
  obtain ⟨B3, K3, hB3, hK3, hm⟩ := forN_some hm
  refine A.lpN (hi := (j2 : Int)) (B := B3) (K := K3) hm rfl (fun j3 => fun sg => match sg with | (m_5, m_6, m_7) => [(0, .ptr 900000064 0), (2, i6 n), (6, .ptr 13006 0), (7, .ptr 13007 0), (8, i6 vx_1.1), (10, i6 vx_2.1), (11, i6 (j2 : Int)), (12, i6 vx_3.1), (13, .bool vx_4.1), (14, i6 (j3 : Int))]) (fun j3 => fun sg => match sg with | (m_5, m_6, m_7) => [(900000064, .cells 64 [lf eInt m_6, i6 m_7]), (13006, .cells 28 [.nils, .nils]), (13007, .cells 28 [.own 701300700, .own 701300701]), (701300700, .slice 67 2 (ml eGRouter m_1) 0 false), (701300701, .slice 42 5 (ml eGLink m_5) 0 false)]) ?_ ?_ ?_
  ·exact qW
  ·rintro j3 Z3 ⟨m_5, m_6, m_7⟩ hj3 hx3 hm
   rw [hB3] at hm
   refine A.seq ?_
   refine qDs [] [] [(47, .bool (decide ((j3 : Int) < (j2 : Int))))] ?_
   refine A.cT rfl (decide_eq_true hx3) ?_
   refine A.skip ?_
   show acode _ _ _ _ _
   obtain ⟨J1, hJ1, hm⟩ := jn_some hm
   refine A.J (J := J1) (r := r) (fun sg => match sg with | (m_8, m_9, m_10) => [(0, .ptr 900000064 0), (2, i6 n), (6, .ptr 13006 0), (7, .ptr 13007 0), (8, i6 vx_1.1), (10, i6 vx_2.1), (11, i6 (j2 : Int)), (12, i6 vx_3.1), (13, .bool vx_4.1), (14, i6 (j3 : Int))]) (fun sg => match sg with | (m_8, m_9, m_10) => [(900000064, .cells 64 [lf eInt m_8, i6 m_9]), (13006, .cells 28 [.nils, .nils]), (13007, .cells 28 [.own 701300700, .own 701300701]), (701300700, .slice 67 2 (ml eGRouter m_1) 0 false), (701300701, .slice 42 5 (ml eGLink m_10) 0 false)]) ?_ ?_
   ·refine A.block ?_
    obtain ⟨J2, hJ2, hm⟩ := jn_some hm
    refine A.J (J := J2) (r := r) (fun sg => match sg with | (v_1, m_11, m_12) => [(0, .ptr 900000064 0), (2, i6 n), (6, .ptr 13006 0), (7, .ptr 13007 0), (8, i6 vx_1.1), (10, i6 vx_2.1), (11, i6 (j2 : Int)), (12, i6 vx_3.1), (13, .bool vx_4.1), (14, i6 (j3 : Int)), (60, .bool v_1)]) (fun sg => match sg with | (v_1, m_11, m_12) => [(900000064, .cells 64 [lf eInt m_11, i6 m_12]), (13006, .cells 28 [.nils, .nils]), (13007, .cells 28 [.own 701300700, .own 701300701]), (701300700, .slice 67 2 (ml eGRouter m_1) 0 false), (701300701, .slice 42 5 (ml eGLink m_5) 0 false)]) ?_ ?_
    ·rcases cs_some hm with ⟨c1,hm⟩|⟨c1,hm⟩
     ·rcases cs_some hm with ⟨c2,hm⟩|⟨c2,hm⟩
      ·refine qGs [(3, hto (bE c1)), (7, hto (bE c2))] [47] [(60, .bool true)] ?_
       exact qX (true, m_6, m_7) hm
      obtain ⟨vx_5, h6, hm⟩ := bnd_some hm
      refine qG [(3, hto (bE c1)), (7, hto (bE c2)), (9, hdc [] (m_mk_Tape_One_ok h6) ck43)] [47] [(60, .bool vx_5.1)] [900000064] [(900000064, .cells 64 (k3 vx_5.2))] ?_
      exact qX (vx_5.1, vx_5.2.L, vx_5.2.At) hm
     obtain ⟨vx_6, h7, hm⟩ := bnd_some hm
     refine qG [(3, hto (bE c1)), (9, hdc [] (m_mk_Tape_One_ok h7) ck43)] [47] [(60, .bool vx_6.1)] [900000064] [(900000064, .cells 64 (k3 vx_6.2))] ?_
     exact qX (vx_6.1, vx_6.2.L, vx_6.2.At) hm
    rintro ⟨v_1, m_11, m_12⟩ hm
    rw [hJ2] at hm
    rcases cs_some hm with ⟨c3,hm⟩|⟨c3,hm⟩
    ·refine qT c3 ?_
     obtain ⟨vx_7, h8, hm⟩ := bnd_some hm
     obtain ⟨vx_8, h9, hm⟩ := bnd_some hm
     obtain ⟨vx_9, h10, hm⟩ := bnd_some hm
     obtain ⟨l_2, h11, hm⟩ := bnd_some hm
     refine qG [(6, hdc [] (m_mk_Tape_Range_ok h8) ck41), (9, hdc [] (m_mk_Tape_Range_ok h9) ck41), (11, hdc [] (m_mk_Tape_Next_ok h10) ck23), (14, hap 13575 (ap eGLink (bytes := 40) (by decide) h11))] [60] [] [900000064, 13007, 701300701] [(900000064, .cells 64 (k3 vx_9.2)), (13007, .cells 28 [.own 701300700, .own 13575]), (13575, .slice 42 5 (ml eGLink l_2) 0 false)] ?_
     exact Exists.intro (vx_9.2.L, vx_9.2.At, l_2) (And.intro hm (Weak.go [.sw 13575 701300701] [] (by kernel_rfl)))
    refine qF c3 ?_
    refine A.skip ?_
    exact qX (m_11, m_12, m_5) hm
   rintro ⟨m_8, m_9, m_10⟩ hm
   rw [hJ1] at hm
   refine qGs [(1, hto (incN (by omega) hx3 (of_decide_eq_true hh3)))] [14] [(14, i6 (j3 + 1 : Int))] ?_
   exact qX (m_10, m_8, m_9) hm
  rintro j3 ⟨m_5, m_6, m_7⟩ hj3 hl3 hm
  rw [hK3] at hm
  refine A.seq ?_
  refine qDs [] [] [(47, .bool (decide ((j3 : Int) < (j2 : Int))))] ?_
  refine A.cF rfl (geF hl3) ?_
  refine A.exit ?_
  show acode _ _ _ _ _
  refine qGs [(1, hto (incN (by omega) hx2 (of_decide_eq_true hh2)))] [11, 12, 13, 14, 47] [(11, i6 (j2 + 1 : Int))] ?_
  exact qX (m_5, m_6, m_7) hm
 rintro j2 ⟨m_2, m_3, m_4⟩ hj2 hl2 hm
 rw [hK2] at hm
 refine A.seq ?_
 refine qDs [] [] [(36, .bool (decide ((j2 : Int) ≤ vx_1.1)))] ?_
 refine A.cF rfl (gtF hl2) ?_
 refine A.exit ?_
 show acode _ _ _ _ _
 obtain ⟨vx_10, h12, hm⟩ := bnd_some hm
 refine qD [(2, hdl [701300701] [500004400] (m_mk_order_ok h12) ck44 ⟨flat_ml eGLink (fun _ => rfl) _, trivial⟩)] [8, 10, 11, 36] [] [13007, 701300701] [(13007, .cells 28 [.own 701300700, .own 500004400]), (500004400, .slice 42 5 (ml eGLink vx_10) 0 false)] ?_
 obtain ⟨J3, hJ3, hm⟩ := jn_some hm
 refine A.J (J := J3) (r := r) (fun sg => match sg with | (m_13, m_14, m_15, m_16) => [(6, .ptr 13006 0), (7, .ptr 13007 0)]) (fun sg => match sg with | (m_13, m_14, m_15, m_16) => [(900000064, .cells 64 [lf eInt m_13, i6 m_14]), (13006, .cells 28 [.nils, .nils]), (13007, .cells 28 [.own 701300700, .own 701300701]), (701300700, .slice 67 2 (ml eGRouter m_15) 0 false), (701300701, .slice 42 5 (ml eGLink m_16) 0 false)]) ?_ ?_
 ·obtain ⟨J4, hJ4, hm⟩ := jn_some hm
  refine A.J (J := J4) (r := r) (fun sg => match sg with | (v_2, m_17, m_18) => [(0, .ptr 900000064 0), (6, .ptr 13006 0), (7, .ptr 13007 0), (87, .bool v_2)]) (fun sg => match sg with | (v_2, m_17, m_18) => [(900000064, .cells 64 [lf eInt m_17, i6 m_18]), (13006, .cells 28 [.nils, .nils]), (13007, .cells 28 [.own 701300700, .own 500004400]), (701300700, .slice 67 2 (ml eGRouter m_1) 0 false), (500004400, .slice 42 5 (ml eGLink vx_10) 0 false)]) ?_ ?_
  ·rcases cs_some hm with ⟨c4,hm⟩|⟨c4,hm⟩
   ·obtain ⟨vx_11, h13, hm⟩ := bnd_some hm
    refine qG [(2, hto (bE c4)), (5, hdc [] (m_mk_Tape_One_ok h13) ck43)] [2] [(87, .bool vx_11.1)] [900000064] [(900000064, .cells 64 (k3 vx_11.2))] ?_
    exact qX (vx_11.1, vx_11.2.L, vx_11.2.At) hm
   refine qGs [(2, hto (bE c4))] [2] [(87, .bool false)] ?_
   exact qX (false, m_3, m_4) hm
  rintro ⟨v_2, m_17, m_18⟩ hm
  rw [hJ4] at hm
  rcases cs_some hm with ⟨c5,hm⟩|⟨c5,hm⟩
  ·refine qT c5 ?_
   obtain ⟨vx_12, h14, hm⟩ := bnd_some hm
   refine qD [(1, hdc [] (m_mk_Tape_Next_ok h14) ck23)] [87] [(89, i6 vx_12.1)] [900000064] [(900000064, .cells 64 (k3 vx_12.2))] ?_
   refine A.block ?_
   refine qDs [] [] [(101, .bool (decide (vx_12.1 = (0:Int))))] ?_
   rcases cs_some hm with ⟨c6,hm⟩|⟨c6,hm⟩
   ·refine qT c6 ?_
    obtain ⟨vx_13, h15, hm⟩ := bnd_some hm
    obtain ⟨l_3, h16, hm⟩ := bnd_some hm
    refine qG [(4, hdc [] (m_mk_Tape_Pick_ok h15) ck42), (7, hap 13610 (ap eGRouter (bytes := 16) (by decide) h16))] [0, 89, 101] [] [900000064, 13007, 701300700] [(900000064, .cells 64 (k3 vx_13.2)), (13007, .cells 28 [.own 13610, .own 500004400]), (13610, .slice 67 2 (ml eGRouter l_3) 0 false)] ?_
    exact Exists.intro (vx_13.2.L, vx_13.2.At, l_3, vx_10) (And.intro hm (Weak.go [.sw 13610 701300700, .sw 500004400 701300701] [] (by kernel_rfl)))
   refine qF c6 ?_
   refine qDs [] [101] [(112, .bool (decide (vx_12.1 = (1:Int))))] ?_
   rcases cs_some hm with ⟨c7,hm⟩|⟨c7,hm⟩
   ·refine qT c7 ?_
    obtain ⟨vx_14, h17, hm⟩ := bnd_some hm
    obtain ⟨vx_15, h18, hm⟩ := bnd_some hm
    obtain ⟨l_4, h19, hm⟩ := bnd_some hm
    refine qG [(3, hdc [] (m_mk_Tape_Next_ok h17) ck23), (5, hdc [] (m_mk_Tape_Next_ok h18) ck23), (8, hap 13622 (ap eGLink (bytes := 40) (by decide) h19))] [0, 89, 112] [] [900000064, 13007, 500004400] [(900000064, .cells 64 (k3 vx_15.2)), (13007, .cells 28 [.own 701300700, .own 13622]), (13622, .slice 42 5 (ml eGLink l_4) 0 false)] ?_
    exact Exists.intro (vx_15.2.L, vx_15.2.At, m_1, l_4) (And.intro hm (Weak.go [.sw 13622 701300701] [] (by kernel_rfl)))
   refine qF c7 ?_
   refine qDs [] [112] [(124, .bool (decide (vx_12.1 = (2:Int))))] ?_
   rcases cs_some hm with ⟨c8,hm⟩|⟨c8,hm⟩
   ·refine qT c8 ?_
    refine qDs [(2, hto (lnE eGLink vx_10))] [89, 124] [(129, .bool (decide ((0:Int) < (vx_10.length:Int))))] ?_
    rcases cs_some hm with ⟨c9,hm⟩|⟨c9,hm⟩
    ·refine qT c9 ?_
     obtain ⟨vx_16, h20, hm⟩ := bnd_some hm
     obtain ⟨vx_17, h21, hm⟩ := bnd_some hm
     obtain ⟨e_1, h22, hm⟩ := bnd_some hm
     obtain ⟨l_5, h23, hm⟩ := bnd_some hm
     refine qG [(5, hto (lnE eGLink vx_10)), (6, hdc [] (m_mk_Tape_Next_ok h20) ck23), (8, hdc [] (m_mk_Tape_Wild_ok h21) ck45), (9, hix (ix eGLink h22)), (11, hso 500004400 (st eGLink (off := 2) (ca := [i6 vx_17.1]) h22 h23 rfl) (elO_some h22).1.1)] [0, 129] [] [900000064, 500004400] [(900000064, .cells 64 (k3 vx_17.2)), (500004400, .slice 42 5 (ml eGLink l_5) 0 false)] ?_
     exact Exists.intro (vx_17.2.L, vx_17.2.At, m_1, l_5) (And.intro hm (Weak.go [.sw 500004400 701300701] [] (by kernel_rfl)))
    refine qF c9 ?_
    refine A.skip ?_
    exact Exists.intro (vx_12.2.L, vx_12.2.At, m_1, vx_10) (And.intro hm (Weak.go [.sw 500004400 701300701] [] (by kernel_rfl)))
   refine qF c8 ?_
   refine qDs [] [124] [(141, .bool (decide (vx_12.1 = (3:Int))))] ?_
   rcases cs_some hm with ⟨c10,hm⟩|⟨c10,hm⟩
   ·refine qT c10 ?_
    refine qDs [(2, hto (lnE eGLink vx_10))] [89, 141] [(146, .bool (decide ((0:Int) < (vx_10.length:Int))))] ?_
    rcases cs_some hm with ⟨c11,hm⟩|⟨c11,hm⟩
    ·refine qT c11 ?_
     obtain ⟨vx_18, h24, hm⟩ := bnd_some hm
     obtain ⟨vx_19, h25, hm⟩ := bnd_some hm
     obtain ⟨e_2, h26, hm⟩ := bnd_some hm
     obtain ⟨l_6, h27, hm⟩ := bnd_some hm
     refine qG [(5, hto (lnE eGLink vx_10)), (6, hdc [] (m_mk_Tape_Next_ok h24) ck23), (8, hdc [] (m_mk_Tape_Wild_ok h25) ck45), (9, hix (ix eGLink h26)), (11, hso 500004400 (st eGLink (off := 3) (ca := [i6 vx_19.1]) h26 h27 rfl) (elO_some h26).1.1)] [0, 146] [] [900000064, 500004400] [(900000064, .cells 64 (k3 vx_19.2)), (500004400, .slice 42 5 (ml eGLink l_6) 0 false)] ?_
     exact Exists.intro (vx_19.2.L, vx_19.2.At, m_1, l_6) (And.intro hm (Weak.go [.sw 500004400 701300701] [] (by kernel_rfl)))
    refine qF c11 ?_
    refine A.skip ?_
    exact Exists.intro (vx_12.2.L, vx_12.2.At, m_1, vx_10) (And.intro hm (Weak.go [.sw 500004400 701300701] [] (by kernel_rfl)))
   refine qF c10 ?_
   refine qDs [] [141] [(158, .bool (decide (vx_12.1 = (4:Int))))] ?_
   rcases cs_some hm with ⟨c12,hm⟩|⟨c12,hm⟩
   ·refine qT c12 ?_
    refine qDs [(2, hto (lnE eGLink vx_10))] [89, 158] [(163, .bool (decide ((0:Int) < (vx_10.length:Int))))] ?_
    rcases cs_some hm with ⟨c13,hm⟩|⟨c13,hm⟩
    ·refine qT c13 ?_
     obtain ⟨vx_20, h28, hm⟩ := bnd_some hm
     obtain ⟨vx_21, h29, hm⟩ := bnd_some hm
     obtain ⟨e_3, h30, hm⟩ := bnd_some hm
     obtain ⟨l_7, h31, hm⟩ := bnd_some hm
     refine qG [(5, hto (lnE eGLink vx_10)), (6, hdc [] (m_mk_Tape_Next_ok h28) ck23), (8, hdc [] (m_mk_Tape_Wild_ok h29) ck45), (9, hix (ix eGLink h30)), (11, hso 500004400 (st eGLink (off := 4) (ca := [i6 vx_21.1]) h30 h31 rfl) (elO_some h30).1.1)] [0, 163] [] [900000064, 500004400] [(900000064, .cells 64 (k3 vx_21.2)), (500004400, .slice 42 5 (ml eGLink l_7) 0 false)] ?_
     exact Exists.intro (vx_21.2.L, vx_21.2.At, m_1, l_7) (And.intro hm (Weak.go [.sw 500004400 701300701] [] (by kernel_rfl)))
    refine qF c13 ?_
    refine A.skip ?_
    exact Exists.intro (vx_12.2.L, vx_12.2.At, m_1, vx_10) (And.intro hm (Weak.go [.sw 500004400 701300701] [] (by kernel_rfl)))
   refine qF c12 ?_
   refine qDs [] [89, 158] [(175, .bool (decide (vx_12.1 = (5:Int))))] ?_
   rcases cs_some hm with ⟨c14,hm⟩|⟨c14,hm⟩
   ·refine qT c14 ?_
    refine qDs [(2, hto (lnE eGLink vx_10))] [175] [(180, .bool (decide ((0:Int) < (vx_10.length:Int))))] ?_
    rcases cs_some hm with ⟨c15,hm⟩|⟨c15,hm⟩
    ·refine qT c15 ?_
     obtain ⟨vx_22, h32, hm⟩ := bnd_some hm
     obtain ⟨e_4, h33, hm⟩ := bnd_some hm
     obtain ⟨l_8, h34, hm⟩ := bnd_some hm
     refine qG [(7, hto (lnE eGLink vx_10)), (8, hdc [] (m_mk_Tape_Next_ok h32) ck23), (9, hix (ix eGLink h33)), (10, hlo 500004400 0 (ix eGLink h33)), (12, hap 13693 (ap eGLink (bytes := 40) (by decide) h34))] [0, 180] [] [900000064, 13007, 500004400] [(900000064, .cells 64 (k3 vx_22.2)), (13007, .cells 28 [.own 701300700, .own 13693]), (13693, .slice 42 5 (ml eGLink l_8) 0 false)] ?_
     exact Exists.intro (vx_22.2.L, vx_22.2.At, m_1, l_8) (And.intro hm (Weak.go [.sw 13693 701300701] [] (by kernel_rfl)))
    refine qF c15 ?_
    refine A.skip ?_
    exact Exists.intro (vx_12.2.L, vx_12.2.At, m_1, vx_10) (And.intro hm (Weak.go [.sw 500004400 701300701] [] (by kernel_rfl)))
   refine qF c14 ?_
   refine qDs [] [0, 175] [(15, i6 50)] ?_
   refine A.block ?_
   obtain ⟨B4, K4, hB4, hK4, hm⟩ := forN_some hm
   refine A.lpN (hi := (75:Int)) (B := B4) (K := K4) hm rfl (fun j4 => fun m_19 => [(6, .ptr 13006 0), (7, .ptr 13007 0), (15, i6 (j4 : Int))]) (fun j4 => fun m_19 => [(900000064, .cells 64 (k3 vx_12.2)), (13006, .cells 28 [.nils, .nils]), (13007, .cells 28 [.own 701300700, .own 500004400]), (701300700, .slice 67 2 (ml eGRouter m_19) 0 false), (500004400, .slice 42 5 (ml eGLink vx_10) 0 false)]) ?_ ?_ ?_
   ·exact qW
   ·rintro j4 Z4 m_19 hj4 hx4 hm
    rw [hB4] at hm
    refine A.seq ?_
    refine qDs [] [] [(91, .bool (decide ((j4 : Int) < (75:Int))))] ?_
    refine A.cT rfl (decide_eq_true hx4) ?_
    refine A.skip ?_
    show acode _ _ _ _ _
    refine A.seq ?_
    refine A.block ?_
    obtain ⟨l_9, h35, hm⟩ := bnd_some hm
    refine qG [(5, hap 13599 (ap eGRouter (bytes := 16) (by decide) h35))] [91] [] [13007, 701300700] [(13007, .cells 28 [.own 13599, .own 500004400]), (13599, .slice 67 2 (ml eGRouter l_9) 0 false)] ?_
    show acode _ _ _ _ _
    refine qGs [(1, hto (incN (by omega) hx4 (by decide)))] [15] [(15, i6 (j4 + 1 : Int))] ?_
    exact Exists.intro l_9 (And.intro hm (Weak.go [.sw 13599 701300700] [] (by kernel_rfl)))
   rintro j4 m_19 hj4 hl4 hm
   rw [hK4] at hm
   refine A.seq ?_
   refine qDs [] [] [(91, .bool (decide ((j4 : Int) < (75:Int))))] ?_
   refine A.cF rfl (geF hl4) ?_
   refine A.exit ?_
   exact Exists.intro (vx_12.2.L, vx_12.2.At, m_19, vx_10) (And.intro hm (Weak.go [.sw 500004400 701300701] [] (by kernel_rfl)))
  refine qF c5 ?_
  refine A.skip ?_
  exact Exists.intro (m_17, m_18, m_1, vx_10) (And.intro hm (Weak.go [.sw 500004400 701300701] [] (by kernel_rfl)))
 rintro ⟨m_13, m_14, m_15, m_16⟩ hm
 rw [hJ3] at hm
 refine qD [] [7] [] [13006, 13007] [(13006, .cells 28 [.own 701300700, .own 701300701])] ?_
 refine A.ret ?_
 obtain rfl := some_inj hm
 exact A.fin W0 [.sw 701300700 500001300, .sw 701300701 500001301] rfl (by kernel_rfl)
theorem m_mk_Tape_Router_ok {t : GTape} {g : GTopology} {n : Int} {r : Int × GTape} (hm : m_mk_Tape_Router t g n = some r) : SCalls Try.prog 14 [(900000064, .cells 64 (k3 t))] [.ptr 900000064 0, .agg (k2 g), i6 n] (fun a σ' => a = i6 r.1 ∧ σ' = [(900000064, .cells 64 (k3 r.2))]) := by
 refine enterA Try.func14 rfl rfl ?_
 unfold m_mk_Tape_Router at hm
 refine qS [(0, .al 14004)] [(0, .ptr 900000064 0), (2, i6 n), (4, .ptr 14004 0)] [(900000064, .cells 64 (k3 t)), (14004, .cells 28 (k2 g))] ?_
 refine A.seq ?_
 obtain ⟨J1, hJ1, hm⟩ := jn_some hm
 refine A.J (J := J1) (r := r) (fun sg => match sg with | (v_1, m_1, m_2) => [(0, .ptr 900000064 0), (4, .ptr 14004 0), (19, .bool v_1)]) (fun sg => match sg with | (v_1, m_1, m_2) => [(900000064, .cells 64 [lf eInt m_1, i6 m_2]), (14004, .cells 28 (k2 g))]) ?_ ?_
 ·rcases cs_some hm with ⟨c1,hm⟩|⟨c1,hm⟩
  ·obtain ⟨vx_1, h1, hm⟩ := bnd_some hm
   rcases cs_some hm with ⟨c2,hm⟩|⟨c2,hm⟩
   ·refine qG [(2, hto (bE c1)), (5, hdc [] (m_mk_Tape_One_ok h1) ck43), (7, hto (bE c2))] [2] [(19, .bool true)] [900000064] [(900000064, .cells 64 (k3 vx_1.2))] ?_
    exact qX (true, vx_1.2.L, vx_1.2.At) hm
   refine qG [(2, hto (bE c1)), (5, hdc [] (m_mk_Tape_One_ok h1) ck43), (7, hto (bE c2)), (10, hto (lnE eGRouter g.Routers))] [2] [(19, .bool (decide ((g.Routers.length:Int) = (0:Int))))] [900000064] [(900000064, .cells 64 (k3 vx_1.2))] ?_
   exact qX (decide ((g.Routers.length:Int) = (0:Int)), vx_1.2.L, vx_1.2.At) hm
  refine qGs [(2, hto (bE c1)), (10, hto (lnE eGRouter g.Routers))] [2] [(19, .bool (decide ((g.Routers.length:Int) = (0:Int))))] ?_
  exact qX (decide ((g.Routers.length:Int) = (0:Int)), t.L, t.At) hm
 rintro ⟨v_1, m_1, m_2⟩ hm
 rw [hJ1] at hm
 rcases cs_some hm with ⟨c3,hm⟩|⟨c3,hm⟩
 ·refine qT c3 ?_
  obtain ⟨vx_2, h2, hm⟩ := bnd_some hm
  refine qS [(2, hdc [] (m_mk_Tape_Pick_ok h2) ck42)] [(6, i6 vx_2.1)] [(900000064, .cells 64 (k3 vx_2.2))] ?_
  cases hm
  exact A.ret qE
 refine qF c3 ?_
 refine A.skip ?_
 show acode _ _ _ _ _
 obtain ⟨vx_3, h3, hm⟩ := bnd_some hm
 obtain ⟨e_1, h4, hm⟩ := bnd_some hm
 refine qS [(5, hto (lnE eGRouter g.Routers)), (6, hdc [] (m_mk_Tape_Next_ok h3) ck23), (7, hix (ix eGRouter h4))] [(6, i6 e_1.ID)] [(900000064, .cells 64 (k3 vx_3.2))] ?_
 cases hm
 exact A.ret qE
end Go.Proofs.Ytflifgcoleknlaa
