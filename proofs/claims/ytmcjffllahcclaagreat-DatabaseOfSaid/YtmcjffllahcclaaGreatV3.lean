/- The walks of functions of the program. No condition but those that stand in each. -/
import Derived.Test.YtmcjffllahcclaaGreatDA
import Derived.Test.YtmcjffllahcclaaGreatV1
namespace Go.Proofs.YtmcjffllahcclaaGreat
open Go
set_option maxRecDepth 100000
set_option linter.all false
theorem m_mk_Tape_Pick_ok {t : GTape} {l : List Int} {r : Int × GTape} (hm : m_mk_Tape_Pick t l = some r) : SCalls Tryz.prog 31 [(900000071, .cells 71 [.lst false (ml eInt t.L), .int .i64 t.At])] [.ptr 900000071 0, .lst false (ml eInt l)] (fun a σ' => a = .int .i64 r.1 ∧ σ' = [(900000071, .cells 71 [.lst false (ml eInt r.2.L), .int .i64 r.2.At])]) := by
  refine enterA Tryz.func31 rfl rfl ?_
  unfold m_mk_Tape_Pick at hm
  refine A.RS W0 [] [] [(0, .ptr 900000071 0), (1, .lst false (ml eInt l))] [(900000071, .cells 71 [.lst false (ml eInt t.L), .int .i64 t.At])] (by kernel_rfl) ?_
  obtain ⟨vx_1, h1, hm⟩ := bnd_some hm
  obtain ⟨e_1, h2, hm⟩ := bnd_some hm
  refine A.RS W0 [] [(3, hto (lnE eInt l)), (4, hdc [] (m_mk_Tape_Next_ok h1) ck12), (5, hix (ix eInt h2))] [(4, .int .i64 e_1)] [(900000071, .cells 71 [.lst false (ml eInt vx_1.2.L), .int .i64 vx_1.2.At])] (by kernel_rfl) ?_
  refine A.ret ?_
  obtain rfl := some_inj hm
  exact A.fin W0 [] rfl (by kernel_rfl)
theorem m_mk_Tape_One_ok {t : GTape} {n : Int} {r : Bool × GTape} (hm : m_mk_Tape_One t n = some r) : SCalls Tryz.prog 11 [(900000071, .cells 71 [.lst false (ml eInt t.L), .int .i64 t.At])] [.ptr 900000071 0, .int .i64 n] (fun a σ' => a = .bool r.1 ∧ σ' = [(900000071, .cells 71 [.lst false (ml eInt r.2.L), .int .i64 r.2.At])]) := by
  refine enterA Tryz.func11 rfl rfl ?_
  unfold m_mk_Tape_One at hm
  refine A.RS W0 [] [] [(0, .ptr 900000071 0), (1, .int .i64 n)] [(900000071, .cells 71 [.lst false (ml eInt t.L), .int .i64 t.At])] (by kernel_rfl) ?_
  obtain ⟨vx_1, h1, hm⟩ := bnd_some hm
  refine A.RS W0 [] [(2, hdc [] (m_mk_Tape_Next_ok h1) ck12)] [(4, .bool (decide (vx_1.1 = w64 (n - (1:Int)))))] [(900000071, .cells 71 [.lst false (ml eInt vx_1.2.L), .int .i64 vx_1.2.At])] (by kernel_rfl) ?_
  refine A.ret ?_
  obtain rfl := some_inj hm
  exact A.fin W0 [] rfl (by kernel_rfl)
theorem m_mk_Tape_Wild_ok {t : GTape} {r : Int × GTape} (hm : m_mk_Tape_Wild t = some r) : SCalls Tryz.prog 33 [(900000071, .cells 71 [.lst false (ml eInt t.L), .int .i64 t.At])] [.ptr 900000071 0] (fun a σ' => a = .int .i64 r.1 ∧ σ' = [(900000071, .cells 71 [.lst false (ml eInt r.2.L), .int .i64 r.2.At])]) := by
  refine enterA Tryz.func33 rfl rfl ?_
  unfold m_mk_Tape_Wild at hm
  refine A.RS W0 [] [] [(0, .ptr 900000071 0)] [(900000071, .cells 71 [.lst false (ml eInt t.L), .int .i64 t.At])] (by kernel_rfl) ?_
  obtain ⟨vx_1, h1, hm⟩ := bnd_some hm
  refine A.RS W0 [] [(2, hdc [] (m_mk_Tape_Pick_ok h1) ck31)] [(2, .int .i64 vx_1.1)] [(900000071, .cells 71 [.lst false (ml eInt vx_1.2.L), .int .i64 vx_1.2.At])] (by kernel_rfl) ?_
  refine A.ret ?_
  obtain rfl := some_inj hm
  exact A.fin W0 [] rfl (by kernel_rfl)
theorem m_mk_Tape_Length_ok {t : GTape} {r : Int × GTape} (hm : m_mk_Tape_Length t = some r) : SCalls Tryz.prog 32 [(900000071, .cells 71 [.lst false (ml eInt t.L), .int .i64 t.At])] [.ptr 900000071 0] (fun a σ' => a = .int .i64 r.1 ∧ σ' = [(900000071, .cells 71 [.lst false (ml eInt r.2.L), .int .i64 r.2.At])]) := by
  refine enterA Tryz.func32 rfl rfl ?_
  unfold m_mk_Tape_Length at hm
  refine A.RS W0 [] [] [(0, .ptr 900000071 0)] [(900000071, .cells 71 [.lst false (ml eInt t.L), .int .i64 t.At])] (by kernel_rfl) ?_
  obtain ⟨vx_1, h1, hm⟩ := bnd_some hm
  refine A.RS W0 [] [(2, hdc [] (m_mk_Tape_Pick_ok h1) ck31)] [(2, .int .i64 vx_1.1)] [(900000071, .cells 71 [.lst false (ml eInt vx_1.2.L), .int .i64 vx_1.2.At])] (by kernel_rfl) ?_
  refine A.ret ?_
  obtain rfl := some_inj hm
  exact A.fin W0 [] rfl (by kernel_rfl)
theorem m_mk_order_ok {l : List GLink} {r : (List GLink)} (hm : m_mk_order l = some r) : SCalls Tryz.prog 72 [] [.lst false (ml eGLink l)] (fun a σ' => a = .own 500007200 ∧ σ' = [(500007200, .slice 84 5 (ml eGLink r) 0 false)]) := by
  refine enterA Tryz.func72 rfl rfl ?_
  unfold m_mk_order at hm
  refine A.RS W0 [] [] [(0, .lst false (ml eGLink l))] [] (by kernel_rfl) ?_
  refine A.RS W0 [] [] [(0, .lst false (ml eGLink l)), (3, .nils)] [] (by kernel_rfl) ?_
  refine A.seq ?_
  refine A.RS W0 [] [] [(0, .lst false (ml eGLink l)), (3, .nils), (4, .int .i64 (0:Int))] [] (by kernel_rfl) ?_
  refine A.block ?_
  refine A.bS 0 rfl fun hb1 => ?_
  obtain ⟨B1, K1, hB1, hK1, hm⟩ := forI_some hm
  refine A.lpI (l := l) (j0 := 0) (B := B1) (K := K1) hm (fun j1 => fun out_1 => [(0, .lst false (ml eGLink l)), (3, .own 600072003), (4, .int .i64 (j1 : Int))]) (fun j1 => fun out_1 => [(600072003, .slice 84 5 (ml eGLink out_1) 0 false)]) ?_ ?_ ?_
  · exact Weak.go [.ad 3 600072003 84 5] [] (by kernel_rfl)
  · skip
    rintro j1 e1 Z1 out_1 hj1 hx1 hm
    rw [hB1] at hm
    refine A.seq ?_
    refine A.RS W0 [] [(2, hto (lnE eGLink l))] [(0, .lst false (ml eGLink l)), (3, .own 600072003), (4, .int .i64 (j1 : Int)), (10, .bool (decide ((j1 : Int) < (l.length:Int))))] [(600072003, .slice 84 5 (ml eGLink out_1) 0 false)] (by kernel_rfl) ?_
    refine A.cT rfl (ltT hx1) ?_
    refine A.skip ?_
    show acode _ _ _ _ _
    refine A.seq ?_
    refine A.block ?_
    refine A.RS W0 [] [] [(0, .lst false (ml eGLink l)), (3, .own 600072003), (4, .int .i64 (j1 : Int)), (5, .int .i64 (0:Int))] [(600072003, .slice 84 5 (ml eGLink out_1) 0 false)] (by kernel_rfl) ?_
    refine A.seq ?_
    refine A.block ?_
    obtain ⟨F2, n2, hF2, hm⟩ := whl_some hm
    refine A.lpW (F := F2) hm (fun vat_1 => [(0, .lst false (ml eGLink l)), (3, .own 600072003), (4, .int .i64 (j1 : Int)), (5, .int .i64 vat_1)]) (fun vat_1 => [(600072003, .slice 84 5 (ml eGLink out_1) 0 false)]) ?_ ?_
    · exact Weak.go [] [] (by kernel_rfl)
    rintro Z2 vat_1 hm
    rw [hF2] at hm
    refine A.seq ?_
    obtain ⟨J1, hJ1, hm⟩ := jn_some hm
    refine A.J (J := J1) (r := r) (fun v_1 => [(0, .lst false (ml eGLink l)), (3, .own 600072003), (4, .int .i64 (j1 : Int)), (5, .int .i64 vat_1), (55, .bool v_1)]) (fun v_1 => [(600072003, .slice 84 5 (ml eGLink out_1) 0 false)]) ?_ ?_
    · skip
      rcases cs_some hm with ⟨c1, hm⟩ | ⟨c1, hm⟩
      · skip
        obtain ⟨e_1, h1, hm⟩ := bnd_some hm
        rcases cs_some hm with ⟨c2, hm⟩ | ⟨c2, hm⟩
        · skip
          refine A.R W0 [] [(2, hto (lnE eGLink out_1)), (4, hto (bE c1)), (7, hix (ix eGLink h1)), (9, hlo 600072003 0 (ix eGLink h1)), (12, hix (ix eGLink (elO_nat hx1))), (16, hto (bE c2))] [(0, .lst false (ml eGLink l)), (3, .own 600072003), (4, .int .i64 (j1 : Int)), (5, .int .i64 vat_1), (55, .bool true)] [(600072003, .slice 84 5 (ml eGLink out_1) 0 false)] (by kernel_rfl) ?_
          exact Exists.intro true (And.intro hm (Weak.go [] [] (by kernel_rfl)))
        rcases cs_some hm with ⟨c3, hm⟩ | ⟨c3, hm⟩
        · skip
          refine A.R W0 [] [(2, hto (lnE eGLink out_1)), (4, hto (bE c1)), (7, hix (ix eGLink h1)), (9, hlo 600072003 0 (ix eGLink h1)), (12, hix (ix eGLink (elO_nat hx1))), (16, hto (bE c2)), (19, hix (ix eGLink h1)), (21, hlo 600072003 0 (ix eGLink h1)), (24, hix (ix eGLink (elO_nat hx1))), (28, hto (bE c3)), (31, hix (ix eGLink h1)), (33, hlo 600072003 1 (ix eGLink h1)), (36, hix (ix eGLink (elO_nat hx1)))] [(0, .lst false (ml eGLink l)), (3, .own 600072003), (4, .int .i64 (j1 : Int)), (5, .int .i64 vat_1), (55, .bool (decide (e_1.B < e1.B)))] [(600072003, .slice 84 5 (ml eGLink out_1) 0 false)] (by kernel_rfl) ?_
          exact Exists.intro (decide (e_1.B < e1.B)) (And.intro hm (Weak.go [] [] (by kernel_rfl)))
        refine A.R W0 [] [(2, hto (lnE eGLink out_1)), (4, hto (bE c1)), (7, hix (ix eGLink h1)), (9, hlo 600072003 0 (ix eGLink h1)), (12, hix (ix eGLink (elO_nat hx1))), (16, hto (bE c2)), (19, hix (ix eGLink h1)), (21, hlo 600072003 0 (ix eGLink h1)), (24, hix (ix eGLink (elO_nat hx1))), (28, hto (bE c3))] [(0, .lst false (ml eGLink l)), (3, .own 600072003), (4, .int .i64 (j1 : Int)), (5, .int .i64 vat_1), (55, .bool false)] [(600072003, .slice 84 5 (ml eGLink out_1) 0 false)] (by kernel_rfl) ?_
        exact Exists.intro false (And.intro hm (Weak.go [] [] (by kernel_rfl)))
      refine A.R W0 [] [(2, hto (lnE eGLink out_1)), (4, hto (bE c1))] [(0, .lst false (ml eGLink l)), (3, .own 600072003), (4, .int .i64 (j1 : Int)), (5, .int .i64 vat_1), (55, .bool false)] [(600072003, .slice 84 5 (ml eGLink out_1) 0 false)] (by kernel_rfl) ?_
      exact Exists.intro false (And.intro hm (Weak.go [] [] (by kernel_rfl)))
    rintro v_1 hm
    rw [hJ1] at hm
    rcases cs_some hm with ⟨c4, hm⟩ | ⟨c4, hm⟩
    · skip
      refine A.cT rfl c4 ?_
      refine A.skip ?_
      show acode _ _ _ _ _
      refine A.block ?_
      refine A.R W0 [] [] [(0, .lst false (ml eGLink l)), (3, .own 600072003), (4, .int .i64 (j1 : Int)), (5, .int .i64 (w64 (vat_1 + (1:Int))))] [(600072003, .slice 84 5 (ml eGLink out_1) 0 false)] (by kernel_rfl) ?_
      exact Exists.intro (w64 (vat_1 + (1:Int))) (And.intro hm (Weak.go [] [] (by kernel_rfl)))
    refine A.cF rfl c4 ?_
    refine A.exit ?_
    show acode _ _ _ _ _
    refine A.RS W0 [] [] [(0, .lst false (ml eGLink l)), (3, .own 600072003), (4, .int .i64 (j1 : Int)), (5, .int .i64 vat_1), (6, .nils)] [(600072003, .slice 84 5 (ml eGLink out_1) 0 false)] (by kernel_rfl) ?_
    obtain ⟨l_1, h2, hm⟩ := bnd_some hm
    obtain ⟨l_2, h3, hm⟩ := bnd_some hm
    refine A.RS W0 [.fz [600072003]] [(3, hsl (sl eGLink h2)), (4, hap 72562 (ap eGLink (bytes := 40) (by decide) h3))] [(0, .lst false (ml eGLink l)), (3, .own 600072003), (4, .int .i64 (j1 : Int)), (5, .int .i64 vat_1), (6, .own 72562)] [(600072003, .slice 84 5 (ml eGLink out_1) (ml eGLink out_1).length true), (72562, .slice 84 5 (ml eGLink l_2) 0 false)] (by kernel_rfl) ?_
    obtain ⟨l_3, h4, hm⟩ := bnd_some hm
    refine A.RS W0 [] [(3, hix (ix eGLink (elO_nat hx1))), (6, hap 72569 (ap eGLink (bytes := 40) (by decide) h4))] [(0, .lst false (ml eGLink l)), (3, .own 600072003), (4, .int .i64 (j1 : Int)), (5, .int .i64 vat_1), (6, .own 72569)] [(600072003, .slice 84 5 (ml eGLink out_1) (ml eGLink out_1).length true), (72569, .slice 84 5 (ml eGLink l_3) 0 false)] (by kernel_rfl) ?_
    obtain ⟨l_4, h5, hm⟩ := bnd_some hm
    obtain ⟨l_5, h6, hm⟩ := bnd_some hm
    refine A.R W0 [] [(3, hsl (slE2 eGLink h5)), (4, hap 72574 (ap eGLink (bytes := 40) (by decide) h6))] [(0, .lst false (ml eGLink l)), (3, .own 72574), (4, .int .i64 (j1 : Int))] [(72574, .slice 84 5 (ml eGLink l_5) 0 false)] (by kernel_rfl) ?_
    show acode _ _ _ _ _
    refine A.R W0 [] [(1, hto (inc hx1 hb1))] [(0, .lst false (ml eGLink l)), (3, .own 72574), (4, .int .i64 ((j1 + 1 : Nat) : Int))] [(72574, .slice 84 5 (ml eGLink l_5) 0 false)] (by kernel_rfl) ?_
    exact Exists.intro l_5 (And.intro hm (Weak.go [.sw 72574 600072003] [] (by kernel_rfl)))
  rintro j1 out_1 hj1 hl1 hm
  rw [hK1] at hm
  refine A.seq ?_
  refine A.RS W0 [] [(2, hto (lnE eGLink l))] [(0, .lst false (ml eGLink l)), (3, .own 600072003), (4, .int .i64 (j1 : Int)), (10, .bool (decide ((j1 : Int) < (l.length:Int))))] [(600072003, .slice 84 5 (ml eGLink out_1) 0 false)] (by kernel_rfl) ?_
  refine A.cF rfl (ltF hl1) ?_
  refine A.exit ?_
  show acode _ _ _ _ _
  refine A.RS W0 [] [] [(2, .own 600072003)] [(600072003, .slice 84 5 (ml eGLink out_1) 0 false)] (by kernel_rfl) ?_
  refine A.ret ?_
  obtain rfl := some_inj hm
  exact A.fin W0 [.sw 600072003 500007200] rfl (by kernel_rfl)
theorem m_mk_New_ok {l : List Int} {r : GTape} (hm : m_mk_New l = some r) : SCalls Tryz.prog 7 [] [.lst false (ml eInt l)] (fun a σ' => a = .ptr 900000071 0 ∧ σ' = [(900000071, .cells 71 [.lst false (ml eInt r.L), .int .i64 r.At])]) := by
  refine enterA Tryz.func7 rfl rfl ?_
  unfold m_mk_New at hm
  refine A.RS W0 [] [] [(0, .lst false (ml eInt l))] [] (by kernel_rfl) ?_
  obtain ⟨J1, hJ1, hm⟩ := jn_some hm
  refine A.J (J := J1) (r := r) (fun l_1 => [(0, .lst false (ml eInt l_1))]) (fun l_1 => []) ?_ ?_
  · skip
    refine A.RS W0 [] [(1, hto (lnE eInt l))] [(0, .lst false (ml eInt l)), (5, .bool (decide ((600:Int) < (l.length:Int))))] [] (by kernel_rfl) ?_
    rcases cs_some hm with ⟨c1, hm⟩ | ⟨c1, hm⟩
    · skip
      refine A.cT rfl c1 ?_
      obtain ⟨l_2, h1, hm⟩ := bnd_some hm
      refine A.R W0 [] [(1, hsl (sl eInt h1))] [(0, .lst false (ml eInt l_2))] [] (by kernel_rfl) ?_
      exact Exists.intro l_2 (And.intro hm (Weak.go [] [0] (by kernel_rfl)))
    refine A.cF rfl c1 ?_
    refine A.skip ?_
    exact Exists.intro l (And.intro hm (Weak.go [] [0] (by kernel_rfl)))
  rintro l_1 hm
  rw [hJ1] at hm
  refine A.RS W0 [] [(2, .al 7010)] [(2, .ptr 7010 0)] [(7010, .cells 71 [.lst false (ml eInt l_1), .int .i64 (0:Int)])] (by kernel_rfl) ?_
  refine A.ret ?_
  obtain rfl := some_inj hm
  exact A.fin W0 [.sw 7010 900000071] rfl (by kernel_rfl)
theorem m_mk_Tape_Topology_ok {t : GTape} {most : Int} {n : Int} {r : GTopology × GTape} (hm : m_mk_Tape_Topology t most n = some r) : SCalls Tryz.prog 44 [(900000071, .cells 71 [.lst false (ml eInt t.L), .int .i64 t.At])] [.ptr 900000071 0, .int .i64 most, .int .i64 n] (fun a σ' => a = .agg [.own 500004400, .own 500004401] ∧ σ' = [(900000071, .cells 71 [.lst false (ml eInt r.2.L), .int .i64 r.2.At]), (500004400, .slice 52 2 (ml eGRouter r.1.Routers) 0 false), (500004401, .slice 84 5 (ml eGLink r.1.Links) 0 false)]) := by
  refine enterA Tryz.func44 rfl rfl ?_
  unfold m_mk_Tape_Topology at hm
  refine A.RS W0 [] [(0, .al 44006)] [(0, .ptr 900000071 0), (1, .int .i64 most), (2, .int .i64 n), (6, .ptr 44006 0)] [(900000071, .cells 71 [.lst false (ml eInt t.L), .int .i64 t.At]), (44006, .cells 46 [.nils, .nils])] (by kernel_rfl) ?_
  refine A.RS W0 [] [(0, .al 44007)] [(0, .ptr 900000071 0), (1, .int .i64 most), (2, .int .i64 n), (6, .ptr 44006 0), (7, .ptr 44007 0)] [(900000071, .cells 71 [.lst false (ml eInt t.L), .int .i64 t.At]), (44006, .cells 46 [.nils, .nils]), (44007, .cells 46 [.nils, .nils])] (by kernel_rfl) ?_
  obtain ⟨vx_1, h1, hm⟩ := bnd_some hm
  refine A.RS W0 [] [(2, hdc [] (m_mk_Tape_Range_ok h1) ck10)] [(0, .ptr 900000071 0), (2, .int .i64 n), (6, .ptr 44006 0), (7, .ptr 44007 0), (8, .int .i64 vx_1.1)] [(900000071, .cells 71 [.lst false (ml eInt vx_1.2.L), .int .i64 vx_1.2.At]), (44006, .cells 46 [.nils, .nils]), (44007, .cells 46 [.nils, .nils])] (by kernel_rfl) ?_
  refine A.seq ?_
  refine A.RS W0 [] [] [(0, .ptr 900000071 0), (2, .int .i64 n), (6, .ptr 44006 0), (7, .ptr 44007 0), (8, .int .i64 vx_1.1), (9, .int .i64 (1:Int))] [(900000071, .cells 71 [.lst false (ml eInt vx_1.2.L), .int .i64 vx_1.2.At]), (44006, .cells 46 [.nils, .nils]), (44007, .cells 46 [.nils, .nils])] (by kernel_rfl) ?_
  refine A.block ?_
  obtain ⟨hh1, hm⟩ := chk_some hm
  obtain ⟨B1, K1, hB1, hK1, hm⟩ := forN_some hm
  refine A.lpN (hi := (vx_1.1 + 1)) (B := B1) (K := K1) hm rfl (fun j1 => fun m_1 => [(0, .ptr 900000071 0), (2, .int .i64 n), (6, .ptr 44006 0), (7, .ptr 44007 0), (8, .int .i64 vx_1.1), (9, .int .i64 (j1 : Int))]) (fun j1 => fun m_1 => [(900000071, .cells 71 [.lst false (ml eInt vx_1.2.L), .int .i64 vx_1.2.At]), (44006, .cells 46 [.nils, .nils]), (44007, .cells 46 [.own 704400700, .nils]), (704400700, .slice 52 2 (ml eGRouter m_1) 0 false)]) ?_ ?_ ?_
  · exact Weak.go [.ac 44007 704400700 52 2 0] [] (by kernel_rfl)
  · skip
    rintro j1 Z1 m_1 hj1 hx1 hm
    rw [hB1] at hm
    refine A.seq ?_
    refine A.RS W0 [] [] [(0, .ptr 900000071 0), (2, .int .i64 n), (6, .ptr 44006 0), (7, .ptr 44007 0), (8, .int .i64 vx_1.1), (9, .int .i64 (j1 : Int)), (21, .bool (decide ((j1 : Int) ≤ vx_1.1)))] [(900000071, .cells 71 [.lst false (ml eInt vx_1.2.L), .int .i64 vx_1.2.At]), (44006, .cells 46 [.nils, .nils]), (44007, .cells 46 [.own 704400700, .nils]), (704400700, .slice 52 2 (ml eGRouter m_1) 0 false)] (by kernel_rfl) ?_
    refine A.cT rfl (leT hx1) ?_
    refine A.skip ?_
    show acode _ _ _ _ _
    refine A.seq ?_
    refine A.block ?_
    obtain ⟨l_1, h2, hm⟩ := bnd_some hm
    refine A.R W0 [] [(5, hap 44529 (ap eGRouter (bytes := 16) (by decide) h2))] [(0, .ptr 900000071 0), (2, .int .i64 n), (6, .ptr 44006 0), (7, .ptr 44007 0), (8, .int .i64 vx_1.1), (9, .int .i64 (j1 : Int))] [(900000071, .cells 71 [.lst false (ml eInt vx_1.2.L), .int .i64 vx_1.2.At]), (44006, .cells 46 [.nils, .nils]), (44007, .cells 46 [.own 44529, .nils]), (44529, .slice 52 2 (ml eGRouter l_1) 0 false)] (by kernel_rfl) ?_
    show acode _ _ _ _ _
    refine A.R W0 [] [(1, hto (incN (by omega) hx1 (of_decide_eq_true hh1)))] [(0, .ptr 900000071 0), (2, .int .i64 n), (6, .ptr 44006 0), (7, .ptr 44007 0), (8, .int .i64 vx_1.1), (9, .int .i64 (j1 + 1 : Int))] [(900000071, .cells 71 [.lst false (ml eInt vx_1.2.L), .int .i64 vx_1.2.At]), (44006, .cells 46 [.nils, .nils]), (44007, .cells 46 [.own 44529, .nils]), (44529, .slice 52 2 (ml eGRouter l_1) 0 false)] (by kernel_rfl) ?_
    exact Exists.intro l_1 (And.intro hm (Weak.go [.sw 44529 704400700] [] (by kernel_rfl)))
  rintro j1 m_1 hj1 hl1 hm
  rw [hK1] at hm
  refine A.seq ?_
  refine A.RS W0 [] [] [(0, .ptr 900000071 0), (2, .int .i64 n), (6, .ptr 44006 0), (7, .ptr 44007 0), (8, .int .i64 vx_1.1), (9, .int .i64 (j1 : Int)), (21, .bool (decide ((j1 : Int) ≤ vx_1.1)))] [(900000071, .cells 71 [.lst false (ml eInt vx_1.2.L), .int .i64 vx_1.2.At]), (44006, .cells 46 [.nils, .nils]), (44007, .cells 46 [.own 704400700, .nils]), (704400700, .slice 52 2 (ml eGRouter m_1) 0 false)] (by kernel_rfl) ?_
  refine A.cF rfl (gtF hl1) ?_
  refine A.exit ?_
  show acode _ _ _ _ _
  obtain ⟨vx_2, h3, hm⟩ := bnd_some hm
  refine A.RS W0 [] [(2, hdc [] (m_mk_Tape_Pick_ok h3) ck31)] [(0, .ptr 900000071 0), (2, .int .i64 n), (6, .ptr 44006 0), (7, .ptr 44007 0), (8, .int .i64 vx_1.1), (10, .int .i64 vx_2.1)] [(900000071, .cells 71 [.lst false (ml eInt vx_2.2.L), .int .i64 vx_2.2.At]), (44006, .cells 46 [.nils, .nils]), (44007, .cells 46 [.own 704400700, .nils]), (704400700, .slice 52 2 (ml eGRouter m_1) 0 false)] (by kernel_rfl) ?_
  refine A.seq ?_
  refine A.RS W0 [] [] [(0, .ptr 900000071 0), (2, .int .i64 n), (6, .ptr 44006 0), (7, .ptr 44007 0), (8, .int .i64 vx_1.1), (10, .int .i64 vx_2.1), (11, .int .i64 (2:Int))] [(900000071, .cells 71 [.lst false (ml eInt vx_2.2.L), .int .i64 vx_2.2.At]), (44006, .cells 46 [.nils, .nils]), (44007, .cells 46 [.own 704400700, .nils]), (704400700, .slice 52 2 (ml eGRouter m_1) 0 false)] (by kernel_rfl) ?_
  refine A.block ?_
  obtain ⟨hh2, hm⟩ := chk_some hm
  obtain ⟨B2, K2, hB2, hK2, hm⟩ := forN_some hm
  refine A.lpN (hi := (vx_1.1 + 1)) (B := B2) (K := K2) hm rfl (fun j2 => fun sg => match sg with | (m_2, m_3, m_4) => [(0, .ptr 900000071 0), (2, .int .i64 n), (6, .ptr 44006 0), (7, .ptr 44007 0), (8, .int .i64 vx_1.1), (10, .int .i64 vx_2.1), (11, .int .i64 (j2 : Int))]) (fun j2 => fun sg => match sg with | (m_2, m_3, m_4) => [(900000071, .cells 71 [.lst false (ml eInt m_3), .int .i64 m_4]), (44006, .cells 46 [.nils, .nils]), (44007, .cells 46 [.own 704400700, .own 704400701]), (704400700, .slice 52 2 (ml eGRouter m_1) 0 false), (704400701, .slice 84 5 (ml eGLink m_2) 0 false)]) ?_ ?_ ?_
  · exact Weak.go [.ac 44007 704400701 84 5 1] [] (by kernel_rfl)
  · skip
    rintro j2 Z2 ⟨m_2, m_3, m_4⟩ hj2 hx2 hm
    rw [hB2] at hm
    refine A.seq ?_
    refine A.RS W0 [] [] [(0, .ptr 900000071 0), (2, .int .i64 n), (6, .ptr 44006 0), (7, .ptr 44007 0), (8, .int .i64 vx_1.1), (10, .int .i64 vx_2.1), (11, .int .i64 (j2 : Int)), (36, .bool (decide ((j2 : Int) ≤ vx_1.1)))] [(900000071, .cells 71 [.lst false (ml eInt m_3), .int .i64 m_4]), (44006, .cells 46 [.nils, .nils]), (44007, .cells 46 [.own 704400700, .own 704400701]), (704400700, .slice 52 2 (ml eGRouter m_1) 0 false), (704400701, .slice 84 5 (ml eGLink m_2) 0 false)] (by kernel_rfl) ?_
    refine A.cT rfl (leT hx2) ?_
    refine A.skip ?_
    show acode _ _ _ _ _
    refine A.seq ?_
    refine A.block ?_
    obtain ⟨vx_3, h4, hm⟩ := bnd_some hm
    refine A.RS W0 [] [(3, hdc [] (m_mk_Tape_Range_ok h4) ck10)] [(0, .ptr 900000071 0), (2, .int .i64 n), (6, .ptr 44006 0), (7, .ptr 44007 0), (8, .int .i64 vx_1.1), (10, .int .i64 vx_2.1), (11, .int .i64 (j2 : Int)), (12, .int .i64 vx_3.1)] [(900000071, .cells 71 [.lst false (ml eInt vx_3.2.L), .int .i64 vx_3.2.At]), (44006, .cells 46 [.nils, .nils]), (44007, .cells 46 [.own 704400700, .own 704400701]), (704400700, .slice 52 2 (ml eGRouter m_1) 0 false), (704400701, .slice 84 5 (ml eGLink m_2) 0 false)] (by kernel_rfl) ?_
    obtain ⟨vx_4, h5, hm⟩ := bnd_some hm
    refine A.RS W0 [] [(1, hdc [] (m_mk_Tape_One_ok h5) ck11)] [(0, .ptr 900000071 0), (2, .int .i64 n), (6, .ptr 44006 0), (7, .ptr 44007 0), (8, .int .i64 vx_1.1), (10, .int .i64 vx_2.1), (11, .int .i64 (j2 : Int)), (12, .int .i64 vx_3.1), (13, .bool vx_4.1)] [(900000071, .cells 71 [.lst false (ml eInt vx_4.2.L), .int .i64 vx_4.2.At]), (44006, .cells 46 [.nils, .nils]), (44007, .cells 46 [.own 704400700, .own 704400701]), (704400700, .slice 52 2 (ml eGRouter m_1) 0 false), (704400701, .slice 84 5 (ml eGLink m_2) 0 false)] (by kernel_rfl) ?_
    refine A.RS W0 [] [] [(0, .ptr 900000071 0), (2, .int .i64 n), (6, .ptr 44006 0), (7, .ptr 44007 0), (8, .int .i64 vx_1.1), (10, .int .i64 vx_2.1), (11, .int .i64 (j2 : Int)), (12, .int .i64 vx_3.1), (13, .bool vx_4.1), (14, .int .i64 (1:Int))] [(900000071, .cells 71 [.lst false (ml eInt vx_4.2.L), .int .i64 vx_4.2.At]), (44006, .cells 46 [.nils, .nils]), (44007, .cells 46 [.own 704400700, .own 704400701]), (704400700, .slice 52 2 (ml eGRouter m_1) 0 false), (704400701, .slice 84 5 (ml eGLink m_2) 0 false)] (by kernel_rfl) ?_
    refine A.block ?_
    obtain ⟨hh3, hm⟩ := chk_some hm
    obtain ⟨B3, K3, hB3, hK3, hm⟩ := forN_some hm
    refine A.lpN (hi := (j2 : Int)) (B := B3) (K := K3) hm rfl (fun j3 => fun sg => match sg with | (m_5, m_6, m_7) => [(0, .ptr 900000071 0), (2, .int .i64 n), (6, .ptr 44006 0), (7, .ptr 44007 0), (8, .int .i64 vx_1.1), (10, .int .i64 vx_2.1), (11, .int .i64 (j2 : Int)), (12, .int .i64 vx_3.1), (13, .bool vx_4.1), (14, .int .i64 (j3 : Int))]) (fun j3 => fun sg => match sg with | (m_5, m_6, m_7) => [(900000071, .cells 71 [.lst false (ml eInt m_6), .int .i64 m_7]), (44006, .cells 46 [.nils, .nils]), (44007, .cells 46 [.own 704400700, .own 704400701]), (704400700, .slice 52 2 (ml eGRouter m_1) 0 false), (704400701, .slice 84 5 (ml eGLink m_5) 0 false)]) ?_ ?_ ?_
    · exact Weak.go [] [] (by kernel_rfl)
    · skip
      rintro j3 Z3 ⟨m_5, m_6, m_7⟩ hj3 hx3 hm
      rw [hB3] at hm
      refine A.seq ?_
      refine A.RS W0 [] [] [(0, .ptr 900000071 0), (2, .int .i64 n), (6, .ptr 44006 0), (7, .ptr 44007 0), (8, .int .i64 vx_1.1), (10, .int .i64 vx_2.1), (11, .int .i64 (j2 : Int)), (12, .int .i64 vx_3.1), (13, .bool vx_4.1), (14, .int .i64 (j3 : Int)), (47, .bool (decide ((j3 : Int) < (j2 : Int))))] [(900000071, .cells 71 [.lst false (ml eInt m_6), .int .i64 m_7]), (44006, .cells 46 [.nils, .nils]), (44007, .cells 46 [.own 704400700, .own 704400701]), (704400700, .slice 52 2 (ml eGRouter m_1) 0 false), (704400701, .slice 84 5 (ml eGLink m_5) 0 false)] (by kernel_rfl) ?_
      refine A.cT rfl (decide_eq_true hx3) ?_
      refine A.skip ?_
      show acode _ _ _ _ _
      obtain ⟨J1, hJ1, hm⟩ := jn_some hm
      refine A.J (J := J1) (r := r) (fun sg => match sg with | (m_8, m_9, m_10) => [(0, .ptr 900000071 0), (2, .int .i64 n), (6, .ptr 44006 0), (7, .ptr 44007 0), (8, .int .i64 vx_1.1), (10, .int .i64 vx_2.1), (11, .int .i64 (j2 : Int)), (12, .int .i64 vx_3.1), (13, .bool vx_4.1), (14, .int .i64 (j3 : Int))]) (fun sg => match sg with | (m_8, m_9, m_10) => [(900000071, .cells 71 [.lst false (ml eInt m_8), .int .i64 m_9]), (44006, .cells 46 [.nils, .nils]), (44007, .cells 46 [.own 704400700, .own 704400701]), (704400700, .slice 52 2 (ml eGRouter m_1) 0 false), (704400701, .slice 84 5 (ml eGLink m_10) 0 false)]) ?_ ?_
      · skip
        refine A.block ?_
        obtain ⟨J2, hJ2, hm⟩ := jn_some hm
        refine A.J (J := J2) (r := r) (fun sg => match sg with | (v_1, m_11, m_12) => [(0, .ptr 900000071 0), (2, .int .i64 n), (6, .ptr 44006 0), (7, .ptr 44007 0), (8, .int .i64 vx_1.1), (10, .int .i64 vx_2.1), (11, .int .i64 (j2 : Int)), (12, .int .i64 vx_3.1), (13, .bool vx_4.1), (14, .int .i64 (j3 : Int)), (60, .bool v_1)]) (fun sg => match sg with | (v_1, m_11, m_12) => [(900000071, .cells 71 [.lst false (ml eInt m_11), .int .i64 m_12]), (44006, .cells 46 [.nils, .nils]), (44007, .cells 46 [.own 704400700, .own 704400701]), (704400700, .slice 52 2 (ml eGRouter m_1) 0 false), (704400701, .slice 84 5 (ml eGLink m_5) 0 false)]) ?_ ?_
        · skip
          rcases cs_some hm with ⟨c1, hm⟩ | ⟨c1, hm⟩
          · skip
            rcases cs_some hm with ⟨c2, hm⟩ | ⟨c2, hm⟩
            · skip
              refine A.R W0 [] [(3, hto (bE c1)), (7, hto (bE c2))] [(0, .ptr 900000071 0), (2, .int .i64 n), (6, .ptr 44006 0), (7, .ptr 44007 0), (8, .int .i64 vx_1.1), (10, .int .i64 vx_2.1), (11, .int .i64 (j2 : Int)), (12, .int .i64 vx_3.1), (13, .bool vx_4.1), (14, .int .i64 (j3 : Int)), (60, .bool true)] [(900000071, .cells 71 [.lst false (ml eInt m_6), .int .i64 m_7]), (44006, .cells 46 [.nils, .nils]), (44007, .cells 46 [.own 704400700, .own 704400701]), (704400700, .slice 52 2 (ml eGRouter m_1) 0 false), (704400701, .slice 84 5 (ml eGLink m_5) 0 false)] (by kernel_rfl) ?_
              exact Exists.intro (true, m_6, m_7) (And.intro hm (Weak.go [] [] (by kernel_rfl)))
            obtain ⟨vx_5, h6, hm⟩ := bnd_some hm
            refine A.R W0 [] [(3, hto (bE c1)), (7, hto (bE c2)), (9, hdc [] (m_mk_Tape_One_ok h6) ck11)] [(0, .ptr 900000071 0), (2, .int .i64 n), (6, .ptr 44006 0), (7, .ptr 44007 0), (8, .int .i64 vx_1.1), (10, .int .i64 vx_2.1), (11, .int .i64 (j2 : Int)), (12, .int .i64 vx_3.1), (13, .bool vx_4.1), (14, .int .i64 (j3 : Int)), (60, .bool vx_5.1)] [(900000071, .cells 71 [.lst false (ml eInt vx_5.2.L), .int .i64 vx_5.2.At]), (44006, .cells 46 [.nils, .nils]), (44007, .cells 46 [.own 704400700, .own 704400701]), (704400700, .slice 52 2 (ml eGRouter m_1) 0 false), (704400701, .slice 84 5 (ml eGLink m_5) 0 false)] (by kernel_rfl) ?_
            exact Exists.intro (vx_5.1, vx_5.2.L, vx_5.2.At) (And.intro hm (Weak.go [] [] (by kernel_rfl)))
          obtain ⟨vx_6, h7, hm⟩ := bnd_some hm
          refine A.R W0 [] [(3, hto (bE c1)), (9, hdc [] (m_mk_Tape_One_ok h7) ck11)] [(0, .ptr 900000071 0), (2, .int .i64 n), (6, .ptr 44006 0), (7, .ptr 44007 0), (8, .int .i64 vx_1.1), (10, .int .i64 vx_2.1), (11, .int .i64 (j2 : Int)), (12, .int .i64 vx_3.1), (13, .bool vx_4.1), (14, .int .i64 (j3 : Int)), (60, .bool vx_6.1)] [(900000071, .cells 71 [.lst false (ml eInt vx_6.2.L), .int .i64 vx_6.2.At]), (44006, .cells 46 [.nils, .nils]), (44007, .cells 46 [.own 704400700, .own 704400701]), (704400700, .slice 52 2 (ml eGRouter m_1) 0 false), (704400701, .slice 84 5 (ml eGLink m_5) 0 false)] (by kernel_rfl) ?_
          exact Exists.intro (vx_6.1, vx_6.2.L, vx_6.2.At) (And.intro hm (Weak.go [] [] (by kernel_rfl)))
        rintro ⟨v_1, m_11, m_12⟩ hm
        rw [hJ2] at hm
        rcases cs_some hm with ⟨c3, hm⟩ | ⟨c3, hm⟩
        · skip
          refine A.cT rfl c3 ?_
          obtain ⟨vx_7, h8, hm⟩ := bnd_some hm
          obtain ⟨vx_8, h9, hm⟩ := bnd_some hm
          obtain ⟨vx_9, h10, hm⟩ := bnd_some hm
          obtain ⟨l_2, h11, hm⟩ := bnd_some hm
          refine A.R W0 [] [(6, hdc [] (m_mk_Tape_Range_ok h8) ck10), (9, hdc [] (m_mk_Tape_Range_ok h9) ck10), (11, hdc [] (m_mk_Tape_Next_ok h10) ck12), (14, hap 44575 (ap eGLink (bytes := 40) (by decide) h11))] [(0, .ptr 900000071 0), (2, .int .i64 n), (6, .ptr 44006 0), (7, .ptr 44007 0), (8, .int .i64 vx_1.1), (10, .int .i64 vx_2.1), (11, .int .i64 (j2 : Int)), (12, .int .i64 vx_3.1), (13, .bool vx_4.1), (14, .int .i64 (j3 : Int))] [(900000071, .cells 71 [.lst false (ml eInt vx_9.2.L), .int .i64 vx_9.2.At]), (44006, .cells 46 [.nils, .nils]), (44007, .cells 46 [.own 704400700, .own 44575]), (704400700, .slice 52 2 (ml eGRouter m_1) 0 false), (44575, .slice 84 5 (ml eGLink l_2) 0 false)] (by kernel_rfl) ?_
          exact Exists.intro (vx_9.2.L, vx_9.2.At, l_2) (And.intro hm (Weak.go [.sw 44575 704400701] [] (by kernel_rfl)))
        refine A.cF rfl c3 ?_
        refine A.skip ?_
        exact Exists.intro (m_11, m_12, m_5) (And.intro hm (Weak.go [] [] (by kernel_rfl)))
      rintro ⟨m_8, m_9, m_10⟩ hm
      rw [hJ1] at hm
      refine A.R W0 [] [(1, hto (incN (by omega) hx3 (of_decide_eq_true hh3)))] [(0, .ptr 900000071 0), (2, .int .i64 n), (6, .ptr 44006 0), (7, .ptr 44007 0), (8, .int .i64 vx_1.1), (10, .int .i64 vx_2.1), (11, .int .i64 (j2 : Int)), (12, .int .i64 vx_3.1), (13, .bool vx_4.1), (14, .int .i64 (j3 + 1 : Int))] [(900000071, .cells 71 [.lst false (ml eInt m_8), .int .i64 m_9]), (44006, .cells 46 [.nils, .nils]), (44007, .cells 46 [.own 704400700, .own 704400701]), (704400700, .slice 52 2 (ml eGRouter m_1) 0 false), (704400701, .slice 84 5 (ml eGLink m_10) 0 false)] (by kernel_rfl) ?_
      exact Exists.intro (m_10, m_8, m_9) (And.intro hm (Weak.go [] [] (by kernel_rfl)))
    rintro j3 ⟨m_5, m_6, m_7⟩ hj3 hl3 hm
    rw [hK3] at hm
    refine A.seq ?_
    refine A.RS W0 [] [] [(0, .ptr 900000071 0), (2, .int .i64 n), (6, .ptr 44006 0), (7, .ptr 44007 0), (8, .int .i64 vx_1.1), (10, .int .i64 vx_2.1), (11, .int .i64 (j2 : Int)), (12, .int .i64 vx_3.1), (13, .bool vx_4.1), (14, .int .i64 (j3 : Int)), (47, .bool (decide ((j3 : Int) < (j2 : Int))))] [(900000071, .cells 71 [.lst false (ml eInt m_6), .int .i64 m_7]), (44006, .cells 46 [.nils, .nils]), (44007, .cells 46 [.own 704400700, .own 704400701]), (704400700, .slice 52 2 (ml eGRouter m_1) 0 false), (704400701, .slice 84 5 (ml eGLink m_5) 0 false)] (by kernel_rfl) ?_
    refine A.cF rfl (geF hl3) ?_
    refine A.exit ?_
    show acode _ _ _ _ _
    refine A.R W0 [] [(1, hto (incN (by omega) hx2 (of_decide_eq_true hh2)))] [(0, .ptr 900000071 0), (2, .int .i64 n), (6, .ptr 44006 0), (7, .ptr 44007 0), (8, .int .i64 vx_1.1), (10, .int .i64 vx_2.1), (11, .int .i64 (j2 + 1 : Int))] [(900000071, .cells 71 [.lst false (ml eInt m_6), .int .i64 m_7]), (44006, .cells 46 [.nils, .nils]), (44007, .cells 46 [.own 704400700, .own 704400701]), (704400700, .slice 52 2 (ml eGRouter m_1) 0 false), (704400701, .slice 84 5 (ml eGLink m_5) 0 false)] (by kernel_rfl) ?_
    exact Exists.intro (m_5, m_6, m_7) (And.intro hm (Weak.go [] [] (by kernel_rfl)))
  rintro j2 ⟨m_2, m_3, m_4⟩ hj2 hl2 hm
  rw [hK2] at hm
  refine A.seq ?_
  refine A.RS W0 [] [] [(0, .ptr 900000071 0), (2, .int .i64 n), (6, .ptr 44006 0), (7, .ptr 44007 0), (8, .int .i64 vx_1.1), (10, .int .i64 vx_2.1), (11, .int .i64 (j2 : Int)), (36, .bool (decide ((j2 : Int) ≤ vx_1.1)))] [(900000071, .cells 71 [.lst false (ml eInt m_3), .int .i64 m_4]), (44006, .cells 46 [.nils, .nils]), (44007, .cells 46 [.own 704400700, .own 704400701]), (704400700, .slice 52 2 (ml eGRouter m_1) 0 false), (704400701, .slice 84 5 (ml eGLink m_2) 0 false)] (by kernel_rfl) ?_
  refine A.cF rfl (gtF hl2) ?_
  refine A.exit ?_
  show acode _ _ _ _ _
  obtain ⟨vx_10, h12, hm⟩ := bnd_some hm
  refine A.RS W0 [.fz [704400701]] [(2, hdc [500007200] (m_mk_order_ok h12) ck72)] [(0, .ptr 900000071 0), (2, .int .i64 n), (6, .ptr 44006 0), (7, .ptr 44007 0)] [(900000071, .cells 71 [.lst false (ml eInt m_3), .int .i64 m_4]), (44006, .cells 46 [.nils, .nils]), (44007, .cells 46 [.own 704400700, .own 500007200]), (704400700, .slice 52 2 (ml eGRouter m_1) 0 false), (500007200, .slice 84 5 (ml eGLink vx_10) 0 false)] (by kernel_rfl) ?_
  obtain ⟨J3, hJ3, hm⟩ := jn_some hm
  refine A.J (J := J3) (r := r) (fun sg => match sg with | (m_13, m_14, m_15, m_16) => [(6, .ptr 44006 0), (7, .ptr 44007 0)]) (fun sg => match sg with | (m_13, m_14, m_15, m_16) => [(900000071, .cells 71 [.lst false (ml eInt m_13), .int .i64 m_14]), (44006, .cells 46 [.nils, .nils]), (44007, .cells 46 [.own 704400700, .own 704400701]), (704400700, .slice 52 2 (ml eGRouter m_15) 0 false), (704400701, .slice 84 5 (ml eGLink m_16) 0 false)]) ?_ ?_
  · skip
    obtain ⟨J4, hJ4, hm⟩ := jn_some hm
    refine A.J (J := J4) (r := r) (fun sg => match sg with | (v_2, m_17, m_18) => [(0, .ptr 900000071 0), (6, .ptr 44006 0), (7, .ptr 44007 0), (87, .bool v_2)]) (fun sg => match sg with | (v_2, m_17, m_18) => [(900000071, .cells 71 [.lst false (ml eInt m_17), .int .i64 m_18]), (44006, .cells 46 [.nils, .nils]), (44007, .cells 46 [.own 704400700, .own 500007200]), (704400700, .slice 52 2 (ml eGRouter m_1) 0 false), (500007200, .slice 84 5 (ml eGLink vx_10) 0 false)]) ?_ ?_
    · skip
      rcases cs_some hm with ⟨c4, hm⟩ | ⟨c4, hm⟩
      · skip
        obtain ⟨vx_11, h13, hm⟩ := bnd_some hm
        refine A.R W0 [] [(2, hto (bE c4)), (5, hdc [] (m_mk_Tape_One_ok h13) ck11)] [(0, .ptr 900000071 0), (6, .ptr 44006 0), (7, .ptr 44007 0), (87, .bool vx_11.1)] [(900000071, .cells 71 [.lst false (ml eInt vx_11.2.L), .int .i64 vx_11.2.At]), (44006, .cells 46 [.nils, .nils]), (44007, .cells 46 [.own 704400700, .own 500007200]), (704400700, .slice 52 2 (ml eGRouter m_1) 0 false), (500007200, .slice 84 5 (ml eGLink vx_10) 0 false)] (by kernel_rfl) ?_
        exact Exists.intro (vx_11.1, vx_11.2.L, vx_11.2.At) (And.intro hm (Weak.go [] [] (by kernel_rfl)))
      refine A.R W0 [] [(2, hto (bE c4))] [(0, .ptr 900000071 0), (6, .ptr 44006 0), (7, .ptr 44007 0), (87, .bool false)] [(900000071, .cells 71 [.lst false (ml eInt m_3), .int .i64 m_4]), (44006, .cells 46 [.nils, .nils]), (44007, .cells 46 [.own 704400700, .own 500007200]), (704400700, .slice 52 2 (ml eGRouter m_1) 0 false), (500007200, .slice 84 5 (ml eGLink vx_10) 0 false)] (by kernel_rfl) ?_
      exact Exists.intro (false, m_3, m_4) (And.intro hm (Weak.go [] [] (by kernel_rfl)))
    rintro ⟨v_2, m_17, m_18⟩ hm
    rw [hJ4] at hm
    rcases cs_some hm with ⟨c5, hm⟩ | ⟨c5, hm⟩
    · skip
      refine A.cT rfl c5 ?_
      obtain ⟨vx_12, h14, hm⟩ := bnd_some hm
      refine A.RS W0 [] [(1, hdc [] (m_mk_Tape_Next_ok h14) ck12)] [(0, .ptr 900000071 0), (6, .ptr 44006 0), (7, .ptr 44007 0), (89, .int .i64 vx_12.1)] [(900000071, .cells 71 [.lst false (ml eInt vx_12.2.L), .int .i64 vx_12.2.At]), (44006, .cells 46 [.nils, .nils]), (44007, .cells 46 [.own 704400700, .own 500007200]), (704400700, .slice 52 2 (ml eGRouter m_1) 0 false), (500007200, .slice 84 5 (ml eGLink vx_10) 0 false)] (by kernel_rfl) ?_
      refine A.block ?_
      refine A.RS W0 [] [] [(0, .ptr 900000071 0), (6, .ptr 44006 0), (7, .ptr 44007 0), (89, .int .i64 vx_12.1), (101, .bool (decide (vx_12.1 = (0:Int))))] [(900000071, .cells 71 [.lst false (ml eInt vx_12.2.L), .int .i64 vx_12.2.At]), (44006, .cells 46 [.nils, .nils]), (44007, .cells 46 [.own 704400700, .own 500007200]), (704400700, .slice 52 2 (ml eGRouter m_1) 0 false), (500007200, .slice 84 5 (ml eGLink vx_10) 0 false)] (by kernel_rfl) ?_
      rcases cs_some hm with ⟨c6, hm⟩ | ⟨c6, hm⟩
      · skip
        refine A.cT rfl c6 ?_
        obtain ⟨vx_13, h15, hm⟩ := bnd_some hm
        obtain ⟨l_3, h16, hm⟩ := bnd_some hm
        refine A.R W0 [] [(4, hdc [] (m_mk_Tape_Pick_ok h15) ck31), (7, hap 44610 (ap eGRouter (bytes := 16) (by decide) h16))] [(6, .ptr 44006 0), (7, .ptr 44007 0)] [(900000071, .cells 71 [.lst false (ml eInt vx_13.2.L), .int .i64 vx_13.2.At]), (44006, .cells 46 [.nils, .nils]), (44007, .cells 46 [.own 44610, .own 500007200]), (500007200, .slice 84 5 (ml eGLink vx_10) 0 false), (44610, .slice 52 2 (ml eGRouter l_3) 0 false)] (by kernel_rfl) ?_
        exact Exists.intro (vx_13.2.L, vx_13.2.At, l_3, vx_10) (And.intro hm (Weak.go [.sw 44610 704400700, .sw 500007200 704400701] [] (by kernel_rfl)))
      refine A.cF rfl c6 ?_
      refine A.RS W0 [] [] [(0, .ptr 900000071 0), (6, .ptr 44006 0), (7, .ptr 44007 0), (89, .int .i64 vx_12.1), (112, .bool (decide (vx_12.1 = (1:Int))))] [(900000071, .cells 71 [.lst false (ml eInt vx_12.2.L), .int .i64 vx_12.2.At]), (44006, .cells 46 [.nils, .nils]), (44007, .cells 46 [.own 704400700, .own 500007200]), (704400700, .slice 52 2 (ml eGRouter m_1) 0 false), (500007200, .slice 84 5 (ml eGLink vx_10) 0 false)] (by kernel_rfl) ?_
      rcases cs_some hm with ⟨c7, hm⟩ | ⟨c7, hm⟩
      · skip
        refine A.cT rfl c7 ?_
        obtain ⟨vx_14, h17, hm⟩ := bnd_some hm
        obtain ⟨vx_15, h18, hm⟩ := bnd_some hm
        obtain ⟨l_4, h19, hm⟩ := bnd_some hm
        refine A.R W0 [] [(3, hdc [] (m_mk_Tape_Next_ok h17) ck12), (5, hdc [] (m_mk_Tape_Next_ok h18) ck12), (8, hap 44622 (ap eGLink (bytes := 40) (by decide) h19))] [(6, .ptr 44006 0), (7, .ptr 44007 0)] [(900000071, .cells 71 [.lst false (ml eInt vx_15.2.L), .int .i64 vx_15.2.At]), (44006, .cells 46 [.nils, .nils]), (44007, .cells 46 [.own 704400700, .own 44622]), (704400700, .slice 52 2 (ml eGRouter m_1) 0 false), (44622, .slice 84 5 (ml eGLink l_4) 0 false)] (by kernel_rfl) ?_
        exact Exists.intro (vx_15.2.L, vx_15.2.At, m_1, l_4) (And.intro hm (Weak.go [.sw 44622 704400701] [] (by kernel_rfl)))
      refine A.cF rfl c7 ?_
      refine A.RS W0 [] [] [(0, .ptr 900000071 0), (6, .ptr 44006 0), (7, .ptr 44007 0), (89, .int .i64 vx_12.1), (124, .bool (decide (vx_12.1 = (2:Int))))] [(900000071, .cells 71 [.lst false (ml eInt vx_12.2.L), .int .i64 vx_12.2.At]), (44006, .cells 46 [.nils, .nils]), (44007, .cells 46 [.own 704400700, .own 500007200]), (704400700, .slice 52 2 (ml eGRouter m_1) 0 false), (500007200, .slice 84 5 (ml eGLink vx_10) 0 false)] (by kernel_rfl) ?_
      rcases cs_some hm with ⟨c8, hm⟩ | ⟨c8, hm⟩
      · skip
        refine A.cT rfl c8 ?_
        refine A.RS W0 [] [(2, hto (lnE eGLink vx_10))] [(0, .ptr 900000071 0), (6, .ptr 44006 0), (7, .ptr 44007 0), (129, .bool (decide ((0:Int) < (vx_10.length:Int))))] [(900000071, .cells 71 [.lst false (ml eInt vx_12.2.L), .int .i64 vx_12.2.At]), (44006, .cells 46 [.nils, .nils]), (44007, .cells 46 [.own 704400700, .own 500007200]), (704400700, .slice 52 2 (ml eGRouter m_1) 0 false), (500007200, .slice 84 5 (ml eGLink vx_10) 0 false)] (by kernel_rfl) ?_
        rcases cs_some hm with ⟨c9, hm⟩ | ⟨c9, hm⟩
        · skip
          refine A.cT rfl c9 ?_
          obtain ⟨vx_16, h20, hm⟩ := bnd_some hm
          obtain ⟨vx_17, h21, hm⟩ := bnd_some hm
          obtain ⟨e_1, h22, hm⟩ := bnd_some hm
          obtain ⟨l_5, h23, hm⟩ := bnd_some hm
          refine A.R W0 [] [(5, hto (lnE eGLink vx_10)), (6, hdc [] (m_mk_Tape_Next_ok h20) ck12), (8, hdc [] (m_mk_Tape_Wild_ok h21) ck33), (9, hix (ix eGLink h22)), (11, hso 500007200 (st eGLink (off := 2) (ca := [.int .i64 vx_17.1]) h22 h23 rfl) (elO_some h22).1.1)] [(6, .ptr 44006 0), (7, .ptr 44007 0)] [(900000071, .cells 71 [.lst false (ml eInt vx_17.2.L), .int .i64 vx_17.2.At]), (44006, .cells 46 [.nils, .nils]), (44007, .cells 46 [.own 704400700, .own 500007200]), (704400700, .slice 52 2 (ml eGRouter m_1) 0 false), (500007200, .slice 84 5 (ml eGLink l_5) 0 false)] (by kernel_rfl) ?_
          exact Exists.intro (vx_17.2.L, vx_17.2.At, m_1, l_5) (And.intro hm (Weak.go [.sw 500007200 704400701] [] (by kernel_rfl)))
        refine A.cF rfl c9 ?_
        refine A.skip ?_
        exact Exists.intro (vx_12.2.L, vx_12.2.At, m_1, vx_10) (And.intro hm (Weak.go [.sw 500007200 704400701] [] (by kernel_rfl)))
      refine A.cF rfl c8 ?_
      refine A.RS W0 [] [] [(0, .ptr 900000071 0), (6, .ptr 44006 0), (7, .ptr 44007 0), (89, .int .i64 vx_12.1), (141, .bool (decide (vx_12.1 = (3:Int))))] [(900000071, .cells 71 [.lst false (ml eInt vx_12.2.L), .int .i64 vx_12.2.At]), (44006, .cells 46 [.nils, .nils]), (44007, .cells 46 [.own 704400700, .own 500007200]), (704400700, .slice 52 2 (ml eGRouter m_1) 0 false), (500007200, .slice 84 5 (ml eGLink vx_10) 0 false)] (by kernel_rfl) ?_
      rcases cs_some hm with ⟨c10, hm⟩ | ⟨c10, hm⟩
      · skip
        refine A.cT rfl c10 ?_
        refine A.RS W0 [] [(2, hto (lnE eGLink vx_10))] [(0, .ptr 900000071 0), (6, .ptr 44006 0), (7, .ptr 44007 0), (146, .bool (decide ((0:Int) < (vx_10.length:Int))))] [(900000071, .cells 71 [.lst false (ml eInt vx_12.2.L), .int .i64 vx_12.2.At]), (44006, .cells 46 [.nils, .nils]), (44007, .cells 46 [.own 704400700, .own 500007200]), (704400700, .slice 52 2 (ml eGRouter m_1) 0 false), (500007200, .slice 84 5 (ml eGLink vx_10) 0 false)] (by kernel_rfl) ?_
        rcases cs_some hm with ⟨c11, hm⟩ | ⟨c11, hm⟩
        · skip
          refine A.cT rfl c11 ?_
          obtain ⟨vx_18, h24, hm⟩ := bnd_some hm
          obtain ⟨vx_19, h25, hm⟩ := bnd_some hm
          obtain ⟨e_2, h26, hm⟩ := bnd_some hm
          obtain ⟨l_6, h27, hm⟩ := bnd_some hm
          refine A.R W0 [] [(5, hto (lnE eGLink vx_10)), (6, hdc [] (m_mk_Tape_Next_ok h24) ck12), (8, hdc [] (m_mk_Tape_Wild_ok h25) ck33), (9, hix (ix eGLink h26)), (11, hso 500007200 (st eGLink (off := 3) (ca := [.int .i64 vx_19.1]) h26 h27 rfl) (elO_some h26).1.1)] [(6, .ptr 44006 0), (7, .ptr 44007 0)] [(900000071, .cells 71 [.lst false (ml eInt vx_19.2.L), .int .i64 vx_19.2.At]), (44006, .cells 46 [.nils, .nils]), (44007, .cells 46 [.own 704400700, .own 500007200]), (704400700, .slice 52 2 (ml eGRouter m_1) 0 false), (500007200, .slice 84 5 (ml eGLink l_6) 0 false)] (by kernel_rfl) ?_
          exact Exists.intro (vx_19.2.L, vx_19.2.At, m_1, l_6) (And.intro hm (Weak.go [.sw 500007200 704400701] [] (by kernel_rfl)))
        refine A.cF rfl c11 ?_
        refine A.skip ?_
        exact Exists.intro (vx_12.2.L, vx_12.2.At, m_1, vx_10) (And.intro hm (Weak.go [.sw 500007200 704400701] [] (by kernel_rfl)))
      refine A.cF rfl c10 ?_
      refine A.RS W0 [] [] [(0, .ptr 900000071 0), (6, .ptr 44006 0), (7, .ptr 44007 0), (89, .int .i64 vx_12.1), (158, .bool (decide (vx_12.1 = (4:Int))))] [(900000071, .cells 71 [.lst false (ml eInt vx_12.2.L), .int .i64 vx_12.2.At]), (44006, .cells 46 [.nils, .nils]), (44007, .cells 46 [.own 704400700, .own 500007200]), (704400700, .slice 52 2 (ml eGRouter m_1) 0 false), (500007200, .slice 84 5 (ml eGLink vx_10) 0 false)] (by kernel_rfl) ?_
      rcases cs_some hm with ⟨c12, hm⟩ | ⟨c12, hm⟩
      · skip
        refine A.cT rfl c12 ?_
        refine A.RS W0 [] [(2, hto (lnE eGLink vx_10))] [(0, .ptr 900000071 0), (6, .ptr 44006 0), (7, .ptr 44007 0), (163, .bool (decide ((0:Int) < (vx_10.length:Int))))] [(900000071, .cells 71 [.lst false (ml eInt vx_12.2.L), .int .i64 vx_12.2.At]), (44006, .cells 46 [.nils, .nils]), (44007, .cells 46 [.own 704400700, .own 500007200]), (704400700, .slice 52 2 (ml eGRouter m_1) 0 false), (500007200, .slice 84 5 (ml eGLink vx_10) 0 false)] (by kernel_rfl) ?_
        rcases cs_some hm with ⟨c13, hm⟩ | ⟨c13, hm⟩
        · skip
          refine A.cT rfl c13 ?_
          obtain ⟨vx_20, h28, hm⟩ := bnd_some hm
          obtain ⟨vx_21, h29, hm⟩ := bnd_some hm
          obtain ⟨e_3, h30, hm⟩ := bnd_some hm
          obtain ⟨l_7, h31, hm⟩ := bnd_some hm
          refine A.R W0 [] [(5, hto (lnE eGLink vx_10)), (6, hdc [] (m_mk_Tape_Next_ok h28) ck12), (8, hdc [] (m_mk_Tape_Wild_ok h29) ck33), (9, hix (ix eGLink h30)), (11, hso 500007200 (st eGLink (off := 4) (ca := [.int .i64 vx_21.1]) h30 h31 rfl) (elO_some h30).1.1)] [(6, .ptr 44006 0), (7, .ptr 44007 0)] [(900000071, .cells 71 [.lst false (ml eInt vx_21.2.L), .int .i64 vx_21.2.At]), (44006, .cells 46 [.nils, .nils]), (44007, .cells 46 [.own 704400700, .own 500007200]), (704400700, .slice 52 2 (ml eGRouter m_1) 0 false), (500007200, .slice 84 5 (ml eGLink l_7) 0 false)] (by kernel_rfl) ?_
          exact Exists.intro (vx_21.2.L, vx_21.2.At, m_1, l_7) (And.intro hm (Weak.go [.sw 500007200 704400701] [] (by kernel_rfl)))
        refine A.cF rfl c13 ?_
        refine A.skip ?_
        exact Exists.intro (vx_12.2.L, vx_12.2.At, m_1, vx_10) (And.intro hm (Weak.go [.sw 500007200 704400701] [] (by kernel_rfl)))
      refine A.cF rfl c12 ?_
      refine A.RS W0 [] [] [(0, .ptr 900000071 0), (6, .ptr 44006 0), (7, .ptr 44007 0), (175, .bool (decide (vx_12.1 = (5:Int))))] [(900000071, .cells 71 [.lst false (ml eInt vx_12.2.L), .int .i64 vx_12.2.At]), (44006, .cells 46 [.nils, .nils]), (44007, .cells 46 [.own 704400700, .own 500007200]), (704400700, .slice 52 2 (ml eGRouter m_1) 0 false), (500007200, .slice 84 5 (ml eGLink vx_10) 0 false)] (by kernel_rfl) ?_
      rcases cs_some hm with ⟨c14, hm⟩ | ⟨c14, hm⟩
      · skip
        refine A.cT rfl c14 ?_
        refine A.RS W0 [] [(2, hto (lnE eGLink vx_10))] [(0, .ptr 900000071 0), (6, .ptr 44006 0), (7, .ptr 44007 0), (180, .bool (decide ((0:Int) < (vx_10.length:Int))))] [(900000071, .cells 71 [.lst false (ml eInt vx_12.2.L), .int .i64 vx_12.2.At]), (44006, .cells 46 [.nils, .nils]), (44007, .cells 46 [.own 704400700, .own 500007200]), (704400700, .slice 52 2 (ml eGRouter m_1) 0 false), (500007200, .slice 84 5 (ml eGLink vx_10) 0 false)] (by kernel_rfl) ?_
        rcases cs_some hm with ⟨c15, hm⟩ | ⟨c15, hm⟩
        · skip
          refine A.cT rfl c15 ?_
          obtain ⟨vx_22, h32, hm⟩ := bnd_some hm
          obtain ⟨e_4, h33, hm⟩ := bnd_some hm
          obtain ⟨l_8, h34, hm⟩ := bnd_some hm
          refine A.R W0 [] [(7, hto (lnE eGLink vx_10)), (8, hdc [] (m_mk_Tape_Next_ok h32) ck12), (9, hix (ix eGLink h33)), (10, hlo 500007200 0 (ix eGLink h33)), (12, hap 44693 (ap eGLink (bytes := 40) (by decide) h34))] [(6, .ptr 44006 0), (7, .ptr 44007 0)] [(900000071, .cells 71 [.lst false (ml eInt vx_22.2.L), .int .i64 vx_22.2.At]), (44006, .cells 46 [.nils, .nils]), (44007, .cells 46 [.own 704400700, .own 44693]), (704400700, .slice 52 2 (ml eGRouter m_1) 0 false), (44693, .slice 84 5 (ml eGLink l_8) 0 false)] (by kernel_rfl) ?_
          exact Exists.intro (vx_22.2.L, vx_22.2.At, m_1, l_8) (And.intro hm (Weak.go [.sw 44693 704400701] [] (by kernel_rfl)))
        refine A.cF rfl c15 ?_
        refine A.skip ?_
        exact Exists.intro (vx_12.2.L, vx_12.2.At, m_1, vx_10) (And.intro hm (Weak.go [.sw 500007200 704400701] [] (by kernel_rfl)))
      refine A.cF rfl c14 ?_
      refine A.RS W0 [] [] [(6, .ptr 44006 0), (7, .ptr 44007 0), (15, .int .i64 (50:Int))] [(900000071, .cells 71 [.lst false (ml eInt vx_12.2.L), .int .i64 vx_12.2.At]), (44006, .cells 46 [.nils, .nils]), (44007, .cells 46 [.own 704400700, .own 500007200]), (704400700, .slice 52 2 (ml eGRouter m_1) 0 false), (500007200, .slice 84 5 (ml eGLink vx_10) 0 false)] (by kernel_rfl) ?_
      refine A.block ?_
      obtain ⟨B4, K4, hB4, hK4, hm⟩ := forN_some hm
      refine A.lpN (hi := (75:Int)) (B := B4) (K := K4) hm rfl (fun j4 => fun m_19 => [(6, .ptr 44006 0), (7, .ptr 44007 0), (15, .int .i64 (j4 : Int))]) (fun j4 => fun m_19 => [(900000071, .cells 71 [.lst false (ml eInt vx_12.2.L), .int .i64 vx_12.2.At]), (44006, .cells 46 [.nils, .nils]), (44007, .cells 46 [.own 704400700, .own 500007200]), (704400700, .slice 52 2 (ml eGRouter m_19) 0 false), (500007200, .slice 84 5 (ml eGLink vx_10) 0 false)]) ?_ ?_ ?_
      · exact Weak.go [] [] (by kernel_rfl)
      · skip
        rintro j4 Z4 m_19 hj4 hx4 hm
        rw [hB4] at hm
        refine A.seq ?_
        refine A.RS W0 [] [] [(6, .ptr 44006 0), (7, .ptr 44007 0), (15, .int .i64 (j4 : Int)), (91, .bool (decide ((j4 : Int) < (75:Int))))] [(900000071, .cells 71 [.lst false (ml eInt vx_12.2.L), .int .i64 vx_12.2.At]), (44006, .cells 46 [.nils, .nils]), (44007, .cells 46 [.own 704400700, .own 500007200]), (704400700, .slice 52 2 (ml eGRouter m_19) 0 false), (500007200, .slice 84 5 (ml eGLink vx_10) 0 false)] (by kernel_rfl) ?_
        refine A.cT rfl (decide_eq_true hx4) ?_
        refine A.skip ?_
        show acode _ _ _ _ _
        refine A.seq ?_
        refine A.block ?_
        obtain ⟨l_9, h35, hm⟩ := bnd_some hm
        refine A.R W0 [] [(5, hap 44599 (ap eGRouter (bytes := 16) (by decide) h35))] [(6, .ptr 44006 0), (7, .ptr 44007 0), (15, .int .i64 (j4 : Int))] [(900000071, .cells 71 [.lst false (ml eInt vx_12.2.L), .int .i64 vx_12.2.At]), (44006, .cells 46 [.nils, .nils]), (44007, .cells 46 [.own 44599, .own 500007200]), (500007200, .slice 84 5 (ml eGLink vx_10) 0 false), (44599, .slice 52 2 (ml eGRouter l_9) 0 false)] (by kernel_rfl) ?_
        show acode _ _ _ _ _
        refine A.R W0 [] [(1, hto (incN (by omega) hx4 (by decide)))] [(6, .ptr 44006 0), (7, .ptr 44007 0), (15, .int .i64 (j4 + 1 : Int))] [(900000071, .cells 71 [.lst false (ml eInt vx_12.2.L), .int .i64 vx_12.2.At]), (44006, .cells 46 [.nils, .nils]), (44007, .cells 46 [.own 44599, .own 500007200]), (500007200, .slice 84 5 (ml eGLink vx_10) 0 false), (44599, .slice 52 2 (ml eGRouter l_9) 0 false)] (by kernel_rfl) ?_
        exact Exists.intro l_9 (And.intro hm (Weak.go [.sw 44599 704400700] [] (by kernel_rfl)))
      rintro j4 m_19 hj4 hl4 hm
      rw [hK4] at hm
      refine A.seq ?_
      refine A.RS W0 [] [] [(6, .ptr 44006 0), (7, .ptr 44007 0), (15, .int .i64 (j4 : Int)), (91, .bool (decide ((j4 : Int) < (75:Int))))] [(900000071, .cells 71 [.lst false (ml eInt vx_12.2.L), .int .i64 vx_12.2.At]), (44006, .cells 46 [.nils, .nils]), (44007, .cells 46 [.own 704400700, .own 500007200]), (704400700, .slice 52 2 (ml eGRouter m_19) 0 false), (500007200, .slice 84 5 (ml eGLink vx_10) 0 false)] (by kernel_rfl) ?_
      refine A.cF rfl (geF hl4) ?_
      refine A.exit ?_
      exact Exists.intro (vx_12.2.L, vx_12.2.At, m_19, vx_10) (And.intro hm (Weak.go [.sw 500007200 704400701] [] (by kernel_rfl)))
    refine A.cF rfl c5 ?_
    refine A.skip ?_
    exact Exists.intro (m_17, m_18, m_1, vx_10) (And.intro hm (Weak.go [.sw 500007200 704400701] [] (by kernel_rfl)))
  rintro ⟨m_13, m_14, m_15, m_16⟩ hm
  rw [hJ3] at hm
  refine A.RS W0 [] [] [(6, .ptr 44006 0)] [(900000071, .cells 71 [.lst false (ml eInt m_13), .int .i64 m_14]), (44006, .cells 46 [.own 704400700, .own 704400701]), (704400700, .slice 52 2 (ml eGRouter m_15) 0 false), (704400701, .slice 84 5 (ml eGLink m_16) 0 false)] (by kernel_rfl) ?_
  refine A.ret ?_
  obtain rfl := some_inj hm
  exact A.fin W0 [.sw 704400700 500004400, .sw 704400701 500004401] rfl (by kernel_rfl)
theorem m_mk_Tape_Router_ok {t : GTape} {g : GTopology} {n : Int} {r : Int × GTape} (hm : m_mk_Tape_Router t g n = some r) : SCalls Tryz.prog 20 [(900000071, .cells 71 [.lst false (ml eInt t.L), .int .i64 t.At])] [.ptr 900000071 0, .agg [.lst false (ml eGRouter g.Routers), .lst false (ml eGLink g.Links)], .int .i64 n] (fun a σ' => a = .int .i64 r.1 ∧ σ' = [(900000071, .cells 71 [.lst false (ml eInt r.2.L), .int .i64 r.2.At])]) := by
  refine enterA Tryz.func20 rfl rfl ?_
  unfold m_mk_Tape_Router at hm
  refine A.RS W0 [] [(0, .al 20004)] [(0, .ptr 900000071 0), (2, .int .i64 n), (4, .ptr 20004 0)] [(900000071, .cells 71 [.lst false (ml eInt t.L), .int .i64 t.At]), (20004, .cells 46 [.lst false (ml eGRouter g.Routers), .lst false (ml eGLink g.Links)])] (by kernel_rfl) ?_
  refine A.seq ?_
  obtain ⟨J1, hJ1, hm⟩ := jn_some hm
  refine A.J (J := J1) (r := r) (fun sg => match sg with | (v_1, m_1, m_2) => [(0, .ptr 900000071 0), (4, .ptr 20004 0), (19, .bool v_1)]) (fun sg => match sg with | (v_1, m_1, m_2) => [(900000071, .cells 71 [.lst false (ml eInt m_1), .int .i64 m_2]), (20004, .cells 46 [.lst false (ml eGRouter g.Routers), .lst false (ml eGLink g.Links)])]) ?_ ?_
  · skip
    rcases cs_some hm with ⟨c1, hm⟩ | ⟨c1, hm⟩
    · skip
      obtain ⟨vx_1, h1, hm⟩ := bnd_some hm
      rcases cs_some hm with ⟨c2, hm⟩ | ⟨c2, hm⟩
      · skip
        refine A.R W0 [] [(2, hto (bE c1)), (5, hdc [] (m_mk_Tape_One_ok h1) ck11), (7, hto (bE c2))] [(0, .ptr 900000071 0), (4, .ptr 20004 0), (19, .bool true)] [(900000071, .cells 71 [.lst false (ml eInt vx_1.2.L), .int .i64 vx_1.2.At]), (20004, .cells 46 [.lst false (ml eGRouter g.Routers), .lst false (ml eGLink g.Links)])] (by kernel_rfl) ?_
        exact Exists.intro (true, vx_1.2.L, vx_1.2.At) (And.intro hm (Weak.go [] [] (by kernel_rfl)))
      refine A.R W0 [] [(2, hto (bE c1)), (5, hdc [] (m_mk_Tape_One_ok h1) ck11), (7, hto (bE c2)), (10, hto (lnE eGRouter g.Routers))] [(0, .ptr 900000071 0), (4, .ptr 20004 0), (19, .bool (decide ((g.Routers.length:Int) = (0:Int))))] [(900000071, .cells 71 [.lst false (ml eInt vx_1.2.L), .int .i64 vx_1.2.At]), (20004, .cells 46 [.lst false (ml eGRouter g.Routers), .lst false (ml eGLink g.Links)])] (by kernel_rfl) ?_
      exact Exists.intro (decide ((g.Routers.length:Int) = (0:Int)), vx_1.2.L, vx_1.2.At) (And.intro hm (Weak.go [] [] (by kernel_rfl)))
    refine A.R W0 [] [(2, hto (bE c1)), (10, hto (lnE eGRouter g.Routers))] [(0, .ptr 900000071 0), (4, .ptr 20004 0), (19, .bool (decide ((g.Routers.length:Int) = (0:Int))))] [(900000071, .cells 71 [.lst false (ml eInt t.L), .int .i64 t.At]), (20004, .cells 46 [.lst false (ml eGRouter g.Routers), .lst false (ml eGLink g.Links)])] (by kernel_rfl) ?_
    exact Exists.intro (decide ((g.Routers.length:Int) = (0:Int)), t.L, t.At) (And.intro hm (Weak.go [] [] (by kernel_rfl)))
  rintro ⟨v_1, m_1, m_2⟩ hm
  rw [hJ1] at hm
  rcases cs_some hm with ⟨c3, hm⟩ | ⟨c3, hm⟩
  · skip
    refine A.cT rfl c3 ?_
    obtain ⟨vx_2, h2, hm⟩ := bnd_some hm
    refine A.RS W0 [] [(2, hdc [] (m_mk_Tape_Pick_ok h2) ck31)] [(6, .int .i64 vx_2.1)] [(900000071, .cells 71 [.lst false (ml eInt vx_2.2.L), .int .i64 vx_2.2.At])] (by kernel_rfl) ?_
    refine A.ret ?_
    obtain rfl := some_inj hm
    exact A.fin W0 [] rfl (by kernel_rfl)
  refine A.cF rfl c3 ?_
  refine A.skip ?_
  show acode _ _ _ _ _
  obtain ⟨vx_3, h3, hm⟩ := bnd_some hm
  obtain ⟨e_1, h4, hm⟩ := bnd_some hm
  refine A.RS W0 [] [(5, hto (lnE eGRouter g.Routers)), (6, hdc [] (m_mk_Tape_Next_ok h3) ck12), (7, hix (ix eGRouter h4))] [(6, .int .i64 e_1.ID)] [(900000071, .cells 71 [.lst false (ml eInt vx_3.2.L), .int .i64 vx_3.2.At])] (by kernel_rfl) ?_
  refine A.ret ?_
  obtain rfl := some_inj hm
  exact A.fin W0 [] rfl (by kernel_rfl)
theorem m_mk_Tape_Mixed_ok {t : GTape} {most : Int} {r : GTopology × GTape} (hm : m_mk_Tape_Mixed t most = some r) : SCalls Tryz.prog 18 [(900000071, .cells 71 [.lst false (ml eInt t.L), .int .i64 t.At])] [.ptr 900000071 0, .int .i64 most] (fun a σ' => a = .agg [.lst false (ml eGRouter r.1.Routers), .lst false (ml eGLink r.1.Links)] ∧ σ' = [(900000071, .cells 71 [.lst false (ml eInt r.2.L), .int .i64 r.2.At])]) := by
  refine enterA Tryz.func18 rfl rfl ?_
  unfold m_mk_Tape_Mixed at hm
  refine A.RS W0 [] [(0, .al 18004)] [(0, .ptr 900000071 0), (1, .int .i64 most), (4, .ptr 18004 0)] [(900000071, .cells 71 [.lst false (ml eInt t.L), .int .i64 t.At]), (18004, .cells 46 [.nils, .nils])] (by kernel_rfl) ?_
  obtain ⟨vx_1, h1, hm⟩ := bnd_some hm
  refine A.RS W0 [] [(2, hdc [500004400, 500004401] (m_mk_Tape_Topology_ok h1) ck44), (3, .al 18005)] [(0, .ptr 900000071 0), (4, .ptr 18004 0), (5, .ptr 18005 0)] [(900000071, .cells 71 [.lst false (ml eInt vx_1.2.L), .int .i64 vx_1.2.At]), (18004, .cells 46 [.nils, .nils]), (500004400, .slice 52 2 (ml eGRouter vx_1.1.Routers) 0 false), (500004401, .slice 84 5 (ml eGLink vx_1.1.Links) 0 false), (18005, .cells 46 [.own 500004400, .own 500004401])] (by kernel_rfl) ?_
  refine A.seq ?_
  refine A.RS W0 [] [] [(0, .ptr 900000071 0), (4, .ptr 18004 0), (5, .ptr 18005 0), (6, .int .i64 (0:Int))] [(900000071, .cells 71 [.lst false (ml eInt vx_1.2.L), .int .i64 vx_1.2.At]), (18004, .cells 46 [.nils, .nils]), (500004400, .slice 52 2 (ml eGRouter vx_1.1.Routers) 0 false), (500004401, .slice 84 5 (ml eGLink vx_1.1.Links) 0 false), (18005, .cells 46 [.own 500004400, .own 500004401])] (by kernel_rfl) ?_
  refine A.block ?_
  obtain ⟨F1, n1, hF1, hm⟩ := whl_some hm
  refine A.lpW (F := F1) hm (fun sg => match sg with | (i_1, m_1, m_2, m_3) => [(0, .ptr 900000071 0), (4, .ptr 18004 0), (5, .ptr 18005 0), (6, .int .i64 i_1)]) (fun sg => match sg with | (i_1, m_1, m_2, m_3) => [(900000071, .cells 71 [.lst false (ml eInt m_2), .int .i64 m_3]), (18004, .cells 46 [.nils, .nils]), (500004401, .slice 84 5 (ml eGLink vx_1.1.Links) 0 false), (18005, .cells 46 [.own 701800500, .own 500004401]), (701800500, .slice 52 2 (ml eGRouter m_1) 0 false)]) ?_ ?_
  · exact Weak.go [.sw 500004400 701800500] [] (by kernel_rfl)
  rintro Z1 ⟨i_1, m_1, m_2, m_3⟩ hm
  rw [hF1] at hm
  refine A.seq ?_
  refine A.RS W0 [] [(3, hto (lnE eGRouter m_1))] [(0, .ptr 900000071 0), (4, .ptr 18004 0), (5, .ptr 18005 0), (6, .int .i64 i_1), (14, .bool (decide (i_1 < (m_1.length:Int))))] [(900000071, .cells 71 [.lst false (ml eInt m_2), .int .i64 m_3]), (18004, .cells 46 [.nils, .nils]), (500004401, .slice 84 5 (ml eGLink vx_1.1.Links) 0 false), (18005, .cells 46 [.own 701800500, .own 500004401]), (701800500, .slice 52 2 (ml eGRouter m_1) 0 false)] (by kernel_rfl) ?_
  rcases cs_some hm with ⟨c1, hm⟩ | ⟨c1, hm⟩
  · skip
    refine A.cT rfl c1 ?_
    refine A.skip ?_
    show acode _ _ _ _ _
    refine A.seq ?_
    refine A.block ?_
    obtain ⟨vx_2, h2, hm⟩ := bnd_some hm
    obtain ⟨e_1, h3, hm⟩ := bnd_some hm
    obtain ⟨l_1, h4, hm⟩ := bnd_some hm
    refine A.R W0 [] [(4, hdc [] (m_mk_Tape_One_ok h2) ck11), (6, hix (ix eGRouter h3)), (8, hso 701800500 (st eGRouter (off := 1) (ca := [.bool (!vx_2.1)]) h3 h4 rfl) (elO_some h3).1.1)] [(0, .ptr 900000071 0), (4, .ptr 18004 0), (5, .ptr 18005 0), (6, .int .i64 i_1)] [(900000071, .cells 71 [.lst false (ml eInt vx_2.2.L), .int .i64 vx_2.2.At]), (18004, .cells 46 [.nils, .nils]), (500004401, .slice 84 5 (ml eGLink vx_1.1.Links) 0 false), (18005, .cells 46 [.own 701800500, .own 500004401]), (701800500, .slice 52 2 (ml eGRouter l_1) 0 false)] (by kernel_rfl) ?_
    show acode _ _ _ _ _
    refine A.R W0 [] [] [(0, .ptr 900000071 0), (4, .ptr 18004 0), (5, .ptr 18005 0), (6, .int .i64 (w64 (i_1 + (1:Int))))] [(900000071, .cells 71 [.lst false (ml eInt vx_2.2.L), .int .i64 vx_2.2.At]), (18004, .cells 46 [.nils, .nils]), (500004401, .slice 84 5 (ml eGLink vx_1.1.Links) 0 false), (18005, .cells 46 [.own 701800500, .own 500004401]), (701800500, .slice 52 2 (ml eGRouter l_1) 0 false)] (by kernel_rfl) ?_
    exact Exists.intro (w64 (i_1 + (1:Int)), l_1, vx_2.2.L, vx_2.2.At) (And.intro hm (Weak.go [] [] (by kernel_rfl)))
  refine A.cF rfl c1 ?_
  refine A.exit ?_
  show acode _ _ _ _ _
  refine A.RS W0 [] [] [(4, .ptr 18004 0)] [(900000071, .cells 71 [.lst false (ml eInt m_2), .int .i64 m_3]), (18004, .cells 46 [.own 701800500, .own 500004401]), (500004401, .slice 84 5 (ml eGLink vx_1.1.Links) 0 false), (701800500, .slice 52 2 (ml eGRouter m_1) 0 false)] (by kernel_rfl) ?_
  refine A.ret ?_
  obtain rfl := some_inj hm
  exact A.fin W0 [.fz [701800500, 500004401]] rfl (by kernel_rfl)
end Go.Proofs.YtmcjffllahcclaaGreat
