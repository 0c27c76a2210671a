/- The walks of functions of the program. No condition but those that stand in each. -/
import Derived.Test.YtmcjffllahcclaaGreatDA
import Derived.Test.YtmcjffllahcclaaGreatV3
namespace Go.Proofs.YtmcjffllahcclaaGreat
open Go
set_option maxRecDepth 100000
set_option linter.all false
theorem m_mk_Tape_Advert_ok {t : GTape} {router : Int} {n : Int} {r : GAdvert × GTape} (hm : m_mk_Tape_Advert t router n = some r) : SCalls Tryz.prog 9 [(900000071, .cells 71 [.lst false (ml eInt t.L), .int .i64 t.At])] [.ptr 900000071 0, .int .i64 router, .int .i64 n] (fun a σ' => a = .agg [.int .i64 r.1.Router, .int .i64 r.1.Seq, .bool r.1.Capable, .lst false (ml eGReach r.1.Links), .lst false (ml eGClaim r.1.Claims)] ∧ σ' = [(900000071, .cells 71 [.lst false (ml eInt r.2.L), .int .i64 r.2.At])]) := by
  refine enterA Tryz.func9 rfl rfl ?_
  unfold m_mk_Tape_Advert at hm
  refine A.RS W0 [] [(0, .al 9006)] [(0, .ptr 900000071 0), (1, .int .i64 router), (2, .int .i64 n), (6, .ptr 9006 0)] [(900000071, .cells 71 [.lst false (ml eInt t.L), .int .i64 t.At]), (9006, .cells 29 [.int .i64 (0:Int), .int .i64 (0:Int), .bool false, .nils, .nils])] (by kernel_rfl) ?_
  obtain ⟨vx_1, h1, hm⟩ := bnd_some hm
  obtain ⟨vx_2, h2, hm⟩ := bnd_some hm
  refine A.RS W0 [] [(3, hdc [] (m_mk_Tape_Pick_ok h1) ck31), (5, hdc [] (m_mk_Tape_Next_ok h2) ck12), (8, .al 9007)] [(0, .ptr 900000071 0), (1, .int .i64 router), (2, .int .i64 n), (6, .ptr 9006 0), (7, .ptr 9007 0)] [(900000071, .cells 71 [.lst false (ml eInt vx_2.2.L), .int .i64 vx_2.2.At]), (9006, .cells 29 [.int .i64 (0:Int), .int .i64 (0:Int), .bool false, .nils, .nils]), (9007, .cells 29 [.int .i64 router, .int .i64 vx_1.1, .bool (decide ((0:Int) < vx_2.1)), .nils, .nils])] (by kernel_rfl) ?_
  refine A.seq ?_
  refine A.RS W0 [] [] [(0, .ptr 900000071 0), (1, .int .i64 router), (2, .int .i64 n), (6, .ptr 9006 0), (7, .ptr 9007 0), (8, .int .i64 (1:Int))] [(900000071, .cells 71 [.lst false (ml eInt vx_2.2.L), .int .i64 vx_2.2.At]), (9006, .cells 29 [.int .i64 (0:Int), .int .i64 (0:Int), .bool false, .nils, .nils]), (9007, .cells 29 [.int .i64 router, .int .i64 vx_1.1, .bool (decide ((0:Int) < vx_2.1)), .nils, .nils])] (by kernel_rfl) ?_
  refine A.block ?_
  obtain ⟨B1, K1, hB1, hK1, hm⟩ := forN_some hm
  refine A.lpN (hi := (7:Int)) (B := B1) (K := K1) hm rfl (fun j1 => fun sg => match sg with | (m_1, m_2, m_3) => [(0, .ptr 900000071 0), (1, .int .i64 router), (2, .int .i64 n), (6, .ptr 9006 0), (7, .ptr 9007 0), (8, .int .i64 (j1 : Int))]) (fun j1 => fun sg => match sg with | (m_1, m_2, m_3) => [(900000071, .cells 71 [.lst false (ml eInt m_2), .int .i64 m_3]), (9006, .cells 29 [.int .i64 (0:Int), .int .i64 (0:Int), .bool false, .nils, .nils]), (9007, .cells 29 [.int .i64 router, .int .i64 vx_1.1, .bool (decide ((0:Int) < vx_2.1)), .own 700900703, .nils]), (700900703, .slice 74 3 (ml eGReach m_1) 0 false)]) ?_ ?_ ?_
  · exact Weak.go [.ac 9007 700900703 74 3 3] [] (by kernel_rfl)
  · skip
    rintro j1 Z1 ⟨m_1, m_2, m_3⟩ hj1 hx1 hm
    rw [hB1] at hm
    refine A.seq ?_
    refine A.RS W0 [] [] [(0, .ptr 900000071 0), (1, .int .i64 router), (2, .int .i64 n), (6, .ptr 9006 0), (7, .ptr 9007 0), (8, .int .i64 (j1 : Int)), (20, .bool (decide ((j1 : Int) ≤ (6:Int))))] [(900000071, .cells 71 [.lst false (ml eInt m_2), .int .i64 m_3]), (9006, .cells 29 [.int .i64 (0:Int), .int .i64 (0:Int), .bool false, .nils, .nils]), (9007, .cells 29 [.int .i64 router, .int .i64 vx_1.1, .bool (decide ((0:Int) < vx_2.1)), .own 700900703, .nils]), (700900703, .slice 74 3 (ml eGReach m_1) 0 false)] (by kernel_rfl) ?_
    refine A.cT rfl (leT hx1) ?_
    refine A.skip ?_
    show acode _ _ _ _ _
    obtain ⟨J1, hJ1, hm⟩ := jn_some hm
    refine A.J (J := J1) (r := r) (fun sg => match sg with | (m_4, m_5, m_6) => [(0, .ptr 900000071 0), (1, .int .i64 router), (2, .int .i64 n), (6, .ptr 9006 0), (7, .ptr 9007 0), (8, .int .i64 (j1 : Int))]) (fun sg => match sg with | (m_4, m_5, m_6) => [(900000071, .cells 71 [.lst false (ml eInt m_4), .int .i64 m_5]), (9006, .cells 29 [.int .i64 (0:Int), .int .i64 (0:Int), .bool false, .nils, .nils]), (9007, .cells 29 [.int .i64 router, .int .i64 vx_1.1, .bool (decide ((0:Int) < vx_2.1)), .own 700900703, .nils]), (700900703, .slice 74 3 (ml eGReach m_6) 0 false)]) ?_ ?_
    · skip
      refine A.block ?_
      obtain ⟨J2, hJ2, hm⟩ := jn_some hm
      refine A.J (J := J2) (r := r) (fun sg => match sg with | (v_1, m_7, m_8) => [(0, .ptr 900000071 0), (1, .int .i64 router), (2, .int .i64 n), (6, .ptr 9006 0), (7, .ptr 9007 0), (8, .int .i64 (j1 : Int)), (30, .bool v_1)]) (fun sg => match sg with | (v_1, m_7, m_8) => [(900000071, .cells 71 [.lst false (ml eInt m_7), .int .i64 m_8]), (9006, .cells 29 [.int .i64 (0:Int), .int .i64 (0:Int), .bool false, .nils, .nils]), (9007, .cells 29 [.int .i64 router, .int .i64 vx_1.1, .bool (decide ((0:Int) < vx_2.1)), .own 700900703, .nils]), (700900703, .slice 74 3 (ml eGReach m_1) 0 false)]) ?_ ?_
      · skip
        rcases cs_some hm with ⟨c1, hm⟩ | ⟨c1, hm⟩
        · skip
          obtain ⟨vx_3, h3, hm⟩ := bnd_some hm
          refine A.R W0 [] [(3, hto (bE c1)), (5, hdc [] (m_mk_Tape_Next_ok h3) ck12)] [(0, .ptr 900000071 0), (1, .int .i64 router), (2, .int .i64 n), (6, .ptr 9006 0), (7, .ptr 9007 0), (8, .int .i64 (j1 : Int)), (30, .bool (decide (vx_3.1 = (0:Int))))] [(900000071, .cells 71 [.lst false (ml eInt vx_3.2.L), .int .i64 vx_3.2.At]), (9006, .cells 29 [.int .i64 (0:Int), .int .i64 (0:Int), .bool false, .nils, .nils]), (9007, .cells 29 [.int .i64 router, .int .i64 vx_1.1, .bool (decide ((0:Int) < vx_2.1)), .own 700900703, .nils]), (700900703, .slice 74 3 (ml eGReach m_1) 0 false)] (by kernel_rfl) ?_
          exact Exists.intro (decide (vx_3.1 = (0:Int)), vx_3.2.L, vx_3.2.At) (And.intro hm (Weak.go [] [] (by kernel_rfl)))
        refine A.R W0 [] [(3, hto (bE c1))] [(0, .ptr 900000071 0), (1, .int .i64 router), (2, .int .i64 n), (6, .ptr 9006 0), (7, .ptr 9007 0), (8, .int .i64 (j1 : Int)), (30, .bool false)] [(900000071, .cells 71 [.lst false (ml eInt m_2), .int .i64 m_3]), (9006, .cells 29 [.int .i64 (0:Int), .int .i64 (0:Int), .bool false, .nils, .nils]), (9007, .cells 29 [.int .i64 router, .int .i64 vx_1.1, .bool (decide ((0:Int) < vx_2.1)), .own 700900703, .nils]), (700900703, .slice 74 3 (ml eGReach m_1) 0 false)] (by kernel_rfl) ?_
        exact Exists.intro (false, m_2, m_3) (And.intro hm (Weak.go [] [] (by kernel_rfl)))
      rintro ⟨v_1, m_7, m_8⟩ hm
      rw [hJ2] at hm
      rcases cs_some hm with ⟨c2, hm⟩ | ⟨c2, hm⟩
      · skip
        refine A.cT rfl c2 ?_
        obtain ⟨vx_4, h4, hm⟩ := bnd_some hm
        obtain ⟨vx_5, h5, hm⟩ := bnd_some hm
        obtain ⟨l_1, h6, hm⟩ := bnd_some hm
        refine A.R W0 [] [(4, hdc [] (m_mk_Tape_Range_ok h4) ck10), (6, hdc [] (m_mk_Tape_Next_ok h5) ck12), (9, hap 9540 (ap eGReach (bytes := 24) (by decide) h6))] [(0, .ptr 900000071 0), (1, .int .i64 router), (2, .int .i64 n), (6, .ptr 9006 0), (7, .ptr 9007 0), (8, .int .i64 (j1 : Int))] [(900000071, .cells 71 [.lst false (ml eInt vx_5.2.L), .int .i64 vx_5.2.At]), (9006, .cells 29 [.int .i64 (0:Int), .int .i64 (0:Int), .bool false, .nils, .nils]), (9007, .cells 29 [.int .i64 router, .int .i64 vx_1.1, .bool (decide ((0:Int) < vx_2.1)), .own 9540, .nils]), (9540, .slice 74 3 (ml eGReach l_1) 0 false)] (by kernel_rfl) ?_
        exact Exists.intro (vx_5.2.L, vx_5.2.At, l_1) (And.intro hm (Weak.go [.sw 9540 700900703] [] (by kernel_rfl)))
      refine A.cF rfl c2 ?_
      refine A.skip ?_
      exact Exists.intro (m_7, m_8, m_1) (And.intro hm (Weak.go [] [] (by kernel_rfl)))
    rintro ⟨m_4, m_5, m_6⟩ hm
    rw [hJ1] at hm
    refine A.R W0 [] [(1, hto (incN (by omega) hx1 (by decide)))] [(0, .ptr 900000071 0), (1, .int .i64 router), (2, .int .i64 n), (6, .ptr 9006 0), (7, .ptr 9007 0), (8, .int .i64 (j1 + 1 : Int))] [(900000071, .cells 71 [.lst false (ml eInt m_4), .int .i64 m_5]), (9006, .cells 29 [.int .i64 (0:Int), .int .i64 (0:Int), .bool false, .nils, .nils]), (9007, .cells 29 [.int .i64 router, .int .i64 vx_1.1, .bool (decide ((0:Int) < vx_2.1)), .own 700900703, .nils]), (700900703, .slice 74 3 (ml eGReach m_6) 0 false)] (by kernel_rfl) ?_
    exact Exists.intro (m_6, m_4, m_5) (And.intro hm (Weak.go [] [] (by kernel_rfl)))
  rintro j1 ⟨m_1, m_2, m_3⟩ hj1 hl1 hm
  rw [hK1] at hm
  refine A.seq ?_
  refine A.RS W0 [] [] [(0, .ptr 900000071 0), (1, .int .i64 router), (2, .int .i64 n), (6, .ptr 9006 0), (7, .ptr 9007 0), (8, .int .i64 (j1 : Int)), (20, .bool (decide ((j1 : Int) ≤ (6:Int))))] [(900000071, .cells 71 [.lst false (ml eInt m_2), .int .i64 m_3]), (9006, .cells 29 [.int .i64 (0:Int), .int .i64 (0:Int), .bool false, .nils, .nils]), (9007, .cells 29 [.int .i64 router, .int .i64 vx_1.1, .bool (decide ((0:Int) < vx_2.1)), .own 700900703, .nils]), (700900703, .slice 74 3 (ml eGReach m_1) 0 false)] (by kernel_rfl) ?_
  refine A.cF rfl (gtF hl1) ?_
  refine A.exit ?_
  show acode _ _ _ _ _
  refine A.seq ?_
  refine A.RS W0 [] [] [(0, .ptr 900000071 0), (1, .int .i64 router), (2, .int .i64 n), (6, .ptr 9006 0), (7, .ptr 9007 0), (9, .int .i64 (0:Int))] [(900000071, .cells 71 [.lst false (ml eInt m_2), .int .i64 m_3]), (9006, .cells 29 [.int .i64 (0:Int), .int .i64 (0:Int), .bool false, .nils, .nils]), (9007, .cells 29 [.int .i64 router, .int .i64 vx_1.1, .bool (decide ((0:Int) < vx_2.1)), .own 700900703, .nils]), (700900703, .slice 74 3 (ml eGReach m_1) 0 false)] (by kernel_rfl) ?_
  refine A.block ?_
  obtain ⟨B2, K2, hB2, hK2, hm⟩ := forN_some hm
  refine A.lpN (hi := (2:Int)) (B := B2) (K := K2) hm rfl (fun j2 => fun sg => match sg with | (m_9, m_10, m_11) => [(0, .ptr 900000071 0), (1, .int .i64 router), (2, .int .i64 n), (6, .ptr 9006 0), (7, .ptr 9007 0), (9, .int .i64 (j2 : Int))]) (fun j2 => fun sg => match sg with | (m_9, m_10, m_11) => [(900000071, .cells 71 [.lst false (ml eInt m_10), .int .i64 m_11]), (9006, .cells 29 [.int .i64 (0:Int), .int .i64 (0:Int), .bool false, .nils, .nils]), (9007, .cells 29 [.int .i64 router, .int .i64 vx_1.1, .bool (decide ((0:Int) < vx_2.1)), .own 700900703, .own 700900704]), (700900703, .slice 74 3 (ml eGReach m_1) 0 false), (700900704, .slice 77 3 (ml eGClaim m_9) 0 false)]) ?_ ?_ ?_
  · exact Weak.go [.ac 9007 700900704 77 3 4] [] (by kernel_rfl)
  · skip
    rintro j2 Z2 ⟨m_9, m_10, m_11⟩ hj2 hx2 hm
    rw [hB2] at hm
    refine A.seq ?_
    refine A.RS W0 [] [] [(0, .ptr 900000071 0), (1, .int .i64 router), (2, .int .i64 n), (6, .ptr 9006 0), (7, .ptr 9007 0), (9, .int .i64 (j2 : Int)), (43, .bool (decide ((j2 : Int) < (2:Int))))] [(900000071, .cells 71 [.lst false (ml eInt m_10), .int .i64 m_11]), (9006, .cells 29 [.int .i64 (0:Int), .int .i64 (0:Int), .bool false, .nils, .nils]), (9007, .cells 29 [.int .i64 router, .int .i64 vx_1.1, .bool (decide ((0:Int) < vx_2.1)), .own 700900703, .own 700900704]), (700900703, .slice 74 3 (ml eGReach m_1) 0 false), (700900704, .slice 77 3 (ml eGClaim m_9) 0 false)] (by kernel_rfl) ?_
    refine A.cT rfl (decide_eq_true hx2) ?_
    refine A.skip ?_
    show acode _ _ _ _ _
    obtain ⟨J3, hJ3, hm⟩ := jn_some hm
    refine A.J (J := J3) (r := r) (fun sg => match sg with | (m_12, m_13, m_14) => [(0, .ptr 900000071 0), (1, .int .i64 router), (2, .int .i64 n), (6, .ptr 9006 0), (7, .ptr 9007 0), (9, .int .i64 (j2 : Int))]) (fun sg => match sg with | (m_12, m_13, m_14) => [(900000071, .cells 71 [.lst false (ml eInt m_12), .int .i64 m_13]), (9006, .cells 29 [.int .i64 (0:Int), .int .i64 (0:Int), .bool false, .nils, .nils]), (9007, .cells 29 [.int .i64 router, .int .i64 vx_1.1, .bool (decide ((0:Int) < vx_2.1)), .own 700900703, .own 700900704]), (700900703, .slice 74 3 (ml eGReach m_1) 0 false), (700900704, .slice 77 3 (ml eGClaim m_14) 0 false)]) ?_ ?_
    · skip
      refine A.block ?_
      obtain ⟨vx_6, h7, hm⟩ := bnd_some hm
      refine A.RS W0 [] [(1, hdc [] (m_mk_Tape_Next_ok h7) ck12)] [(0, .ptr 900000071 0), (1, .int .i64 router), (2, .int .i64 n), (6, .ptr 9006 0), (7, .ptr 9007 0), (9, .int .i64 (j2 : Int)), (48, .bool (decide (vx_6.1 = (0:Int))))] [(900000071, .cells 71 [.lst false (ml eInt vx_6.2.L), .int .i64 vx_6.2.At]), (9006, .cells 29 [.int .i64 (0:Int), .int .i64 (0:Int), .bool false, .nils, .nils]), (9007, .cells 29 [.int .i64 router, .int .i64 vx_1.1, .bool (decide ((0:Int) < vx_2.1)), .own 700900703, .own 700900704]), (700900703, .slice 74 3 (ml eGReach m_1) 0 false), (700900704, .slice 77 3 (ml eGClaim m_9) 0 false)] (by kernel_rfl) ?_
      rcases cs_some hm with ⟨c3, hm⟩ | ⟨c3, hm⟩
      · skip
        refine A.cT rfl c3 ?_
        obtain ⟨vx_7, h8, hm⟩ := bnd_some hm
        obtain ⟨vx_8, h9, hm⟩ := bnd_some hm
        obtain ⟨l_2, h10, hm⟩ := bnd_some hm
        refine A.R W0 [] [(4, hdc [] (m_mk_Tape_Range_ok h8) ck10), (6, hdc [] (m_mk_Tape_Length_ok h9) ck32), (9, hap 9558 (ap eGClaim (bytes := 24) (by decide) h10))] [(0, .ptr 900000071 0), (1, .int .i64 router), (2, .int .i64 n), (6, .ptr 9006 0), (7, .ptr 9007 0), (9, .int .i64 (j2 : Int))] [(900000071, .cells 71 [.lst false (ml eInt vx_8.2.L), .int .i64 vx_8.2.At]), (9006, .cells 29 [.int .i64 (0:Int), .int .i64 (0:Int), .bool false, .nils, .nils]), (9007, .cells 29 [.int .i64 router, .int .i64 vx_1.1, .bool (decide ((0:Int) < vx_2.1)), .own 700900703, .own 9558]), (700900703, .slice 74 3 (ml eGReach m_1) 0 false), (9558, .slice 77 3 (ml eGClaim l_2) 0 false)] (by kernel_rfl) ?_
        exact Exists.intro (vx_8.2.L, vx_8.2.At, l_2) (And.intro hm (Weak.go [.sw 9558 700900704] [] (by kernel_rfl)))
      refine A.cF rfl c3 ?_
      refine A.skip ?_
      exact Exists.intro (vx_6.2.L, vx_6.2.At, m_9) (And.intro hm (Weak.go [] [] (by kernel_rfl)))
    rintro ⟨m_12, m_13, m_14⟩ hm
    rw [hJ3] at hm
    refine A.R W0 [] [(1, hto (incN (by omega) hx2 (by decide)))] [(0, .ptr 900000071 0), (1, .int .i64 router), (2, .int .i64 n), (6, .ptr 9006 0), (7, .ptr 9007 0), (9, .int .i64 (j2 + 1 : Int))] [(900000071, .cells 71 [.lst false (ml eInt m_12), .int .i64 m_13]), (9006, .cells 29 [.int .i64 (0:Int), .int .i64 (0:Int), .bool false, .nils, .nils]), (9007, .cells 29 [.int .i64 router, .int .i64 vx_1.1, .bool (decide ((0:Int) < vx_2.1)), .own 700900703, .own 700900704]), (700900703, .slice 74 3 (ml eGReach m_1) 0 false), (700900704, .slice 77 3 (ml eGClaim m_14) 0 false)] (by kernel_rfl) ?_
    exact Exists.intro (m_14, m_12, m_13) (And.intro hm (Weak.go [] [] (by kernel_rfl)))
  rintro j2 ⟨m_9, m_10, m_11⟩ hj2 hl2 hm
  rw [hK2] at hm
  refine A.seq ?_
  refine A.RS W0 [] [] [(0, .ptr 900000071 0), (1, .int .i64 router), (2, .int .i64 n), (6, .ptr 9006 0), (7, .ptr 9007 0), (9, .int .i64 (j2 : Int)), (43, .bool (decide ((j2 : Int) < (2:Int))))] [(900000071, .cells 71 [.lst false (ml eInt m_10), .int .i64 m_11]), (9006, .cells 29 [.int .i64 (0:Int), .int .i64 (0:Int), .bool false, .nils, .nils]), (9007, .cells 29 [.int .i64 router, .int .i64 vx_1.1, .bool (decide ((0:Int) < vx_2.1)), .own 700900703, .own 700900704]), (700900703, .slice 74 3 (ml eGReach m_1) 0 false), (700900704, .slice 77 3 (ml eGClaim m_9) 0 false)] (by kernel_rfl) ?_
  refine A.cF rfl (geF hl2) ?_
  refine A.exit ?_
  show acode _ _ _ _ _
  obtain ⟨J4, hJ4, hm⟩ := jn_some hm
  refine A.J (J := J4) (r := r) (fun sg => match sg with | (m_15, m_16, m_17, m_18, m_19, m_20) => [(6, .ptr 9006 0), (7, .ptr 9007 0)]) (fun sg => match sg with | (m_15, m_16, m_17, m_18, m_19, m_20) => [(900000071, .cells 71 [.lst false (ml eInt m_15), .int .i64 m_16]), (9006, .cells 29 [.int .i64 (0:Int), .int .i64 (0:Int), .bool false, .nils, .nils]), (9007, .cells 29 [.int .i64 m_17, .int .i64 m_18, .bool (decide ((0:Int) < vx_2.1)), .own 700900703, .own 700900704]), (700900703, .slice 74 3 (ml eGReach m_19) 0 false), (700900704, .slice 77 3 (ml eGClaim m_20) 0 false)]) ?_ ?_
  · skip
    obtain ⟨J5, hJ5, hm⟩ := jn_some hm
    refine A.J (J := J5) (r := r) (fun sg => match sg with | (v_2, m_21, m_22) => [(0, .ptr 900000071 0), (1, .int .i64 router), (6, .ptr 9006 0), (7, .ptr 9007 0), (66, .bool v_2)]) (fun sg => match sg with | (v_2, m_21, m_22) => [(900000071, .cells 71 [.lst false (ml eInt m_21), .int .i64 m_22]), (9006, .cells 29 [.int .i64 (0:Int), .int .i64 (0:Int), .bool false, .nils, .nils]), (9007, .cells 29 [.int .i64 router, .int .i64 vx_1.1, .bool (decide ((0:Int) < vx_2.1)), .own 700900703, .own 700900704]), (700900703, .slice 74 3 (ml eGReach m_1) 0 false), (700900704, .slice 77 3 (ml eGClaim m_9) 0 false)]) ?_ ?_
    · skip
      rcases cs_some hm with ⟨c4, hm⟩ | ⟨c4, hm⟩
      · skip
        obtain ⟨vx_9, h11, hm⟩ := bnd_some hm
        refine A.R W0 [] [(2, hto (bE c4)), (5, hdc [] (m_mk_Tape_One_ok h11) ck11)] [(0, .ptr 900000071 0), (1, .int .i64 router), (6, .ptr 9006 0), (7, .ptr 9007 0), (66, .bool vx_9.1)] [(900000071, .cells 71 [.lst false (ml eInt vx_9.2.L), .int .i64 vx_9.2.At]), (9006, .cells 29 [.int .i64 (0:Int), .int .i64 (0:Int), .bool false, .nils, .nils]), (9007, .cells 29 [.int .i64 router, .int .i64 vx_1.1, .bool (decide ((0:Int) < vx_2.1)), .own 700900703, .own 700900704]), (700900703, .slice 74 3 (ml eGReach m_1) 0 false), (700900704, .slice 77 3 (ml eGClaim m_9) 0 false)] (by kernel_rfl) ?_
        exact Exists.intro (vx_9.1, vx_9.2.L, vx_9.2.At) (And.intro hm (Weak.go [] [] (by kernel_rfl)))
      refine A.R W0 [] [(2, hto (bE c4))] [(0, .ptr 900000071 0), (1, .int .i64 router), (6, .ptr 9006 0), (7, .ptr 9007 0), (66, .bool false)] [(900000071, .cells 71 [.lst false (ml eInt m_10), .int .i64 m_11]), (9006, .cells 29 [.int .i64 (0:Int), .int .i64 (0:Int), .bool false, .nils, .nils]), (9007, .cells 29 [.int .i64 router, .int .i64 vx_1.1, .bool (decide ((0:Int) < vx_2.1)), .own 700900703, .own 700900704]), (700900703, .slice 74 3 (ml eGReach m_1) 0 false), (700900704, .slice 77 3 (ml eGClaim m_9) 0 false)] (by kernel_rfl) ?_
      exact Exists.intro (false, m_10, m_11) (And.intro hm (Weak.go [] [] (by kernel_rfl)))
    rintro ⟨v_2, m_21, m_22⟩ hm
    rw [hJ5] at hm
    rcases cs_some hm with ⟨c5, hm⟩ | ⟨c5, hm⟩
    · skip
      refine A.cT rfl c5 ?_
      obtain ⟨vx_10, h12, hm⟩ := bnd_some hm
      refine A.RS W0 [] [(1, hdc [] (m_mk_Tape_Next_ok h12) ck12)] [(0, .ptr 900000071 0), (1, .int .i64 router), (6, .ptr 9006 0), (7, .ptr 9007 0), (68, .int .i64 vx_10.1)] [(900000071, .cells 71 [.lst false (ml eInt vx_10.2.L), .int .i64 vx_10.2.At]), (9006, .cells 29 [.int .i64 (0:Int), .int .i64 (0:Int), .bool false, .nils, .nils]), (9007, .cells 29 [.int .i64 router, .int .i64 vx_1.1, .bool (decide ((0:Int) < vx_2.1)), .own 700900703, .own 700900704]), (700900703, .slice 74 3 (ml eGReach m_1) 0 false), (700900704, .slice 77 3 (ml eGClaim m_9) 0 false)] (by kernel_rfl) ?_
      refine A.block ?_
      refine A.RS W0 [] [] [(0, .ptr 900000071 0), (1, .int .i64 router), (6, .ptr 9006 0), (7, .ptr 9007 0), (68, .int .i64 vx_10.1), (79, .bool (decide (vx_10.1 = (0:Int))))] [(900000071, .cells 71 [.lst false (ml eInt vx_10.2.L), .int .i64 vx_10.2.At]), (9006, .cells 29 [.int .i64 (0:Int), .int .i64 (0:Int), .bool false, .nils, .nils]), (9007, .cells 29 [.int .i64 router, .int .i64 vx_1.1, .bool (decide ((0:Int) < vx_2.1)), .own 700900703, .own 700900704]), (700900703, .slice 74 3 (ml eGReach m_1) 0 false), (700900704, .slice 77 3 (ml eGClaim m_9) 0 false)] (by kernel_rfl) ?_
      rcases cs_some hm with ⟨c6, hm⟩ | ⟨c6, hm⟩
      · skip
        refine A.cT rfl c6 ?_
        obtain ⟨vx_11, h13, hm⟩ := bnd_some hm
        refine A.R W0 [] [(1, hdc [] (m_mk_Tape_Wild_ok h13) ck33)] [(6, .ptr 9006 0), (7, .ptr 9007 0)] [(900000071, .cells 71 [.lst false (ml eInt vx_11.2.L), .int .i64 vx_11.2.At]), (9006, .cells 29 [.int .i64 (0:Int), .int .i64 (0:Int), .bool false, .nils, .nils]), (9007, .cells 29 [.int .i64 vx_11.1, .int .i64 vx_1.1, .bool (decide ((0:Int) < vx_2.1)), .own 700900703, .own 700900704]), (700900703, .slice 74 3 (ml eGReach m_1) 0 false), (700900704, .slice 77 3 (ml eGClaim m_9) 0 false)] (by kernel_rfl) ?_
        exact Exists.intro (vx_11.2.L, vx_11.2.At, vx_11.1, vx_1.1, m_1, m_9) (And.intro hm (Weak.go [] [] (by kernel_rfl)))
      refine A.cF rfl c6 ?_
      refine A.RS W0 [] [] [(0, .ptr 900000071 0), (1, .int .i64 router), (6, .ptr 9006 0), (7, .ptr 9007 0), (68, .int .i64 vx_10.1), (84, .bool (decide (vx_10.1 = (1:Int))))] [(900000071, .cells 71 [.lst false (ml eInt vx_10.2.L), .int .i64 vx_10.2.At]), (9006, .cells 29 [.int .i64 (0:Int), .int .i64 (0:Int), .bool false, .nils, .nils]), (9007, .cells 29 [.int .i64 router, .int .i64 vx_1.1, .bool (decide ((0:Int) < vx_2.1)), .own 700900703, .own 700900704]), (700900703, .slice 74 3 (ml eGReach m_1) 0 false), (700900704, .slice 77 3 (ml eGClaim m_9) 0 false)] (by kernel_rfl) ?_
      rcases cs_some hm with ⟨c7, hm⟩ | ⟨c7, hm⟩
      · skip
        refine A.cT rfl c7 ?_
        obtain ⟨vx_12, h14, hm⟩ := bnd_some hm
        refine A.R W0 [] [(1, hdc [] (m_mk_Tape_Wild_ok h14) ck33)] [(6, .ptr 9006 0), (7, .ptr 9007 0)] [(900000071, .cells 71 [.lst false (ml eInt vx_12.2.L), .int .i64 vx_12.2.At]), (9006, .cells 29 [.int .i64 (0:Int), .int .i64 (0:Int), .bool false, .nils, .nils]), (9007, .cells 29 [.int .i64 router, .int .i64 vx_12.1, .bool (decide ((0:Int) < vx_2.1)), .own 700900703, .own 700900704]), (700900703, .slice 74 3 (ml eGReach m_1) 0 false), (700900704, .slice 77 3 (ml eGClaim m_9) 0 false)] (by kernel_rfl) ?_
        exact Exists.intro (vx_12.2.L, vx_12.2.At, router, vx_12.1, m_1, m_9) (And.intro hm (Weak.go [] [] (by kernel_rfl)))
      refine A.cF rfl c7 ?_
      refine A.RS W0 [] [] [(0, .ptr 900000071 0), (1, .int .i64 router), (6, .ptr 9006 0), (7, .ptr 9007 0), (68, .int .i64 vx_10.1), (89, .bool (decide (vx_10.1 = (2:Int))))] [(900000071, .cells 71 [.lst false (ml eInt vx_10.2.L), .int .i64 vx_10.2.At]), (9006, .cells 29 [.int .i64 (0:Int), .int .i64 (0:Int), .bool false, .nils, .nils]), (9007, .cells 29 [.int .i64 router, .int .i64 vx_1.1, .bool (decide ((0:Int) < vx_2.1)), .own 700900703, .own 700900704]), (700900703, .slice 74 3 (ml eGReach m_1) 0 false), (700900704, .slice 77 3 (ml eGClaim m_9) 0 false)] (by kernel_rfl) ?_
      rcases cs_some hm with ⟨c8, hm⟩ | ⟨c8, hm⟩
      · skip
        refine A.cT rfl c8 ?_
        obtain ⟨vx_13, h15, hm⟩ := bnd_some hm
        obtain ⟨vx_14, h16, hm⟩ := bnd_some hm
        obtain ⟨vx_15, h17, hm⟩ := bnd_some hm
        obtain ⟨l_3, h18, hm⟩ := bnd_some hm
        refine A.R W0 [] [(5, hdc [] (m_mk_Tape_Pick_ok h15) ck31), (8, hdc [] (m_mk_Tape_Pick_ok h16) ck31), (11, hdc [] (m_mk_Tape_Pick_ok h17) ck31), (14, hap 9605 (ap eGReach (bytes := 24) (by decide) h18))] [(6, .ptr 9006 0), (7, .ptr 9007 0)] [(900000071, .cells 71 [.lst false (ml eInt vx_15.2.L), .int .i64 vx_15.2.At]), (9006, .cells 29 [.int .i64 (0:Int), .int .i64 (0:Int), .bool false, .nils, .nils]), (9007, .cells 29 [.int .i64 router, .int .i64 vx_1.1, .bool (decide ((0:Int) < vx_2.1)), .own 9605, .own 700900704]), (700900704, .slice 77 3 (ml eGClaim m_9) 0 false), (9605, .slice 74 3 (ml eGReach l_3) 0 false)] (by kernel_rfl) ?_
        exact Exists.intro (vx_15.2.L, vx_15.2.At, router, vx_1.1, l_3, m_9) (And.intro hm (Weak.go [.sw 9605 700900703] [] (by kernel_rfl)))
      refine A.cF rfl c8 ?_
      refine A.RS W0 [] [] [(0, .ptr 900000071 0), (6, .ptr 9006 0), (7, .ptr 9007 0), (68, .int .i64 vx_10.1), (107, .bool (decide (vx_10.1 = (3:Int))))] [(900000071, .cells 71 [.lst false (ml eInt vx_10.2.L), .int .i64 vx_10.2.At]), (9006, .cells 29 [.int .i64 (0:Int), .int .i64 (0:Int), .bool false, .nils, .nils]), (9007, .cells 29 [.int .i64 router, .int .i64 vx_1.1, .bool (decide ((0:Int) < vx_2.1)), .own 700900703, .own 700900704]), (700900703, .slice 74 3 (ml eGReach m_1) 0 false), (700900704, .slice 77 3 (ml eGClaim m_9) 0 false)] (by kernel_rfl) ?_
      rcases cs_some hm with ⟨c9, hm⟩ | ⟨c9, hm⟩
      · skip
        refine A.cT rfl c9 ?_
        obtain ⟨vx_16, h19, hm⟩ := bnd_some hm
        obtain ⟨vx_17, h20, hm⟩ := bnd_some hm
        obtain ⟨vx_18, h21, hm⟩ := bnd_some hm
        obtain ⟨l_4, h22, hm⟩ := bnd_some hm
        refine A.R W0 [] [(4, hdc [] (m_mk_Tape_Pick_ok h19) ck31), (7, hdc [] (m_mk_Tape_Pick_ok h20) ck31), (10, hdc [] (m_mk_Tape_Pick_ok h21) ck31), (13, hap 9622 (ap eGClaim (bytes := 24) (by decide) h22))] [(6, .ptr 9006 0), (7, .ptr 9007 0)] [(900000071, .cells 71 [.lst false (ml eInt vx_18.2.L), .int .i64 vx_18.2.At]), (9006, .cells 29 [.int .i64 (0:Int), .int .i64 (0:Int), .bool false, .nils, .nils]), (9007, .cells 29 [.int .i64 router, .int .i64 vx_1.1, .bool (decide ((0:Int) < vx_2.1)), .own 700900703, .own 9622]), (700900703, .slice 74 3 (ml eGReach m_1) 0 false), (9622, .slice 77 3 (ml eGClaim l_4) 0 false)] (by kernel_rfl) ?_
        exact Exists.intro (vx_18.2.L, vx_18.2.At, router, vx_1.1, m_1, l_4) (And.intro hm (Weak.go [.sw 9622 700900704] [] (by kernel_rfl)))
      refine A.cF rfl c9 ?_
      refine A.RS W0 [] [] [(0, .ptr 900000071 0), (6, .ptr 9006 0), (7, .ptr 9007 0), (124, .bool (decide (vx_10.1 = (4:Int))))] [(900000071, .cells 71 [.lst false (ml eInt vx_10.2.L), .int .i64 vx_10.2.At]), (9006, .cells 29 [.int .i64 (0:Int), .int .i64 (0:Int), .bool false, .nils, .nils]), (9007, .cells 29 [.int .i64 router, .int .i64 vx_1.1, .bool (decide ((0:Int) < vx_2.1)), .own 700900703, .own 700900704]), (700900703, .slice 74 3 (ml eGReach m_1) 0 false), (700900704, .slice 77 3 (ml eGClaim m_9) 0 false)] (by kernel_rfl) ?_
      rcases cs_some hm with ⟨c10, hm⟩ | ⟨c10, hm⟩
      · skip
        refine A.cT rfl c10 ?_
        refine A.RS W0 [] [] [(6, .ptr 9006 0), (7, .ptr 9007 0), (10, .int .i64 (30:Int))] [(900000071, .cells 71 [.lst false (ml eInt vx_10.2.L), .int .i64 vx_10.2.At]), (9006, .cells 29 [.int .i64 (0:Int), .int .i64 (0:Int), .bool false, .nils, .nils]), (9007, .cells 29 [.int .i64 router, .int .i64 vx_1.1, .bool (decide ((0:Int) < vx_2.1)), .own 700900703, .own 700900704]), (700900703, .slice 74 3 (ml eGReach m_1) 0 false), (700900704, .slice 77 3 (ml eGClaim m_9) 0 false)] (by kernel_rfl) ?_
        refine A.block ?_
        obtain ⟨B3, K3, hB3, hK3, hm⟩ := forN_some hm
        refine A.lpN (hi := (54:Int)) (B := B3) (K := K3) hm rfl (fun j3 => fun m_23 => [(6, .ptr 9006 0), (7, .ptr 9007 0), (10, .int .i64 (j3 : Int))]) (fun j3 => fun m_23 => [(900000071, .cells 71 [.lst false (ml eInt vx_10.2.L), .int .i64 vx_10.2.At]), (9006, .cells 29 [.int .i64 (0:Int), .int .i64 (0:Int), .bool false, .nils, .nils]), (9007, .cells 29 [.int .i64 router, .int .i64 vx_1.1, .bool (decide ((0:Int) < vx_2.1)), .own 700900703, .own 700900704]), (700900703, .slice 74 3 (ml eGReach m_23) 0 false), (700900704, .slice 77 3 (ml eGClaim m_9) 0 false)]) ?_ ?_ ?_
        · exact Weak.go [] [] (by kernel_rfl)
        · skip
          rintro j3 Z3 m_23 hj3 hx3 hm
          rw [hB3] at hm
          refine A.seq ?_
          refine A.RS W0 [] [] [(6, .ptr 9006 0), (7, .ptr 9007 0), (10, .int .i64 (j3 : Int)), (127, .bool (decide ((j3 : Int) < (54:Int))))] [(900000071, .cells 71 [.lst false (ml eInt vx_10.2.L), .int .i64 vx_10.2.At]), (9006, .cells 29 [.int .i64 (0:Int), .int .i64 (0:Int), .bool false, .nils, .nils]), (9007, .cells 29 [.int .i64 router, .int .i64 vx_1.1, .bool (decide ((0:Int) < vx_2.1)), .own 700900703, .own 700900704]), (700900703, .slice 74 3 (ml eGReach m_23) 0 false), (700900704, .slice 77 3 (ml eGClaim m_9) 0 false)] (by kernel_rfl) ?_
          refine A.cT rfl (decide_eq_true hx3) ?_
          refine A.skip ?_
          show acode _ _ _ _ _
          refine A.seq ?_
          refine A.block ?_
          obtain ⟨l_5, h23, hm⟩ := bnd_some hm
          refine A.R W0 [] [(5, hap 9635 (ap eGReach (bytes := 24) (by decide) h23))] [(6, .ptr 9006 0), (7, .ptr 9007 0), (10, .int .i64 (j3 : Int))] [(900000071, .cells 71 [.lst false (ml eInt vx_10.2.L), .int .i64 vx_10.2.At]), (9006, .cells 29 [.int .i64 (0:Int), .int .i64 (0:Int), .bool false, .nils, .nils]), (9007, .cells 29 [.int .i64 router, .int .i64 vx_1.1, .bool (decide ((0:Int) < vx_2.1)), .own 9635, .own 700900704]), (700900704, .slice 77 3 (ml eGClaim m_9) 0 false), (9635, .slice 74 3 (ml eGReach l_5) 0 false)] (by kernel_rfl) ?_
          show acode _ _ _ _ _
          refine A.R W0 [] [(1, hto (incN (by omega) hx3 (by decide)))] [(6, .ptr 9006 0), (7, .ptr 9007 0), (10, .int .i64 (j3 + 1 : Int))] [(900000071, .cells 71 [.lst false (ml eInt vx_10.2.L), .int .i64 vx_10.2.At]), (9006, .cells 29 [.int .i64 (0:Int), .int .i64 (0:Int), .bool false, .nils, .nils]), (9007, .cells 29 [.int .i64 router, .int .i64 vx_1.1, .bool (decide ((0:Int) < vx_2.1)), .own 9635, .own 700900704]), (700900704, .slice 77 3 (ml eGClaim m_9) 0 false), (9635, .slice 74 3 (ml eGReach l_5) 0 false)] (by kernel_rfl) ?_
          exact Exists.intro l_5 (And.intro hm (Weak.go [.sw 9635 700900703] [] (by kernel_rfl)))
        rintro j3 m_23 hj3 hl3 hm
        rw [hK3] at hm
        refine A.seq ?_
        refine A.RS W0 [] [] [(6, .ptr 9006 0), (7, .ptr 9007 0), (10, .int .i64 (j3 : Int)), (127, .bool (decide ((j3 : Int) < (54:Int))))] [(900000071, .cells 71 [.lst false (ml eInt vx_10.2.L), .int .i64 vx_10.2.At]), (9006, .cells 29 [.int .i64 (0:Int), .int .i64 (0:Int), .bool false, .nils, .nils]), (9007, .cells 29 [.int .i64 router, .int .i64 vx_1.1, .bool (decide ((0:Int) < vx_2.1)), .own 700900703, .own 700900704]), (700900703, .slice 74 3 (ml eGReach m_23) 0 false), (700900704, .slice 77 3 (ml eGClaim m_9) 0 false)] (by kernel_rfl) ?_
        refine A.cF rfl (geF hl3) ?_
        refine A.exit ?_
        exact Exists.intro (vx_10.2.L, vx_10.2.At, router, vx_1.1, m_23, m_9) (And.intro hm (Weak.go [] [] (by kernel_rfl)))
      refine A.cF rfl c10 ?_
      refine A.RS W0 [] [(2, hto (lnE eGReach m_1))] [(0, .ptr 900000071 0), (6, .ptr 9006 0), (7, .ptr 9007 0), (72, .bool (decide ((0:Int) < (m_1.length:Int))))] [(900000071, .cells 71 [.lst false (ml eInt vx_10.2.L), .int .i64 vx_10.2.At]), (9006, .cells 29 [.int .i64 (0:Int), .int .i64 (0:Int), .bool false, .nils, .nils]), (9007, .cells 29 [.int .i64 router, .int .i64 vx_1.1, .bool (decide ((0:Int) < vx_2.1)), .own 700900703, .own 700900704]), (700900703, .slice 74 3 (ml eGReach m_1) 0 false), (700900704, .slice 77 3 (ml eGClaim m_9) 0 false)] (by kernel_rfl) ?_
      rcases cs_some hm with ⟨c11, hm⟩ | ⟨c11, hm⟩
      · skip
        refine A.cT rfl c11 ?_
        obtain ⟨vx_19, h24, hm⟩ := bnd_some hm
        obtain ⟨e_1, h25, hm⟩ := bnd_some hm
        obtain ⟨l_6, h26, hm⟩ := bnd_some hm
        refine A.R W0 [] [(3, hdc [] (m_mk_Tape_Wild_ok h24) ck33), (4, hix (ix eGReach h25)), (6, hso 700900703 (st eGReach (off := 1) (ca := [.int .i64 vx_19.1]) h25 h26 rfl) (elO_some h25).1.1)] [(6, .ptr 9006 0), (7, .ptr 9007 0)] [(900000071, .cells 71 [.lst false (ml eInt vx_19.2.L), .int .i64 vx_19.2.At]), (9006, .cells 29 [.int .i64 (0:Int), .int .i64 (0:Int), .bool false, .nils, .nils]), (9007, .cells 29 [.int .i64 router, .int .i64 vx_1.1, .bool (decide ((0:Int) < vx_2.1)), .own 700900703, .own 700900704]), (700900703, .slice 74 3 (ml eGReach l_6) 0 false), (700900704, .slice 77 3 (ml eGClaim m_9) 0 false)] (by kernel_rfl) ?_
        exact Exists.intro (vx_19.2.L, vx_19.2.At, router, vx_1.1, l_6, m_9) (And.intro hm (Weak.go [] [] (by kernel_rfl)))
      refine A.cF rfl c11 ?_
      refine A.skip ?_
      exact Exists.intro (vx_10.2.L, vx_10.2.At, router, vx_1.1, m_1, m_9) (And.intro hm (Weak.go [] [] (by kernel_rfl)))
    refine A.cF rfl c5 ?_
    refine A.skip ?_
    exact Exists.intro (m_21, m_22, router, vx_1.1, m_1, m_9) (And.intro hm (Weak.go [] [] (by kernel_rfl)))
  rintro ⟨m_15, m_16, m_17, m_18, m_19, m_20⟩ hm
  rw [hJ4] at hm
  refine A.RS W0 [] [] [(6, .ptr 9006 0)] [(900000071, .cells 71 [.lst false (ml eInt m_15), .int .i64 m_16]), (9006, .cells 29 [.int .i64 m_17, .int .i64 m_18, .bool (decide ((0:Int) < vx_2.1)), .own 700900703, .own 700900704]), (700900703, .slice 74 3 (ml eGReach m_19) 0 false), (700900704, .slice 77 3 (ml eGClaim m_20) 0 false)] (by kernel_rfl) ?_
  refine A.ret ?_
  obtain rfl := some_inj hm
  exact A.fin W0 [.fz [700900703, 700900704]] rfl (by kernel_rfl)
theorem m_mk_Tape_Database_ok {t : GTape} {n : Int} {r : GDatabase × GTape} (hm : m_mk_Tape_Database t n = some r) : SCalls Tryz.prog 8 [(900000071, .cells 71 [.lst false (ml eInt t.L), .int .i64 t.At])] [.ptr 900000071 0, .int .i64 n] (fun a σ' => a = .agg [.lst false (ml eGAdvert r.1.Adverts)] ∧ σ' = [(900000071, .cells 71 [.lst false (ml eInt r.2.L), .int .i64 r.2.At])]) := by
  refine enterA Tryz.func8 rfl rfl ?_
  unfold m_mk_Tape_Database at hm
  refine A.RS W0 [] [(0, .al 8004)] [(0, .ptr 900000071 0), (1, .int .i64 n), (4, .ptr 8004 0)] [(900000071, .cells 71 [.lst false (ml eInt t.L), .int .i64 t.At]), (8004, .cells 25 [.nils])] (by kernel_rfl) ?_
  refine A.RS W0 [] [(0, .al 8005)] [(0, .ptr 900000071 0), (1, .int .i64 n), (4, .ptr 8004 0), (5, .ptr 8005 0)] [(900000071, .cells 71 [.lst false (ml eInt t.L), .int .i64 t.At]), (8004, .cells 25 [.nils]), (8005, .cells 25 [.nils])] (by kernel_rfl) ?_
  refine A.seq ?_
  refine A.RS W0 [] [] [(0, .ptr 900000071 0), (1, .int .i64 n), (4, .ptr 8004 0), (5, .ptr 8005 0), (6, .int .i64 (1:Int))] [(900000071, .cells 71 [.lst false (ml eInt t.L), .int .i64 t.At]), (8004, .cells 25 [.nils]), (8005, .cells 25 [.nils])] (by kernel_rfl) ?_
  refine A.block ?_
  obtain ⟨B1, K1, hB1, hK1, hm⟩ := forN_some hm
  refine A.lpN (hi := (7:Int)) (B := B1) (K := K1) hm rfl (fun j1 => fun sg => match sg with | (m_1, m_2, m_3) => [(0, .ptr 900000071 0), (1, .int .i64 n), (4, .ptr 8004 0), (5, .ptr 8005 0), (6, .int .i64 (j1 : Int))]) (fun j1 => fun sg => match sg with | (m_1, m_2, m_3) => [(900000071, .cells 71 [.lst false (ml eInt m_2), .int .i64 m_3]), (8004, .cells 25 [.nils]), (8005, .cells 25 [.own 700800500]), (700800500, .slice 29 5 (ml eGAdvert m_1) 0 false)]) ?_ ?_ ?_
  · exact Weak.go [.ac 8005 700800500 29 5 0] [] (by kernel_rfl)
  · skip
    rintro j1 Z1 ⟨m_1, m_2, m_3⟩ hj1 hx1 hm
    rw [hB1] at hm
    refine A.seq ?_
    refine A.RS W0 [] [] [(0, .ptr 900000071 0), (1, .int .i64 n), (4, .ptr 8004 0), (5, .ptr 8005 0), (6, .int .i64 (j1 : Int)), (8, .bool (decide ((j1 : Int) ≤ (6:Int))))] [(900000071, .cells 71 [.lst false (ml eInt m_2), .int .i64 m_3]), (8004, .cells 25 [.nils]), (8005, .cells 25 [.own 700800500]), (700800500, .slice 29 5 (ml eGAdvert m_1) 0 false)] (by kernel_rfl) ?_
    refine A.cT rfl (leT hx1) ?_
    refine A.skip ?_
    show acode _ _ _ _ _
    obtain ⟨J1, hJ1, hm⟩ := jn_some hm
    refine A.J (J := J1) (r := r) (fun sg => match sg with | (m_4, m_5, m_6) => [(0, .ptr 900000071 0), (1, .int .i64 n), (4, .ptr 8004 0), (5, .ptr 8005 0), (6, .int .i64 (j1 : Int))]) (fun sg => match sg with | (m_4, m_5, m_6) => [(900000071, .cells 71 [.lst false (ml eInt m_4), .int .i64 m_5]), (8004, .cells 25 [.nils]), (8005, .cells 25 [.own 700800500]), (700800500, .slice 29 5 (ml eGAdvert m_6) 0 false)]) ?_ ?_
    · skip
      refine A.block ?_
      obtain ⟨vx_1, h1, hm⟩ := bnd_some hm
      refine A.RS W0 [] [(1, hdc [] (m_mk_Tape_Next_ok h1) ck12)] [(0, .ptr 900000071 0), (1, .int .i64 n), (4, .ptr 8004 0), (5, .ptr 8005 0), (6, .int .i64 (j1 : Int)), (13, .bool (decide ((0:Int) < vx_1.1)))] [(900000071, .cells 71 [.lst false (ml eInt vx_1.2.L), .int .i64 vx_1.2.At]), (8004, .cells 25 [.nils]), (8005, .cells 25 [.own 700800500]), (700800500, .slice 29 5 (ml eGAdvert m_1) 0 false)] (by kernel_rfl) ?_
      rcases cs_some hm with ⟨c1, hm⟩ | ⟨c1, hm⟩
      · skip
        refine A.cT rfl c1 ?_
        obtain ⟨vx_2, h2, hm⟩ := bnd_some hm
        obtain ⟨l_1, h3, hm⟩ := bnd_some hm
        refine A.R W0 [] [(4, hdc [] (m_mk_Tape_Advert_ok h2) ck9), (6, hap 8520 (ap eGAdvert (bytes := 72) (by decide) h3))] [(0, .ptr 900000071 0), (1, .int .i64 n), (4, .ptr 8004 0), (5, .ptr 8005 0), (6, .int .i64 (j1 : Int))] [(900000071, .cells 71 [.lst false (ml eInt vx_2.2.L), .int .i64 vx_2.2.At]), (8004, .cells 25 [.nils]), (8005, .cells 25 [.own 8520]), (8520, .slice 29 5 (ml eGAdvert l_1) 0 false)] (by kernel_rfl) ?_
        exact Exists.intro (vx_2.2.L, vx_2.2.At, l_1) (And.intro hm (Weak.go [.sw 8520 700800500] [] (by kernel_rfl)))
      refine A.cF rfl c1 ?_
      refine A.skip ?_
      exact Exists.intro (vx_1.2.L, vx_1.2.At, m_1) (And.intro hm (Weak.go [] [] (by kernel_rfl)))
    rintro ⟨m_4, m_5, m_6⟩ hm
    rw [hJ1] at hm
    refine A.R W0 [] [(1, hto (incN (by omega) hx1 (by decide)))] [(0, .ptr 900000071 0), (1, .int .i64 n), (4, .ptr 8004 0), (5, .ptr 8005 0), (6, .int .i64 (j1 + 1 : Int))] [(900000071, .cells 71 [.lst false (ml eInt m_4), .int .i64 m_5]), (8004, .cells 25 [.nils]), (8005, .cells 25 [.own 700800500]), (700800500, .slice 29 5 (ml eGAdvert m_6) 0 false)] (by kernel_rfl) ?_
    exact Exists.intro (m_6, m_4, m_5) (And.intro hm (Weak.go [] [] (by kernel_rfl)))
  rintro j1 ⟨m_1, m_2, m_3⟩ hj1 hl1 hm
  rw [hK1] at hm
  refine A.seq ?_
  refine A.RS W0 [] [] [(0, .ptr 900000071 0), (1, .int .i64 n), (4, .ptr 8004 0), (5, .ptr 8005 0), (6, .int .i64 (j1 : Int)), (8, .bool (decide ((j1 : Int) ≤ (6:Int))))] [(900000071, .cells 71 [.lst false (ml eInt m_2), .int .i64 m_3]), (8004, .cells 25 [.nils]), (8005, .cells 25 [.own 700800500]), (700800500, .slice 29 5 (ml eGAdvert m_1) 0 false)] (by kernel_rfl) ?_
  refine A.cF rfl (gtF hl1) ?_
  refine A.exit ?_
  show acode _ _ _ _ _
  obtain ⟨J2, hJ2, hm⟩ := jn_some hm
  refine A.J (J := J2) (r := r) (fun sg => match sg with | (m_7, m_8, m_9) => [(4, .ptr 8004 0), (5, .ptr 8005 0)]) (fun sg => match sg with | (m_7, m_8, m_9) => [(900000071, .cells 71 [.lst false (ml eInt m_7), .int .i64 m_8]), (8004, .cells 25 [.nils]), (8005, .cells 25 [.own 700800500]), (700800500, .slice 29 5 (ml eGAdvert m_9) 0 false)]) ?_ ?_
  · skip
    obtain ⟨J3, hJ3, hm⟩ := jn_some hm
    refine A.J (J := J3) (r := r) (fun sg => match sg with | (v_1, m_10, m_11) => [(0, .ptr 900000071 0), (4, .ptr 8004 0), (5, .ptr 8005 0), (28, .bool v_1)]) (fun sg => match sg with | (v_1, m_10, m_11) => [(900000071, .cells 71 [.lst false (ml eInt m_10), .int .i64 m_11]), (8004, .cells 25 [.nils]), (8005, .cells 25 [.own 700800500]), (700800500, .slice 29 5 (ml eGAdvert m_1) 0 false)]) ?_ ?_
    · skip
      rcases cs_some hm with ⟨c2, hm⟩ | ⟨c2, hm⟩
      · skip
        obtain ⟨vx_3, h4, hm⟩ := bnd_some hm
        refine A.R W0 [] [(2, hto (bE c2)), (5, hdc [] (m_mk_Tape_One_ok h4) ck11)] [(0, .ptr 900000071 0), (4, .ptr 8004 0), (5, .ptr 8005 0), (28, .bool vx_3.1)] [(900000071, .cells 71 [.lst false (ml eInt vx_3.2.L), .int .i64 vx_3.2.At]), (8004, .cells 25 [.nils]), (8005, .cells 25 [.own 700800500]), (700800500, .slice 29 5 (ml eGAdvert m_1) 0 false)] (by kernel_rfl) ?_
        exact Exists.intro (vx_3.1, vx_3.2.L, vx_3.2.At) (And.intro hm (Weak.go [] [] (by kernel_rfl)))
      refine A.R W0 [] [(2, hto (bE c2))] [(0, .ptr 900000071 0), (4, .ptr 8004 0), (5, .ptr 8005 0), (28, .bool false)] [(900000071, .cells 71 [.lst false (ml eInt m_2), .int .i64 m_3]), (8004, .cells 25 [.nils]), (8005, .cells 25 [.own 700800500]), (700800500, .slice 29 5 (ml eGAdvert m_1) 0 false)] (by kernel_rfl) ?_
      exact Exists.intro (false, m_2, m_3) (And.intro hm (Weak.go [] [] (by kernel_rfl)))
    rintro ⟨v_1, m_10, m_11⟩ hm
    rw [hJ3] at hm
    rcases cs_some hm with ⟨c3, hm⟩ | ⟨c3, hm⟩
    · skip
      refine A.cT rfl c3 ?_
      obtain ⟨vx_4, h5, hm⟩ := bnd_some hm
      obtain ⟨vx_5, h6, hm⟩ := bnd_some hm
      obtain ⟨l_2, h7, hm⟩ := bnd_some hm
      refine A.R W0 [] [(5, hdc [] (m_mk_Tape_Pick_ok h5) ck31), (6, hdc [] (m_mk_Tape_Advert_ok h6) ck9), (8, hap 8537 (ap eGAdvert (bytes := 72) (by decide) h7))] [(4, .ptr 8004 0), (5, .ptr 8005 0)] [(900000071, .cells 71 [.lst false (ml eInt vx_5.2.L), .int .i64 vx_5.2.At]), (8004, .cells 25 [.nils]), (8005, .cells 25 [.own 8537]), (8537, .slice 29 5 (ml eGAdvert l_2) 0 false)] (by kernel_rfl) ?_
      exact Exists.intro (vx_5.2.L, vx_5.2.At, l_2) (And.intro hm (Weak.go [.sw 8537 700800500] [] (by kernel_rfl)))
    refine A.cF rfl c3 ?_
    refine A.skip ?_
    exact Exists.intro (m_10, m_11, m_1) (And.intro hm (Weak.go [] [] (by kernel_rfl)))
  rintro ⟨m_7, m_8, m_9⟩ hm
  rw [hJ2] at hm
  refine A.RS W0 [] [] [(4, .ptr 8004 0)] [(900000071, .cells 71 [.lst false (ml eInt m_7), .int .i64 m_8]), (8004, .cells 25 [.own 700800500]), (700800500, .slice 29 5 (ml eGAdvert m_9) 0 false)] (by kernel_rfl) ?_
  refine A.ret ?_
  obtain rfl := some_inj hm
  exact A.fin W0 [.fz [700800500]] rfl (by kernel_rfl)
end Go.Proofs.YtmcjffllahcclaaGreat
