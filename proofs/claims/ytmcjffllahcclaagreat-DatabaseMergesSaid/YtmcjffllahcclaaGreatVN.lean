/- The walks of functions of the program. No condition but those that stand in each. -/
import Derived.Test.YtmcjffllahcclaaGreatDA
import Derived.Test.YtmcjffllahcclaaGreatVR
import Derived.Test.YtmcjffllahcclaaGreatV7
namespace Go.Proofs.YtmcjffllahcclaaGreat
open Go
set_option maxRecDepth 100000
set_option linter.all false
theorem m_ref07_put_ok {sa0 : GStream} {n : Int} {width : Int} {r : GStream} (hm : m_ref07_put sa0 n width = some r) : RO Tryz.prog 92 [] [.agg [.lst false (ml (eK .u8) sa0.Data), .int .i64 sa0.Bits], .int .i64 n, .int .i64 width] (.agg [.lst false (ml (eK .u8) r.Data), .int .i64 r.Bits]) := by
  refine enterA Tryz.func92 rfl rfl ?_
  unfold m_ref07_put at hm
  refine A.RS W0 [] [(0, .al 92003), (1, .al 92006)] [(1, .int .i64 n), (2, .int .i64 width), (3, .ptr 92003 0), (6, .ptr 92006 0)] [(92003, .cells 126 [.lst false (ml (eK .u8) sa0.Data), .int .i64 sa0.Bits]), (92006, .cells 126 [.nils, .int .i64 (0:Int)])] (by kernel_rfl) ?_
  obtain ⟨vx_1, h1, hm⟩ := bnd_some hm
  refine A.RS W0 [] [(4, hro (m_ref02_Append_ok h1) ck122), (8, .al 92007)] [(6, .ptr 92006 0), (7, .ptr 92007 0)] [(92006, .cells 126 [.nils, .int .i64 (0:Int)]), (92007, .cells 126 [.lst false (ml (eK .u8) vx_1.1.Data), .int .i64 vx_1.1.Bits])] (by kernel_rfl) ?_
  refine A.RS W0 [] [] [(6, .ptr 92006 0)] [(92006, .cells 126 [.lst false (ml (eK .u8) vx_1.1.Data), .int .i64 vx_1.1.Bits])] (by kernel_rfl) ?_
  refine A.ret ?_
  obtain rfl := some_inj hm
  exact A.fin W0 [] rfl (by kernel_rfl)
theorem m_ref07_Encode_ok {a : GAdvert} {r : (List Int) × Int} (hm : m_ref07_Encode a = some r) : RO Tryz.prog 61 [] [.agg [.int .i64 a.Router, .int .i64 a.Seq, .bool a.Capable, .lst false (ml eGReach a.Links), .lst false (ml eGClaim a.Claims)]] (.tup [.lst false (ml (eK .u8) r.1), .int .i64 r.2]) := by
  refine enterA Tryz.func61 rfl rfl ?_
  unfold m_ref07_Encode at hm
  refine A.RS W0 [] [(0, .al 61001)] [(1, .ptr 61001 0)] [(61001, .cells 29 [.int .i64 a.Router, .int .i64 a.Seq, .bool a.Capable, .lst false (ml eGReach a.Links), .lst false (ml eGClaim a.Claims)])] (by kernel_rfl) ?_
  refine A.seq ?_
  obtain ⟨vx_1, h1, hm⟩ := bnd_some hm
  refine A.RS W0 [] [(1, hro (m_ref07_Valid_ok h1) ck40)] [(1, .ptr 61001 0), (12, .bool (!vx_1))] [(61001, .cells 29 [.int .i64 a.Router, .int .i64 a.Seq, .bool a.Capable, .lst false (ml eGReach a.Links), .lst false (ml eGClaim a.Claims)])] (by kernel_rfl) ?_
  rcases cs_some hm with ⟨c1, hm⟩ | ⟨c1, hm⟩
  · skip
    refine A.cT rfl c1 ?_
    refine A.RS W0 [] [] [(2, .nils), (3, .int .i64 (1:Int))] [] (by kernel_rfl) ?_
    refine A.ret ?_
    obtain rfl := some_inj hm
    exact A.fin W0 [] rfl (by kernel_rfl)
  refine A.cF rfl c1 ?_
  refine A.skip ?_
  show acode _ _ _ _ _
  refine A.RS W0 [] [] [(1, .ptr 61001 0), (4, .int .i64 (0:Int))] [(61001, .cells 29 [.int .i64 a.Router, .int .i64 a.Seq, .bool a.Capable, .lst false (ml eGReach a.Links), .lst false (ml eGClaim a.Claims)])] (by kernel_rfl) ?_
  obtain ⟨J1, hJ1, hm⟩ := jn_some hm
  refine A.J (J := J1) (r := r) (fun capable_1 => [(1, .ptr 61001 0), (4, .int .i64 capable_1)]) (fun capable_1 => [(61001, .cells 29 [.int .i64 a.Router, .int .i64 a.Seq, .bool a.Capable, .lst false (ml eGReach a.Links), .lst false (ml eGClaim a.Claims)])]) ?_ ?_
  · skip
    refine A.RS W0 [] [] [(1, .ptr 61001 0), (4, .int .i64 (0:Int)), (14, .bool a.Capable)] [(61001, .cells 29 [.int .i64 a.Router, .int .i64 a.Seq, .bool a.Capable, .lst false (ml eGReach a.Links), .lst false (ml eGClaim a.Claims)])] (by kernel_rfl) ?_
    rcases cs_some hm with ⟨c2, hm⟩ | ⟨c2, hm⟩
    · skip
      refine A.cT rfl c2 ?_
      refine A.R W0 [] [] [(1, .ptr 61001 0), (4, .int .i64 (1:Int))] [(61001, .cells 29 [.int .i64 a.Router, .int .i64 a.Seq, .bool a.Capable, .lst false (ml eGReach a.Links), .lst false (ml eGClaim a.Claims)])] (by kernel_rfl) ?_
      exact Exists.intro (1:Int) (And.intro hm (Weak.go [] [] (by kernel_rfl)))
    refine A.cF rfl c2 ?_
    refine A.skip ?_
    exact Exists.intro (0:Int) (And.intro hm (Weak.go [] [] (by kernel_rfl)))
  rintro capable_1 hm
  rw [hJ1] at hm
  obtain ⟨vx_2, h2, hm⟩ := bnd_some hm
  obtain ⟨vx_3, h3, hm⟩ := bnd_some hm
  obtain ⟨vx_4, h4, hm⟩ := bnd_some hm
  obtain ⟨vx_5, h5, hm⟩ := bnd_some hm
  refine A.RS W0 [] [(3, hro (m_ref07_put_ok h2) ck92), (6, hro (m_ref07_put_ok h3) ck92), (8, hro (m_ref07_put_ok h4) ck92), (11, hto (lnE eGReach a.Links)), (12, hro (m_ref07_put_ok h5) ck92), (13, .al 61005)] [(1, .ptr 61001 0), (5, .ptr 61005 0)] [(61001, .cells 29 [.int .i64 a.Router, .int .i64 a.Seq, .bool a.Capable, .lst false (ml eGReach a.Links), .lst false (ml eGClaim a.Claims)]), (61005, .cells 126 [.lst false (ml (eK .u8) vx_5.Data), .int .i64 vx_5.Bits])] (by kernel_rfl) ?_
  refine A.seq ?_
  refine A.RS W0 [] [] [(1, .ptr 61001 0), (5, .ptr 61005 0), (6, .int .i64 (0:Int))] [(61001, .cells 29 [.int .i64 a.Router, .int .i64 a.Seq, .bool a.Capable, .lst false (ml eGReach a.Links), .lst false (ml eGClaim a.Claims)]), (61005, .cells 126 [.lst false (ml (eK .u8) vx_5.Data), .int .i64 vx_5.Bits])] (by kernel_rfl) ?_
  refine A.block ?_
  refine A.bC 1 3 rfl rfl rfl fun hb1 => ?_
  obtain ⟨B1, K1, hB1, hK1, hm⟩ := forI_some hm
  refine A.lpI (l := a.Links) (j0 := 0) (B := B1) (K := K1) hm (fun j1 => fun sg => match sg with | (m_1, m_2) => [(1, .ptr 61001 0), (5, .ptr 61005 0), (6, .int .i64 (j1 : Int))]) (fun j1 => fun sg => match sg with | (m_1, m_2) => [(61001, .cells 29 [.int .i64 a.Router, .int .i64 a.Seq, .bool a.Capable, .lst false (ml eGReach a.Links), .lst false (ml eGClaim a.Claims)]), (61005, .cells 126 [.lst false (ml (eK .u8) m_1), .int .i64 m_2])]) ?_ ?_ ?_
  · exact Weak.go [] [] (by kernel_rfl)
  · skip
    rintro j1 e1 Z1 ⟨m_1, m_2⟩ hj1 hx1 hm
    rw [hB1] at hm
    refine A.seq ?_
    refine A.RS W0 [] [(3, hto (lnE eGReach a.Links))] [(1, .ptr 61001 0), (5, .ptr 61005 0), (6, .int .i64 (j1 : Int)), (32, .bool (decide ((j1 : Int) < (a.Links.length:Int))))] [(61001, .cells 29 [.int .i64 a.Router, .int .i64 a.Seq, .bool a.Capable, .lst false (ml eGReach a.Links), .lst false (ml eGClaim a.Claims)]), (61005, .cells 126 [.lst false (ml (eK .u8) m_1), .int .i64 m_2])] (by kernel_rfl) ?_
    refine A.cT rfl (ltT hx1) ?_
    refine A.skip ?_
    show acode _ _ _ _ _
    refine A.seq ?_
    refine A.block ?_
    obtain ⟨vx_6, h6, hm⟩ := bnd_some hm
    obtain ⟨vx_7, h7, hm⟩ := bnd_some hm
    obtain ⟨vx_8, h8, hm⟩ := bnd_some hm
    refine A.R W0 [] [(4, hix (ix eGReach (elO_nat hx1))), (7, hro (m_ref07_put_ok h6) ck92), (11, hix (ix eGReach (elO_nat hx1))), (14, hro (m_ref07_put_ok h7) ck92), (18, hix (ix eGReach (elO_nat hx1))), (21, hro (m_ref07_put_ok h8) ck92)] [(1, .ptr 61001 0), (5, .ptr 61005 0), (6, .int .i64 (j1 : Int))] [(61001, .cells 29 [.int .i64 a.Router, .int .i64 a.Seq, .bool a.Capable, .lst false (ml eGReach a.Links), .lst false (ml eGClaim a.Claims)]), (61005, .cells 126 [.lst false (ml (eK .u8) vx_8.Data), .int .i64 vx_8.Bits])] (by kernel_rfl) ?_
    show acode _ _ _ _ _
    refine A.R W0 [] [(1, hto (inc hx1 hb1))] [(1, .ptr 61001 0), (5, .ptr 61005 0), (6, .int .i64 ((j1 + 1 : Nat) : Int))] [(61001, .cells 29 [.int .i64 a.Router, .int .i64 a.Seq, .bool a.Capable, .lst false (ml eGReach a.Links), .lst false (ml eGClaim a.Claims)]), (61005, .cells 126 [.lst false (ml (eK .u8) vx_8.Data), .int .i64 vx_8.Bits])] (by kernel_rfl) ?_
    exact Exists.intro (vx_8.Data, vx_8.Bits) (And.intro hm (Weak.go [] [] (by kernel_rfl)))
  rintro j1 ⟨m_1, m_2⟩ hj1 hl1 hm
  rw [hK1] at hm
  refine A.seq ?_
  refine A.RS W0 [] [(3, hto (lnE eGReach a.Links))] [(1, .ptr 61001 0), (5, .ptr 61005 0), (6, .int .i64 (j1 : Int)), (32, .bool (decide ((j1 : Int) < (a.Links.length:Int))))] [(61001, .cells 29 [.int .i64 a.Router, .int .i64 a.Seq, .bool a.Capable, .lst false (ml eGReach a.Links), .lst false (ml eGClaim a.Claims)]), (61005, .cells 126 [.lst false (ml (eK .u8) m_1), .int .i64 m_2])] (by kernel_rfl) ?_
  refine A.cF rfl (ltF hl1) ?_
  refine A.exit ?_
  show acode _ _ _ _ _
  obtain ⟨vx_9, h9, hm⟩ := bnd_some hm
  refine A.RS W0 [] [(3, hto (lnE eGClaim a.Claims)), (4, hro (m_ref07_put_ok h9) ck92)] [(1, .ptr 61001 0), (5, .ptr 61005 0)] [(61001, .cells 29 [.int .i64 a.Router, .int .i64 a.Seq, .bool a.Capable, .lst false (ml eGReach a.Links), .lst false (ml eGClaim a.Claims)]), (61005, .cells 126 [.lst false (ml (eK .u8) vx_9.Data), .int .i64 vx_9.Bits])] (by kernel_rfl) ?_
  refine A.seq ?_
  refine A.RS W0 [] [] [(1, .ptr 61001 0), (5, .ptr 61005 0), (7, .int .i64 (0:Int))] [(61001, .cells 29 [.int .i64 a.Router, .int .i64 a.Seq, .bool a.Capable, .lst false (ml eGReach a.Links), .lst false (ml eGClaim a.Claims)]), (61005, .cells 126 [.lst false (ml (eK .u8) vx_9.Data), .int .i64 vx_9.Bits])] (by kernel_rfl) ?_
  refine A.block ?_
  refine A.bC 1 4 rfl rfl rfl fun hb2 => ?_
  obtain ⟨B2, K2, hB2, hK2, hm⟩ := forI_some hm
  refine A.lpI (l := a.Claims) (j0 := 0) (B := B2) (K := K2) hm (fun j2 => fun sg => match sg with | (m_3, m_4) => [(1, .ptr 61001 0), (5, .ptr 61005 0), (7, .int .i64 (j2 : Int))]) (fun j2 => fun sg => match sg with | (m_3, m_4) => [(61001, .cells 29 [.int .i64 a.Router, .int .i64 a.Seq, .bool a.Capable, .lst false (ml eGReach a.Links), .lst false (ml eGClaim a.Claims)]), (61005, .cells 126 [.lst false (ml (eK .u8) m_3), .int .i64 m_4])]) ?_ ?_ ?_
  · exact Weak.go [] [] (by kernel_rfl)
  · skip
    rintro j2 e2 Z2 ⟨m_3, m_4⟩ hj2 hx2 hm
    rw [hB2] at hm
    refine A.seq ?_
    refine A.RS W0 [] [(3, hto (lnE eGClaim a.Claims))] [(1, .ptr 61001 0), (5, .ptr 61005 0), (7, .int .i64 (j2 : Int)), (66, .bool (decide ((j2 : Int) < (a.Claims.length:Int))))] [(61001, .cells 29 [.int .i64 a.Router, .int .i64 a.Seq, .bool a.Capable, .lst false (ml eGReach a.Links), .lst false (ml eGClaim a.Claims)]), (61005, .cells 126 [.lst false (ml (eK .u8) m_3), .int .i64 m_4])] (by kernel_rfl) ?_
    refine A.cT rfl (ltT hx2) ?_
    refine A.skip ?_
    show acode _ _ _ _ _
    refine A.seq ?_
    refine A.block ?_
    obtain ⟨vx_10, h10, hm⟩ := bnd_some hm
    obtain ⟨vx_11, h11, hm⟩ := bnd_some hm
    obtain ⟨vx_12, h12, hm⟩ := bnd_some hm
    obtain ⟨vx_13, h13, hm⟩ := bnd_some hm
    refine A.R W0 [] [(4, hix (ix eGClaim (elO_nat hx2))), (7, hro (m_ref07_put_ok h10) ck92), (11, hix (ix eGClaim (elO_nat hx2))), (14, hro (m_ref07_put_ok h11) ck92), (18, hix (ix eGClaim (elO_nat hx2))), (21, hro (m_ref01_Code_ok h12) ck93), (22, hro (m_ref07_put_ok h13) ck92)] [(1, .ptr 61001 0), (5, .ptr 61005 0), (7, .int .i64 (j2 : Int))] [(61001, .cells 29 [.int .i64 a.Router, .int .i64 a.Seq, .bool a.Capable, .lst false (ml eGReach a.Links), .lst false (ml eGClaim a.Claims)]), (61005, .cells 126 [.lst false (ml (eK .u8) vx_13.Data), .int .i64 vx_13.Bits])] (by kernel_rfl) ?_
    show acode _ _ _ _ _
    refine A.R W0 [] [(1, hto (inc hx2 hb2))] [(1, .ptr 61001 0), (5, .ptr 61005 0), (7, .int .i64 ((j2 + 1 : Nat) : Int))] [(61001, .cells 29 [.int .i64 a.Router, .int .i64 a.Seq, .bool a.Capable, .lst false (ml eGReach a.Links), .lst false (ml eGClaim a.Claims)]), (61005, .cells 126 [.lst false (ml (eK .u8) vx_13.Data), .int .i64 vx_13.Bits])] (by kernel_rfl) ?_
    exact Exists.intro (vx_13.Data, vx_13.Bits) (And.intro hm (Weak.go [] [] (by kernel_rfl)))
  rintro j2 ⟨m_3, m_4⟩ hj2 hl2 hm
  rw [hK2] at hm
  refine A.seq ?_
  refine A.RS W0 [] [(3, hto (lnE eGClaim a.Claims))] [(1, .ptr 61001 0), (5, .ptr 61005 0), (7, .int .i64 (j2 : Int)), (66, .bool (decide ((j2 : Int) < (a.Claims.length:Int))))] [(61001, .cells 29 [.int .i64 a.Router, .int .i64 a.Seq, .bool a.Capable, .lst false (ml eGReach a.Links), .lst false (ml eGClaim a.Claims)]), (61005, .cells 126 [.lst false (ml (eK .u8) m_3), .int .i64 m_4])] (by kernel_rfl) ?_
  refine A.cF rfl (ltF hl2) ?_
  refine A.exit ?_
  show acode _ _ _ _ _
  obtain ⟨vx_14, h14, hm⟩ := bnd_some hm
  refine A.RS W0 [] [(1, hro (m_ref02_Check_ok h14) ck94)] [(5, .ptr 61005 0), (8, .int .u64 vx_14.1)] [(61005, .cells 126 [.lst false (ml (eK .u8) m_3), .int .i64 m_4])] (by kernel_rfl) ?_
  obtain ⟨vx_15, h15, hm⟩ := bnd_some hm
  obtain ⟨vx_16, h16, hm⟩ := bnd_some hm
  refine A.RS W0 [] [(3, hro (m_ref07_put_ok h15) ck92), (4, hro (m_ref02_Align_ok h16) ck95)] [(5, .ptr 61005 0)] [(61005, .cells 126 [.lst false (ml (eK .u8) vx_16.1.Data), .int .i64 vx_16.1.Bits])] (by kernel_rfl) ?_
  refine A.RS W0 [] [] [(2, .lst false (ml (eK .u8) vx_16.1.Data)), (3, .int .i64 (0:Int))] [] (by kernel_rfl) ?_
  refine A.ret ?_
  obtain rfl := some_inj hm
  exact A.fin W0 [] rfl (by kernel_rfl)
theorem m_ref07_Newer_ok {a : GAdvert} {b : GAdvert} {r : Bool} (hm : m_ref07_Newer a b = some r) : RO Tryz.prog 29 [] [.agg [.int .i64 a.Router, .int .i64 a.Seq, .bool a.Capable, .lst false (ml eGReach a.Links), .lst false (ml eGClaim a.Claims)], .agg [.int .i64 b.Router, .int .i64 b.Seq, .bool b.Capable, .lst false (ml eGReach b.Links), .lst false (ml eGClaim b.Claims)]] (.bool r) := by
  refine enterA Tryz.func29 rfl rfl ?_
  unfold m_ref07_Newer at hm
  refine A.RS W0 [] [(0, .al 29002), (1, .al 29003)] [(2, .ptr 29002 0), (3, .ptr 29003 0)] [(29002, .cells 29 [.int .i64 a.Router, .int .i64 a.Seq, .bool a.Capable, .lst false (ml eGReach a.Links), .lst false (ml eGClaim a.Claims)]), (29003, .cells 29 [.int .i64 b.Router, .int .i64 b.Seq, .bool b.Capable, .lst false (ml eGReach b.Links), .lst false (ml eGClaim b.Claims)])] (by kernel_rfl) ?_
  refine A.seq ?_
  obtain ⟨J1, hJ1, hm⟩ := jn_some hm
  refine A.J (J := J1) (r := r) (fun v_1 => [(2, .ptr 29002 0), (3, .ptr 29003 0), (23, .bool v_1)]) (fun v_1 => [(29002, .cells 29 [.int .i64 a.Router, .int .i64 a.Seq, .bool a.Capable, .lst false (ml eGReach a.Links), .lst false (ml eGClaim a.Claims)]), (29003, .cells 29 [.int .i64 b.Router, .int .i64 b.Seq, .bool b.Capable, .lst false (ml eGReach b.Links), .lst false (ml eGClaim b.Claims)])]) ?_ ?_
  · skip
    obtain ⟨vx_1, h1, hm⟩ := bnd_some hm
    rcases cs_some hm with ⟨c1, hm⟩ | ⟨c1, hm⟩
    · skip
      refine A.R W0 [] [(1, hro (m_ref07_Valid_ok h1) ck40), (3, hto (bE c1))] [(2, .ptr 29002 0), (3, .ptr 29003 0), (23, .bool true)] [(29002, .cells 29 [.int .i64 a.Router, .int .i64 a.Seq, .bool a.Capable, .lst false (ml eGReach a.Links), .lst false (ml eGClaim a.Claims)]), (29003, .cells 29 [.int .i64 b.Router, .int .i64 b.Seq, .bool b.Capable, .lst false (ml eGReach b.Links), .lst false (ml eGClaim b.Claims)])] (by kernel_rfl) ?_
      exact Exists.intro true (And.intro hm (Weak.go [] [] (by kernel_rfl)))
    obtain ⟨vx_2, h2, hm⟩ := bnd_some hm
    rcases cs_some hm with ⟨c2, hm⟩ | ⟨c2, hm⟩
    · skip
      refine A.R W0 [] [(1, hro (m_ref07_Valid_ok h1) ck40), (3, hto (bE c1)), (5, hro (m_ref07_Valid_ok h2) ck40), (8, hto (bE c2))] [(2, .ptr 29002 0), (3, .ptr 29003 0), (23, .bool true)] [(29002, .cells 29 [.int .i64 a.Router, .int .i64 a.Seq, .bool a.Capable, .lst false (ml eGReach a.Links), .lst false (ml eGClaim a.Claims)]), (29003, .cells 29 [.int .i64 b.Router, .int .i64 b.Seq, .bool b.Capable, .lst false (ml eGReach b.Links), .lst false (ml eGClaim b.Claims)])] (by kernel_rfl) ?_
      exact Exists.intro true (And.intro hm (Weak.go [] [] (by kernel_rfl)))
    refine A.R W0 [] [(1, hro (m_ref07_Valid_ok h1) ck40), (3, hto (bE c1)), (5, hro (m_ref07_Valid_ok h2) ck40), (8, hto (bE c2))] [(2, .ptr 29002 0), (3, .ptr 29003 0), (23, .bool (!decide (a.Router = b.Router)))] [(29002, .cells 29 [.int .i64 a.Router, .int .i64 a.Seq, .bool a.Capable, .lst false (ml eGReach a.Links), .lst false (ml eGClaim a.Claims)]), (29003, .cells 29 [.int .i64 b.Router, .int .i64 b.Seq, .bool b.Capable, .lst false (ml eGReach b.Links), .lst false (ml eGClaim b.Claims)])] (by kernel_rfl) ?_
    exact Exists.intro (!decide (a.Router = b.Router)) (And.intro hm (Weak.go [] [] (by kernel_rfl)))
  rintro v_1 hm
  rw [hJ1] at hm
  rcases cs_some hm with ⟨c3, hm⟩ | ⟨c3, hm⟩
  · skip
    refine A.cT rfl c3 ?_
    refine A.RS W0 [] [] [(4, .bool false)] [] (by kernel_rfl) ?_
    refine A.ret ?_
    obtain rfl := some_inj hm
    exact A.fin W0 [] rfl (by kernel_rfl)
  refine A.cF rfl c3 ?_
  refine A.skip ?_
  show acode _ _ _ _ _
  obtain ⟨vx_3, h3, hm⟩ := bnd_some hm
  refine A.RS W0 [] [(1, hro (m_ref07_Encode_ok h3) ck61)] [(2, .ptr 29002 0), (3, .ptr 29003 0), (5, .lst false (ml (eK .u8) vx_3.1))] [(29002, .cells 29 [.int .i64 a.Router, .int .i64 a.Seq, .bool a.Capable, .lst false (ml eGReach a.Links), .lst false (ml eGClaim a.Claims)]), (29003, .cells 29 [.int .i64 b.Router, .int .i64 b.Seq, .bool b.Capable, .lst false (ml eGReach b.Links), .lst false (ml eGClaim b.Claims)])] (by kernel_rfl) ?_
  obtain ⟨vx_4, h4, hm⟩ := bnd_some hm
  refine A.RS W0 [] [(1, hro (m_ref07_Encode_ok h4) ck61)] [(2, .ptr 29002 0), (3, .ptr 29003 0), (5, .lst false (ml (eK .u8) vx_3.1)), (7, .lst false (ml (eK .u8) vx_4.1))] [(29002, .cells 29 [.int .i64 a.Router, .int .i64 a.Seq, .bool a.Capable, .lst false (ml eGReach a.Links), .lst false (ml eGClaim a.Claims)]), (29003, .cells 29 [.int .i64 b.Router, .int .i64 b.Seq, .bool b.Capable, .lst false (ml eGReach b.Links), .lst false (ml eGClaim b.Claims)])] (by kernel_rfl) ?_
  refine A.mid [(4, .bool ((decide (b.Seq < a.Seq)) || ((decide (a.Seq = b.Seq)) && (sCmp .gtr (bstr vx_3.1) (bstr vx_4.1)))))] [] (fun hk => ?_) ?_
  · skip
    rcases tf (decide (b.Seq < a.Seq)) with c4 | c4
    · skip
      exact A.RS W0 [] [(5, hto (bE c4)), (19, hto (orT (q := ((decide (a.Seq = b.Seq)) && (sCmp .gtr (bstr vx_3.1) (bstr vx_4.1)))) c4))] _ _ (by kernel_rfl) hk
    rcases tf (decide (a.Seq = b.Seq)) with c5 | c5
    · skip
      exact A.RS W0 [] [(5, hto (bE c4)), (11, hto (bE c5)), (13, hcb vx_3.1 false Tryz.underlying101 Tryz.underlying5 Tryz.underlying9), (15, hcb vx_4.1 false Tryz.underlying101 Tryz.underlying5 Tryz.underlying9), (16, hsg .gtr 9 (bstr vx_3.1) (bstr vx_4.1) rfl), (19, hto ((andT (q := sCmp .gtr (bstr vx_3.1) (bstr vx_4.1)) c5).trans (orF (q := ((decide (a.Seq = b.Seq)) && (sCmp .gtr (bstr vx_3.1) (bstr vx_4.1)))) c4)))] _ _ (by kernel_rfl) hk
    exact A.RS W0 [] [(5, hto (bE c4)), (11, hto (bE c5)), (19, hto ((andF (q := sCmp .gtr (bstr vx_3.1) (bstr vx_4.1)) c5).trans (orF (q := ((decide (a.Seq = b.Seq)) && (sCmp .gtr (bstr vx_3.1) (bstr vx_4.1)))) c4)))] _ _ (by kernel_rfl) hk
  refine A.ret ?_
  obtain rfl := some_inj hm
  exact A.fin W0 [] rfl (by kernel_rfl)
end Go.Proofs.YtmcjffllahcclaaGreat
