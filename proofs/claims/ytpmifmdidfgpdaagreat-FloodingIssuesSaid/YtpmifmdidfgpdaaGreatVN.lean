/- The eR of cw of the program. No condition but bT bF stand in each. -/
import Derived.Test.YtpmifmdidfgpdaaGreatDA
import Derived.Test.YtpmifmdidfgpdaaGreatVR
import Derived.Test.YtpmifmdidfgpdaaGreatV7
namespace Go.Proofs.YtpmifmdidfgpdaaGreat
open Go
set_option maxRecDepth 100000
set_option linter.all false
theorem eD {sa0 : bf} {n : Int} {width : Int} {r : bf} (hm : dh sa0 n width = some r) : RO Tryz.prog 185 [] [.agg [lf (eK .u8) sa0.Data, i6 sa0.Bits], i6 n, i6 width] (.agg [lf (eK .u8) r.Data, i6 r.Bits]) := by
 refine aQ Tryz.func185 rfl rfl ?_
 unfold dh at hm
 refine qS [(0, .al 185003), (1, .al 185006)] [(1, i6 n), (2, i6 width), (3, .ptr 185003 0), (6, .ptr 185006 0)] [(185003, .cells 201 [lf (eK .u8) sa0.Data, i6 sa0.Bits]), (185006, .cells 201 [.aD, i6 0])] ?_
 obtain ⟨af, h1, hm⟩ := aa hm
 refine qD [(4, hro (za h1) auV), (8, .al 185007)] [1, 2, 3] [(7, .ptr 185007 0)] [185003] [(185007, .cells 201 [lf (eK .u8) af.1.Data, i6 af.1.Bits])] ?_
 refine qS [] [(6, .ptr 185006 0)] [(185006, .cells 201 [lf (eK .u8) af.1.Data, i6 af.1.Bits])] ?_
 cases hm
 exact A.ret qE
theorem tD {a : ak} {r : (List Int) × Int} (hm : iz a = some r) : RO Tryz.prog 169 [] [.agg (k6 a)] (.tup [lf (eK .u8) r.1, i6 r.2]) := by
 refine aQ Tryz.func169 rfl rfl ?_
 unfold iz at hm
 refine qS [(0, .al 169001)] [(1, .ptr 169001 0)] [(169001, .cells 50 (k6 a))] ?_
 refine A.seq ?_
 obtain ⟨af, h1, hm⟩ := aa hm
 refine qDs [(1, hro (fA h1) tK)] [] [(12, .bool (!af))] ?_
 rcases ah hm with ⟨c1,hm⟩|⟨c1,hm⟩
 ·refine qT c1 ?_
  refine qS [] [(2, .aD), (3, i6 1)] [] ?_
  cases hm
  exact A.ret qE
 refine qF c1 ?_
 refine A.skip ?_
 show ai _ _ _ _ _
 refine qDs [] [12] [(4, i6 0)] ?_
 obtain ⟨J1, hJ1, hm⟩ := bB hm
 refine A.J (J := J1) (r := r) (fun jL => [(1, .ptr 169001 0), (4, i6 jL)]) (fun jL => [(169001, .cells 50 (k6 a))]) ?_ ?_
 ·refine qDs [] [] [(14, .bool a.bh)] ?_
  rcases ah hm with ⟨c2,hm⟩|⟨c2,hm⟩
  ·refine qT c2 ?_
   refine qGs [] [4, 14] [(4, i6 1)] ?_
   exact qX (1:Int) hm
  refine qF c2 ?_
  refine A.skip ?_
  exact qX (0:Int) hm
 rintro jL hm
 rw [hJ1] at hm
 obtain ⟨aq, h2, hm⟩ := aa hm
 obtain ⟨aI, h3, hm⟩ := aa hm
 obtain ⟨bk, h4, hm⟩ := aa hm
 obtain ⟨bG, h5, hm⟩ := aa hm
 refine qD [(3, hro (eD h2) pR), (6, hro (eD h3) pR), (8, hro (eD h4) pR), (11, hto (lnE bn a.Links)), (12, hro (eD h5) pR), (13, .al 169005)] [4] [(5, .ptr 169005 0)] [] [(169005, .cells 201 [lf (eK .u8) bG.Data, i6 bG.Bits])] ?_
 refine A.seq ?_
 refine qDs [] [] [(6, i6 0)] ?_
 refine A.block ?_
 refine A.bC 1 3 rfl rfl rfl fun hb1 => ?_
 obtain ⟨B1, K1, hB1, hK1, hm⟩ := bq hm
 refine A.lpI (l := a.Links) (j0 := 0) (B := B1) (K := K1) hm (fun j1 => fun sg => match sg with | (m_1, m_2) => [(1, .ptr 169001 0), (5, .ptr 169005 0), (6, i6 (j1 : Int))]) (fun j1 => fun sg => match sg with | (m_1, m_2) => [(169001, .cells 50 (k6 a)), (169005, .cells 201 [lf (eK .u8) m_1, i6 m_2])]) ?_ ?_ ?_
 ·exact qW
 ·rintro j1 e1 Z1 ⟨m_1, m_2⟩ hj1 hx1 hm
  rw [hB1] at hm
  refine A.seq ?_
  refine qDs [(3, hto (lnE bn a.Links))] [] [(32, .bool (decide ((j1 : Int) < (a.Links.length:Int))))] ?_
  refine qT (ltT hx1) ?_
  refine A.skip ?_
  show ai _ _ _ _ _
  refine A.seq ?_
  refine A.block ?_
  obtain ⟨b9, h6, hm⟩ := aa hm
  obtain ⟨ct, h7, hm⟩ := aa hm
  obtain ⟨dw, h8, hm⟩ := aa hm
  refine qG [(4, hix (ix bn (aV hx1))), (7, hro (eD h6) pR), (11, hix (ix bn (aV hx1))), (14, hro (eD h7) pR), (18, hix (ix bn (aV hx1))), (21, hro (eD h8) pR)] [32] [] [169005] [(169005, .cells 201 [lf (eK .u8) dw.Data, i6 dw.Bits])] ?_
  show ai _ _ _ _ _
  refine qGs [(1, hto (inc hx1 hb1))] [6] [(6, i6 ((j1 + 1 : Nat) : Int))] ?_
  exact qX (dw.Data, dw.Bits) hm
 rintro j1 ⟨m_1, m_2⟩ hj1 hl1 hm
 rw [hK1] at hm
 refine A.seq ?_
 refine qDs [(3, hto (lnE bn a.Links))] [] [(32, .bool (decide ((j1 : Int) < (a.Links.length:Int))))] ?_
 refine qF (ltF hl1) ?_
 refine A.exit ?_
 show ai _ _ _ _ _
 obtain ⟨dK, h9, hm⟩ := aa hm
 refine qD [(3, hto (lnE aR a.Claims)), (4, hro (eD h9) pR)] [6, 32] [] [169005] [(169005, .cells 201 [lf (eK .u8) dK.Data, i6 dK.Bits])] ?_
 refine A.seq ?_
 refine qDs [] [] [(7, i6 0)] ?_
 refine A.block ?_
 refine A.bC 1 4 rfl rfl rfl fun hb2 => ?_
 obtain ⟨B2, K2, hB2, hK2, hm⟩ := bq hm
 refine A.lpI (l := a.Claims) (j0 := 0) (B := B2) (K := K2) hm (fun j2 => fun sg => match sg with | (m_3, m_4) => [(1, .ptr 169001 0), (5, .ptr 169005 0), (7, i6 (j2 : Int))]) (fun j2 => fun sg => match sg with | (m_3, m_4) => [(169001, .cells 50 (k6 a)), (169005, .cells 201 [lf (eK .u8) m_3, i6 m_4])]) ?_ ?_ ?_
 ·exact qW
 ·rintro j2 e2 Z2 ⟨m_3, m_4⟩ hj2 hx2 hm
  rw [hB2] at hm
  refine A.seq ?_
  refine qDs [(3, hto (lnE aR a.Claims))] [] [(66, .bool (decide ((j2 : Int) < (a.Claims.length:Int))))] ?_
  refine qT (ltT hx2) ?_
  refine A.skip ?_
  show ai _ _ _ _ _
  refine A.seq ?_
  refine A.block ?_
  obtain ⟨bK, h10, hm⟩ := aa hm
  obtain ⟨dA, h11, hm⟩ := aa hm
  obtain ⟨bZ, h12, hm⟩ := aa hm
  obtain ⟨dL, h13, hm⟩ := aa hm
  refine qG [(4, hix (ix aR (aV hx2))), (7, hro (eD h10) pR), (11, hix (ix aR (aV hx2))), (14, hro (eD h11) pR), (18, hix (ix aR (aV hx2))), (21, hro (aaN h12) auR), (22, hro (eD h13) pR)] [66] [] [169005] [(169005, .cells 201 [lf (eK .u8) dL.Data, i6 dL.Bits])] ?_
  show ai _ _ _ _ _
  refine qGs [(1, hto (inc hx2 hb2))] [7] [(7, i6 ((j2 + 1 : Nat) : Int))] ?_
  exact qX (dL.Data, dL.Bits) hm
 rintro j2 ⟨m_3, m_4⟩ hj2 hl2 hm
 rw [hK2] at hm
 refine A.seq ?_
 refine qDs [(3, hto (lnE aR a.Claims))] [] [(66, .bool (decide ((j2 : Int) < (a.Claims.length:Int))))] ?_
 refine qF (ltF hl2) ?_
 refine A.exit ?_
 show ai _ _ _ _ _
 obtain ⟨gb, h14, hm⟩ := aa hm
 refine qD [(1, hro (aad h14) auS)] [1, 7, 66] [(8, .int .u64 gb.1)] [169001] [] ?_
 obtain ⟨fJ, h15, hm⟩ := aa hm
 obtain ⟨lS, h16, hm⟩ := aa hm
 refine qD [(3, hro (eD h15) pR), (4, hro (aac h16) auT)] [8] [] [169005] [(169005, .cells 201 [lf (eK .u8) lS.1.Data, i6 lS.1.Bits])] ?_
 refine qS [] [(2, lf (eK .u8) lS.1.Data), (3, i6 0)] [] ?_
 cases hm
 exact A.ret qE
theorem aae {a : ak} {b : ak} {r : Bool} (hm : n4 a b = some r) : RO Tryz.prog 159 [] [.agg (k6 a), .agg (k6 b)] (.bool r) := by
 refine aQ Tryz.func159 rfl rfl ?_
 unfold n4 at hm
 refine qS [(0, .al 159002), (1, .al 159003)] [(2, .ptr 159002 0), (3, .ptr 159003 0)] [(159002, .cells 50 (k6 a)), (159003, .cells 50 (k6 b))] ?_
 refine A.seq ?_
 obtain ⟨J1, hJ1, hm⟩ := bB hm
 refine A.J (J := J1) (r := r) (fun v_1 => [(2, .ptr 159002 0), (3, .ptr 159003 0), (23, .bool v_1)]) (fun v_1 => [(159002, .cells 50 (k6 a)), (159003, .cells 50 (k6 b))]) ?_ ?_
 ·obtain ⟨af, h1, hm⟩ := aa hm
  rcases ah hm with ⟨c1,hm⟩|⟨c1,hm⟩
  ·refine qGs [(1, hro (fA h1) tK), (3, hto (bE c1))] [] [(23, .bool true)] ?_
   exact qX true hm
  obtain ⟨aq, h2, hm⟩ := aa hm
  rcases ah hm with ⟨c2,hm⟩|⟨c2,hm⟩
  ·refine qGs [(1, hro (fA h1) tK), (3, hto (bE c1)), (5, hro (fA h2) tK), (8, hto (bE c2))] [] [(23, .bool true)] ?_
   exact qX true hm
  refine qGs [(1, hro (fA h1) tK), (3, hto (bE c1)), (5, hro (fA h2) tK), (8, hto (bE c2))] [] [(23, .bool (!decide (a.aj = b.aj)))] ?_
  exact qX (!decide (a.aj = b.aj)) hm
 rintro v_1 hm
 rw [hJ1] at hm
 rcases ah hm with ⟨c3,hm⟩|⟨c3,hm⟩
 ·refine qT c3 ?_
  refine qS [] [(4, .bool false)] [] ?_
  cases hm
  exact A.ret qE
 refine qF c3 ?_
 refine A.skip ?_
 show ai _ _ _ _ _
 obtain ⟨aI, h3, hm⟩ := aa hm
 refine qDs [(1, hro (tD h3) akt)] [23] [(5, lf (eK .u8) aI.1)] ?_
 obtain ⟨bk, h4, hm⟩ := aa hm
 refine qDs [(1, hro (tD h4) akt)] [] [(7, lf (eK .u8) bk.1)] ?_
 refine A.mid [(4, .bool ((decide (b.Seq < a.Seq)) || ((decide (a.Seq = b.Seq)) && (ur .gtr (iI aI.1) (iI bk.1)))))] [] (fun hk => ?_) ?_
 ·rcases tf (decide (b.Seq < a.Seq)) with c4 | c4
  ·exact qS [(5, hto (bE c4)), (19, hto (orT (q := ((decide (a.Seq = b.Seq)) && (ur .gtr (iI aI.1) (iI bk.1)))) c4))] _ _ hk
  rcases tf (decide (a.Seq = b.Seq)) with c5 | c5
  ·exact qS [(5, hto (bE c4)), (11, hto (bE c5)), (13, hcb aI.1 false Tryz.underlying182 Tryz.underlying5 Tryz.underlying9), (15, hcb bk.1 false Tryz.underlying182 Tryz.underlying5 Tryz.underlying9), (16, hsg .gtr 9 (iI aI.1) (iI bk.1) rfl), (19, hto ((qY (q := ur .gtr (iI aI.1) (iI bk.1)) c5).trans (orF (q := ((decide (a.Seq = b.Seq)) && (ur .gtr (iI aI.1) (iI bk.1)))) c4)))] _ _ hk
  exact qS [(5, hto (bE c4)), (11, hto (bE c5)), (19, hto ((rZ (q := ur .gtr (iI aI.1) (iI bk.1)) c5).trans (orF (q := ((decide (a.Seq = b.Seq)) && (ur .gtr (iI aI.1) (iI bk.1)))) c4)))] _ _ hk
 cases hm
 exact A.ret qE
end Go.Proofs.YtpmifmdidfgpdaaGreat
