/- The eM of ct of the program. No condition but bU bB stand in each. -/
import Derived.Test.YtpmifmdidfgpdaaGreatDA
import Derived.Test.YtpmifmdidfgpdaaGreatVR
import Derived.Test.YtpmifmdidfgpdaaGreatV7
namespace Go.Proofs.YtpmifmdidfgpdaaGreat
open Go
set_option maxRecDepth 100000
set_option linter.all false
theorem eo {sa0 : aY} {n : Int} {width : Int} {r : aY} (hm : de sa0 n width = some r) : RO Tryz.prog 185 [] [.agg [lf (eK .u8) sa0.Data, i6 sa0.Bits], i6 n, i6 width] (.agg [lf (eK .u8) r.Data, i6 r.Bits]) := by
 refine aR Tryz.func185 rfl rfl ?_
 unfold de at hm
 refine qS [(0, .al 185003), (1, .al 185006)] [(1, i6 n), (2, i6 width), (3, .ptr 185003 0), (6, .ptr 185006 0)] [(185003, .cells 201 [lf (eK .u8) sa0.Data, i6 sa0.Bits]), (185006, .cells 201 [.aC, i6 0])] ?_
 obtain ⟨af, h1, hm⟩ := aa hm
 refine qD [(4, hro (yN h1) aup), (8, .al 185007)] [1, 2, 3] [(7, .ptr 185007 0)] [185003] [(185007, .cells 201 [lf (eK .u8) af.1.Data, i6 af.1.Bits])] ?_
 refine qS [] [(6, .ptr 185006 0)] [(185006, .cells 201 [lf (eK .u8) af.1.Data, i6 af.1.Bits])] ?_
 cases hm
 exact A.ret qE
theorem tq {a : ak} {r : (List Int) × Int} (hm : hU a = some r) : RO Tryz.prog 169 [] [.agg (k6 a)] (.tup [lf (eK .u8) r.1, i6 r.2]) := by
 refine aR Tryz.func169 rfl rfl ?_
 unfold hU at hm
 refine qS [(0, .al 169001)] [(1, .ptr 169001 0)] [(169001, .cells 50 (k6 a))] ?_
 refine A.seq ?_
 obtain ⟨af, h1, hm⟩ := aa hm
 refine qDs [(1, hro (fc h1) tF)] [] [(12, .bool (!af))] ?_
 rcases ah hm with ⟨c1,hm⟩|⟨c1,hm⟩
 ·refine qT c1 ?_
  refine qS [] [(2, .aC), (3, i6 1)] [] ?_
  cases hm
  exact A.ret qE
 refine qF c1 ?_
 refine A.skip ?_
 show ai _ _ _ _ _
 refine qDs [] [12] [(4, i6 0)] ?_
 obtain ⟨J1, hJ1, hm⟩ := bK hm
 refine A.J (J := J1) (r := r) (fun jx => [(1, .ptr 169001 0), (4, i6 jx)]) (fun jx => [(169001, .cells 50 (k6 a))]) ?_ ?_
 ·refine qDs [] [] [(14, .bool a.aW)] ?_
  rcases ah hm with ⟨c2,hm⟩|⟨c2,hm⟩
  ·refine qT c2 ?_
   refine qGs [] [4, 14] [(4, i6 1)] ?_
   exact qX (1:Int) hm
  refine qF c2 ?_
  refine A.skip ?_
  exact qX (0:Int) hm
 rintro jx hm
 rw [hJ1] at hm
 obtain ⟨ay, h2, hm⟩ := aa hm
 obtain ⟨aJ, h3, hm⟩ := aa hm
 obtain ⟨bk, h4, hm⟩ := aa hm
 obtain ⟨bF, h5, hm⟩ := aa hm
 refine qD [(3, hro (eo h2) pR), (6, hro (eo h3) pR), (8, hro (eo h4) pR), (11, hto (lnE bh a.Links)), (12, hro (eo h5) pR), (13, .al 169005)] [4] [(5, .ptr 169005 0)] [] [(169005, .cells 201 [lf (eK .u8) bF.Data, i6 bF.Bits])] ?_
 refine A.seq ?_
 refine qDs [] [] [(6, i6 0)] ?_
 refine A.block ?_
 refine A.bC 1 3 rfl rfl rfl fun hb1 => ?_
 obtain ⟨B1, K1, hB1, hK1, hm⟩ := bt hm
 refine A.lpI (l := a.Links) (j0 := 0) (B := B1) (K := K1) hm (fun j1 => fun sg => match sg with | (m_1, m_2) => [(1, .ptr 169001 0), (5, .ptr 169005 0), (6, i6 (j1 : Int))]) (fun j1 => fun sg => match sg with | (m_1, m_2) => [(169001, .cells 50 (k6 a)), (169005, .cells 201 [lf (eK .u8) m_1, i6 m_2])]) ?_ ?_ ?_
 ·exact qW
 ·rintro j1 e1 Z1 ⟨m_1, m_2⟩ hj1 hx1 hm
  rw [hB1] at hm
  refine A.seq ?_
  refine qDs [(3, hto (lnE bh a.Links))] [] [(32, .bool (decide ((j1 : Int) < (a.Links.length:Int))))] ?_
  refine qT (ltT hx1) ?_
  refine A.skip ?_
  show ai _ _ _ _ _
  refine A.seq ?_
  refine A.block ?_
  obtain ⟨bR, h6, hm⟩ := aa hm
  obtain ⟨cG, h7, hm⟩ := aa hm
  obtain ⟨cQ, h8, hm⟩ := aa hm
  refine qG [(4, hix (ix bh (bf hx1))), (7, hro (eo h6) pR), (11, hix (ix bh (bf hx1))), (14, hro (eo h7) pR), (18, hix (ix bh (bf hx1))), (21, hro (eo h8) pR)] [32] [] [169005] [(169005, .cells 201 [lf (eK .u8) cQ.Data, i6 cQ.Bits])] ?_
  show ai _ _ _ _ _
  refine qGs [(1, hto (inc hx1 hb1))] [6] [(6, i6 ((j1 + 1 : Nat) : Int))] ?_
  exact qX (cQ.Data, cQ.Bits) hm
 rintro j1 ⟨m_1, m_2⟩ hj1 hl1 hm
 rw [hK1] at hm
 refine A.seq ?_
 refine qDs [(3, hto (lnE bh a.Links))] [] [(32, .bool (decide ((j1 : Int) < (a.Links.length:Int))))] ?_
 refine qF (ltF hl1) ?_
 refine A.exit ?_
 show ai _ _ _ _ _
 obtain ⟨dA, h9, hm⟩ := aa hm
 refine qD [(3, hto (lnE aS a.Claims)), (4, hro (eo h9) pR)] [6, 32] [] [169005] [(169005, .cells 201 [lf (eK .u8) dA.Data, i6 dA.Bits])] ?_
 refine A.seq ?_
 refine qDs [] [] [(7, i6 0)] ?_
 refine A.block ?_
 refine A.bC 1 4 rfl rfl rfl fun hb2 => ?_
 obtain ⟨B2, K2, hB2, hK2, hm⟩ := bt hm
 refine A.lpI (l := a.Claims) (j0 := 0) (B := B2) (K := K2) hm (fun j2 => fun sg => match sg with | (m_3, m_4) => [(1, .ptr 169001 0), (5, .ptr 169005 0), (7, i6 (j2 : Int))]) (fun j2 => fun sg => match sg with | (m_3, m_4) => [(169001, .cells 50 (k6 a)), (169005, .cells 201 [lf (eK .u8) m_3, i6 m_4])]) ?_ ?_ ?_
 ·exact qW
 ·rintro j2 e2 Z2 ⟨m_3, m_4⟩ hj2 hx2 hm
  rw [hB2] at hm
  refine A.seq ?_
  refine qDs [(3, hto (lnE aS a.Claims))] [] [(66, .bool (decide ((j2 : Int) < (a.Claims.length:Int))))] ?_
  refine qT (ltT hx2) ?_
  refine A.skip ?_
  show ai _ _ _ _ _
  refine A.seq ?_
  refine A.block ?_
  obtain ⟨bN, h10, hm⟩ := aa hm
  obtain ⟨dI, h11, hm⟩ := aa hm
  obtain ⟨bZ, h12, hm⟩ := aa hm
  obtain ⟨fN, h13, hm⟩ := aa hm
  refine qG [(4, hix (ix aS (bf hx2))), (7, hro (eo h10) pR), (11, hix (ix aS (bf hx2))), (14, hro (eo h11) pR), (18, hix (ix aS (bf hx2))), (21, hro (aat h12) aul), (22, hro (eo h13) pR)] [66] [] [169005] [(169005, .cells 201 [lf (eK .u8) fN.Data, i6 fN.Bits])] ?_
  show ai _ _ _ _ _
  refine qGs [(1, hto (inc hx2 hb2))] [7] [(7, i6 ((j2 + 1 : Nat) : Int))] ?_
  exact qX (fN.Data, fN.Bits) hm
 rintro j2 ⟨m_3, m_4⟩ hj2 hl2 hm
 rw [hK2] at hm
 refine A.seq ?_
 refine qDs [(3, hto (lnE aS a.Claims))] [] [(66, .bool (decide ((j2 : Int) < (a.Claims.length:Int))))] ?_
 refine qF (ltF hl2) ?_
 refine A.exit ?_
 show ai _ _ _ _ _
 obtain ⟨jD, h14, hm⟩ := aa hm
 refine qD [(1, hro (zK h14) aum)] [1, 7, 66] [(8, .int .u64 jD.1)] [169001] [] ?_
 obtain ⟨ji, h15, hm⟩ := aa hm
 obtain ⟨kQ, h16, hm⟩ := aa hm
 refine qD [(3, hro (eo h15) pR), (4, hro (zJ h16) aun)] [8] [] [169005] [(169005, .cells 201 [lf (eK .u8) kQ.1.Data, i6 kQ.1.Bits])] ?_
 refine qS [] [(2, lf (eK .u8) kQ.1.Data), (3, i6 0)] [] ?_
 cases hm
 exact A.ret qE
theorem zL {a : ak} {b : ak} {r : Bool} (hm : nP a b = some r) : RO Tryz.prog 159 [] [.agg (k6 a), .agg (k6 b)] (.bool r) := by
 refine aR Tryz.func159 rfl rfl ?_
 unfold nP at hm
 refine qS [(0, .al 159002), (1, .al 159003)] [(2, .ptr 159002 0), (3, .ptr 159003 0)] [(159002, .cells 50 (k6 a)), (159003, .cells 50 (k6 b))] ?_
 refine A.seq ?_
 obtain ⟨J1, hJ1, hm⟩ := bK hm
 refine A.J (J := J1) (r := r) (fun v_1 => [(2, .ptr 159002 0), (3, .ptr 159003 0), (23, .bool v_1)]) (fun v_1 => [(159002, .cells 50 (k6 a)), (159003, .cells 50 (k6 b))]) ?_ ?_
 ·obtain ⟨af, h1, hm⟩ := aa hm
  rcases ah hm with ⟨c1,hm⟩|⟨c1,hm⟩
  ·refine qGs [(1, hro (fc h1) tF), (3, hto (bE c1))] [] [(23, .bool true)] ?_
   exact qX true hm
  obtain ⟨ay, h2, hm⟩ := aa hm
  rcases ah hm with ⟨c2,hm⟩|⟨c2,hm⟩
  ·refine qGs [(1, hro (fc h1) tF), (3, hto (bE c1)), (5, hro (fc h2) tF), (8, hto (bE c2))] [] [(23, .bool true)] ?_
   exact qX true hm
  refine qGs [(1, hro (fc h1) tF), (3, hto (bE c1)), (5, hro (fc h2) tF), (8, hto (bE c2))] [] [(23, .bool (!decide (a.aq = b.aq)))] ?_
  exact qX (!decide (a.aq = b.aq)) hm
 rintro v_1 hm
 rw [hJ1] at hm
 rcases ah hm with ⟨c3,hm⟩|⟨c3,hm⟩
 ·refine qT c3 ?_
  refine qS [] [(4, .bool false)] [] ?_
  cases hm
  exact A.ret qE
 refine qF c3 ?_
 refine A.skip ?_
 show ai _ _ _ _ _
 obtain ⟨aJ, h3, hm⟩ := aa hm
 refine qDs [(1, hro (tq h3) ajM)] [23] [(5, lf (eK .u8) aJ.1)] ?_
 obtain ⟨bk, h4, hm⟩ := aa hm
 refine qDs [(1, hro (tq h4) ajM)] [] [(7, lf (eK .u8) bk.1)] ?_
 refine A.mid [(4, .bool ((decide (b.Seq < a.Seq)) || ((decide (a.Seq = b.Seq)) && (ug .gtr (iw aJ.1) (iw bk.1)))))] [] (fun hk => ?_) ?_
 ·rcases tf (decide (b.Seq < a.Seq)) with c4 | c4
  ·exact qS [(5, hto (bE c4)), (19, hto (orT (q := ((decide (a.Seq = b.Seq)) && (ug .gtr (iw aJ.1) (iw bk.1)))) c4))] _ _ hk
  rcases tf (decide (a.Seq = b.Seq)) with c5 | c5
  ·exact qS [(5, hto (bE c4)), (11, hto (bE c5)), (13, hcb aJ.1 false Tryz.underlying182 Tryz.underlying5 Tryz.underlying9), (15, hcb bk.1 false Tryz.underlying182 Tryz.underlying5 Tryz.underlying9), (16, hsg .gtr 9 (iw aJ.1) (iw bk.1) rfl), (19, hto ((qU (q := ug .gtr (iw aJ.1) (iw bk.1)) c5).trans (orF (q := ((decide (a.Seq = b.Seq)) && (ug .gtr (iw aJ.1) (iw bk.1)))) c4)))] _ _ hk
  exact qS [(5, hto (bE c4)), (11, hto (bE c5)), (19, hto ((rV (q := ug .gtr (iw aJ.1) (iw bk.1)) c5).trans (orF (q := ((decide (a.Seq = b.Seq)) && (ug .gtr (iw aJ.1) (iw bk.1)))) c4)))] _ _ hk
 cases hm
 exact A.ret qE
end Go.Proofs.YtpmifmdidfgpdaaGreat
