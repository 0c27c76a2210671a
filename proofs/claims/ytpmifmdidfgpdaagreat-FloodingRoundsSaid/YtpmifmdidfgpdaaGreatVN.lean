/- The eC of cr of the program. No condition but bT bB stand in each. -/
import Derived.Test.YtpmifmdidfgpdaaGreatDA
import Derived.Test.YtpmifmdidfgpdaaGreatVR
import Derived.Test.YtpmifmdidfgpdaaGreatV7
namespace Go.Proofs.YtpmifmdidfgpdaaGreat
open Go
set_option maxRecDepth 100000
set_option linter.all false
theorem ee {sa0 : aZ} {n : Int} {width : Int} {r : aZ} (hm : cZ sa0 n width = some r) : RO Tryz.prog 185 [] [.agg [lf (eK .u8) sa0.Data, i6 sa0.Bits], i6 n, i6 width] (.agg [lf (eK .u8) r.Data, i6 r.Bits]) := by
 refine aT Tryz.func185 rfl rfl ?_
 unfold cZ at hm
 refine qS [(0, .al 185003), (1, .al 185006)] [(1, i6 n), (2, i6 width), (3, .ptr 185003 0), (6, .ptr 185006 0)] [(185003, .cells 201 [lf (eK .u8) sa0.Data, i6 sa0.Bits]), (185006, .cells 201 [.aG, i6 0])] ?_
 obtain ⟨af, h1, hm⟩ := aa hm
 refine qD [(4, hro (yg h1) at7), (8, .al 185007)] [1, 2, 3] [(7, .ptr 185007 0)] [185003] [(185007, .cells 201 [lf (eK .u8) af.1.Data, i6 af.1.Bits])] ?_
 refine qS [] [(6, .ptr 185006 0)] [(185006, .cells 201 [lf (eK .u8) af.1.Data, i6 af.1.Bits])] ?_
 cases hm
 exact A.ret qE
theorem sQ {a : aj} {r : (List Int) × Int} (hm : gR a = some r) : RO Tryz.prog 169 [] [.agg (k6 a)] (.tup [lf (eK .u8) r.1, i6 r.2]) := by
 refine aT Tryz.func169 rfl rfl ?_
 unfold gR at hm
 refine qS [(0, .al 169001)] [(1, .ptr 169001 0)] [(169001, .cells 50 (k6 a))] ?_
 refine A.seq ?_
 obtain ⟨af, h1, hm⟩ := aa hm
 refine qDs [(1, hro (eW h1) sX)] [] [(12, .bool (!af))] ?_
 rcases ai hm with ⟨c1,hm⟩|⟨c1,hm⟩
 ·refine qT c1 ?_
  refine qS [] [(2, .aG), (3, i6 1)] [] ?_
  cases hm
  exact A.ret qE
 refine qF c1 ?_
 refine A.skip ?_
 show ah _ _ _ _ _
 refine qDs [] [12] [(4, i6 0)] ?_
 obtain ⟨J1, hJ1, hm⟩ := bJ hm
 refine A.J (J := J1) (r := r) (fun jm => [(1, .ptr 169001 0), (4, i6 jm)]) (fun jm => [(169001, .cells 50 (k6 a))]) ?_ ?_
 ·refine qDs [] [] [(14, .bool a.aX)] ?_
  rcases ai hm with ⟨c2,hm⟩|⟨c2,hm⟩
  ·refine qT c2 ?_
   refine qGs [] [4, 14] [(4, i6 1)] ?_
   exact qX (1:Int) hm
  refine qF c2 ?_
  refine A.skip ?_
  exact qX (0:Int) hm
 rintro jm hm
 rw [hJ1] at hm
 obtain ⟨ay, h2, hm⟩ := aa hm
 obtain ⟨aK, h3, hm⟩ := aa hm
 obtain ⟨bh, h4, hm⟩ := aa hm
 obtain ⟨bI, h5, hm⟩ := aa hm
 refine qD [(3, hro (ee h2) o8), (6, hro (ee h3) o8), (8, hro (ee h4) o8), (11, hto (lnE bk a.Links)), (12, hro (ee h5) o8), (13, .al 169005)] [4] [(5, .ptr 169005 0)] [] [(169005, .cells 201 [lf (eK .u8) bI.Data, i6 bI.Bits])] ?_
 refine A.seq ?_
 refine qDs [] [] [(6, i6 0)] ?_
 refine A.block ?_
 refine A.bC 1 3 rfl rfl rfl fun hb1 => ?_
 obtain ⟨B1, K1, hB1, hK1, hm⟩ := bt hm
 refine A.lpI (l := a.Links) (j0 := 0) (B := B1) (K := K1) hm (fun j1 => fun sg => match sg with | (m_1, m_2) => [(1, .ptr 169001 0), (5, .ptr 169005 0), (6, i6 (j1 : Int))]) (fun j1 => fun sg => match sg with | (m_1, m_2) => [(169001, .cells 50 (k6 a)), (169005, .cells 201 [lf (eK .u8) m_1, i6 m_2])]) ?_ ?_ ?_
 ·exact qW
 ·rintro j1 e1 Z1 ⟨m_1, m_2⟩ hj1 hx1 hm
  rw [hB1] at hm
  refine A.seq ?_
  refine qDs [(3, hto (lnE bk a.Links))] [] [(32, .bool (decide ((j1 : Int) < (a.Links.length:Int))))] ?_
  refine qT (ltT hx1) ?_
  refine A.skip ?_
  show ah _ _ _ _ _
  refine A.seq ?_
  refine A.block ?_
  obtain ⟨bV, h6, hm⟩ := aa hm
  obtain ⟨cD, h7, hm⟩ := aa hm
  obtain ⟨dg, h8, hm⟩ := aa hm
  refine qG [(4, hix (ix bk (bf hx1))), (7, hro (ee h6) o8), (11, hix (ix bk (bf hx1))), (14, hro (ee h7) o8), (18, hix (ix bk (bf hx1))), (21, hro (ee h8) o8)] [32] [] [169005] [(169005, .cells 201 [lf (eK .u8) dg.Data, i6 dg.Bits])] ?_
  show ah _ _ _ _ _
  refine qGs [(1, hto (inc hx1 hb1))] [6] [(6, i6 ((j1 + 1 : Nat) : Int))] ?_
  exact qX (dg.Data, dg.Bits) hm
 rintro j1 ⟨m_1, m_2⟩ hj1 hl1 hm
 rw [hK1] at hm
 refine A.seq ?_
 refine qDs [(3, hto (lnE bk a.Links))] [] [(32, .bool (decide ((j1 : Int) < (a.Links.length:Int))))] ?_
 refine qF (ltF hl1) ?_
 refine A.exit ?_
 show ah _ _ _ _ _
 obtain ⟨dB, h9, hm⟩ := aa hm
 refine qD [(3, hto (lnE aS a.Claims)), (4, hro (ee h9) o8)] [6, 32] [] [169005] [(169005, .cells 201 [lf (eK .u8) dB.Data, i6 dB.Bits])] ?_
 refine A.seq ?_
 refine qDs [] [] [(7, i6 0)] ?_
 refine A.block ?_
 refine A.bC 1 4 rfl rfl rfl fun hb2 => ?_
 obtain ⟨B2, K2, hB2, hK2, hm⟩ := bt hm
 refine A.lpI (l := a.Claims) (j0 := 0) (B := B2) (K := K2) hm (fun j2 => fun sg => match sg with | (m_3, m_4) => [(1, .ptr 169001 0), (5, .ptr 169005 0), (7, i6 (j2 : Int))]) (fun j2 => fun sg => match sg with | (m_3, m_4) => [(169001, .cells 50 (k6 a)), (169005, .cells 201 [lf (eK .u8) m_3, i6 m_4])]) ?_ ?_ ?_
 ·exact qW
 ·rintro j2 e2 Z2 ⟨m_3, m_4⟩ hj2 hx2 hm
  rw [hB2] at hm
  refine A.seq ?_
  refine qDs [(3, hto (lnE aS a.Claims))] [] [(66, .bool (decide ((j2 : Int) < (a.Claims.length:Int))))] ?_
  refine qT (ltT hx2) ?_
  refine A.skip ?_
  show ah _ _ _ _ _
  refine A.seq ?_
  refine A.block ?_
  obtain ⟨bQ, h10, hm⟩ := aa hm
  obtain ⟨en, h11, hm⟩ := aa hm
  obtain ⟨cm, h12, hm⟩ := aa hm
  obtain ⟨gy, h13, hm⟩ := aa hm
  refine qG [(4, hix (ix aS (bf hx2))), (7, hro (ee h10) o8), (11, hix (ix aS (bf hx2))), (14, hro (ee h11) o8), (18, hix (ix aS (bf hx2))), (21, hro (zS h12) at3), (22, hro (ee h13) o8)] [66] [] [169005] [(169005, .cells 201 [lf (eK .u8) gy.Data, i6 gy.Bits])] ?_
  show ah _ _ _ _ _
  refine qGs [(1, hto (inc hx2 hb2))] [7] [(7, i6 ((j2 + 1 : Nat) : Int))] ?_
  exact qX (gy.Data, gy.Bits) hm
 rintro j2 ⟨m_3, m_4⟩ hj2 hl2 hm
 rw [hK2] at hm
 refine A.seq ?_
 refine qDs [(3, hto (lnE aS a.Claims))] [] [(66, .bool (decide ((j2 : Int) < (a.Claims.length:Int))))] ?_
 refine qF (ltF hl2) ?_
 refine A.exit ?_
 show ah _ _ _ _ _
 obtain ⟨lg, h14, hm⟩ := aa hm
 refine qD [(1, hro (zh h14) at4)] [1, 7, 66] [(8, .int .u64 lg.1)] [169001] [] ?_
 obtain ⟨ko, h15, hm⟩ := aa hm
 obtain ⟨nT, h16, hm⟩ := aa hm
 refine qD [(3, hro (ee h15) o8), (4, hro (zg h16) at5)] [8] [] [169005] [(169005, .cells 201 [lf (eK .u8) nT.1.Data, i6 nT.1.Bits])] ?_
 refine qS [] [(2, lf (eK .u8) nT.1.Data), (3, i6 0)] [] ?_
 cases hm
 exact A.ret qE
theorem zi {a : aj} {b : aj} {r : Bool} (hm : ny a b = some r) : RO Tryz.prog 159 [] [.agg (k6 a), .agg (k6 b)] (.bool r) := by
 refine aT Tryz.func159 rfl rfl ?_
 unfold ny at hm
 refine qS [(0, .al 159002), (1, .al 159003)] [(2, .ptr 159002 0), (3, .ptr 159003 0)] [(159002, .cells 50 (k6 a)), (159003, .cells 50 (k6 b))] ?_
 refine A.seq ?_
 obtain ⟨J1, hJ1, hm⟩ := bJ hm
 refine A.J (J := J1) (r := r) (fun v_1 => [(2, .ptr 159002 0), (3, .ptr 159003 0), (23, .bool v_1)]) (fun v_1 => [(159002, .cells 50 (k6 a)), (159003, .cells 50 (k6 b))]) ?_ ?_
 ·obtain ⟨af, h1, hm⟩ := aa hm
  rcases ai hm with ⟨c1,hm⟩|⟨c1,hm⟩
  ·refine qGs [(1, hro (eW h1) sX), (3, hto (bE c1))] [] [(23, .bool true)] ?_
   exact qX true hm
  obtain ⟨ay, h2, hm⟩ := aa hm
  rcases ai hm with ⟨c2,hm⟩|⟨c2,hm⟩
  ·refine qGs [(1, hro (eW h1) sX), (3, hto (bE c1)), (5, hro (eW h2) sX), (8, hto (bE c2))] [] [(23, .bool true)] ?_
   exact qX true hm
  refine qGs [(1, hro (eW h1) sX), (3, hto (bE c1)), (5, hro (eW h2) sX), (8, hto (bE c2))] [] [(23, .bool (!decide (a.ak = b.ak)))] ?_
  exact qX (!decide (a.ak = b.ak)) hm
 rintro v_1 hm
 rw [hJ1] at hm
 rcases ai hm with ⟨c3,hm⟩|⟨c3,hm⟩
 ·refine qT c3 ?_
  refine qS [] [(4, .bool false)] [] ?_
  cases hm
  exact A.ret qE
 refine qF c3 ?_
 refine A.skip ?_
 show ah _ _ _ _ _
 obtain ⟨aK, h3, hm⟩ := aa hm
 refine qDs [(1, hro (sQ h3) aju)] [23] [(5, lf (eK .u8) aK.1)] ?_
 obtain ⟨bh, h4, hm⟩ := aa hm
 refine qDs [(1, hro (sQ h4) aju)] [] [(7, lf (eK .u8) bh.1)] ?_
 refine A.mid [(4, .bool ((decide (b.Seq < a.Seq)) || ((decide (a.Seq = b.Seq)) && (tK .gtr (ia aK.1) (ia bh.1)))))] [] (fun hk => ?_) ?_
 ·rcases tf (decide (b.Seq < a.Seq)) with c4 | c4
  ·exact qS [(5, hto (bE c4)), (19, hto (orT (q := ((decide (a.Seq = b.Seq)) && (tK .gtr (ia aK.1) (ia bh.1)))) c4))] _ _ hk
  rcases tf (decide (a.Seq = b.Seq)) with c5 | c5
  ·exact qS [(5, hto (bE c4)), (11, hto (bE c5)), (13, hcb aK.1 false Tryz.underlying182 Tryz.underlying5 Tryz.underlying9), (15, hcb bh.1 false Tryz.underlying182 Tryz.underlying5 Tryz.underlying9), (16, hsg .gtr 9 (ia aK.1) (ia bh.1) rfl), (19, hto ((qu (q := tK .gtr (ia aK.1) (ia bh.1)) c5).trans (orF (q := ((decide (a.Seq = b.Seq)) && (tK .gtr (ia aK.1) (ia bh.1)))) c4)))] _ _ hk
  exact qS [(5, hto (bE c4)), (11, hto (bE c5)), (19, hto ((rF (q := tK .gtr (ia aK.1) (ia bh.1)) c5).trans (orF (q := ((decide (a.Seq = b.Seq)) && (tK .gtr (ia aK.1) (ia bh.1)))) c4)))] _ _ hk
 cases hm
 exact A.ret qE
end Go.Proofs.YtpmifmdidfgpdaaGreat
