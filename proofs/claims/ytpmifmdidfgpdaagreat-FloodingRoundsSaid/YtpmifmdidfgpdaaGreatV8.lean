/- The eC of cr of the program. No condition but bT bB stand in each. -/
import Derived.Test.YtpmifmdidfgpdaaGreatDA
import Derived.Test.YtpmifmdidfgpdaaGreatV2
import Derived.Test.YtpmifmdidfgpdaaGreatV7
namespace Go.Proofs.YtpmifmdidfgpdaaGreat
open Go
set_option maxRecDepth 100000
set_option linter.all false
theorem gK {d : aF} {r : Int} (hm : gG d = some r) : RO Tryz.prog 99 [] [.agg (k7 d)] (i6 r) := by
 refine aT Tryz.func99 rfl rfl ?_
 unfold gG at hm
 refine qS [(0, .al 99001)] [(1, .ptr 99001 0)] [(99001, .cells 60 (k7 d))] ?_
 refine A.seq ?_
 refine qDs [(2, hto (lnE aH d.aq))] [] [(8, .bool (decide ((99:Int) < (d.aq.length:Int))))] ?_
 rcases ai hm with ⟨c1,hm⟩|⟨c1,hm⟩
 ·refine qT c1 ?_
  refine qS [] [(2, i6 3)] [] ?_
  cases hm
  exact A.ret qE
 refine qF c1 ?_
 refine A.skip ?_
 show ah _ _ _ _ _
 refine A.seq ?_
 refine qDs [] [8] [(3, i6 0)] ?_
 refine A.block ?_
 refine A.bC 1 0 rfl rfl rfl fun hb1 => ?_
 obtain ⟨B1, K1, hB1, hK1, hm⟩ := bt hm
 refine A.lpI (l := d.aq) (j0 := 0) (B := B1) (K := K1) hm (fun j1 => fun sg => match sg with | () => [(1, .ptr 99001 0), (3, i6 (j1 : Int))]) (fun j1 => fun sg => match sg with | () => [(99001, .cells 60 (k7 d))]) ?_ ?_ ?_
 ·exact qW
 ·rintro j1 e1 Z1 ⟨⟩ hj1 hx1 hm
  rw [hB1] at hm
  refine A.seq ?_
  refine qDs [(3, hto (lnE aH d.aq))] [] [(13, .bool (decide ((j1 : Int) < (d.aq.length:Int))))] ?_
  refine qT (ltT hx1) ?_
  refine A.skip ?_
  show ah _ _ _ _ _
  refine A.seq ?_
  refine A.block ?_
  obtain ⟨af, h1, hm⟩ := aa hm
  refine qDs [(3, hix (ix aH (bf hx1))), (5, hro (eW h1) sX)] [13] [(22, .bool (!af))] ?_
  rcases ai hm with ⟨c2,hm⟩|⟨c2,hm⟩
  ·refine qT c2 ?_
   refine qS [] [(2, i6 1)] [] ?_
   cases hm
   exact A.ret qE
  refine qF c2 ?_
  refine A.skip ?_
  show ah _ _ _ _ _
  refine qGs [(1, hto (inc hx1 hb1))] [3, 22] [(3, i6 ((j1 + 1 : Nat) : Int))] ?_
  exact qX () hm
 rintro j1 ⟨⟩ hj1 hl1 hm
 rw [hK1] at hm
 refine A.seq ?_
 refine qDs [(3, hto (lnE aH d.aq))] [] [(13, .bool (decide ((j1 : Int) < (d.aq.length:Int))))] ?_
 refine qF (ltF hl1) ?_
 refine A.exit ?_
 show ah _ _ _ _ _
 refine A.seq ?_
 refine qDs [] [3, 13] [(4, i6 1)] ?_
 refine A.block ?_
 refine A.bC 1 0 rfl rfl rfl fun hb2 => ?_
 obtain ⟨B2, K2, hB2, hK2, hm⟩ := bt hm
 refine A.lpI (l := d.aq) (j0 := 1) (B := B2) (K := K2) hm (fun j2 => fun sg => match sg with | () => [(1, .ptr 99001 0), (4, i6 (j2 : Int))]) (fun j2 => fun sg => match sg with | () => [(99001, .cells 60 (k7 d))]) ?_ ?_ ?_
 ·exact qW
 ·rintro j2 e2 Z2 ⟨⟩ hj2 hx2 hm
  rw [hB2] at hm
  refine A.seq ?_
  refine qDs [(3, hto (lnE aH d.aq))] [] [(27, .bool (decide ((j2 : Int) < (d.aq.length:Int))))] ?_
  refine qT (ltT hx2) ?_
  refine A.skip ?_
  show ah _ _ _ _ _
  refine A.seq ?_
  refine A.block ?_
  obtain ⟨e_1, h2, hm⟩ := aa hm
  refine qDs [(4, hix (ix aH h2)), (10, hix (ix aH (bf hx2)))] [27] [(43, .bool (decide (e2.ak ≤ e_1.ak)))] ?_
  rcases ai hm with ⟨c3,hm⟩|⟨c3,hm⟩
  ·refine qT c3 ?_
   refine qS [] [(2, i6 25)] [] ?_
   cases hm
   exact A.ret qE
  refine qF c3 ?_
  refine A.skip ?_
  show ah _ _ _ _ _
  refine qGs [(1, hto (inc hx2 hb2))] [4, 43] [(4, i6 ((j2 + 1 : Nat) : Int))] ?_
  exact qX () hm
 rintro j2 ⟨⟩ hj2 hl2 hm
 rw [hK2] at hm
 refine A.seq ?_
 refine qDs [(3, hto (lnE aH d.aq))] [] [(27, .bool (decide ((j2 : Int) < (d.aq.length:Int))))] ?_
 refine qF (ltF hl2) ?_
 refine A.exit ?_
 show ah _ _ _ _ _
 refine qS [] [(2, i6 0)] [] ?_
 cases hm
 exact A.ret qE
theorem qC {a : aF} {b : aF} {r : Bool} (hm : mo a b = some r) : RO Tryz.prog 59 [] [.agg (k7 a), .agg (k7 b)] (.bool r) := by
 refine aT Tryz.func59 rfl rfl ?_
 unfold mo at hm
 refine qS [(0, .al 59002), (1, .al 59003)] [(2, .ptr 59002 0), (3, .ptr 59003 0)] [(59002, .cells 60 (k7 a)), (59003, .cells 60 (k7 b))] ?_
 refine A.seq ?_
 refine qDs [(2, hto (lnE aH a.aq)), (5, hto (lnE aH b.aq))] [] [(12, .bool (!decide ((a.aq.length:Int) = (b.aq.length:Int))))] ?_
 rcases ai hm with ⟨c1,hm⟩|⟨c1,hm⟩
 ·refine qT c1 ?_
  refine qS [] [(4, .bool false)] [] ?_
  cases hm
  exact A.ret qE
 refine qF c1 ?_
 refine A.skip ?_
 show ah _ _ _ _ _
 refine A.seq ?_
 refine qDs [] [12] [(5, i6 0)] ?_
 refine A.block ?_
 refine A.bC 2 0 rfl rfl rfl fun hb1 => ?_
 obtain ⟨B1, K1, hB1, hK1, hm⟩ := bt hm
 refine A.lpI (l := a.aq) (j0 := 0) (B := B1) (K := K1) hm (fun j1 => fun sg => match sg with | () => [(2, .ptr 59002 0), (3, .ptr 59003 0), (5, i6 (j1 : Int))]) (fun j1 => fun sg => match sg with | () => [(59002, .cells 60 (k7 a)), (59003, .cells 60 (k7 b))]) ?_ ?_ ?_
 ·exact qW
 ·rintro j1 e1 Z1 ⟨⟩ hj1 hx1 hm
  rw [hB1] at hm
  refine A.seq ?_
  refine qDs [(3, hto (lnE aH a.aq))] [] [(17, .bool (decide ((j1 : Int) < (a.aq.length:Int))))] ?_
  refine qT (ltT hx1) ?_
  refine A.skip ?_
  show ah _ _ _ _ _
  refine A.seq ?_
  refine A.block ?_
  obtain ⟨e_1, h1, hm⟩ := aa hm
  obtain ⟨af, h2, hm⟩ := aa hm
  refine qDs [(3, hix (ix aH (bf hx1))), (8, hix (ix aH h1)), (10, hro (qB h2) ahH)] [17] [(31, .bool (!af))] ?_
  rcases ai hm with ⟨c2,hm⟩|⟨c2,hm⟩
  ·refine qT c2 ?_
   refine qS [] [(4, .bool false)] [] ?_
   cases hm
   exact A.ret qE
  refine qF c2 ?_
  refine A.skip ?_
  show ah _ _ _ _ _
  refine qGs [(1, hto (inc hx1 hb1))] [5, 31] [(5, i6 ((j1 + 1 : Nat) : Int))] ?_
  exact qX () hm
 rintro j1 ⟨⟩ hj1 hl1 hm
 rw [hK1] at hm
 refine A.seq ?_
 refine qDs [(3, hto (lnE aH a.aq))] [] [(17, .bool (decide ((j1 : Int) < (a.aq.length:Int))))] ?_
 refine qF (ltF hl1) ?_
 refine A.exit ?_
 show ah _ _ _ _ _
 refine qS [] [(4, .bool true)] [] ?_
 cases hm
 exact A.ret qE
theorem uE {d : aF} {aJ : Int} {r : aj × Bool} (hm : mq d aJ = some r) : RO Tryz.prog 69 [] [.agg (k7 d), i6 aJ] (.tup [.agg (k6 r.1), .bool r.2]) := by
 refine aT Tryz.func69 rfl rfl ?_
 unfold mq at hm
 refine qS [(0, .al 69002), (1, .al 69004)] [(1, i6 aJ), (2, .ptr 69002 0), (4, .ptr 69004 0)] [(69002, .cells 60 (k7 d)), (69004, .cells 50 [i6 0, i6 0, .bool false, .aG, .aG])] ?_
 refine A.seq ?_
 refine qDs [] [] [(6, i6 0)] ?_
 refine A.block ?_
 refine A.bC 2 0 rfl rfl rfl fun hb1 => ?_
 obtain ⟨B1, K1, hB1, hK1, hm⟩ := bt hm
 refine A.lpI (l := d.aq) (j0 := 0) (B := B1) (K := K1) hm (fun j1 => fun sg => match sg with | () => [(1, i6 aJ), (2, .ptr 69002 0), (4, .ptr 69004 0), (6, i6 (j1 : Int))]) (fun j1 => fun sg => match sg with | () => [(69002, .cells 60 (k7 d)), (69004, .cells 50 [i6 0, i6 0, .bool false, .aG, .aG])]) ?_ ?_ ?_
 ·exact qW
 ·rintro j1 e1 Z1 ⟨⟩ hj1 hx1 hm
  rw [hB1] at hm
  refine A.seq ?_
  refine qDs [(3, hto (lnE aH d.aq))] [] [(11, .bool (decide ((j1 : Int) < (d.aq.length:Int))))] ?_
  refine qT (ltT hx1) ?_
  refine A.skip ?_
  show ah _ _ _ _ _
  refine A.seq ?_
  refine A.block ?_
  refine qDs [(3, hix (ix aH (bf hx1)))] [11] [(21, .bool (decide (e1.ak = aJ)))] ?_
  rcases ai hm with ⟨c1,hm⟩|⟨c1,hm⟩
  ·refine qT c1 ?_
   refine qS [(3, hix (ix aH (bf hx1)))] [(4, .ptr 69004 0), (5, .bool true)] [(69004, .cells 50 (k6 e1))] ?_
   cases hm
   exact A.ret qE
  refine qF c1 ?_
  refine A.skip ?_
  show ah _ _ _ _ _
  refine qGs [(1, hto (inc hx1 hb1))] [6, 21] [(6, i6 ((j1 + 1 : Nat) : Int))] ?_
  exact qX () hm
 rintro j1 ⟨⟩ hj1 hl1 hm
 rw [hK1] at hm
 refine A.seq ?_
 refine qDs [(3, hto (lnE aH d.aq))] [] [(11, .bool (decide ((j1 : Int) < (d.aq.length:Int))))] ?_
 refine qF (ltF hl1) ?_
 refine A.exit ?_
 show ah _ _ _ _ _
 refine qD [] [1, 2, 6, 11] [(5, .bool false)] [69002] [] ?_
 cases hm
 exact A.ret qE
end Go.Proofs.YtpmifmdidfgpdaaGreat
