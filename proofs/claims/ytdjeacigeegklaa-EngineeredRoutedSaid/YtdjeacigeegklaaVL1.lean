/- The iY of ee of the program. No condition but bL aY stand in each. -/
import Derived.Test.YtdjeacigeegklaaDL1
import Derived.Test.YtdjeacigeegklaaVN
import Derived.Test.YtdjeacigeegklaaVX
import Derived.Test.YtdjeacigeegklaaVE
import Derived.Test.YtdjeacigeegklaaVL
namespace Go.Proofs.Ytdjeacigeegklaa
open Go
set_option maxRecDepth 100000
set_option linter.all false
theorem pM {t : List Int} {r : Bool} (hm : gM t = some r) : RO Try.prog 4 [] [lf bx t] (.bool r) := by
 refine bO Try.func4 rfl rfl ?_
 unfold gM at hm
 refine qS [] [(0, lf bx t)] [] ?_
 obtain ⟨ay, h1, hm⟩ := af hm
 refine qS [(1, hdc [900000074] (lE h1) ck6)] [(3, .ptr 900000074 0)] [(900000074, .cells 74 (k3 ay))] ?_
 obtain ⟨aV, h2, hm⟩ := af hm
 refine qD [(1, hdc [] (mS h2) ck7), (2, .al 4004)] [] [(4, .ptr 4004 0)] [900000074] [(900000074, .cells 74 (k3 aV.2)), (4004, .cells 28 (k2 aV.1))] ?_
 obtain ⟨bu, h3, hm⟩ := af hm
 obtain ⟨e_1, h4, hm⟩ := af hm
 obtain ⟨aK, h5, hm⟩ := af hm
 obtain ⟨e_2, h6, hm⟩ := af hm
 refine qD [(5, hto (lnE aL aV.1.aC)), (6, hdc [] (br h3) jl), (7, hix (ix aL h4)), (15, hto (lnE aL aV.1.aC)), (16, hdc [] (br h5) jl), (17, hix (ix aL h6))] [3] [(5, i6 e_1.ID), (6, i6 e_2.ID)] [900000074] [] ?_
 refine A.seq ?_
 refine qDs [] [] [(39, .bool (decide (e_1.ID = e_2.ID)))] ?_
 rcases aA hm with ⟨c1,hm⟩|⟨c1,hm⟩
 ·refine qT c1 ?_
  obtain ⟨cO, h7, hm⟩ := af hm
  refine qS [(0, hro (gu h7) w6)] [(2, .bool cO)] [] ?_
  cases hm
  exact A.ret qE
 refine qF c1 ?_
 refine A.skip ?_
 show aj _ _ _ _ _
 refine qD [(8, .al 4007)] [39] [(7, .ptr 4007 0)] [] [(4007, .cells 32 [i6 8, .lst true (ml ak ([(ah.mk (1:Int) e_1.ID (2:Int) e_2.ID), (ah.mk (6:Int) e_2.ID (3:Int) e_2.ID)] : List ah))])] ?_
 obtain ⟨aU, h8, hm⟩ := af hm
 refine qD [(4, hro (lV h8) afo), (8, .al 4008)] [4, 7] [(8, .ptr 4008 0), (9, i6 aU.2)] [4004, 4007] [(4008, .cells 45 (k12 aU.1))] ?_
 refine A.seq ?_
 refine qDs [] [9] [(58, .bool (!decide (aU.2 = (0:Int))))] ?_
 rcases aA hm with ⟨c2,hm⟩|⟨c2,hm⟩
 ·refine qT c2 ?_
  refine qS [] [(2, .bool false)] [] ?_
  cases hm
  exact A.ret qE
 refine qF c2 ?_
 refine A.skip ?_
 show aj _ _ _ _ _
 refine A.seq ?_
 refine qDs [(2, hto (lnE cG aU.1.cB))] [58] [(62, .bool (decide ((aU.1.cB.length:Int) = (0:Int))))] ?_
 rcases aA hm with ⟨c3,hm⟩|⟨c3,hm⟩
 ·refine qT c3 ?_
  rcases aA hm with ⟨c4,hm⟩|⟨c4,hm⟩
  ·obtain ⟨e_3, h9, hm⟩ := af hm
   rcases aA hm with ⟨c5,hm⟩|⟨c5,hm⟩
   ·rcases aA hm with ⟨c6,hm⟩|⟨c6,hm⟩
    ·obtain ⟨dh, h10, hm⟩ := af hm
     refine qS [(2, hto (lnE gl aU.1.ng)), (4, hto (bE c4)), (7, hix (ix gl h9)), (11, .sq false 62 (.agg (k11 e_3)) (.agg [i6 e_1.ID, .int .u64 (2:Int)]) (o3 e_3 (cH.mk e_1.ID (2:Int))) (fun x y w => wJ x y _ _ _ _ w)), (13, hto (bE c5)), (16, hto (lnE ck aU.1.cK)), (19, hto (bE c6)), (20, hro (gu h10) w6)] [(2, .bool dh)] [] ?_
     cases hm
     exact A.ret qE
    refine qS [(2, hto (lnE gl aU.1.ng)), (4, hto (bE c4)), (7, hix (ix gl h9)), (11, .sq false 62 (.agg (k11 e_3)) (.agg [i6 e_1.ID, .int .u64 (2:Int)]) (o3 e_3 (cH.mk e_1.ID (2:Int))) (fun x y w => wJ x y _ _ _ _ w)), (13, hto (bE c5)), (16, hto (lnE ck aU.1.cK)), (19, hto (bE c6))] [(2, .bool false)] [] ?_
    cases hm
    exact A.ret qE
   refine qS [(2, hto (lnE gl aU.1.ng)), (4, hto (bE c4)), (7, hix (ix gl h9)), (11, .sq false 62 (.agg (k11 e_3)) (.agg [i6 e_1.ID, .int .u64 (2:Int)]) (o3 e_3 (cH.mk e_1.ID (2:Int))) (fun x y w => wJ x y _ _ _ _ w)), (13, hto (bE c5))] [(2, .bool false)] [] ?_
   cases hm
   exact A.ret qE
  refine qS [(2, hto (lnE gl aU.1.ng)), (4, hto (bE c4))] [(2, .bool false)] [] ?_
  cases hm
  exact A.ret qE
 refine qF c3 ?_
 refine A.skip ?_
 show aj _ _ _ _ _
 refine qDs [] [5, 62] [(10, i6 e_1.ID)] ?_
 refine A.seq ?_
 refine qDs [(2, hto (lnE cG aU.1.cB))] [] [(87, lf cG aU.1.cB), (88, i6 (aU.1.cB.length:Int)), (89, i6 0)] ?_
 refine A.block ?_
 refine A.bS 87 rfl fun hb1 => ?_
 obtain ⟨B1, K1, hB1, hK1, hm⟩ := bN hm
 refine A.lpI (l := aU.1.cB) (j0 := 0) (B := B1) (K := K1) hm (fun j1 => fun iL => [(6, i6 e_2.ID), (8, .ptr 4008 0), (10, i6 iL), (87, lf cG aU.1.cB), (88, i6 (aU.1.cB.length:Int)), (89, i6 (j1 : Int))]) (fun j1 => fun iL => [(4008, .cells 45 (k12 aU.1))]) ?_ ?_ ?_
 ·exact qW
 ·rintro j1 e1 Z1 iL hj1 hx1 hm
  rw [hB1] at hm
  refine qDs [] [] [(90, .bool (decide ((j1 : Int) < (aU.1.cB.length:Int))))] ?_
  refine A.seq ?_
  refine qT (ltT hx1) ?_
  refine A.skip ?_
  show aj _ _ _ _ _
  refine A.seq ?_
  refine A.block ?_
  refine qD [(0, hix (ix cG (b8 hx1))), (2, .al 4012)] [90] [(12, .ptr 4012 0)] [] [(4012, .cells 54 (k10 e1))] ?_
  refine A.seq ?_
  refine A.mid [(6, i6 e_2.ID), (8, .ptr 4008 0), (87, lf cG aU.1.cB), (88, i6 (aU.1.cB.length:Int)), (89, i6 (j1 : Int)), (12, .ptr 4012 0), (101, .bool ((!decide (e1.nD = iL)) || (!decide (e1.Bits = (64:Int)))))] [(4008, .cells 45 (k12 aU.1)), (4012, .cells 54 (k10 e1))] (fun hk => ?_) ?_
  ·rcases tf (!decide (e1.nD = iL)) with c7 | c7
   ·exact qS [(4, hto (bE c7)), (8, hto (orT (q := !decide (e1.Bits = (64:Int))) c7))] _ _ hk
   exact qS [(4, hto (bE c7)), (8, hto (orF (q := !decide (e1.Bits = (64:Int))) c7))] _ _ hk
  rcases aA hm with ⟨c8,hm⟩|⟨c8,hm⟩
  ·refine qT c8 ?_
   refine qS [] [(2, .bool false)] [] ?_
   cases hm
   exact A.ret qE
  refine qF c8 ?_
  refine A.skip ?_
  show aj _ _ _ _ _
  refine qG [] [12, 101] [(10, i6 e1.To)] [4012] [] ?_
  show aj _ _ _ _ _
  refine qGs [(0, hto (inc hx1 hb1))] [89] [(89, i6 ((j1 + 1 : Nat) : Int))] ?_
  exact qX e1.To hm
 rintro j1 iL hj1 hl1 hm
 rw [hK1] at hm
 refine qDs [] [] [(90, .bool (decide ((j1 : Int) < (aU.1.cB.length:Int))))] ?_
 refine A.seq ?_
 refine qF (ltF hl1) ?_
 refine A.exit ?_
 show aj _ _ _ _ _
 rcases aA hm with ⟨c9,hm⟩|⟨c9,hm⟩
 ·rcases aA hm with ⟨c10,hm⟩|⟨c10,hm⟩
  ·obtain ⟨e_4, h11, hm⟩ := af hm
   rcases aA hm with ⟨c11,hm⟩|⟨c11,hm⟩
   ·rcases aA hm with ⟨c12,hm⟩|⟨c12,hm⟩
    ·obtain ⟨de, h12, hm⟩ := af hm
     refine qS [(3, hto (bE c9)), (6, hto (lnE ck aU.1.cK)), (9, hto (bE c10)), (12, hix (ix ck h11)), (18, hto (bE c11)), (21, hix (ix ck h11)), (27, hto (bE c12)), (28, hro (gu h12) w6)] [(2, .bool de)] [] ?_
     cases hm
     exact A.ret qE
    refine qS [(3, hto (bE c9)), (6, hto (lnE ck aU.1.cK)), (9, hto (bE c10)), (12, hix (ix ck h11)), (18, hto (bE c11)), (21, hix (ix ck h11)), (27, hto (bE c12))] [(2, .bool false)] [] ?_
    cases hm
    exact A.ret qE
   refine qS [(3, hto (bE c9)), (6, hto (lnE ck aU.1.cK)), (9, hto (bE c10)), (12, hix (ix ck h11)), (18, hto (bE c11))] [(2, .bool false)] [] ?_
   cases hm
   exact A.ret qE
  refine qS [(3, hto (bE c9)), (6, hto (lnE ck aU.1.cK)), (9, hto (bE c10))] [(2, .bool false)] [] ?_
  cases hm
  exact A.ret qE
 refine qS [(3, hto (bE c9))] [(2, .bool false)] [] ?_
 cases hm
 exact A.ret qE
end Go.Proofs.Ytdjeacigeegklaa
