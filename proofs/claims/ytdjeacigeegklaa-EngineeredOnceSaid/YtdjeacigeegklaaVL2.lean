/- The iY of ee of the program. No condition but bL aY stand in each. -/
import Derived.Test.YtdjeacigeegklaaDL2
import Derived.Test.YtdjeacigeegklaaVN
import Derived.Test.YtdjeacigeegklaaVX
import Derived.Test.YtdjeacigeegklaaVE
import Derived.Test.YtdjeacigeegklaaVL
namespace Go.Proofs.Ytdjeacigeegklaa
open Go
set_option maxRecDepth 100000
set_option linter.all false
theorem qn {t : List Int} {r : Bool} (hm : iu t = some r) : RO Try.prog 5 [] [lf bx t] (.bool r) := by
 refine bO Try.func5 rfl rfl ?_
 unfold iu at hm
 refine qS [] [(0, lf bx t)] [] ?_
 obtain ⟨ay, h1, hm⟩ := af hm
 refine qS [(1, hdc [900000074] (lE h1) ck6)] [(3, .ptr 900000074 0)] [(900000074, .cells 74 (k3 ay))] ?_
 obtain ⟨aV, h2, hm⟩ := af hm
 refine qD [(1, hdc [] (mS h2) ck7), (2, .al 5004)] [] [(4, .ptr 5004 0)] [900000074] [(900000074, .cells 74 (k3 aV.2)), (5004, .cells 28 (k2 aV.1))] ?_
 obtain ⟨bu, h3, hm⟩ := af hm
 refine qD [(2, hdc [] (rW h3) ck8), (3, .al 5005)] [] [(5, .ptr 5005 0)] [900000074] [(900000074, .cells 74 (k3 bu.2)), (5005, .cells 32 (k5 bu.1))] ?_
 obtain ⟨aK, h4, hm⟩ := af hm
 refine qD [(2, hdc [] (qd h4) ck9), (3, .al 5006)] [] [(6, .ptr 5006 0)] [900000074] [(900000074, .cells 74 (k3 aK.2)), (5006, .cells 36 (k7 aK.1))] ?_
 refine qD [] [] [] [5006] [(5006, .cells 36 [i6 aK.1.Mode, i6 aK.1.bQ, i6 aK.1.Set, i6 aK.1.Length, i6 63, i6 aK.1.cv, i6 aK.1.cw, i6 aK.1.dx, .int .u64 aK.1.Bits, .str aK.1.cz])] ?_
 obtain ⟨cO, h5, hm⟩ := af hm
 obtain ⟨e_1, h6, hm⟩ := af hm
 refine qD [(5, hto (lnE aL aV.1.aC)), (6, hdc [] (br h5) jl), (7, hix (ix aL h6))] [4] [(7, i6 e_1.ID)] [900000074, 5004] [(900000074, .cells 74 (k3 cO.2))] ?_
 refine qDs [] [] [(8, .aW)] ?_
 refine A.seq ?_
 refine qDs [] [] [(9, i6 0)] ?_
 refine A.block ?_
 obtain ⟨B1, K1, hB1, hK1, hm⟩ := nM hm
 refine A.lpN (hi := (30:Int)) (B := B1) (K := K1) hm rfl (fun j1 => fun sg => match sg with | (sE, oE, m_1, m_2, m_3, m_4, m_5, m_6, m_7, m_8, m_9, fZ, en, fK) => [(3, .ptr 900000074 0), (5, .ptr 5005 0), (6, .ptr 5006 0), (7, i6 sE), (8, .own 600005008), (9, i6 (j1 : Int))]) (fun j1 => fun sg => match sg with | (sE, oE, m_1, m_2, m_3, m_4, m_5, m_6, m_7, m_8, m_9, fZ, en, fK) => [(900000074, .cells 74 [lf bx en, i6 fK]), (5005, .cells 32 (k5 bu.1)), (5006, .cells 36 [i6 m_1, i6 m_2, i6 m_3, i6 m_4, i6 m_5, i6 m_6, i6 m_7, i6 m_8, .int .u64 m_9, .str fZ]), (600005008, .slice 3 1 (ml bx oE) 0 false)]) ?_ ?_ ?_
 ·exact bz.go [.ad 8 600005008 3 1] [] (by kernel_rfl)
 ·rintro j1 Z1 ⟨sE, oE, m_1, m_2, m_3, m_4, m_5, m_6, m_7, m_8, m_9, fZ, en, fK⟩ hj1 hx1 hm
  rw [hB1] at hm
  refine A.seq ?_
  refine qDs [] [] [(35, .bool (decide ((j1 : Int) < (30:Int))))] ?_
  refine A.cT rfl (decide_eq_true hx1) ?_
  refine A.skip ?_
  show aj _ _ _ _ _
  refine A.seq ?_
  refine A.block ?_
  obtain ⟨aU, h7, hm⟩ := af hm
  refine qD [(3, hro (rN h7) ck15), (7, .al 5010)] [35] [(10, .ptr 5010 0), (11, i6 aU.2)] [] [(5010, .cells 65 (k8 aU.1))] ?_
  refine A.seq ?_
  refine A.mid [(3, .ptr 900000074 0), (5, .ptr 5005 0), (6, .ptr 5006 0), (7, i6 sE), (8, .own 600005008), (9, i6 (j1 : Int)), (10, .ptr 5010 0), (51, .bool ((!decide (aU.2 = (0:Int))) || (!decide (aU.1.mg = (0:Int)))))] [(900000074, .cells 74 [lf bx en, i6 fK]), (5005, .cells 32 (k5 bu.1)), (5006, .cells 36 [i6 m_1, i6 m_2, i6 m_3, i6 m_4, i6 m_5, i6 m_6, i6 m_7, i6 m_8, .int .u64 m_9, .str fZ]), (600005008, .slice 3 1 (ml bx oE) 0 false), (5010, .cells 65 (k8 aU.1))] (fun hk => ?_) ?_
  ·rcases tf (!decide (aU.2 = (0:Int))) with c1 | c1
   ·exact qS [(2, hto (bE c1)), (6, hto (orT (q := !decide (aU.1.mg = (0:Int))) c1))] _ _ hk
   exact qS [(2, hto (bE c1)), (6, hto (orF (q := !decide (aU.1.mg = (0:Int))) c1))] _ _ hk
  rcases aA hm with ⟨c2,hm⟩|⟨c2,hm⟩
  ·refine qT c2 ?_
   refine qS [] [(2, .bool false)] [] ?_
   cases hm
   exact A.ret qE
  refine qF c2 ?_
  refine A.skip ?_
  show aj _ _ _ _ _
  refine A.seq ?_
  obtain ⟨dh, h8, hm⟩ := af hm
  refine qDs [(2, hle [600005008] (uj h8) ck16)] [51] [(54, .bool dh)] ?_
  rcases aA hm with ⟨c3,hm⟩|⟨c3,hm⟩
  ·refine qT c3 ?_
   rcases aA hm with ⟨c4,hm⟩|⟨c4,hm⟩
   ·rcases aA hm with ⟨c5,hm⟩|⟨c5,hm⟩
    ·obtain ⟨de, h9, hm⟩ := af hm
     refine qS [(3, hto (bE c4)), (6, hto (lnE lN aU.1.kH)), (9, hto (bE c5)), (10, hro (gu h9) w6)] [(2, .bool de)] [] ?_
     cases hm
     exact A.ret qE
    refine qS [(3, hto (bE c4)), (6, hto (lnE lN aU.1.kH)), (9, hto (bE c5))] [(2, .bool false)] [] ?_
    cases hm
    exact A.ret qE
   refine qS [(3, hto (bE c4))] [(2, .bool false)] [] ?_
   cases hm
   exact A.ret qE
  refine qF c3 ?_
  refine A.skip ?_
  show aj _ _ _ _ _
  obtain ⟨l_1, h10, hm⟩ := af hm
  refine qD [(3, hap 5570 (ap bx (bytes := 8) (by decide) h10))] [7, 8, 54] [(8, .own 5570)] [600005008] [(5570, .slice 3 1 (ml bx l_1) 0 false)] ?_
  refine A.seq ?_
  refine qDs [(2, hto (lnE lN aU.1.kH))] [] [(74, .bool (decide ((aU.1.kH.length:Int) = (0:Int))))] ?_
  rcases aA hm with ⟨c6,hm⟩|⟨c6,hm⟩
  ·refine qT c6 ?_
   obtain ⟨iG, h11, hm⟩ := af hm
   refine qS [(0, hro (gu h11) w6)] [(2, .bool iG)] [] ?_
   cases hm
   exact A.ret qE
  refine qF c6 ?_
  refine A.skip ?_
  show aj _ _ _ _ _
  obtain ⟨gV, h12, hm⟩ := af hm
  obtain ⟨e_2, h13, hm⟩ := af hm
  refine qD [(5, hto (lnE lN aU.1.kH)), (6, hdc [] (br h12) jl), (7, hix (ix lN h13)), (9, .al 5012)] [10, 74] [(12, .ptr 5012 0)] [900000074, 5010] [(900000074, .cells 74 (k3 gV.2)), (5012, .cells 72 [i6 e_2.To, lf bx e_2.Frame.vK, i6 e_2.Frame.aJ.Mode, i6 e_2.Frame.aJ.bQ, i6 e_2.Frame.aJ.Set, i6 e_2.Frame.aJ.Length, i6 e_2.Frame.aJ.TTL, i6 e_2.Frame.aJ.cv, i6 e_2.Frame.aJ.cw, i6 e_2.Frame.aJ.dx, .int .u64 e_2.Frame.aJ.Bits, .str e_2.Frame.aJ.cz])] ?_
  refine A.seq ?_
  refine A.mid [(3, .ptr 900000074 0), (5, .ptr 5005 0), (6, .ptr 5006 0), (8, .own 5570), (9, i6 (j1 : Int)), (12, .ptr 5012 0), (111, .bool ((!decide (bH .andNot .u64 e_2.Frame.aJ.Bits m_9 = (0:Int))) || ((decide (e_2.Frame.aJ.Bits = m_9)) || (!decide (e_2.Frame.aJ.TTL = w64 (m_5 - (1:Int)))))))] [(900000074, .cells 74 (k3 gV.2)), (5005, .cells 32 (k5 bu.1)), (5006, .cells 36 [i6 m_1, i6 m_2, i6 m_3, i6 m_4, i6 m_5, i6 m_6, i6 m_7, i6 m_8, .int .u64 m_9, .str fZ]), (5570, .slice 3 1 (ml bx l_1) 0 false), (5012, .cells 72 [i6 e_2.To, lf bx e_2.Frame.vK, i6 e_2.Frame.aJ.Mode, i6 e_2.Frame.aJ.bQ, i6 e_2.Frame.aJ.Set, i6 e_2.Frame.aJ.Length, i6 e_2.Frame.aJ.TTL, i6 e_2.Frame.aJ.cv, i6 e_2.Frame.aJ.cw, i6 e_2.Frame.aJ.dx, .int .u64 e_2.Frame.aJ.Bits, .str e_2.Frame.aJ.cz])] (fun hk => ?_) ?_
  ·rcases tf (!decide (bH .andNot .u64 e_2.Frame.aJ.Bits m_9 = (0:Int))) with c7 | c7
   ·exact qS [(8, hto (bE c7)), (26, hto (orT (q := ((decide (e_2.Frame.aJ.Bits = m_9)) || (!decide (e_2.Frame.aJ.TTL = w64 (m_5 - (1:Int)))))) c7))] _ _ hk
   rcases tf (decide (e_2.Frame.aJ.Bits = m_9)) with c8 | c8
   ·exact qS [(8, hto (bE c7)), (17, hto (bE c8)), (26, hto ((orT (q := !decide (e_2.Frame.aJ.TTL = w64 (m_5 - (1:Int)))) c8).trans (orF (q := ((decide (e_2.Frame.aJ.Bits = m_9)) || (!decide (e_2.Frame.aJ.TTL = w64 (m_5 - (1:Int)))))) c7)))] _ _ hk
   exact qS [(8, hto (bE c7)), (17, hto (bE c8)), (26, hto ((orF (q := !decide (e_2.Frame.aJ.TTL = w64 (m_5 - (1:Int)))) c8).trans (orF (q := ((decide (e_2.Frame.aJ.Bits = m_9)) || (!decide (e_2.Frame.aJ.TTL = w64 (m_5 - (1:Int)))))) c7)))] _ _ hk
  rcases aA hm with ⟨c9,hm⟩|⟨c9,hm⟩
  ·refine qT c9 ?_
   refine qS [] [(2, .bool false)] [] ?_
   cases hm
   exact A.ret qE
  refine qF c9 ?_
  refine A.skip ?_
  show aj _ _ _ _ _
  refine qG [] [12, 111] [(7, i6 e_2.To)] [5006, 5012] [(5006, .cells 36 (k7 e_2.Frame.aJ))] ?_
  show aj _ _ _ _ _
  refine qGs [(1, hto (yp (by omega) hx1 (by decide)))] [9] [(9, i6 (j1 + 1 : Int))] ?_
  exact Exists.intro (e_2.To, l_1, e_2.Frame.aJ.Mode, e_2.Frame.aJ.bQ, e_2.Frame.aJ.Set, e_2.Frame.aJ.Length, e_2.Frame.aJ.TTL, e_2.Frame.aJ.cv, e_2.Frame.aJ.cw, e_2.Frame.aJ.dx, e_2.Frame.aJ.Bits, e_2.Frame.aJ.cz, gV.2.L, gV.2.At) (And.intro hm (bz.go [.sw 5570 600005008] [] (by kernel_rfl)))
 rintro j1 ⟨sE, oE, m_1, m_2, m_3, m_4, m_5, m_6, m_7, m_8, m_9, fZ, en, fK⟩ hj1 hl1 hm
 rw [hK1] at hm
 refine A.seq ?_
 refine qDs [] [] [(35, .bool (decide ((j1 : Int) < (30:Int))))] ?_
 refine A.cF rfl (geF hl1) ?_
 refine A.exit ?_
 show aj _ _ _ _ _
 refine qS [] [(2, .bool false)] [] ?_
 cases hm
 exact A.ret qE
end Go.Proofs.Ytdjeacigeegklaa
