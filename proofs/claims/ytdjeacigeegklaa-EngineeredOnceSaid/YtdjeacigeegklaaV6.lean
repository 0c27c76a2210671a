/- The iY of ee of the program. No condition but bL aY stand in each. -/
import Derived.Test.YtdjeacigeegklaaDA
import Derived.Test.YtdjeacigeegklaaVC
import Derived.Test.YtdjeacigeegklaaV5
import Derived.Test.YtdjeacigeegklaaSF
namespace Go.Proofs.Ytdjeacigeegklaa
open Go
set_option maxRecDepth 100000
set_option linter.all false
theorem oL {t : aa} {r : Bool} (hm : ic t = some r) : RO Try.prog 65 [] [.agg (k2 t)] (.bool r) := by
 refine bO Try.func65 rfl rfl ?_
 unfold ic at hm
 refine qS [(0, .al 65001)] [(1, .ptr 65001 0)] [(65001, .cells 28 (k2 t))] ?_
 obtain ⟨ay, h1, hm⟩ := af hm
 refine qS [(1, hro (jv h1) ab4)] [(2, .bool (decide (ay = (0:Int))))] [] ?_
 cases hm
 exact A.ret qE
theorem uZ {t : aa} {r : eD} (hm : jT t = some r) : RO Try.prog 66 [] [.agg (k2 t)] (.agg [.mpf (bI .i64 (vL aq) r.jZ), .mpf (bI .i64 (vL aq) r.in_)]) := by
 refine bO Try.func66 rfl rfl ?_
 unfold jT at hm
 refine qS [(0, .al 66001), (1, .al 66002)] [(1, .ptr 66001 0), (2, .ptr 66002 0)] [(66001, .cells 28 (k2 t)), (66002, .cells 127 [.dn, .dn])] ?_
 refine qD [(0, .al 66009), (1, .al 66010), (3, .al 66003)] [] [(3, .ptr 66003 0)] [] [(66009, .map 3 133 (bI .i64 (vL aq) [])), (66010, .map 3 133 (bI .i64 (vL aq) [])), (66003, .cells 127 [.bT 66009, .bT 66010])] ?_
 refine A.weak ((bz.ac4 (d := 66009) (e := 450066009) rfl rfl rfl rfl rfl)) ?_
 refine A.weak ((bz.ac4 (d := 66010) (e := 450066010) rfl rfl rfl rfl rfl)) ?_
 refine A.seq ?_
 refine qS [(2, hto (lnE aL t.aC))] [(1, .ptr 66001 0), (2, .ptr 66002 0), (3, .ptr 66003 0), (13, lf aL t.aC), (14, i6 (t.aC.length:Int)), (15, i6 0)] [(66001, .cells 28 (k2 t)), (66002, .cells 127 [.dn, .dn]), (66009, .cM 3 133 450066009 (cL .i64 ([] : List (Int × List az))) none none), (450066009, .bun (dS 135 2 aq.enc ([] : List (Int × List az)))), (66010, .cM 3 133 450066010 (cL .i64 ([] : List (Int × List az))) none none), (450066010, .bun (dS 135 2 aq.enc ([] : List (Int × List az)))), (66003, .cells 127 [.bT 66009, .bT 66010])] ?_
 refine A.block ?_
 refine A.bS 13 rfl fun hb1 => ?_
 obtain ⟨B1, K1, hB1, hK1, hm⟩ := bN hm
 refine A.lpI (l := t.aC) (j0 := 0) (B := B1) (K := K1) hm (fun j1 => fun sg => match sg with | (m_1, m_2) => [(1, .ptr 66001 0), (2, .ptr 66002 0), (3, .ptr 66003 0), (13, lf aL t.aC), (14, i6 (t.aC.length:Int)), (15, i6 (j1 : Int))]) (fun j1 => fun sg => match sg with | (m_1, m_2) => [(66001, .cells 28 (k2 t)), (66002, .cells 127 [.dn, .dn]), (66009, .cM 3 133 450066009 (cL .i64 m_1) none none), (450066009, .bun (dS 135 2 aq.enc m_1)), (66010, .cM 3 133 450066010 (cL .i64 m_2) none none), (450066010, .bun (dS 135 2 aq.enc m_2)), (66003, .cells 127 [.bT 66009, .bT 66010])]) ?_ ?_ ?_
 ·exact qW
 ·rintro j1 e1 Z1 ⟨m_1, m_2⟩ hj1 hx1 hm
  rw [hB1] at hm
  refine qDs [] [] [(16, .bool (decide ((j1 : Int) < (t.aC.length:Int))))] ?_
  refine A.seq ?_
  refine qT (ltT hx1) ?_
  refine A.skip ?_
  show aj _ _ _ _ _
  refine A.seq ?_
  refine A.block ?_
  refine qD [(0, hix (ix aL (b8 hx1))), (2, .al 66005)] [16] [(5, .ptr 66005 0)] [] [(66005, .cells 50 (k0 e1))] ?_
  refine qG [(8, hpm 135 2 530066001 m_1 e1.ID aq.enc [] iz), (9, hpm 135 2 530066002 m_2 e1.ID aq.enc [] iz)] [5] [] [66009, 450066009, 66010, 450066010, 66005] [(66009, .cM 3 133 530066001 (cL .i64 (bB m_1 e1.ID [])) none none), (530066001, .bun (dS 135 2 aq.enc (bB m_1 e1.ID []))), (66010, .cM 3 133 530066002 (cL .i64 (bB m_2 e1.ID [])) none none), (530066002, .bun (dS 135 2 aq.enc (bB m_2 e1.ID [])))] ?_
  show aj _ _ _ _ _
  refine qGs [(0, hto (inc hx1 hb1))] [15] [(15, i6 ((j1 + 1 : Nat) : Int))] ?_
  exact Exists.intro (bB m_1 e1.ID [], bB m_2 e1.ID []) (And.intro hm (bz.go [.rn 530066001 450066009, .rn 530066002 450066010] [] (by kernel_rfl)))
 rintro j1 ⟨m_1, m_2⟩ hj1 hl1 hm
 rw [hK1] at hm
 refine qDs [] [] [(16, .bool (decide ((j1 : Int) < (t.aC.length:Int))))] ?_
 refine A.seq ?_
 refine qF (ltF hl1) ?_
 refine A.exit ?_
 show aj _ _ _ _ _
 refine A.seq ?_
 refine qD [(2, hto (lnE b9 t.Links))] [1, 13, 14, 15, 16] [(29, lf b9 t.Links), (30, i6 (t.Links.length:Int)), (31, i6 0)] [66001] [] ?_
 refine A.block ?_
 refine A.bS 29 rfl fun hb2 => ?_
 obtain ⟨B2, K2, hB2, hK2, hm⟩ := bN hm
 refine A.lpI (l := t.Links) (j0 := 0) (B := B2) (K := K2) hm (fun j2 => fun sg => match sg with | (m_3, m_4) => [(2, .ptr 66002 0), (3, .ptr 66003 0), (29, lf b9 t.Links), (30, i6 (t.Links.length:Int)), (31, i6 (j2 : Int))]) (fun j2 => fun sg => match sg with | (m_3, m_4) => [(66002, .cells 127 [.dn, .dn]), (66009, .cM 3 133 450066009 (cL .i64 m_3) none none), (450066009, .bun (dS 135 2 aq.enc m_3)), (66010, .cM 3 133 450066010 (cL .i64 m_4) none none), (450066010, .bun (dS 135 2 aq.enc m_4)), (66003, .cells 127 [.bT 66009, .bT 66010])]) ?_ ?_ ?_
 ·exact qW
 ·rintro j2 e2 Z2 ⟨m_3, m_4⟩ hj2 hx2 hm
  rw [hB2] at hm
  refine qDs [] [] [(32, .bool (decide ((j2 : Int) < (t.Links.length:Int))))] ?_
  refine A.seq ?_
  refine qT (ltT hx2) ?_
  refine A.skip ?_
  show aj _ _ _ _ _
  refine A.seq ?_
  refine A.block ?_
  refine qD [(0, hix (ix b9 (b8 hx2))), (2, .al 66007)] [32] [(7, .ptr 66007 0)] [] [(66007, .cells 80 (k1 e2))] ?_
  obtain ⟨l_1, h1, hm⟩ := af hm
  refine qD [(8, htk 135 2 530066004 530066003 m_3 e2.A aq.enc iz Try.zeroValue133), (15, hap 66550 (ap aq (bytes := 16) (by decide) h1)), (16, abZ 135 2 530066005 m_3 e2.A aq.enc l_1 530066003 iz)] [] [] [66009, 450066009] [(66009, .cM 3 133 530066005 (cL .i64 (bB m_3 e2.A l_1)) none none), (530066005, .bun (dS 135 2 aq.enc (bB m_3 e2.A l_1)))] ?_
  obtain ⟨l_2, h2, hm⟩ := af hm
  refine qD [(8, htk 135 2 530066007 530066006 (bB m_3 e2.A l_1) e2.B aq.enc iz Try.zeroValue133), (15, hap 66566 (ap aq (bytes := 16) (by decide) h2)), (16, abZ 135 2 530066008 (bB m_3 e2.A l_1) e2.B aq.enc l_2 530066006 iz)] [] [] [66009, 530066005] [(66009, .cM 3 133 530066008 (cL .i64 (bB (bB m_3 e2.A l_1) e2.B l_2)) none none), (530066008, .bun (dS 135 2 aq.enc (bB (bB m_3 e2.A l_1) e2.B l_2)))] ?_
  obtain ⟨l_3, h3, hm⟩ := af hm
  refine qD [(8, htk 135 2 530066010 530066009 m_4 e2.B aq.enc iz Try.zeroValue133), (15, hap 66582 (ap aq (bytes := 16) (by decide) h3)), (16, abZ 135 2 530066011 m_4 e2.B aq.enc l_3 530066009 iz)] [] [] [66010, 450066010] [(66010, .cM 3 133 530066011 (cL .i64 (bB m_4 e2.B l_3)) none none), (530066011, .bun (dS 135 2 aq.enc (bB m_4 e2.B l_3)))] ?_
  obtain ⟨l_4, h4, hm⟩ := af hm
  refine qG [(8, htk 135 2 530066013 530066012 (bB m_4 e2.B l_3) e2.A aq.enc iz Try.zeroValue133), (15, hap 66598 (ap aq (bytes := 16) (by decide) h4)), (16, abZ 135 2 530066014 (bB m_4 e2.B l_3) e2.A aq.enc l_4 530066012 iz)] [7] [] [66010, 530066011, 66007] [(66010, .cM 3 133 530066014 (cL .i64 (bB (bB m_4 e2.B l_3) e2.A l_4)) none none), (530066014, .bun (dS 135 2 aq.enc (bB (bB m_4 e2.B l_3) e2.A l_4)))] ?_
  show aj _ _ _ _ _
  refine qGs [(0, hto (inc hx2 hb2))] [31] [(31, i6 ((j2 + 1 : Nat) : Int))] ?_
  exact Exists.intro (bB (bB m_3 e2.A l_1) e2.B l_2, bB (bB m_4 e2.B l_3) e2.A l_4) (And.intro hm (bz.go [.rn 530066008 450066009, .rn 530066014 450066010] [] (by kernel_rfl)))
 rintro j2 ⟨m_3, m_4⟩ hj2 hl2 hm
 rw [hK2] at hm
 refine qDs [] [] [(32, .bool (decide ((j2 : Int) < (t.Links.length:Int))))] ?_
 refine A.seq ?_
 refine qF (ltF hl2) ?_
 refine A.exit ?_
 show aj _ _ _ _ _
 refine A.seq ?_
 refine A.fixO (d := 66009) rfl fun es1 ck1 => ?_
 refine qS [(2, hrg 66102 es1 ck1 iz)] [(2, .ptr 66002 0), (3, .ptr 66003 0), (102, .ptr 66102 0)] [(66002, .cells 127 [.dn, .dn]), (66009, .cM 3 133 450066009 (cL .i64 m_3) none (some (es1, ck1))), (450066009, .bun (dS 135 2 aq.enc m_3)), (66010, .cM 3 133 450066010 (cL .i64 m_4) none none), (450066010, .bun (dS 135 2 aq.enc m_4)), (66003, .cells 127 [.bT 66009, .bT 66010]), (66102, .iter 66009 ck1 ck1 (#[]))] ?_
 refine A.block ?_
 obtain ⟨R1, hR1, hm⟩ := af hm
 refine A.rng (dm := 66009) (di := 66102) (it := 102) (clock := ck1) (es := es1) hR1 (fun sg => sg.map (·.1) = m_3.map (·.1)) (fun m_5 => [(2, .ptr 66002 0), (3, .ptr 66003 0), (102, .ptr 66102 0)]) (fun sn1 => fun m_5 => [(66002, .cells 127 [.dn, .dn]), (66009, .cM 3 133 450066009 (cL .i64 m_5) none (some (es1, ck1))), (450066009, .bun (dS 135 2 aq.enc m_5)), (66010, .cM 3 133 450066010 (cL .i64 m_4) none none), (450066010, .bun (dS 135 2 aq.enc m_4)), (66003, .cells 127 [.bT 66009, .bT 66010]), (66102, .iter 66009 ck1 ck1 sn1)]) ⟨rfl, rfl, rfl⟩ ⟨rfl, rfl, rfl⟩ (by kernel_rfl) rfl (by intro n v g g1 hB hi; obtain ⟨c, hB⟩ := eB hB; obtain ⟨x, hx, hB⟩ := af hB; obtain rfl := some_inj hB; exact (uR x c).trans hi) (fun _ => rfl) (fun _ _ => rfl) (fun _ _ => ⟨_, rfl, rfl⟩) (fun _ _ _ => rfl) (fun _ _ hi _ _ _ _ hW hn => adC hW rfl hn hi) ?_ ?_ ?_
 ·exact qW
 ·rintro sn1 me1 mi1 n_1 v_1 m_5 gz1 hE1 hl1 hv1 hm
  refine A.block ?_
  refine qS [(0, heo 66102 66009 ck1 .i64 sn1 hE1 (amO hv1 hl1))] [(2, .ptr 66002 0), (3, .ptr 66003 0), (102, .ptr 66102 0), (8, i6 n_1)] [(66002, .cells 127 [.dn, .dn]), (66009, .cM 3 133 450066009 (cL .i64 m_5) none (some (es1, ck1))), (450066009, .bun (dS 135 2 aq.enc m_5)), (66010, .cM 3 133 450066010 (cL .i64 m_4) none none), (450066010, .bun (dS 135 2 aq.enc m_4)), (66003, .cells 127 [.bT 66009, .bT 66010]), (66102, .iter 66009 ck1 ck1 (sn1.push me1.born))] ?_
  obtain ⟨h5, hm⟩ := eB hm
  obtain ⟨l_5, h6, hm⟩ := af hm
  refine qG [(3, htk 135 2 530066016 530066015 m_5 n_1 aq.enc iz Try.zeroValue133), (4, hdc [] (aky (d := 530066015) (T := 135) h6) ck72)] [8] [] [66009, 450066009] [(66009, .cM 3 133 530066016 (cL .i64 m_5) (iZ m_5 n_1 530066015) (some (es1, ck1))), (530066016, .bun (dS 135 2 aq.enc (iP m_5 n_1))), (530066015, .slice 135 2 (ml aq l_5) 0 false)] ?_
  obtain rfl := some_inj hm
  exact ((bz.aqL (d := 66009) (e := 530066016) (e2 := 530066017) (t := 530066015) m_5 n_1 aq.enc l_5 h5 rfl rfl rfl rfl rfl rfl rfl).trans (bz.go [.rn 530066017 450066009] [] (by kernel_rfl)))
 intro sn1
 show aj _ _ _ _ _
 refine A.weak (bz.amz (d := 66009) (e := 450066009) R1 aq.enc rfl rfl) ?_
 refine A.weak (bz.amz (d := 66010) (e := 450066010) m_4 aq.enc rfl rfl) ?_
 refine qS [] [(2, .ptr 66002 0)] [(66002, .cells 127 [.bT 66009, .bT 66010]), (66009, .iw 3 133 (bI .i64 (vL aq) R1)), (66010, .iw 3 133 (bI .i64 (vL aq) m_4))] ?_
 cases hm
 exact A.ret qE
theorem rM {links : List (Int × List az)} {cI : Int} {r : (List (Int × Int))} (hm : eG links cI = some r) : RO Try.prog 67 [] [.mpf (bI .i64 (vL aq) links), i6 cI] (.mpf (bI .i64 (vI .i64) r)) := by
 refine bO Try.func67 rfl rfl ?_
 unfold eG at hm
 refine qS [] [(0, .mpf (bI .i64 (vL aq) links)), (1, i6 cI)] [] ?_
 refine A.scope ?_
 refine qS [(0, .al 67019)] [(0, .mpf (bI .i64 (vL aq) links)), (1, i6 cI), (5, .bT 67019)] [(67019, .map 3 3 (bI .i64 (vI .i64) []))] ?_
 refine A.seq ?_
 refine qDs [(2, hlf links cI (vL aq) [] iz (zSl aq Try.zeroValue133))] [] [(7, .bool ((aD links cI).isSome))] ?_
 refine qDs [] [7] [(27, .bool (!((aD links cI).isSome)))] ?_
 rcases aA hm with ⟨c1,hm⟩|⟨c1,hm⟩
 ·refine qT c1 ?_
  refine qDs [] [0, 1, 5, 27] [(4, .bT 67019)] ?_
  refine A.ret ?_
  obtain rfl := some_inj hm
  exact A.fin W0 [.fz [67019]] rfl (by kernel_rfl)
 refine qF c1 ?_
 refine A.skip ?_
 show aj _ _ _ _ _
 refine qD [(0, .al 67029), (2, hmu (mu (k := .i64) (enc := (vI .i64)) [] cI (0:Int) rfl))] [1, 27] [(8, .bT 67029)] [] [(67029, .map 3 3 (bI .i64 (vI .i64) (bB [] cI (0:Int))))] ?_
 refine A.seq ?_
 refine A.label ?_
 show aj _ _ _ _ _
 obtain ⟨J1, hJ1, hm⟩ := cD hm
 refine A.J (J := J1) (r := r) (fun sg => match sg with | (m_1, m_2) => [(5, .bT 67019)]) (fun sg => match sg with | (m_1, m_2) => [(67019, .map 3 3 (bI .i64 (vI .i64) m_1))]) ?_ ?_
 ·refine A.block ?_
  obtain ⟨F1, n1, hF1, hm⟩ := oT hm
  refine A.lpW (F := F1) hm (fun sg => match sg with | (m_3, m_4) => [(0, .mpf (bI .i64 (vL aq) links)), (5, .bT 67019), (8, .bT 67029)]) (fun sg => match sg with | (m_3, m_4) => [(67019, .map 3 3 (bI .i64 (vI .i64) m_3)), (67029, .map 3 3 (bI .i64 (vI .i64) m_4))]) ?_ ?_
  ·exact qW
  rintro Z1 ⟨m_3, m_4⟩ hm
  rw [hF1] at hm
  refine A.seq ?_
  refine qDs [(1, hlm (lm (k := .i64) (enc := (vI .i64)) m_4))] [] [(34, .bool (decide ((0:Int) < (m_4.length:Int))))] ?_
  rcases aA hm with ⟨c2,hm⟩|⟨c2,hm⟩
  ·refine qT c2 ?_
   refine A.skip ?_
   show aj _ _ _ _ _
   refine A.block ?_
   refine qDs [] [34] [(9, i6 0)] ?_
   refine A.seq ?_
   refine A.fixM (d := 67029) rfl fun es1 ck1 => ?_
   refine qS [(1, hrg 67036 es1 ck1 mX)] [(0, .mpf (bI .i64 (vL aq) links)), (5, .bT 67019), (8, .bT 67029), (9, i6 0), (36, .ptr 67036 0)] [(67019, .map 3 3 (bI .i64 (vI .i64) m_3)), (67029, .eV es1 ck1 3 3 (bI .i64 (vI .i64) m_4)), (67036, .iter 67029 ck1 ck1 (#[]))] ?_
   refine A.block ?_
   obtain ⟨R1, hR1, hm⟩ := af hm
   refine A.rng (dm := 67029) (di := 67036) (it := 36) (clock := ck1) (es := es1) hR1 (fun _ => True) (fun cS => [(0, .mpf (bI .i64 (vL aq) links)), (5, .bT 67019), (8, .bT 67029), (9, i6 cS), (36, .ptr 67036 0)]) (fun sn1 => fun cS => [(67019, .map 3 3 (bI .i64 (vI .i64) m_3)), (67029, .eV es1 ck1 3 3 (bI .i64 (vI .i64) m_4)), (67036, .iter 67029 ck1 ck1 sn1)]) ⟨rfl, rfl, rfl⟩ ⟨rfl, rfl, rfl⟩ (by kernel_rfl) trivial (fun _ _ _ _ _ _ => trivial) (fun _ => rfl) (fun _ _ => rfl) (fun _ _ => ⟨_, rfl, rfl⟩) (fun _ _ _ => rfl) (fun _ _ _ _ _ _ _ hW hn => lenX hW rfl hn) ?_ ?_ ?_
   ·exact qW
   ·rintro sn1 me1 mi1 n_1 v_1 cS gz1 hE1 hl1 hv1 hm
    refine A.block ?_
    refine qS [(0, hex 67036 67029 ck1 .i64 sn1 (vI .i64) hE1 hl1)] [(0, .mpf (bI .i64 (vL aq) links)), (5, .bT 67019), (8, .bT 67029), (9, i6 cS), (36, .ptr 67036 0), (10, i6 n_1), (11, i6 v_1)] [(67019, .map 3 3 (bI .i64 (vI .i64) m_3)), (67029, .eV es1 ck1 3 3 (bI .i64 (vI .i64) m_4)), (67036, .iter 67029 ck1 ck1 (sn1.push me1.born))] ?_
    refine A.mid [(0, .mpf (bI .i64 (vL aq) links)), (5, .bT 67019), (8, .bT 67029), (9, i6 cS), (36, .ptr 67036 0), (10, i6 n_1), (62, .bool ((decide (cS = (0:Int))) || ((decide (v_1 < ((aD m_4 cS).getD (0:Int)))) || ((decide (v_1 = ((aD m_4 cS).getD (0:Int)))) && (decide (n_1 < cS))))))] [(67019, .map 3 3 (bI .i64 (vI .i64) m_3)), (67029, .eV es1 ck1 3 3 (bI .i64 (vI .i64) m_4)), (67036, .iter 67029 ck1 ck1 (sn1.push me1.born))] (fun hk => ?_) ?_
    ·rcases tf (decide (cS = (0:Int))) with c3 | c3
     ·exact qS [(2, hto (bE c3)), (20, hto (orT (q := ((decide (v_1 < ((aD m_4 cS).getD (0:Int)))) || ((decide (v_1 = ((aD m_4 cS).getD (0:Int)))) && (decide (n_1 < cS))))) c3))] _ _ hk
     rcases tf (decide (v_1 < ((aD m_4 cS).getD (0:Int)))) with c4 | c4
     ·exact qS [(2, hto (bE c3)), (6, hlf m_4 cS (vI .i64) (0:Int) mX (zI (k := .i64) Try.zeroValue3)), (9, hto (bE c4)), (20, hto ((orT (q := ((decide (v_1 = ((aD m_4 cS).getD (0:Int)))) && (decide (n_1 < cS)))) c4).trans (orF (q := ((decide (v_1 < ((aD m_4 cS).getD (0:Int)))) || ((decide (v_1 = ((aD m_4 cS).getD (0:Int)))) && (decide (n_1 < cS))))) c3)))] _ _ hk
     rcases tf (decide (v_1 = ((aD m_4 cS).getD (0:Int)))) with c5 | c5
     ·exact qS [(2, hto (bE c3)), (6, hlf m_4 cS (vI .i64) (0:Int) mX (zI (k := .i64) Try.zeroValue3)), (9, hto (bE c4)), (13, hlf m_4 cS (vI .i64) (0:Int) mX (zI (k := .i64) Try.zeroValue3)), (15, hto (bE c5)), (20, hto (((mM (q := decide (n_1 < cS)) c5).trans (orF (q := ((decide (v_1 = ((aD m_4 cS).getD (0:Int)))) && (decide (n_1 < cS)))) c4)).trans (orF (q := ((decide (v_1 < ((aD m_4 cS).getD (0:Int)))) || ((decide (v_1 = ((aD m_4 cS).getD (0:Int)))) && (decide (n_1 < cS))))) c3)))] _ _ hk
     exact qS [(2, hto (bE c3)), (6, hlf m_4 cS (vI .i64) (0:Int) mX (zI (k := .i64) Try.zeroValue3)), (9, hto (bE c4)), (13, hlf m_4 cS (vI .i64) (0:Int) mX (zI (k := .i64) Try.zeroValue3)), (15, hto (bE c5)), (20, hto (((oD (q := decide (n_1 < cS)) c5).trans (orF (q := ((decide (v_1 = ((aD m_4 cS).getD (0:Int)))) && (decide (n_1 < cS)))) c4)).trans (orF (q := ((decide (v_1 < ((aD m_4 cS).getD (0:Int)))) || ((decide (v_1 = ((aD m_4 cS).getD (0:Int)))) && (decide (n_1 < cS))))) c3)))] _ _ hk
    rcases aA hm with ⟨c6,hm⟩|⟨c6,hm⟩
    ·refine qT c6 ?_
     refine qGs [] [9, 10, 62] [(9, i6 n_1)] ?_
     obtain rfl := some_inj hm
     exact (qW)
    refine qF c6 ?_
    refine A.skip ?_
    obtain rfl := some_inj hm
    exact (qW)
   intro sn1
   show aj _ _ _ _ _
   refine A.weak (bz.aqM (d := 67029) rfl) ?_
   refine qS [(2, hlk (lk (E := 3) (k := .i64) (enc := (vI .i64)) m_4 R1 (0:Int) (fun w => ⟨_, Try.zeroValue3 w, fun I => by simp [aF, vI, vB]⟩)))] [(0, .mpf (bI .i64 (vL aq) links)), (5, .bT 67019), (8, .bT 67029), (9, i6 R1), (12, i6 ((aD m_4 R1).getD (0:Int)))] [(67019, .map 3 3 (bI .i64 (vI .i64) m_3)), (67029, .map 3 3 (bI .i64 (vI .i64) m_4))] ?_
   refine qD [(2, hde m_4 R1 (vI .i64) mX)] [] [] [67029] [(67029, .map 3 3 (bI .i64 (vI .i64) (lT m_4 R1)))] ?_
   refine qD [(3, hmu (mu (k := .i64) (enc := (vI .i64)) m_3 R1 ((aD m_4 R1).getD (0:Int)) rfl))] [] [] [67019] [(67019, .map 3 3 (bI .i64 (vI .i64) (bB m_3 R1 ((aD m_4 R1).getD (0:Int)))))] ?_
   refine A.seq ?_
   refine qDs [(1, hlm (lm (k := .i64) (enc := (vI .i64)) (bB m_3 R1 ((aD m_4 R1).getD (0:Int))))), (3, hnf links (vL aq) iz)] [] [(76, .bool (decide (((bB m_3 R1 ((aD m_4 R1).getD (0:Int))).length:Int) = (links.length:Int))))] ?_
   rcases aA hm with ⟨c7,hm⟩|⟨c7,hm⟩
   ·refine qT c7 ?_
    refine A.exit ?_
    exact qX (bB m_3 R1 ((aD m_4 R1).getD (0:Int)), lT m_4 R1) hm
   refine qF c7 ?_
   refine A.skip ?_
   show aj _ _ _ _ _
   refine qDs [(2, hlf links R1 (vL aq) [] iz (zSl aq Try.zeroValue133)), (3, hto (lnE aq ((aD links R1).getD [])))] [9, 76] [(79, lf aq ((aD links R1).getD [])), (80, i6 (((aD links R1).getD []).length:Int)), (81, i6 0)] ?_
   refine A.block ?_
   refine A.bS 79 rfl fun hb2 => ?_
   obtain ⟨B2, K2, hB2, hK2, hm⟩ := bN hm
   refine A.lpI (l := ((aD links R1).getD [])) (j0 := 0) (B := B2) (K := K2) hm (fun j2 => fun m_5 => [(0, .mpf (bI .i64 (vL aq) links)), (5, .bT 67019), (8, .bT 67029), (12, i6 ((aD m_4 R1).getD (0:Int))), (79, lf aq ((aD links R1).getD [])), (80, i6 (((aD links R1).getD []).length:Int)), (81, i6 (j2 : Int))]) (fun j2 => fun m_5 => [(67019, .map 3 3 (bI .i64 (vI .i64) (bB m_3 R1 ((aD m_4 R1).getD (0:Int))))), (67029, .map 3 3 (bI .i64 (vI .i64) m_5))]) ?_ ?_ ?_
   ·exact qW
   ·rintro j2 e2 Z2 m_5 hj2 hx2 hm
    rw [hB2] at hm
    refine qDs [] [] [(82, .bool (decide ((j2 : Int) < (((aD links R1).getD []).length:Int))))] ?_
    refine A.seq ?_
    refine qT (ltT hx2) ?_
    refine A.skip ?_
    show aj _ _ _ _ _
    obtain ⟨J2, hJ2, hm⟩ := cD hm
    refine A.J (J := J2) (r := r) (fun m_6 => [(0, .mpf (bI .i64 (vL aq) links)), (5, .bT 67019), (8, .bT 67029), (12, i6 ((aD m_4 R1).getD (0:Int))), (79, lf aq ((aD links R1).getD [])), (80, i6 (((aD links R1).getD []).length:Int)), (81, i6 (j2 : Int))]) (fun m_6 => [(67019, .map 3 3 (bI .i64 (vI .i64) (bB m_3 R1 ((aD m_4 R1).getD (0:Int))))), (67029, .map 3 3 (bI .i64 (vI .i64) m_6))]) ?_ ?_
    ·refine A.block ?_
     refine qD [(0, hix (ix aq (b8 hx2))), (2, .al 67014)] [82] [(14, .ptr 67014 0)] [] [(67014, .cells 135 (k6 e2))] ?_
     refine A.seq ?_
     refine qDs [(3, hlk (lk (E := 3) (k := .i64) (enc := (vI .i64)) (bB m_3 R1 ((aD m_4 R1).getD (0:Int))) e2.to_ (0:Int) (fun w => ⟨_, Try.zeroValue3 w, fun I => by simp [aF, vI, vB]⟩)))] [] [(16, .bool ((aD (bB m_3 R1 ((aD m_4 R1).getD (0:Int))) e2.to_).isSome))] ?_
     refine qDs [] [16] [(92, .bool ((aD (bB m_3 R1 ((aD m_4 R1).getD (0:Int))) e2.to_).isSome))] ?_
     rcases aA hm with ⟨c8,hm⟩|⟨c8,hm⟩
     ·refine qT c8 ?_
      refine A.exit ?_
      exact qX m_5 hm
     refine qF c8 ?_
     refine A.skip ?_
     show aj _ _ _ _ _
     refine qDs [(3, hlk (lk (E := 3) (k := .i64) (enc := (vI .i64)) m_5 e2.to_ (0:Int) (fun w => ⟨_, Try.zeroValue3 w, fun I => by simp [aF, vI, vB]⟩)))] [92] [(17, i6 ((aD m_5 e2.to_).getD (0:Int))), (18, .bool ((aD m_5 e2.to_).isSome))] ?_
     refine A.mid [(0, .mpf (bI .i64 (vL aq) links)), (5, .bT 67019), (8, .bT 67029), (12, i6 ((aD m_4 R1).getD (0:Int))), (79, lf aq ((aD links R1).getD [])), (80, i6 (((aD links R1).getD []).length:Int)), (81, i6 (j2 : Int)), (14, .ptr 67014 0), (109, .bool ((!((aD m_5 e2.to_).isSome)) || (decide (w64 (((aD m_4 R1).getD (0:Int)) + e2.eY) < ((aD m_5 e2.to_).getD (0:Int))))))] [(67019, .map 3 3 (bI .i64 (vI .i64) (bB m_3 R1 ((aD m_4 R1).getD (0:Int))))), (67029, .map 3 3 (bI .i64 (vI .i64) m_5)), (67014, .cells 135 (k6 e2))] (fun hk => ?_) ?_
     ·rcases tf (!((aD m_5 e2.to_).isSome)) with c9 | c9
      ·exact qS [(2, hto (bE c9)), (9, hto (orT (q := decide (w64 (((aD m_4 R1).getD (0:Int)) + e2.eY) < ((aD m_5 e2.to_).getD (0:Int)))) c9))] _ _ hk
      exact qS [(2, hto (bE c9)), (9, hto (orF (q := decide (w64 (((aD m_4 R1).getD (0:Int)) + e2.eY) < ((aD m_5 e2.to_).getD (0:Int)))) c9))] _ _ hk
     rcases aA hm with ⟨c10,hm⟩|⟨c10,hm⟩
     ·refine qT c10 ?_
      refine qG [(7, hmu (mu (k := .i64) (enc := (vI .i64)) m_5 e2.to_ (w64 (((aD m_4 R1).getD (0:Int)) + e2.eY)) rfl))] [14, 109] [] [67029, 67014] [(67029, .map 3 3 (bI .i64 (vI .i64) (bB m_5 e2.to_ (w64 (((aD m_4 R1).getD (0:Int)) + e2.eY)))))] ?_
      exact qX (bB m_5 e2.to_ (w64 (((aD m_4 R1).getD (0:Int)) + e2.eY))) hm
     refine qF c10 ?_
     refine A.skip ?_
     exact qX m_5 hm
    rintro m_6 hm
    rw [hJ2] at hm
    refine qGs [(0, hto (inc hx2 hb2))] [81] [(81, i6 ((j2 + 1 : Nat) : Int))] ?_
    exact qX m_6 hm
   rintro j2 m_5 hj2 hl2 hm
   rw [hK2] at hm
   refine qDs [] [] [(82, .bool (decide ((j2 : Int) < (((aD links R1).getD []).length:Int))))] ?_
   refine A.seq ?_
   refine qF (ltF hl2) ?_
   refine A.exit ?_
   exact qX (bB m_3 R1 ((aD m_4 R1).getD (0:Int)), m_5) hm
  refine qF c2 ?_
  refine A.exit ?_
  exact qX (m_3, m_4) hm
 rintro ⟨m_1, m_2⟩ hm
 rw [hJ1] at hm
 refine qDs [] [5] [(4, .bT 67019)] ?_
 refine A.ret ?_
 obtain rfl := some_inj hm
 exact A.fin W0 [.fz [67019]] rfl (by kernel_rfl)
theorem ry {g : eD} {eM : List (Int × Int)} {ep : Int} {r : (List Int)} (hm : gy g eM ep = some r) : RO Try.prog 68 [] [.agg [.mpf (bI .i64 (vL aq) g.jZ), .mpf (bI .i64 (vL aq) g.in_)], .mpf (bI .i64 (vI .i64) eM), i6 ep] (lf bx r) := by
 refine bO Try.func68 rfl rfl ?_
 unfold gy at hm
 refine qS [(0, .al 68003)] [(1, .mpf (bI .i64 (vI .i64) eM)), (2, i6 ep), (3, .ptr 68003 0)] [(68003, .cells 127 [.mpf (bI .i64 (vL aq) g.jZ), .mpf (bI .i64 (vL aq) g.in_)])] ?_
 refine qDs [] [] [(7, .aW)] ?_
 refine qDs [(2, hlf eM ep (vI .i64) (0:Int) mX (zI (k := .i64) Try.zeroValue3))] [] [(8, i6 ((aD eM ep).getD (0:Int))), (9, .bool ((aD eM ep).isSome))] ?_
 refine A.seq ?_
 refine qDs [] [9] [(21, .bool (!((aD eM ep).isSome)))] ?_
 rcases aA hm with ⟨c1,hm⟩|⟨c1,hm⟩
 ·refine qT c1 ?_
  refine qS [] [(6, .aW)] [] ?_
  cases hm
  exact A.ret qE
 refine qF c1 ?_
 refine A.skip ?_
 show aj _ _ _ _ _
 refine A.seq ?_
 refine qD [(3, hlf g.jZ ep (vL aq) [] iz (zSl aq Try.zeroValue133)), (4, hto (lnE aq ((aD g.jZ ep).getD [])))] [2, 3, 21] [(25, lf aq ((aD g.jZ ep).getD [])), (26, i6 (((aD g.jZ ep).getD []).length:Int)), (27, i6 0)] [68003] [] ?_
 refine A.block ?_
 refine A.bS 25 rfl fun hb1 => ?_
 obtain ⟨B1, K1, hB1, hK1, hm⟩ := bN hm
 refine A.lpI (l := ((aD g.jZ ep).getD [])) (j0 := 0) (B := B1) (K := K1) hm (fun j1 => fun er => [(1, .mpf (bI .i64 (vI .i64) eM)), (7, .own 600068007), (8, i6 ((aD eM ep).getD (0:Int))), (25, lf aq ((aD g.jZ ep).getD [])), (26, i6 (((aD g.jZ ep).getD []).length:Int)), (27, i6 (j1 : Int))]) (fun j1 => fun er => [(600068007, .slice 3 1 (ml bx er) 0 false)]) ?_ ?_ ?_
 ·exact bz.go [.ad 7 600068007 3 1] [] (by kernel_rfl)
 ·rintro j1 e1 Z1 er hj1 hx1 hm
  rw [hB1] at hm
  refine qDs [] [] [(28, .bool (decide ((j1 : Int) < (((aD g.jZ ep).getD []).length:Int))))] ?_
  refine A.seq ?_
  refine qT (ltT hx1) ?_
  refine A.skip ?_
  show aj _ _ _ _ _
  obtain ⟨J1, hJ1, hm⟩ := cD hm
  refine A.J (J := J1) (r := r) (fun fQ => [(1, .mpf (bI .i64 (vI .i64) eM)), (7, .own 600068007), (8, i6 ((aD eM ep).getD (0:Int))), (25, lf aq ((aD g.jZ ep).getD [])), (26, i6 (((aD g.jZ ep).getD []).length:Int)), (27, i6 (j1 : Int))]) (fun fQ => [(600068007, .slice 3 1 (ml bx fQ) 0 false)]) ?_ ?_
  ·refine A.block ?_
   refine qD [(0, hix (ix aq (b8 hx1))), (2, .al 68011)] [28] [(11, .ptr 68011 0)] [] [(68011, .cells 135 (k6 e1))] ?_
   refine qDs [(3, hlf eM e1.to_ (vI .i64) (0:Int) mX (zI (k := .i64) Try.zeroValue3))] [] [(12, i6 ((aD eM e1.to_).getD (0:Int))), (13, .bool ((aD eM e1.to_).isSome))] ?_
   refine A.mid [(1, .mpf (bI .i64 (vI .i64) eM)), (7, .own 600068007), (8, i6 ((aD eM ep).getD (0:Int))), (25, lf aq ((aD g.jZ ep).getD [])), (26, i6 (((aD g.jZ ep).getD []).length:Int)), (27, i6 (j1 : Int)), (11, .ptr 68011 0), (46, .bool (((aD eM e1.to_).isSome) && (decide (w64 (e1.eY + ((aD eM e1.to_).getD (0:Int))) = ((aD eM ep).getD (0:Int))))))] [(600068007, .slice 3 1 (ml bx er) 0 false), (68011, .cells 135 (k6 e1))] (fun hk => ?_) ?_
   ·rcases tf ((aD eM e1.to_).isSome) with c2 | c2
    ·exact qS [(1, hto (bE c2)), (8, hto (mM (q := decide (w64 (e1.eY + ((aD eM e1.to_).getD (0:Int))) = ((aD eM ep).getD (0:Int)))) c2))] _ _ hk
    exact qS [(1, hto (bE c2)), (8, hto (oD (q := decide (w64 (e1.eY + ((aD eM e1.to_).getD (0:Int))) = ((aD eM ep).getD (0:Int)))) c2))] _ _ hk
   rcases aA hm with ⟨c3,hm⟩|⟨c3,hm⟩
   ·refine qT c3 ?_
    obtain ⟨l_1, h1, hm⟩ := af hm
    refine qG [(4, hap 68551 (ap bx (bytes := 8) (by decide) h1))] [7, 11, 46] [(7, .own 68551)] [600068007, 68011] [(68551, .slice 3 1 (ml bx l_1) 0 false)] ?_
    exact Exists.intro l_1 (And.intro hm (bz.go [.sw 68551 600068007] [] (by kernel_rfl)))
   refine qF c3 ?_
   refine A.skip ?_
   exact qX er hm
  rintro fQ hm
  rw [hJ1] at hm
  refine qGs [(0, hto (inc hx1 hb1))] [27] [(27, i6 ((j1 + 1 : Nat) : Int))] ?_
  exact qX fQ hm
 rintro j1 er hj1 hl1 hm
 rw [hK1] at hm
 refine qDs [] [] [(28, .bool (decide ((j1 : Int) < (((aD g.jZ ep).getD []).length:Int))))] ?_
 refine A.seq ?_
 refine qF (ltF hl1) ?_
 refine A.exit ?_
 show aj _ _ _ _ _
 refine qDs [] [1, 7, 8, 25, 26, 27, 28] [(6, .own 600068007)] ?_
 refine A.ret ?_
 obtain rfl := some_inj hm
 exact A.fin W0 [.fz [600068007]] rfl (by kernel_rfl)
theorem uk {t : aa} {cI : Int} {fD : Int} {r : (List Int)} (hm : jo t cI fD = some r) : RO Try.prog 54 [] [.agg (k2 t), i6 cI, i6 fD] (lf bx r) := by
 refine bO Try.func54 rfl rfl ?_
 unfold jo at hm
 refine qS [(0, .al 54003)] [(1, i6 cI), (2, i6 fD), (3, .ptr 54003 0)] [(54003, .cells 28 (k2 t))] ?_
 refine A.seq ?_
 obtain ⟨J1, hJ1, hm⟩ := cD hm
 refine A.J (J := J1) (r := r) (fun v_1 => [(1, i6 cI), (2, i6 fD), (3, .ptr 54003 0), (19, .bool v_1)]) (fun v_1 => [(54003, .cells 28 (k2 t))]) ?_ ?_
 ·obtain ⟨ay, h1, hm⟩ := af hm
  rcases aA hm with ⟨c1,hm⟩|⟨c1,hm⟩
  ·refine qGs [(1, hro (oL h1) aod), (3, hto (bE c1))] [] [(19, .bool true)] ?_
   exact qX true hm
  refine qGs [(1, hro (oL h1) aod), (3, hto (bE c1))] [] [(19, .bool (decide (cI = fD)))] ?_
  exact qX (decide (cI = fD)) hm
 rintro v_1 hm
 rw [hJ1] at hm
 rcases aA hm with ⟨c2,hm⟩|⟨c2,hm⟩
 ·refine qT c2 ?_
  refine qS [] [(6, .aW)] [] ?_
  cases hm
  exact A.ret qE
 refine qF c2 ?_
 refine A.skip ?_
 show aj _ _ _ _ _
 obtain ⟨aV, h2, hm⟩ := af hm
 refine qD [(1, hro (uZ h2) ck66), (2, .al 54007)] [3, 19] [(7, .ptr 54007 0)] [54003] [(54007, .cells 127 [.mpf (bI .i64 (vL aq) aV.jZ), .mpf (bI .i64 (vL aq) aV.in_)])] ?_
 obtain ⟨bu, h3, hm⟩ := af hm
 refine qDs [(3, hro (rM h3) ck67)] [] [(8, .mpf (bI .i64 (vI .i64) bu))] ?_
 refine qDs [] [] [(9, .aW)] ?_
 refine A.seq ?_
 refine qDs [] [1] [(10, i6 cI)] ?_
 refine A.block ?_
 obtain ⟨F1, n1, hF1, hm⟩ := oT hm
 refine A.lpW (F := F1) hm (fun sg => match sg with | (er, iL) => [(2, i6 fD), (7, .ptr 54007 0), (8, .mpf (bI .i64 (vI .i64) bu)), (9, .own 600054009), (10, i6 iL)]) (fun sg => match sg with | (er, iL) => [(54007, .cells 127 [.mpf (bI .i64 (vL aq) aV.jZ), .mpf (bI .i64 (vL aq) aV.in_)]), (600054009, .slice 3 1 (ml bx er) 0 false)]) ?_ ?_
 ·exact bz.go [.ad 9 600054009 3 1] [] (by kernel_rfl)
 rintro Z1 ⟨er, iL⟩ hm
 rw [hF1] at hm
 refine A.seq ?_
 refine qDs [] [] [(29, .bool (!decide (iL = fD)))] ?_
 rcases aA hm with ⟨c3,hm⟩|⟨c3,hm⟩
 ·refine qT c3 ?_
  refine A.skip ?_
  show aj _ _ _ _ _
  refine A.seq ?_
  refine A.block ?_
  obtain ⟨aK, h4, hm⟩ := af hm
  refine qDs [(3, hro (ry h4) ck68)] [10, 29] [(11, lf bx aK)] ?_
  refine A.seq ?_
  refine qDs [(1, hto (lnE bx aK))] [] [(42, .bool (decide ((aK.length:Int) = (0:Int))))] ?_
  rcases aA hm with ⟨c4,hm⟩|⟨c4,hm⟩
  ·refine qT c4 ?_
   refine qS [] [(6, .aW)] [] ?_
   cases hm
   exact A.ret qE
  refine qF c4 ?_
  refine A.skip ?_
  show aj _ _ _ _ _
  obtain ⟨e_1, h5, hm⟩ := af hm
  obtain ⟨l_1, h6, hm⟩ := af hm
  refine qG [(2, hix (ix bx h5)), (5, hap 54548 (ap bx (bytes := 8) (by decide) h6))] [9, 11, 42] [(9, .own 54548)] [600054009] [(54548, .slice 3 1 (ml bx l_1) 0 false)] ?_
  show aj _ _ _ _ _
  obtain ⟨e_2, h7, hm⟩ := af hm
  refine qGs [(2, hto (lnE bx l_1)), (4, hix (ix bx h7)), (5, hlo 54548 0 (ix bx h7))] [] [(10, i6 e_2)] ?_
  exact Exists.intro (l_1, e_2) (And.intro hm (bz.go [.sw 54548 600054009] [] (by kernel_rfl)))
 refine qF c3 ?_
 refine A.exit ?_
 show aj _ _ _ _ _
 refine qD [] [2, 7, 8, 9, 10, 29] [(6, .own 600054009)] [54007] [] ?_
 refine A.ret ?_
 obtain rfl := some_inj hm
 exact A.fin W0 [.fz [600054009]] rfl (by kernel_rfl)
end Go.Proofs.Ytdjeacigeegklaa
