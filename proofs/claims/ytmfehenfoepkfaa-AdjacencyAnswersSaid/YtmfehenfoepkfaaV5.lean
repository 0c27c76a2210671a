/- The jt of dK of the program. No condition but bR bw stand in each. -/
import Derived.Test.YtmfehenfoepkfaaDA
import Derived.Test.YtmfehenfoepkfaaV4
import Derived.Test.YtmfehenfoepkfaaS
import Derived.Test.YtmfehenfoepkfaaSO
namespace Go.Proofs.Ytmfehenfoepkfaa
open Go
set_option maxRecDepth 100000
set_option linter.all false
theorem rN {t : aj} {bz : Int} {r : (List Int)} (hm : gl t bz = some r) : RO Try.prog 90 [] [.agg (k2 t), i6 bz] (lf aA r) := by
 refine aZ Try.func90 rfl rfl ?_
 unfold gl at hm
 refine qS [(0, .al 90002)] [(1, i6 bz), (2, .ptr 90002 0)] [(90002, .cells 32 (k2 t))] ?_
 refine qDs [] [] [(5, .bf)] ?_
 refine A.seq ?_
 refine qD [(2, hto (lnE bu t.Links))] [2] [(9, lf bu t.Links), (10, i6 (t.Links.length:Int)), (11, i6 0)] [90002] [] ?_
 refine A.block ?_
 refine A.bS 9 rfl fun hb1 => ?_
 obtain ⟨B1, K1, hB1, hK1, hm⟩ := aP hm
 refine A.lpI (l := t.Links) (j0 := 0) (B := B1) (K := K1) hm (fun j1 => fun bO => [(1, i6 bz), (5, .own 600090005), (9, lf bu t.Links), (10, i6 (t.Links.length:Int)), (11, i6 (j1 : Int))]) (fun j1 => fun bO => [(600090005, .slice 3 1 (ml aA bO) 0 false)]) ?_ ?_ ?_
 ·exact bp.go [.ad 5 600090005 3 1] [] (by kernel_rfl)
 ·rintro j1 e1 Z1 bO hj1 hx1 hm
  rw [hB1] at hm
  refine qDs [] [] [(12, .bool (decide ((j1 : Int) < (t.Links.length:Int))))] ?_
  refine A.seq ?_
  refine qT (ltT hx1) ?_
  refine A.skip ?_
  show ah _ _ _ _ _
  obtain ⟨J1, hJ1, hm⟩ := bN hm
  refine A.J (J := J1) (r := r) (fun cV => [(1, i6 bz), (5, .own 600090005), (9, lf bu t.Links), (10, i6 (t.Links.length:Int)), (11, i6 (j1 : Int))]) (fun cV => [(600090005, .slice 3 1 (ml aA cV) 0 false)]) ?_ ?_
  ·refine A.block ?_
   refine qD [(0, hix (ix bu (aY hx1))), (2, .al 90007)] [12] [(7, .ptr 90007 0)] [] [(90007, .cells 85 (k1 e1))] ?_
   refine qDs [] [] [(15, i6 bz)] ?_
   refine A.block ?_
   refine qDs [] [] [(16, .bool (decide (bz = e1.A)))] ?_
   rcases aq hm with ⟨c1,hm⟩|⟨c1,hm⟩
   ·refine qT c1 ?_
    obtain ⟨l_1, h1, hm⟩ := aa hm
    refine qG [(4, hap 90524 (ap aA (bytes := 8) (by decide) h1))] [5, 7, 15, 16] [(5, .own 90524)] [600090005, 90007] [(90524, .slice 3 1 (ml aA l_1) 0 false)] ?_
    exact Exists.intro l_1 (And.intro hm (bp.go [.sw 90524 600090005] [] (by kernel_rfl)))
   refine qF c1 ?_
   refine qDs [] [15, 16] [(25, .bool (decide (bz = e1.B)))] ?_
   rcases aq hm with ⟨c2,hm⟩|⟨c2,hm⟩
   ·refine qT c2 ?_
    obtain ⟨l_2, h2, hm⟩ := aa hm
    refine qG [(4, hap 90533 (ap aA (bytes := 8) (by decide) h2))] [5, 7, 25] [(5, .own 90533)] [600090005, 90007] [(90533, .slice 3 1 (ml aA l_2) 0 false)] ?_
    exact Exists.intro l_2 (And.intro hm (bp.go [.sw 90533 600090005] [] (by kernel_rfl)))
   refine qF c2 ?_
   refine A.skip ?_
   exact qX bO hm
  rintro cV hm
  rw [hJ1] at hm
  refine qGs [(0, hto (inc hx1 hb1))] [11] [(11, i6 ((j1 + 1 : Nat) : Int))] ?_
  exact qX cV hm
 rintro j1 bO hj1 hl1 hm
 rw [hK1] at hm
 refine qDs [] [] [(12, .bool (decide ((j1 : Int) < (t.Links.length:Int))))] ?_
 refine A.seq ?_
 refine qF (ltF hl1) ?_
 refine A.exit ?_
 show ah _ _ _ _ _
 obtain ⟨h3, hm⟩ := eP hm
 refine qS [(1, hdc [] (aam (d := 600090005) (T := 3) bO (of_decide_eq_true h3)) alk)] [(5, .own 600090005)] [(600090005, .slice 3 1 (ml aA (gA bO)) 0 false)] ?_
 refine qDs [] [5] [(4, .own 600090005)] ?_
 refine A.ret ?_
 obtain rfl := some_inj hm
 exact A.fin W0 [.fz [600090005]] rfl (by kernel_rfl)
theorem rO {t : aj} {bz : Int} {r : (List Int)} (hm : gm t bz = some r) : RO Try.prog 59 [] [.agg (k2 t), i6 bz] (lf aA r) := by
 refine aZ Try.func59 rfl rfl ?_
 unfold gm at hm
 refine qS [(0, .al 59002)] [(1, i6 bz), (2, .ptr 59002 0)] [(59002, .cells 32 (k2 t))] ?_
 refine A.seq ?_
 obtain ⟨ak, h1, hm⟩ := aa hm
 refine qDs [(1, hro (jv h1) ab6)] [] [(7, .bool (!ak))] ?_
 rcases aq hm with ⟨c1,hm⟩|⟨c1,hm⟩
 ·refine qT c1 ?_
  refine qS [] [(4, .bf)] [] ?_
  cases hm
  exact A.ret qE
 refine qF c1 ?_
 refine A.skip ?_
 show ah _ _ _ _ _
 obtain ⟨aF, h2, hm⟩ := aa hm
 refine qS [(2, hro (rN h2) ck90)] [(4, lf aA aF)] [] ?_
 cases hm
 exact A.ret qE
end Go.Proofs.Ytmfehenfoepkfaa
