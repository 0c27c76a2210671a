/- The jt of dK of the program. No condition but bR bw stand in each. -/
import Derived.Test.YtmfehenfoepkfaaDA
import Derived.Test.YtmfehenfoepkfaaV0
import Derived.Test.YtmfehenfoepkfaaV1
namespace Go.Proofs.Ytmfehenfoepkfaa
open Go
set_option maxRecDepth 100000
set_option linter.all false
theorem pR {t : aj} {ra1 : Int} {r : Bool} (hm : l5 t ra1 = some r) : RO Try.prog 68 [] [.agg (k2 t), i6 ra1] (.bool r) := by
 refine aZ Try.func68 rfl rfl ?_
 unfold l5 at hm
 refine qS [(0, .al 68002)] [(1, i6 ra1), (2, .ptr 68002 0)] [(68002, .cells 32 (k2 t))] ?_
 obtain ⟨ak, h1, hm⟩ := aa hm
 rcases aq hm with ⟨c1,hm⟩|⟨c1,hm⟩
 ·obtain ⟨aF, h2, hm⟩ := aa hm
  refine qS [(1, hro (gR h1) yJ), (3, hto (bE c1)), (6, hro (nq h2) ab7)] [(4, .bool aF)] [] ?_
  cases hm
  exact A.ret qE
 refine qS [(1, hro (gR h1) yJ), (3, hto (bE c1))] [(4, .bool false)] [] ?_
 cases hm
 exact A.ret qE
theorem x5 {t : aj} {dB : Int} {eR : Int} {r : Int × Bool} (hm : mL t dB eR = some r) : RO Try.prog 69 [] [.agg (k2 t), i6 dB, i6 eR] (.tup [i6 r.1, .bool r.2]) := by
 refine aZ Try.func69 rfl rfl ?_
 unfold mL at hm
 refine qS [(0, .al 69003)] [(1, i6 dB), (2, i6 eR), (3, .ptr 69003 0)] [(69003, .cells 32 (k2 t))] ?_
 refine A.seq ?_
 obtain ⟨ak, h1, hm⟩ := aa hm
 refine qDs [(1, hro (gR h1) yJ)] [] [(10, .bool (!decide (ak = (0:Int))))] ?_
 rcases aq hm with ⟨c1,hm⟩|⟨c1,hm⟩
 ·refine qT c1 ?_
  refine qS [] [(6, i6 0), (7, .bool false)] [] ?_
  cases hm
  exact A.ret qE
 refine qF c1 ?_
 refine A.skip ?_
 show ah _ _ _ _ _
 obtain ⟨aF, h2, hm⟩ := aa hm
 refine qS [(3, hro (rM h2) alv)] [(6, i6 aF.1), (7, .bool aF.2)] [] ?_
 cases hm
 exact A.ret qE
theorem x6 {t : aj} {ra1 : Int} {r : (List Int)} (hm : mM t ra1 = some r) : RO Try.prog 96 [] [.agg (k2 t), i6 ra1] (lf aA r) := by
 refine aZ Try.func96 rfl rfl ?_
 unfold mM at hm
 refine qS [(0, .al 96002)] [(1, i6 ra1), (2, .ptr 96002 0)] [(96002, .cells 32 (k2 t))] ?_
 refine qDs [] [] [(5, .bf)] ?_
 refine A.seq ?_
 refine qDs [] [] [(6, i6 0)] ?_
 refine A.block ?_
 refine A.bC 2 0 rfl rfl rfl fun hb1 => ?_
 obtain ⟨B1, K1, hB1, hK1, hm⟩ := aP hm
 refine A.lpI (l := t.ay) (j0 := 0) (B := B1) (K := K1) hm (fun j1 => fun bO => [(1, i6 ra1), (2, .ptr 96002 0), (5, .own 600096005), (6, i6 (j1 : Int))]) (fun j1 => fun bO => [(96002, .cells 32 (k2 t)), (600096005, .slice 3 1 (ml aA bO) 0 false)]) ?_ ?_ ?_
 ·exact bp.go [.ad 5 600096005 3 1] [] (by kernel_rfl)
 ·rintro j1 e1 Z1 bO hj1 hx1 hm
  rw [hB1] at hm
  refine A.seq ?_
  refine qDs [(3, hto (lnE aH t.ay))] [] [(13, .bool (decide ((j1 : Int) < (t.ay.length:Int))))] ?_
  refine qT (ltT hx1) ?_
  refine A.skip ?_
  show ah _ _ _ _ _
  obtain ⟨J1, hJ1, hm⟩ := bN hm
  refine A.J (J := J1) (r := r) (fun cV => [(1, i6 ra1), (2, .ptr 96002 0), (5, .own 600096005), (6, i6 (j1 : Int))]) (fun cV => [(96002, .cells 32 (k2 t)), (600096005, .slice 3 1 (ml aA cV) 0 false)]) ?_ ?_
  ·refine A.block ?_
   obtain ⟨ak, h1, hm⟩ := aa hm
   refine qDs [(5, hix (ix aH (aY hx1))), (8, hro (rM h1) alv)] [13] [(8, .bool ak.2)] ?_
   refine qDs [] [8] [(28, .bool ak.2)] ?_
   rcases aq hm with ⟨c1,hm⟩|⟨c1,hm⟩
   ·refine qT c1 ?_
    obtain ⟨l_1, h2, hm⟩ := aa hm
    refine qG [(4, hix (ix aH (aY hx1))), (8, hap 96537 (ap aA (bytes := 8) (by decide) h2))] [5, 28] [(5, .own 96537)] [600096005] [(96537, .slice 3 1 (ml aA l_1) 0 false)] ?_
    exact Exists.intro l_1 (And.intro hm (bp.go [.sw 96537 600096005] [] (by kernel_rfl)))
   refine qF c1 ?_
   refine A.skip ?_
   exact qX bO hm
  rintro cV hm
  rw [hJ1] at hm
  refine qGs [(1, hto (inc hx1 hb1))] [6] [(6, i6 ((j1 + 1 : Nat) : Int))] ?_
  exact qX cV hm
 rintro j1 bO hj1 hl1 hm
 rw [hK1] at hm
 refine A.seq ?_
 refine qDs [(3, hto (lnE aH t.ay))] [] [(13, .bool (decide ((j1 : Int) < (t.ay.length:Int))))] ?_
 refine qF (ltF hl1) ?_
 refine A.exit ?_
 show ah _ _ _ _ _
 refine qD [] [1, 2, 5, 6, 13] [(4, .own 600096005)] [96002] [] ?_
 refine A.ret ?_
 obtain rfl := some_inj hm
 exact A.fin W0 [.fz [600096005]] rfl (by kernel_rfl)
theorem s7 {t : aj} {ra1 : Int} {r : (List Int)} (hm : iq t ra1 = some r) : RO Try.prog 70 [] [.agg (k2 t), i6 ra1] (lf aA r) := by
 refine aZ Try.func70 rfl rfl ?_
 unfold iq at hm
 refine qS [(0, .al 70002)] [(1, i6 ra1), (2, .ptr 70002 0)] [(70002, .cells 32 (k2 t))] ?_
 refine A.seq ?_
 obtain ⟨ak, h1, hm⟩ := aa hm
 refine qDs [(1, hro (gR h1) yJ)] [] [(7, .bool (!decide (ak = (0:Int))))] ?_
 rcases aq hm with ⟨c1,hm⟩|⟨c1,hm⟩
 ·refine qT c1 ?_
  refine qS [] [(4, .bf)] [] ?_
  cases hm
  exact A.ret qE
 refine qF c1 ?_
 refine A.skip ?_
 show ah _ _ _ _ _
 obtain ⟨aF, h2, hm⟩ := aa hm
 refine qS [(2, hro (x6 h2) ck96)] [(4, lf aA aF)] [] ?_
 cases hm
 exact A.ret qE
end Go.Proofs.Ytmfehenfoepkfaa
