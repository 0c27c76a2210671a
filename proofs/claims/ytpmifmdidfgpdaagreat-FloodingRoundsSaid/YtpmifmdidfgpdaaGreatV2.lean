/- The eC of cr of the program. No condition but bT bB stand in each. -/
import Derived.Test.YtpmifmdidfgpdaaGreatDA
import Derived.Test.YtpmifmdidfgpdaaGreatV0
import Derived.Test.YtpmifmdidfgpdaaGreatV1
namespace Go.Proofs.YtpmifmdidfgpdaaGreat
open Go
set_option maxRecDepth 100000
set_option linter.all false
theorem aay {t : aD} {ra1 : Int} {r : Bool} (hm : oS t ra1 = some r) : RO Tryz.prog 125 [] [.agg (k2 t), i6 ra1] (.bool r) := by
 refine aT Tryz.func125 rfl rfl ?_
 unfold oS at hm
 refine qS [(0, .al 125002)] [(1, i6 ra1), (2, .ptr 125002 0)] [(125002, .cells 44 (k2 t))] ?_
 obtain ⟨af, h1, hm⟩ := aa hm
 rcases ai hm with ⟨c1,hm⟩|⟨c1,hm⟩
 ·obtain ⟨ay, h2, hm⟩ := aa hm
  refine qS [(1, hro (iO h1) aax), (3, hto (bE c1)), (6, hro (oB h2) abB)] [(4, .bool ay)] [] ?_
  cases hm
  exact A.ret qE
 refine qS [(1, hro (iO h1) aax), (3, hto (bE c1))] [(4, .bool false)] [] ?_
 cases hm
 exact A.ret qE
theorem w8 {t : aD} {ra1 : Int} {r : Bool} (hm : ig t ra1 = some r) : RO Tryz.prog 156 [] [.agg (k2 t), i6 ra1] (.bool r) := by
 refine aT Tryz.func156 rfl rfl ?_
 unfold ig at hm
 refine qS [(0, .al 156002)] [(1, i6 ra1), (2, .ptr 156002 0)] [(156002, .cells 44 (k2 t))] ?_
 refine A.seq ?_
 obtain ⟨af, h1, hm⟩ := aa hm
 refine qDs [(1, hro (iO h1) aax)] [] [(8, .bool (!decide (af = (0:Int))))] ?_
 rcases ai hm with ⟨c1,hm⟩|⟨c1,hm⟩
 ·refine qT c1 ?_
  refine qS [] [(4, .bool false)] [] ?_
  cases hm
  exact A.ret qE
 refine qF c1 ?_
 refine A.skip ?_
 show ah _ _ _ _ _
 refine A.seq ?_
 refine qDs [] [8] [(5, i6 0)] ?_
 refine A.block ?_
 refine A.bC 2 0 rfl rfl rfl fun hb1 => ?_
 obtain ⟨B1, K1, hB1, hK1, hm⟩ := bt hm
 refine A.lpI (l := t.aI) (j0 := 0) (B := B1) (K := K1) hm (fun j1 => fun sg => match sg with | () => [(1, i6 ra1), (2, .ptr 156002 0), (5, i6 (j1 : Int))]) (fun j1 => fun sg => match sg with | () => [(156002, .cells 44 (k2 t))]) ?_ ?_ ?_
 ·exact qW
 ·rintro j1 e1 Z1 ⟨⟩ hj1 hx1 hm
  rw [hB1] at hm
  refine A.seq ?_
  refine qDs [(3, hto (lnE aU t.aI))] [] [(13, .bool (decide ((j1 : Int) < (t.aI.length:Int))))] ?_
  refine qT (ltT hx1) ?_
  refine A.skip ?_
  show ah _ _ _ _ _
  refine A.seq ?_
  refine A.block ?_
  refine qDs [(3, hix (ix aU (bf hx1)))] [13] [(23, .bool (decide (e1.ID = ra1)))] ?_
  rcases ai hm with ⟨c2,hm⟩|⟨c2,hm⟩
  ·refine qT c2 ?_
   refine qS [(3, hix (ix aU (bf hx1)))] [(4, .bool e1.aX)] [] ?_
   cases hm
   exact A.ret qE
  refine qF c2 ?_
  refine A.skip ?_
  show ah _ _ _ _ _
  refine qGs [(1, hto (inc hx1 hb1))] [5, 23] [(5, i6 ((j1 + 1 : Nat) : Int))] ?_
  exact qX () hm
 rintro j1 ⟨⟩ hj1 hl1 hm
 rw [hK1] at hm
 refine A.seq ?_
 refine qDs [(3, hto (lnE aU t.aI))] [] [(13, .bool (decide ((j1 : Int) < (t.aI.length:Int))))] ?_
 refine qF (ltF hl1) ?_
 refine A.exit ?_
 show ah _ _ _ _ _
 refine qS [] [(4, .bool false)] [] ?_
 cases hm
 exact A.ret qE
theorem uA {t : aD} {ra1 : Int} {r : (List Int)} (hm : me t ra1 = some r) : RO Tryz.prog 79 [] [.agg (k2 t), i6 ra1] (lf bL r) := by
 refine aT Tryz.func79 rfl rfl ?_
 unfold me at hm
 refine qS [(0, .al 79002)] [(1, i6 ra1), (2, .ptr 79002 0)] [(79002, .cells 44 (k2 t))] ?_
 refine qDs [] [] [(5, .aG)] ?_
 refine A.seq ?_
 refine qDs [] [] [(6, i6 0)] ?_
 refine A.block ?_
 refine A.bC 2 0 rfl rfl rfl fun hb1 => ?_
 obtain ⟨B1, K1, hB1, hK1, hm⟩ := bt hm
 refine A.lpI (l := t.aI) (j0 := 0) (B := B1) (K := K1) hm (fun j1 => fun dx => [(1, i6 ra1), (2, .ptr 79002 0), (5, .own 600079005), (6, i6 (j1 : Int))]) (fun j1 => fun dx => [(79002, .cells 44 (k2 t)), (600079005, .slice 3 1 (ml bL dx) 0 false)]) ?_ ?_ ?_
 ·exact bA.go [.ad 5 600079005 3 1] [] (by kernel_rfl)
 ·rintro j1 e1 Z1 dx hj1 hx1 hm
  rw [hB1] at hm
  refine A.seq ?_
  refine qDs [(3, hto (lnE aU t.aI))] [] [(13, .bool (decide ((j1 : Int) < (t.aI.length:Int))))] ?_
  refine qT (ltT hx1) ?_
  refine A.skip ?_
  show ah _ _ _ _ _
  obtain ⟨J1, hJ1, hm⟩ := bJ hm
  refine A.J (J := J1) (r := r) (fun oC => [(1, i6 ra1), (2, .ptr 79002 0), (5, .own 600079005), (6, i6 (j1 : Int))]) (fun oC => [(79002, .cells 44 (k2 t)), (600079005, .slice 3 1 (ml bL oC) 0 false)]) ?_ ?_
  ·refine A.block ?_
   obtain ⟨af, h1, hm⟩ := aa hm
   refine qDs [(5, hix (ix aU (bf hx1))), (8, hro (pL h1) ahN)] [13] [(8, .bool af.2)] ?_
   refine qDs [] [8] [(28, .bool af.2)] ?_
   rcases ai hm with ⟨c1,hm⟩|⟨c1,hm⟩
   ·refine qT c1 ?_
    obtain ⟨l_1, h2, hm⟩ := aa hm
    refine qG [(4, hix (ix aU (bf hx1))), (8, hap 79537 (ap bL (bytes := 8) (by decide) h2))] [5, 28] [(5, .own 79537)] [600079005] [(79537, .slice 3 1 (ml bL l_1) 0 false)] ?_
    exact Exists.intro l_1 (And.intro hm (bA.go [.sw 79537 600079005] [] (by kernel_rfl)))
   refine qF c1 ?_
   refine A.skip ?_
   exact qX dx hm
  rintro oC hm
  rw [hJ1] at hm
  refine qGs [(1, hto (inc hx1 hb1))] [6] [(6, i6 ((j1 + 1 : Nat) : Int))] ?_
  exact qX oC hm
 rintro j1 dx hj1 hl1 hm
 rw [hK1] at hm
 refine A.seq ?_
 refine qDs [(3, hto (lnE aU t.aI))] [] [(13, .bool (decide ((j1 : Int) < (t.aI.length:Int))))] ?_
 refine qF (ltF hl1) ?_
 refine A.exit ?_
 show ah _ _ _ _ _
 refine qD [] [1, 2, 5, 6, 13] [(4, .own 600079005)] [79002] [] ?_
 refine A.ret ?_
 obtain rfl := some_inj hm
 exact A.fin W0 [.fz [600079005]] rfl (by kernel_rfl)
theorem uB {a : aD} {b : aD} {r : Bool} (hm : n9 a b = some r) : RO Tryz.prog 21 [] [.agg (k2 a), .agg (k2 b)] (.bool r) := by
 refine aT Tryz.func21 rfl rfl ?_
 unfold n9 at hm
 refine qS [(0, .al 21002), (1, .al 21003)] [(2, .ptr 21002 0), (3, .ptr 21003 0)] [(21002, .cells 44 (k2 a)), (21003, .cells 44 (k2 b))] ?_
 refine A.seq ?_
 refine A.mid [(2, .ptr 21002 0), (3, .ptr 21003 0), (22, .bool ((!decide ((a.aI.length:Int) = (b.aI.length:Int))) || (!decide ((a.Links.length:Int) = (b.Links.length:Int)))))] [(21002, .cells 44 (k2 a)), (21003, .cells 44 (k2 b))] (fun hk => ?_) ?_
 ·rcases tf (!decide ((a.aI.length:Int) = (b.aI.length:Int))) with c1 | c1
  ·exact qS [(2, hto (lnE aU a.aI)), (5, hto (lnE aU b.aI)), (7, hto (bE c1)), (15, hto (orT (q := !decide ((a.Links.length:Int) = (b.Links.length:Int))) c1))] _ _ hk
  exact qS [(2, hto (lnE aU a.aI)), (5, hto (lnE aU b.aI)), (7, hto (bE c1)), (10, hto (lnE az a.Links)), (13, hto (lnE az b.Links)), (15, hto (orF (q := !decide ((a.Links.length:Int) = (b.Links.length:Int))) c1))] _ _ hk
 rcases ai hm with ⟨c2,hm⟩|⟨c2,hm⟩
 ·refine qT c2 ?_
  refine qS [] [(4, .bool false)] [] ?_
  cases hm
  exact A.ret qE
 refine qF c2 ?_
 refine A.skip ?_
 show ah _ _ _ _ _
 refine A.seq ?_
 refine qDs [] [22] [(5, i6 0)] ?_
 refine A.block ?_
 refine A.bC 2 0 rfl rfl rfl fun hb1 => ?_
 obtain ⟨B1, K1, hB1, hK1, hm⟩ := bt hm
 refine A.lpI (l := a.aI) (j0 := 0) (B := B1) (K := K1) hm (fun j1 => fun sg => match sg with | () => [(2, .ptr 21002 0), (3, .ptr 21003 0), (5, i6 (j1 : Int))]) (fun j1 => fun sg => match sg with | () => [(21002, .cells 44 (k2 a)), (21003, .cells 44 (k2 b))]) ?_ ?_ ?_
 ·exact qW
 ·rintro j1 e1 Z1 ⟨⟩ hj1 hx1 hm
  rw [hB1] at hm
  refine A.seq ?_
  refine qDs [(3, hto (lnE aU a.aI))] [] [(27, .bool (decide ((j1 : Int) < (a.aI.length:Int))))] ?_
  refine qT (ltT hx1) ?_
  refine A.skip ?_
  show ah _ _ _ _ _
  refine A.seq ?_
  refine A.block ?_
  obtain ⟨e_1, h1, hm⟩ := aa hm
  refine qDs [(3, hix (ix aU (bf hx1))), (8, hix (ix aU h1)), (10, .sq true 87 (.agg (k0 e1)) (.agg (k0 e_1)) (!(rW e1 e_1)) (fun x y w => afK x y _ _ _ _ w))] [27] [(40, .bool (!(rW e1 e_1)))] ?_
  rcases ai hm with ⟨c3,hm⟩|⟨c3,hm⟩
  ·refine qT c3 ?_
   refine qS [] [(4, .bool false)] [] ?_
   cases hm
   exact A.ret qE
  refine qF c3 ?_
  refine A.skip ?_
  show ah _ _ _ _ _
  refine qGs [(1, hto (inc hx1 hb1))] [5, 40] [(5, i6 ((j1 + 1 : Nat) : Int))] ?_
  exact qX () hm
 rintro j1 ⟨⟩ hj1 hl1 hm
 rw [hK1] at hm
 refine A.seq ?_
 refine qDs [(3, hto (lnE aU a.aI))] [] [(27, .bool (decide ((j1 : Int) < (a.aI.length:Int))))] ?_
 refine qF (ltF hl1) ?_
 refine A.exit ?_
 show ah _ _ _ _ _
 refine A.seq ?_
 refine qDs [] [5, 27] [(6, i6 0)] ?_
 refine A.block ?_
 refine A.bC 2 1 rfl rfl rfl fun hb2 => ?_
 obtain ⟨B2, K2, hB2, hK2, hm⟩ := bt hm
 refine A.lpI (l := a.Links) (j0 := 0) (B := B2) (K := K2) hm (fun j2 => fun sg => match sg with | () => [(2, .ptr 21002 0), (3, .ptr 21003 0), (6, i6 (j2 : Int))]) (fun j2 => fun sg => match sg with | () => [(21002, .cells 44 (k2 a)), (21003, .cells 44 (k2 b))]) ?_ ?_ ?_
 ·exact qW
 ·rintro j2 e2 Z2 ⟨⟩ hj2 hx2 hm
  rw [hB2] at hm
  refine A.seq ?_
  refine qDs [(3, hto (lnE az a.Links))] [] [(45, .bool (decide ((j2 : Int) < (a.Links.length:Int))))] ?_
  refine qT (ltT hx2) ?_
  refine A.skip ?_
  show ah _ _ _ _ _
  refine A.seq ?_
  refine A.block ?_
  obtain ⟨e_2, h2, hm⟩ := aa hm
  refine qDs [(3, hix (ix az (bf hx2))), (8, hix (ix az h2)), (10, .sq true 78 (.agg (k1 e2)) (.agg (k1 e_2)) (!(u0 e2 e_2)) (fun x y w => afI x y _ _ _ _ _ _ _ _ _ _ w))] [45] [(58, .bool (!(u0 e2 e_2)))] ?_
  rcases ai hm with ⟨c4,hm⟩|⟨c4,hm⟩
  ·refine qT c4 ?_
   refine qS [] [(4, .bool false)] [] ?_
   cases hm
   exact A.ret qE
  refine qF c4 ?_
  refine A.skip ?_
  show ah _ _ _ _ _
  refine qGs [(1, hto (inc hx2 hb2))] [6, 58] [(6, i6 ((j2 + 1 : Nat) : Int))] ?_
  exact qX () hm
 rintro j2 ⟨⟩ hj2 hl2 hm
 rw [hK2] at hm
 refine A.seq ?_
 refine qDs [(3, hto (lnE az a.Links))] [] [(45, .bool (decide ((j2 : Int) < (a.Links.length:Int))))] ?_
 refine qF (ltF hl2) ?_
 refine A.exit ?_
 show ah _ _ _ _ _
 refine qS [] [(4, .bool true)] [] ?_
 cases hm
 exact A.ret qE
end Go.Proofs.YtpmifmdidfgpdaaGreat
