/- The eR of cw of the program. No condition but bT bF stand in each. -/
import Derived.Test.YtpmifmdidfgpdaaGreatDA
import Derived.Test.YtpmifmdidfgpdaaGreatV4
import Derived.Test.YtpmifmdidfgpdaaGreatS
import Derived.Test.YtpmifmdidfgpdaaGreatSO
namespace Go.Proofs.YtpmifmdidfgpdaaGreat
open Go
set_option maxRecDepth 100000
set_option linter.all false
theorem oN {t : aB} {aC : Int} {r : (List Int)} (hm : fW t aC = some r) : bO Tryz.prog 153 [] [.agg (k2 t), i6 aC] (fun a σ' => a = .own 500015300 ∧ σ' = [(500015300, .slice 3 1 (ml aY r) 0 false)]) := by
 refine aQ Tryz.func153 rfl rfl ?_
 unfold fW at hm
 refine qS [(0, .al 153002)] [(1, i6 aC), (2, .ptr 153002 0)] [(153002, .cells 44 (k2 t))] ?_
 refine qDs [] [] [(5, .aD)] ?_
 refine A.seq ?_
 refine qD [(2, hto (lnE az t.Links))] [2] [(9, lf az t.Links), (10, i6 (t.Links.length:Int)), (11, i6 0)] [153002] [] ?_
 refine A.block ?_
 refine A.bS 9 rfl fun hb1 => ?_
 obtain ⟨B1, K1, hB1, hK1, hm⟩ := bq hm
 refine A.lpI (l := t.Links) (j0 := 0) (B := B1) (K := K1) hm (fun j1 => fun cu => [(1, i6 aC), (5, .own 600153005), (9, lf az t.Links), (10, i6 (t.Links.length:Int)), (11, i6 (j1 : Int))]) (fun j1 => fun cu => [(600153005, .slice 3 1 (ml aY cu) 0 false)]) ?_ ?_ ?_
 ·exact bz.go [.ad 5 600153005 3 1] [] (by kernel_rfl)
 ·rintro j1 e1 Z1 cu hj1 hx1 hm
  rw [hB1] at hm
  refine qDs [] [] [(12, .bool (decide ((j1 : Int) < (t.Links.length:Int))))] ?_
  refine A.seq ?_
  refine qT (ltT hx1) ?_
  refine A.skip ?_
  show ai _ _ _ _ _
  obtain ⟨J1, hJ1, hm⟩ := bB hm
  refine A.J (J := J1) (r := r) (fun gR => [(1, i6 aC), (5, .own 600153005), (9, lf az t.Links), (10, i6 (t.Links.length:Int)), (11, i6 (j1 : Int))]) (fun gR => [(600153005, .slice 3 1 (ml aY gR) 0 false)]) ?_ ?_
  ·refine A.block ?_
   refine qD [(0, hix (ix az (aV hx1))), (2, .al 153007)] [12] [(7, .ptr 153007 0)] [] [(153007, .cells 78 (k1 e1))] ?_
   refine qDs [] [] [(15, i6 aC)] ?_
   refine A.block ?_
   refine qDs [] [] [(16, .bool (decide (aC = e1.A)))] ?_
   rcases ah hm with ⟨c1,hm⟩|⟨c1,hm⟩
   ·refine qT c1 ?_
    obtain ⟨l_1, h1, hm⟩ := aa hm
    refine qG [(4, hap 153524 (ap aY (bytes := 8) (by decide) h1))] [5, 7, 15, 16] [(5, .own 153524)] [600153005, 153007] [(153524, .slice 3 1 (ml aY l_1) 0 false)] ?_
    exact Exists.intro l_1 (And.intro hm (bz.go [.sw 153524 600153005] [] (by kernel_rfl)))
   refine qF c1 ?_
   refine qDs [] [15, 16] [(25, .bool (decide (aC = e1.B)))] ?_
   rcases ah hm with ⟨c2,hm⟩|⟨c2,hm⟩
   ·refine qT c2 ?_
    obtain ⟨l_2, h2, hm⟩ := aa hm
    refine qG [(4, hap 153533 (ap aY (bytes := 8) (by decide) h2))] [5, 7, 25] [(5, .own 153533)] [600153005, 153007] [(153533, .slice 3 1 (ml aY l_2) 0 false)] ?_
    exact Exists.intro l_2 (And.intro hm (bz.go [.sw 153533 600153005] [] (by kernel_rfl)))
   refine qF c2 ?_
   refine A.skip ?_
   exact qX cu hm
  rintro gR hm
  rw [hJ1] at hm
  refine qGs [(0, hto (inc hx1 hb1))] [11] [(11, i6 ((j1 + 1 : Nat) : Int))] ?_
  exact qX gR hm
 rintro j1 cu hj1 hl1 hm
 rw [hK1] at hm
 refine qDs [] [] [(12, .bool (decide ((j1 : Int) < (t.Links.length:Int))))] ?_
 refine A.seq ?_
 refine qF (ltF hl1) ?_
 refine A.exit ?_
 show ai _ _ _ _ _
 obtain ⟨h3, hm⟩ := eV hm
 refine qS [(1, hdc [] (ac4 (d := 600153005) (T := 3) cu (of_decide_eq_true h3)) akp)] [(5, .own 600153005)] [(600153005, .slice 3 1 (ml aY (jb cu)) 0 false)] ?_
 refine qDs [] [5] [(4, .own 600153005)] ?_
 refine A.ret ?_
 obtain rfl := some_inj hm
 exact A.fin W0 [.sw 600153005 500015300] rfl (by kernel_rfl)
theorem uU : ∀ (n_ : Nat) {ra0 : Int} {vt : List Int} {uC : List Int} {uD : List aZ} {uE : List aX} {r : (List Int)} (hm : gD n_ ra0 vt uC uD uE = some r), bO Tryz.prog 152 [(800152000, .cells 22 [.own 800152500]), (800152001, .cells 22 [lf aY uC]), (800152002, .cells 44 [lf aS uD, lf az uE]), (800152003, .cells 109 [.fn 152 [.ptr 800152000 0, .ptr 800152001 0, .ptr 800152002 0, .ptr 800152003 0]]), (800152500, .slice 3 1 (ml aY vt) 0 false)] [i6 ra0, .ptr 800152000 0, .ptr 800152001 0, .ptr 800152002 0, .ptr 800152003 0] (fun a σ' => a = .tup [] ∧ σ' = [(800152000, .cells 22 [.own 800152501]), (800152001, .cells 22 [lf aY uC]), (800152002, .cells 44 [lf aS uD, lf az uE]), (800152003, .cells 109 [.fn 152 [.ptr 800152000 0, .ptr 800152001 0, .ptr 800152002 0, .ptr 800152003 0]]), (800152501, .slice 3 1 (ml aY r) 0 false)]) := by
 intro n_
 induction n_ with
 | zero => intros; rename_i hm; cases hm
 | succ n_ ih =>
 intro ra0 vt uC uD uE r hm
 refine aQ Tryz.func152 rfl rfl ?_
 rw [gD] at hm
 refine A.seq ?_
 obtain ⟨J1, hJ1, hm⟩ := bB hm
 refine A.J (J := J1) (r := r) (fun v_1 => [(0, i6 ra0), (1, .ptr 800152000 0), (3, .ptr 800152002 0), (4, .ptr 800152003 0), (15, .bool v_1)]) (fun v_1 => [(800152000, .cells 22 [.own 800152500]), (800152001, .cells 22 [lf aY uC]), (800152002, .cells 44 [lf aS uD, lf az uE]), (800152003, .cells 109 [.fn 152 [.ptr 800152000 0, .ptr 800152001 0, .ptr 800152002 0, .ptr 800152003 0]]), (800152500, .slice 3 1 (ml aY vt) 0 false)]) ?_ ?_
 ·obtain ⟨af, h1, hm⟩ := aa hm
  rcases ah hm with ⟨c1,hm⟩|⟨c1,hm⟩
  ·refine qR [(2, hle [800152500] (gd h1) acr), (3, hto (bE c1))] [(0, i6 ra0), (1, .ptr 800152000 0), (3, .ptr 800152002 0), (4, .ptr 800152003 0), (15, .bool true)] [(800152000, .cells 22 [.own 800152500]), (800152001, .cells 22 [lf aY uC]), (800152002, .cells 44 [lf aS uD, lf az uE]), (800152003, .cells 109 [.fn 152 [.ptr 800152000 0, .ptr 800152001 0, .ptr 800152002 0, .ptr 800152003 0]]), (800152500, .slice 3 1 (ml aY vt) 0 false)] ?_
   exact qX true hm
  obtain ⟨aq, h2, hm⟩ := aa hm
  refine qR [(2, hle [800152500] (gd h1) acr), (3, hto (bE c1)), (6, hro (gd h2) acr)] [(0, i6 ra0), (1, .ptr 800152000 0), (3, .ptr 800152002 0), (4, .ptr 800152003 0), (15, .bool aq)] [(800152000, .cells 22 [.own 800152500]), (800152001, .cells 22 [lf aY uC]), (800152002, .cells 44 [lf aS uD, lf az uE]), (800152003, .cells 109 [.fn 152 [.ptr 800152000 0, .ptr 800152001 0, .ptr 800152002 0, .ptr 800152003 0]]), (800152500, .slice 3 1 (ml aY vt) 0 false)] ?_
  exact qX aq hm
 rintro v_1 hm
 rw [hJ1] at hm
 rcases ah hm with ⟨c2,hm⟩|⟨c2,hm⟩
 ·refine qT c2 ?_
  refine A.ret ?_
  obtain rfl := some_inj hm
  exact A.fin W0 [.rn 800152500 800152501] rfl (by kernel_rfl)
 refine qF c2 ?_
 refine A.skip ?_
 show ai _ _ _ _ _
 obtain ⟨l_1, h3, hm⟩ := aa hm
 refine qD [(3, hap 152519 (ap aY (bytes := 8) (by decide) h3))] [1, 15] [] [800152000, 800152500] [(800152000, .cells 22 [.own 152519]), (152519, .slice 3 1 (ml aY l_1) 0 false)] ?_
 obtain ⟨aI, h4, hm⟩ := aa hm
 refine qD [(2, hdc [500015300] (oN h4) ako), (3, hto (lnE aY aI))] [0, 3] [(22, .own 500015300), (23, i6 (aI.length:Int)), (24, i6 0)] [] [(500015300, .slice 3 1 (ml aY aI) 0 false)] ?_
 refine A.block ?_
 refine A.bW 22 rfl rfl fun hb1 => ?_
 obtain ⟨B1, K1, hB1, hK1, hm⟩ := bq hm
 refine A.lpI (l := aI) (j0 := 0) (B := B1) (K := K1) hm (fun j1 => fun m_1 => [(4, .ptr 800152003 0), (22, .own 500015300), (23, i6 (aI.length:Int)), (24, i6 (j1 : Int))]) (fun j1 => fun m_1 => [(800152000, .cells 22 [.own 715200000]), (800152001, .cells 22 [lf aY uC]), (800152002, .cells 44 [lf aS uD, lf az uE]), (800152003, .cells 109 [.fn 152 [.ptr 800152000 0, .ptr 800152001 0, .ptr 800152002 0, .ptr 800152003 0]]), (500015300, .slice 3 1 (ml aY aI) 0 false), (715200000, .slice 3 1 (ml aY m_1) 0 false)]) ?_ ?_ ?_
 ·exact bz.go [.sw 152519 715200000] [] (by kernel_rfl)
 ·rintro j1 e1 Z1 m_1 hj1 hx1 hm
  rw [hB1] at hm
  refine qDs [] [] [(25, .bool (decide ((j1 : Int) < (aI.length:Int))))] ?_
  refine A.seq ?_
  refine qT (ltT hx1) ?_
  refine A.skip ?_
  show ai _ _ _ _ _
  refine A.seq ?_
  refine A.block ?_
  refine qDs [(0, hix (ix aY (aV hx1))), (1, hlo 500015300 0 (ix aY (aV hx1)))] [25] [(7, i6 e1)] ?_
  obtain ⟨bk, h5, hm⟩ := aa hm
  refine qG [(2, hdc [520152001] (SC.at [(800152500, 715200000), (800152501, 520152001)] (ih h5)) akn)] [7] [] [800152000, 715200000] [(800152000, .cells 22 [.own 520152001]), (520152001, .slice 3 1 (ml aY bk) 0 false)] ?_
  show ai _ _ _ _ _
  refine qGs [(0, hto (inc hx1 hb1))] [24] [(24, i6 ((j1 + 1 : Nat) : Int))] ?_
  exact Exists.intro bk (And.intro hm (bz.go [.sw 520152001 715200000] [] (by kernel_rfl)))
 rintro j1 m_1 hj1 hl1 hm
 rw [hK1] at hm
 refine qDs [] [] [(25, .bool (decide ((j1 : Int) < (aI.length:Int))))] ?_
 refine A.seq ?_
 refine qF (ltF hl1) ?_
 refine A.exit ?_
 obtain rfl := some_inj hm
 exact A.fin W0 [.sw 715200000 800152501] rfl (by kernel_rfl)
theorem vP {t : aB} {ez : Int} {closed : List Int} {r : (List Int)} (hm : jK t ez closed = some r) : RO Tryz.prog 123 [] [.agg (k2 t), i6 ez, lf aY closed] (lf aY r) := by
 refine aQ Tryz.func123 rfl rfl ?_
 unfold jK at hm
 refine qS [(0, .al 123003), (1, .al 123005)] [(1, i6 ez), (3, .ptr 123003 0), (5, .ptr 123005 0)] [(123003, .cells 44 (k2 t)), (123005, .cells 22 [lf aY closed])] ?_
 refine qD [(0, .al 123007)] [] [(7, .ptr 123007 0)] [] [(123007, .cells 22 [.aD])] ?_
 refine qD [(0, .al 123008)] [] [(8, .ptr 123008 0)] [] [(123008, .cells 109 [.gX])] ?_
 refine qD [] [3, 5] [] [123008] [(123008, .cells 109 [.fn 152 [.ptr 123007 0, .ptr 123005 0, .ptr 123003 0, .ptr 123008 0]])] ?_
 obtain ⟨af, h1, hm⟩ := aa hm
 refine A.RS W0 [.ac 123007 800152500 3 1 0] [(2, hdc [520123001] (SC.at [(800152000, 123007), (800152001, 123005), (800152002, 123003), (800152003, 123008), (800152501, 520123001)] (uU fuel h1)) akn)] [(7, .ptr 123007 0)] [(123007, .cells 22 [.own 520123001]), (520123001, .slice 3 1 (ml aY af) 0 false)] (by kernel_rfl) ?_
 obtain ⟨h2, hm⟩ := eV hm
 refine qS [(1, hdc [] (ac4 (d := 520123001) (T := 3) af (of_decide_eq_true h2)) akp)] [(7, .ptr 123007 0)] [(123007, .cells 22 [.own 520123001]), (520123001, .slice 3 1 (ml aY (jb af)) 0 false)] ?_
 refine qD [] [7] [(6, .own 520123001)] [123007] [] ?_
 refine A.ret ?_
 obtain rfl := some_inj hm
 exact A.fin W0 [.fz [520123001]] rfl (by kernel_rfl)
theorem uF {t : aB} {aC : Int} {r : (List Int)} (hm : iw t aC = some r) : bO Tryz.prog 130 [] [.agg (k2 t), i6 aC] (fun a σ' => a = .own 500013000 ∧ σ' = [(500013000, .slice 3 1 (ml aY r) 0 false)]) := by
 refine aQ Tryz.func130 rfl rfl ?_
 unfold iw at hm
 refine qS [(0, .al 130002)] [(1, i6 aC), (2, .ptr 130002 0)] [(130002, .cells 44 (k2 t))] ?_
 refine A.seq ?_
 obtain ⟨af, h1, hm⟩ := aa hm
 refine qDs [(1, hro (gU h1) yQ)] [] [(7, .bool (!af))] ?_
 rcases ah hm with ⟨c1,hm⟩|⟨c1,hm⟩
 ·refine qT c1 ?_
  refine qS [] [(4, .aD)] [] ?_
  refine A.ret ?_
  obtain rfl := some_inj hm
  exact A.fin W0 [.ad 4 500013000 3 1] rfl (by kernel_rfl)
 refine qF c1 ?_
 refine A.skip ?_
 show ai _ _ _ _ _
 obtain ⟨aq, h2, hm⟩ := aa hm
 refine qS [(2, hdc [500015300] (oN h2) ako)] [(4, .own 500015300)] [(500015300, .slice 3 1 (ml aY aq) 0 false)] ?_
 refine A.ret ?_
 obtain rfl := some_inj hm
 exact A.fin W0 [.sw 500015300 500013000] rfl (by kernel_rfl)
theorem o7 {t : aB} {a : Int} {b : Int} {r : Bool} (hm : gE t a b = some r) : RO Tryz.prog 67 [] [.agg (k2 t), i6 a, i6 b] (.bool r) := by
 refine aQ Tryz.func67 rfl rfl ?_
 unfold gE at hm
 refine qS [(0, .al 67003)] [(1, i6 a), (2, i6 b), (3, .ptr 67003 0)] [(67003, .cells 44 (k2 t))] ?_
 obtain ⟨af, h1, hm⟩ := aa hm
 rcases ah hm with ⟨c1,hm⟩|⟨c1,hm⟩
 ·obtain ⟨aq, h2, hm⟩ := aa hm
  rcases ah hm with ⟨c2,hm⟩|⟨c2,hm⟩
  ·obtain ⟨aI, h3, hm⟩ := aa hm
   obtain ⟨bk, h4, hm⟩ := aa hm
   refine qS [(2, hro (gN h1) wL), (3, hto (bE c1)), (6, hro (gN h2) wL), (8, hto (bE c2)), (11, hro (vP h3) aum), (13, hro (gd h4) acr)] [(6, .bool bk)] [] ?_
   cases hm
   exact A.ret qE
  refine qS [(2, hro (gN h1) wL), (3, hto (bE c1)), (6, hro (gN h2) wL), (8, hto (bE c2))] [(6, .bool false)] [] ?_
  cases hm
  exact A.ret qE
 refine qS [(2, hro (gN h1) wL), (3, hto (bE c1))] [(6, .bool false)] [] ?_
 cases hm
 exact A.ret qE
end Go.Proofs.YtpmifmdidfgpdaaGreat
