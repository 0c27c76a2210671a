/- The eC of cr of the program. No condition but bT bB stand in each. -/
import Derived.Test.YtpmifmdidfgpdaaGreatDA
import Derived.Test.YtpmifmdidfgpdaaGreatV4
import Derived.Test.YtpmifmdidfgpdaaGreatS
import Derived.Test.YtpmifmdidfgpdaaGreatSO
namespace Go.Proofs.YtpmifmdidfgpdaaGreat
open Go
set_option maxRecDepth 100000
set_option linter.all false
theorem oe {t : aD} {aJ : Int} {r : (List Int)} (hm : fL t aJ = some r) : bM Tryz.prog 153 [] [.agg (k2 t), i6 aJ] (fun a σ' => a = .own 500015300 ∧ σ' = [(500015300, .slice 3 1 (ml bL r) 0 false)]) := by
 refine aT Tryz.func153 rfl rfl ?_
 unfold fL at hm
 refine qS [(0, .al 153002)] [(1, i6 aJ), (2, .ptr 153002 0)] [(153002, .cells 44 (k2 t))] ?_
 refine qDs [] [] [(5, .aG)] ?_
 refine A.seq ?_
 refine qD [(2, hto (lnE az t.Links))] [2] [(9, lf az t.Links), (10, i6 (t.Links.length:Int)), (11, i6 0)] [153002] [] ?_
 refine A.block ?_
 refine A.bS 9 rfl fun hb1 => ?_
 obtain ⟨B1, K1, hB1, hK1, hm⟩ := bt hm
 refine A.lpI (l := t.Links) (j0 := 0) (B := B1) (K := K1) hm (fun j1 => fun dx => [(1, i6 aJ), (5, .own 600153005), (9, lf az t.Links), (10, i6 (t.Links.length:Int)), (11, i6 (j1 : Int))]) (fun j1 => fun dx => [(600153005, .slice 3 1 (ml bL dx) 0 false)]) ?_ ?_ ?_
 ·exact bA.go [.ad 5 600153005 3 1] [] (by kernel_rfl)
 ·rintro j1 e1 Z1 dx hj1 hx1 hm
  rw [hB1] at hm
  refine qDs [] [] [(12, .bool (decide ((j1 : Int) < (t.Links.length:Int))))] ?_
  refine A.seq ?_
  refine qT (ltT hx1) ?_
  refine A.skip ?_
  show ah _ _ _ _ _
  obtain ⟨J1, hJ1, hm⟩ := bJ hm
  refine A.J (J := J1) (r := r) (fun oC => [(1, i6 aJ), (5, .own 600153005), (9, lf az t.Links), (10, i6 (t.Links.length:Int)), (11, i6 (j1 : Int))]) (fun oC => [(600153005, .slice 3 1 (ml bL oC) 0 false)]) ?_ ?_
  ·refine A.block ?_
   refine qD [(0, hix (ix az (bf hx1))), (2, .al 153007)] [12] [(7, .ptr 153007 0)] [] [(153007, .cells 78 (k1 e1))] ?_
   refine qDs [] [] [(15, i6 aJ)] ?_
   refine A.block ?_
   refine qDs [] [] [(16, .bool (decide (aJ = e1.A)))] ?_
   rcases ai hm with ⟨c1,hm⟩|⟨c1,hm⟩
   ·refine qT c1 ?_
    obtain ⟨l_1, h1, hm⟩ := aa hm
    refine qG [(4, hap 153524 (ap bL (bytes := 8) (by decide) h1))] [5, 7, 15, 16] [(5, .own 153524)] [600153005, 153007] [(153524, .slice 3 1 (ml bL l_1) 0 false)] ?_
    exact Exists.intro l_1 (And.intro hm (bA.go [.sw 153524 600153005] [] (by kernel_rfl)))
   refine qF c1 ?_
   refine qDs [] [15, 16] [(25, .bool (decide (aJ = e1.B)))] ?_
   rcases ai hm with ⟨c2,hm⟩|⟨c2,hm⟩
   ·refine qT c2 ?_
    obtain ⟨l_2, h2, hm⟩ := aa hm
    refine qG [(4, hap 153533 (ap bL (bytes := 8) (by decide) h2))] [5, 7, 25] [(5, .own 153533)] [600153005, 153007] [(153533, .slice 3 1 (ml bL l_2) 0 false)] ?_
    exact Exists.intro l_2 (And.intro hm (bA.go [.sw 153533 600153005] [] (by kernel_rfl)))
   refine qF c2 ?_
   refine A.skip ?_
   exact qX dx hm
  rintro oC hm
  rw [hJ1] at hm
  refine qGs [(0, hto (inc hx1 hb1))] [11] [(11, i6 ((j1 + 1 : Nat) : Int))] ?_
  exact qX oC hm
 rintro j1 dx hj1 hl1 hm
 rw [hK1] at hm
 refine qDs [] [] [(12, .bool (decide ((j1 : Int) < (t.Links.length:Int))))] ?_
 refine A.seq ?_
 refine qF (ltF hl1) ?_
 refine A.exit ?_
 show ah _ _ _ _ _
 obtain ⟨h3, hm⟩ := eV hm
 refine qS [(1, hdc [] (acg (d := 600153005) (T := 3) dx (of_decide_eq_true h3)) ajq)] [(5, .own 600153005)] [(600153005, .slice 3 1 (ml bL (iE dx)) 0 false)] ?_
 refine qDs [] [5] [(4, .own 600153005)] ?_
 refine A.ret ?_
 obtain rfl := some_inj hm
 exact A.fin W0 [.sw 600153005 500015300] rfl (by kernel_rfl)
theorem uq : ∀ (n_ : Nat) {ra0 : Int} {uQ : List Int} {tU : List Int} {tV : List aY} {tW : List aQ} {r : (List Int)} (hm : jR n_ ra0 uQ tU tV tW = some r), bM Tryz.prog 152 [(800152000, .cells 22 [.own 800152500]), (800152001, .cells 22 [lf bL tU]), (800152002, .cells 44 [lf aU tV, lf az tW]), (800152003, .cells 109 [.fn 152 [.ptr 800152000 0, .ptr 800152001 0, .ptr 800152002 0, .ptr 800152003 0]]), (800152500, .slice 3 1 (ml bL uQ) 0 false)] [i6 ra0, .ptr 800152000 0, .ptr 800152001 0, .ptr 800152002 0, .ptr 800152003 0] (fun a σ' => a = .tup [] ∧ σ' = [(800152000, .cells 22 [.own 800152501]), (800152001, .cells 22 [lf bL tU]), (800152002, .cells 44 [lf aU tV, lf az tW]), (800152003, .cells 109 [.fn 152 [.ptr 800152000 0, .ptr 800152001 0, .ptr 800152002 0, .ptr 800152003 0]]), (800152501, .slice 3 1 (ml bL r) 0 false)]) := by
 intro n_
 induction n_ with
 | zero => intros; rename_i hm; cases hm
 | succ n_ ih =>
 intro ra0 uQ tU tV tW r hm
 refine aT Tryz.func152 rfl rfl ?_
 rw [jR] at hm
 refine A.seq ?_
 obtain ⟨J1, hJ1, hm⟩ := bJ hm
 refine A.J (J := J1) (r := r) (fun v_1 => [(0, i6 ra0), (1, .ptr 800152000 0), (3, .ptr 800152002 0), (4, .ptr 800152003 0), (15, .bool v_1)]) (fun v_1 => [(800152000, .cells 22 [.own 800152500]), (800152001, .cells 22 [lf bL tU]), (800152002, .cells 44 [lf aU tV, lf az tW]), (800152003, .cells 109 [.fn 152 [.ptr 800152000 0, .ptr 800152001 0, .ptr 800152002 0, .ptr 800152003 0]]), (800152500, .slice 3 1 (ml bL uQ) 0 false)]) ?_ ?_
 ·obtain ⟨af, h1, hm⟩ := aa hm
  rcases ai hm with ⟨c1,hm⟩|⟨c1,hm⟩
  ·refine qR [(2, hle [800152500] (fO h1) abA), (3, hto (bE c1))] [(0, i6 ra0), (1, .ptr 800152000 0), (3, .ptr 800152002 0), (4, .ptr 800152003 0), (15, .bool true)] [(800152000, .cells 22 [.own 800152500]), (800152001, .cells 22 [lf bL tU]), (800152002, .cells 44 [lf aU tV, lf az tW]), (800152003, .cells 109 [.fn 152 [.ptr 800152000 0, .ptr 800152001 0, .ptr 800152002 0, .ptr 800152003 0]]), (800152500, .slice 3 1 (ml bL uQ) 0 false)] ?_
   exact qX true hm
  obtain ⟨ay, h2, hm⟩ := aa hm
  refine qR [(2, hle [800152500] (fO h1) abA), (3, hto (bE c1)), (6, hro (fO h2) abA)] [(0, i6 ra0), (1, .ptr 800152000 0), (3, .ptr 800152002 0), (4, .ptr 800152003 0), (15, .bool ay)] [(800152000, .cells 22 [.own 800152500]), (800152001, .cells 22 [lf bL tU]), (800152002, .cells 44 [lf aU tV, lf az tW]), (800152003, .cells 109 [.fn 152 [.ptr 800152000 0, .ptr 800152001 0, .ptr 800152002 0, .ptr 800152003 0]]), (800152500, .slice 3 1 (ml bL uQ) 0 false)] ?_
  exact qX ay hm
 rintro v_1 hm
 rw [hJ1] at hm
 rcases ai hm with ⟨c2,hm⟩|⟨c2,hm⟩
 ·refine qT c2 ?_
  refine A.ret ?_
  obtain rfl := some_inj hm
  exact A.fin W0 [.rn 800152500 800152501] rfl (by kernel_rfl)
 refine qF c2 ?_
 refine A.skip ?_
 show ah _ _ _ _ _
 obtain ⟨l_1, h3, hm⟩ := aa hm
 refine qD [(3, hap 152519 (ap bL (bytes := 8) (by decide) h3))] [1, 15] [] [800152000, 800152500] [(800152000, .cells 22 [.own 152519]), (152519, .slice 3 1 (ml bL l_1) 0 false)] ?_
 obtain ⟨aK, h4, hm⟩ := aa hm
 refine qD [(2, hdc [500015300] (oe h4) ajp), (3, hto (lnE bL aK))] [0, 3] [(22, .own 500015300), (23, i6 (aK.length:Int)), (24, i6 0)] [] [(500015300, .slice 3 1 (ml bL aK) 0 false)] ?_
 refine A.block ?_
 refine A.bW 22 rfl rfl fun hb1 => ?_
 obtain ⟨B1, K1, hB1, hK1, hm⟩ := bt hm
 refine A.lpI (l := aK) (j0 := 0) (B := B1) (K := K1) hm (fun j1 => fun m_1 => [(4, .ptr 800152003 0), (22, .own 500015300), (23, i6 (aK.length:Int)), (24, i6 (j1 : Int))]) (fun j1 => fun m_1 => [(800152000, .cells 22 [.own 715200000]), (800152001, .cells 22 [lf bL tU]), (800152002, .cells 44 [lf aU tV, lf az tW]), (800152003, .cells 109 [.fn 152 [.ptr 800152000 0, .ptr 800152001 0, .ptr 800152002 0, .ptr 800152003 0]]), (500015300, .slice 3 1 (ml bL aK) 0 false), (715200000, .slice 3 1 (ml bL m_1) 0 false)]) ?_ ?_ ?_
 ·exact bA.go [.sw 152519 715200000] [] (by kernel_rfl)
 ·rintro j1 e1 Z1 m_1 hj1 hx1 hm
  rw [hB1] at hm
  refine qDs [] [] [(25, .bool (decide ((j1 : Int) < (aK.length:Int))))] ?_
  refine A.seq ?_
  refine qT (ltT hx1) ?_
  refine A.skip ?_
  show ah _ _ _ _ _
  refine A.seq ?_
  refine A.block ?_
  refine qDs [(0, hix (ix bL (bf hx1))), (1, hlo 500015300 0 (ix bL (bf hx1)))] [25] [(7, i6 e1)] ?_
  obtain ⟨bh, h5, hm⟩ := aa hm
  refine qG [(2, hdc [520152001] (SC.at [(800152500, 715200000), (800152501, 520152001)] (ih h5)) ajo)] [7] [] [800152000, 715200000] [(800152000, .cells 22 [.own 520152001]), (520152001, .slice 3 1 (ml bL bh) 0 false)] ?_
  show ah _ _ _ _ _
  refine qGs [(0, hto (inc hx1 hb1))] [24] [(24, i6 ((j1 + 1 : Nat) : Int))] ?_
  exact Exists.intro bh (And.intro hm (bA.go [.sw 520152001 715200000] [] (by kernel_rfl)))
 rintro j1 m_1 hj1 hl1 hm
 rw [hK1] at hm
 refine qDs [] [] [(25, .bool (decide ((j1 : Int) < (aK.length:Int))))] ?_
 refine A.seq ?_
 refine qF (ltF hl1) ?_
 refine A.exit ?_
 obtain rfl := some_inj hm
 exact A.fin W0 [.sw 715200000 800152501] rfl (by kernel_rfl)
theorem vi {t : aD} {dX : Int} {closed : List Int} {r : (List Int)} (hm : oc t dX closed = some r) : RO Tryz.prog 123 [] [.agg (k2 t), i6 dX, lf bL closed] (lf bL r) := by
 refine aT Tryz.func123 rfl rfl ?_
 unfold oc at hm
 refine qS [(0, .al 123003), (1, .al 123005)] [(1, i6 dX), (3, .ptr 123003 0), (5, .ptr 123005 0)] [(123003, .cells 44 (k2 t)), (123005, .cells 22 [lf bL closed])] ?_
 refine qD [(0, .al 123007)] [] [(7, .ptr 123007 0)] [] [(123007, .cells 22 [.aG])] ?_
 refine qD [(0, .al 123008)] [] [(8, .ptr 123008 0)] [] [(123008, .cells 109 [.gE])] ?_
 refine qD [] [3, 5] [] [123008] [(123008, .cells 109 [.fn 152 [.ptr 123007 0, .ptr 123005 0, .ptr 123003 0, .ptr 123008 0]])] ?_
 obtain ⟨af, h1, hm⟩ := aa hm
 refine A.RS W0 [.ac 123007 800152500 3 1 0] [(2, hdc [520123001] (SC.at [(800152000, 123007), (800152001, 123005), (800152002, 123003), (800152003, 123008), (800152501, 520123001)] (uq fuel h1)) ajo)] [(7, .ptr 123007 0)] [(123007, .cells 22 [.own 520123001]), (520123001, .slice 3 1 (ml bL af) 0 false)] (by kernel_rfl) ?_
 obtain ⟨h2, hm⟩ := eV hm
 refine qS [(1, hdc [] (acg (d := 520123001) (T := 3) af (of_decide_eq_true h2)) ajq)] [(7, .ptr 123007 0)] [(123007, .cells 22 [.own 520123001]), (520123001, .slice 3 1 (ml bL (iE af)) 0 false)] ?_
 refine qD [] [7] [(6, .own 520123001)] [123007] [] ?_
 refine A.ret ?_
 obtain rfl := some_inj hm
 exact A.fin W0 [.fz [520123001]] rfl (by kernel_rfl)
theorem tX {t : aD} {aJ : Int} {r : (List Int)} (hm : gP t aJ = some r) : bM Tryz.prog 130 [] [.agg (k2 t), i6 aJ] (fun a σ' => a = .own 500013000 ∧ σ' = [(500013000, .slice 3 1 (ml bL r) 0 false)]) := by
 refine aT Tryz.func130 rfl rfl ?_
 unfold gP at hm
 refine qS [(0, .al 130002)] [(1, i6 aJ), (2, .ptr 130002 0)] [(130002, .cells 44 (k2 t))] ?_
 refine A.seq ?_
 obtain ⟨af, h1, hm⟩ := aa hm
 refine qDs [(1, hro (gB h1) x2)] [] [(7, .bool (!af))] ?_
 rcases ai hm with ⟨c1,hm⟩|⟨c1,hm⟩
 ·refine qT c1 ?_
  refine qS [] [(4, .aG)] [] ?_
  refine A.ret ?_
  obtain rfl := some_inj hm
  exact A.fin W0 [.ad 4 500013000 3 1] rfl (by kernel_rfl)
 refine qF c1 ?_
 refine A.skip ?_
 show ah _ _ _ _ _
 obtain ⟨ay, h2, hm⟩ := aa hm
 refine qS [(2, hdc [500015300] (oe h2) ajp)] [(4, .own 500015300)] [(500015300, .slice 3 1 (ml bL ay) 0 false)] ?_
 refine A.ret ?_
 obtain rfl := some_inj hm
 exact A.fin W0 [.sw 500015300 500013000] rfl (by kernel_rfl)
theorem oH {t : aD} {a : Int} {b : Int} {r : Bool} (hm : mV t a b = some r) : RO Tryz.prog 67 [] [.agg (k2 t), i6 a, i6 b] (.bool r) := by
 refine aT Tryz.func67 rfl rfl ?_
 unfold mV at hm
 refine qS [(0, .al 67003)] [(1, i6 a), (2, i6 b), (3, .ptr 67003 0)] [(67003, .cells 44 (k2 t))] ?_
 obtain ⟨af, h1, hm⟩ := aa hm
 rcases ai hm with ⟨c1,hm⟩|⟨c1,hm⟩
 ·obtain ⟨ay, h2, hm⟩ := aa hm
  rcases ai hm with ⟨c2,hm⟩|⟨c2,hm⟩
  ·obtain ⟨aK, h3, hm⟩ := aa hm
   obtain ⟨bh, h4, hm⟩ := aa hm
   refine qS [(2, hro (gw h1) vQ), (3, hto (bE c1)), (6, hro (gw h2) vQ), (8, hto (bE c2)), (11, hro (vi h3) atx), (13, hro (fO h4) abA)] [(6, .bool bh)] [] ?_
   cases hm
   exact A.ret qE
  refine qS [(2, hro (gw h1) vQ), (3, hto (bE c1)), (6, hro (gw h2) vQ), (8, hto (bE c2))] [(6, .bool false)] [] ?_
  cases hm
  exact A.ret qE
 refine qS [(2, hro (gw h1) vQ), (3, hto (bE c1))] [(6, .bool false)] [] ?_
 cases hm
 exact A.ret qE
end Go.Proofs.YtpmifmdidfgpdaaGreat
