/- The eM of ct of the program. No condition but bU bB stand in each. -/
import Derived.Test.YtpmifmdidfgpdaaGreatDA
import Derived.Test.YtpmifmdidfgpdaaGreatV4
import Derived.Test.YtpmifmdidfgpdaaGreatS
import Derived.Test.YtpmifmdidfgpdaaGreatSO
namespace Go.Proofs.YtpmifmdidfgpdaaGreat
open Go
set_option maxRecDepth 100000
set_option linter.all false
theorem oE {t : aH} {aL : Int} {r : (List Int)} (hm : fR t aL = some r) : bM Tryz.prog 153 [] [.agg (k2 t), i6 aL] (fun a σ' => a = .own 500015300 ∧ σ' = [(500015300, .slice 3 1 (ml bJ r) 0 false)]) := by
 refine aR Tryz.func153 rfl rfl ?_
 unfold fR at hm
 refine qS [(0, .al 153002)] [(1, i6 aL), (2, .ptr 153002 0)] [(153002, .cells 44 (k2 t))] ?_
 refine qDs [] [] [(5, .aC)] ?_
 refine A.seq ?_
 refine qD [(2, hto (lnE aA t.Links))] [2] [(9, lf aA t.Links), (10, i6 (t.Links.length:Int)), (11, i6 0)] [153002] [] ?_
 refine A.block ?_
 refine A.bS 9 rfl fun hb1 => ?_
 obtain ⟨B1, K1, hB1, hK1, hm⟩ := bt hm
 refine A.lpI (l := t.Links) (j0 := 0) (B := B1) (K := K1) hm (fun j1 => fun dy => [(1, i6 aL), (5, .own 600153005), (9, lf aA t.Links), (10, i6 (t.Links.length:Int)), (11, i6 (j1 : Int))]) (fun j1 => fun dy => [(600153005, .slice 3 1 (ml bJ dy) 0 false)]) ?_ ?_ ?_
 ·exact bA.go [.ad 5 600153005 3 1] [] (by kernel_rfl)
 ·rintro j1 e1 Z1 dy hj1 hx1 hm
  rw [hB1] at hm
  refine qDs [] [] [(12, .bool (decide ((j1 : Int) < (t.Links.length:Int))))] ?_
  refine A.seq ?_
  refine qT (ltT hx1) ?_
  refine A.skip ?_
  show ai _ _ _ _ _
  obtain ⟨J1, hJ1, hm⟩ := bK hm
  refine A.J (J := J1) (r := r) (fun oR => [(1, i6 aL), (5, .own 600153005), (9, lf aA t.Links), (10, i6 (t.Links.length:Int)), (11, i6 (j1 : Int))]) (fun oR => [(600153005, .slice 3 1 (ml bJ oR) 0 false)]) ?_ ?_
  ·refine A.block ?_
   refine qD [(0, hix (ix aA (bf hx1))), (2, .al 153007)] [12] [(7, .ptr 153007 0)] [] [(153007, .cells 78 (k1 e1))] ?_
   refine qDs [] [] [(15, i6 aL)] ?_
   refine A.block ?_
   refine qDs [] [] [(16, .bool (decide (aL = e1.A)))] ?_
   rcases ah hm with ⟨c1,hm⟩|⟨c1,hm⟩
   ·refine qT c1 ?_
    obtain ⟨l_1, h1, hm⟩ := aa hm
    refine qG [(4, hap 153524 (ap bJ (bytes := 8) (by decide) h1))] [5, 7, 15, 16] [(5, .own 153524)] [600153005, 153007] [(153524, .slice 3 1 (ml bJ l_1) 0 false)] ?_
    exact Exists.intro l_1 (And.intro hm (bA.go [.sw 153524 600153005] [] (by kernel_rfl)))
   refine qF c1 ?_
   refine qDs [] [15, 16] [(25, .bool (decide (aL = e1.B)))] ?_
   rcases ah hm with ⟨c2,hm⟩|⟨c2,hm⟩
   ·refine qT c2 ?_
    obtain ⟨l_2, h2, hm⟩ := aa hm
    refine qG [(4, hap 153533 (ap bJ (bytes := 8) (by decide) h2))] [5, 7, 25] [(5, .own 153533)] [600153005, 153007] [(153533, .slice 3 1 (ml bJ l_2) 0 false)] ?_
    exact Exists.intro l_2 (And.intro hm (bA.go [.sw 153533 600153005] [] (by kernel_rfl)))
   refine qF c2 ?_
   refine A.skip ?_
   exact qX dy hm
  rintro oR hm
  rw [hJ1] at hm
  refine qGs [(0, hto (inc hx1 hb1))] [11] [(11, i6 ((j1 + 1 : Nat) : Int))] ?_
  exact qX oR hm
 rintro j1 dy hj1 hl1 hm
 rw [hK1] at hm
 refine qDs [] [] [(12, .bool (decide ((j1 : Int) < (t.Links.length:Int))))] ?_
 refine A.seq ?_
 refine qF (ltF hl1) ?_
 refine A.exit ?_
 show ai _ _ _ _ _
 obtain ⟨h3, hm⟩ := eZ hm
 refine qS [(1, hdc [] (acO (d := 600153005) (T := 3) dy (of_decide_eq_true h3)) ajI)] [(5, .own 600153005)] [(600153005, .slice 3 1 (ml bJ (iM dy)) 0 false)] ?_
 refine qDs [] [5] [(4, .own 600153005)] ?_
 refine A.ret ?_
 obtain rfl := some_inj hm
 exact A.fin W0 [.sw 600153005 500015300] rfl (by kernel_rfl)
theorem uH : ∀ (n_ : Nat) {ra0 : Int} {vi : List Int} {ur : List Int} {uu : List aX} {uv : List aT} {r : (List Int)} (hm : j9 n_ ra0 vi ur uu uv = some r), bM Tryz.prog 152 [(800152000, .cells 22 [.own 800152500]), (800152001, .cells 22 [lf bJ ur]), (800152002, .cells 44 [lf aU uu, lf aA uv]), (800152003, .cells 109 [.fn 152 [.ptr 800152000 0, .ptr 800152001 0, .ptr 800152002 0, .ptr 800152003 0]]), (800152500, .slice 3 1 (ml bJ vi) 0 false)] [i6 ra0, .ptr 800152000 0, .ptr 800152001 0, .ptr 800152002 0, .ptr 800152003 0] (fun a σ' => a = .tup [] ∧ σ' = [(800152000, .cells 22 [.own 800152501]), (800152001, .cells 22 [lf bJ ur]), (800152002, .cells 44 [lf aU uu, lf aA uv]), (800152003, .cells 109 [.fn 152 [.ptr 800152000 0, .ptr 800152001 0, .ptr 800152002 0, .ptr 800152003 0]]), (800152501, .slice 3 1 (ml bJ r) 0 false)]) := by
 intro n_
 induction n_ with
 | zero => intros; rename_i hm; cases hm
 | succ n_ ih =>
 intro ra0 vi ur uu uv r hm
 refine aR Tryz.func152 rfl rfl ?_
 rw [j9] at hm
 refine A.seq ?_
 obtain ⟨J1, hJ1, hm⟩ := bK hm
 refine A.J (J := J1) (r := r) (fun v_1 => [(0, i6 ra0), (1, .ptr 800152000 0), (3, .ptr 800152002 0), (4, .ptr 800152003 0), (15, .bool v_1)]) (fun v_1 => [(800152000, .cells 22 [.own 800152500]), (800152001, .cells 22 [lf bJ ur]), (800152002, .cells 44 [lf aU uu, lf aA uv]), (800152003, .cells 109 [.fn 152 [.ptr 800152000 0, .ptr 800152001 0, .ptr 800152002 0, .ptr 800152003 0]]), (800152500, .slice 3 1 (ml bJ vi) 0 false)]) ?_ ?_
 ·obtain ⟨af, h1, hm⟩ := aa hm
  rcases ah hm with ⟨c1,hm⟩|⟨c1,hm⟩
  ·refine qR [(2, hle [800152500] (fU h1) ab2), (3, hto (bE c1))] [(0, i6 ra0), (1, .ptr 800152000 0), (3, .ptr 800152002 0), (4, .ptr 800152003 0), (15, .bool true)] [(800152000, .cells 22 [.own 800152500]), (800152001, .cells 22 [lf bJ ur]), (800152002, .cells 44 [lf aU uu, lf aA uv]), (800152003, .cells 109 [.fn 152 [.ptr 800152000 0, .ptr 800152001 0, .ptr 800152002 0, .ptr 800152003 0]]), (800152500, .slice 3 1 (ml bJ vi) 0 false)] ?_
   exact qX true hm
  obtain ⟨ay, h2, hm⟩ := aa hm
  refine qR [(2, hle [800152500] (fU h1) ab2), (3, hto (bE c1)), (6, hro (fU h2) ab2)] [(0, i6 ra0), (1, .ptr 800152000 0), (3, .ptr 800152002 0), (4, .ptr 800152003 0), (15, .bool ay)] [(800152000, .cells 22 [.own 800152500]), (800152001, .cells 22 [lf bJ ur]), (800152002, .cells 44 [lf aU uu, lf aA uv]), (800152003, .cells 109 [.fn 152 [.ptr 800152000 0, .ptr 800152001 0, .ptr 800152002 0, .ptr 800152003 0]]), (800152500, .slice 3 1 (ml bJ vi) 0 false)] ?_
  exact qX ay hm
 rintro v_1 hm
 rw [hJ1] at hm
 rcases ah hm with ⟨c2,hm⟩|⟨c2,hm⟩
 ·refine qT c2 ?_
  refine A.ret ?_
  obtain rfl := some_inj hm
  exact A.fin W0 [.rn 800152500 800152501] rfl (by kernel_rfl)
 refine qF c2 ?_
 refine A.skip ?_
 show ai _ _ _ _ _
 obtain ⟨l_1, h3, hm⟩ := aa hm
 refine qD [(3, hap 152519 (ap bJ (bytes := 8) (by decide) h3))] [1, 15] [] [800152000, 800152500] [(800152000, .cells 22 [.own 152519]), (152519, .slice 3 1 (ml bJ l_1) 0 false)] ?_
 obtain ⟨aJ, h4, hm⟩ := aa hm
 refine qD [(2, hdc [500015300] (oE h4) ajH), (3, hto (lnE bJ aJ))] [0, 3] [(22, .own 500015300), (23, i6 (aJ.length:Int)), (24, i6 0)] [] [(500015300, .slice 3 1 (ml bJ aJ) 0 false)] ?_
 refine A.block ?_
 refine A.bW 22 rfl rfl fun hb1 => ?_
 obtain ⟨B1, K1, hB1, hK1, hm⟩ := bt hm
 refine A.lpI (l := aJ) (j0 := 0) (B := B1) (K := K1) hm (fun j1 => fun m_1 => [(4, .ptr 800152003 0), (22, .own 500015300), (23, i6 (aJ.length:Int)), (24, i6 (j1 : Int))]) (fun j1 => fun m_1 => [(800152000, .cells 22 [.own 715200000]), (800152001, .cells 22 [lf bJ ur]), (800152002, .cells 44 [lf aU uu, lf aA uv]), (800152003, .cells 109 [.fn 152 [.ptr 800152000 0, .ptr 800152001 0, .ptr 800152002 0, .ptr 800152003 0]]), (500015300, .slice 3 1 (ml bJ aJ) 0 false), (715200000, .slice 3 1 (ml bJ m_1) 0 false)]) ?_ ?_ ?_
 ·exact bA.go [.sw 152519 715200000] [] (by kernel_rfl)
 ·rintro j1 e1 Z1 m_1 hj1 hx1 hm
  rw [hB1] at hm
  refine qDs [] [] [(25, .bool (decide ((j1 : Int) < (aJ.length:Int))))] ?_
  refine A.seq ?_
  refine qT (ltT hx1) ?_
  refine A.skip ?_
  show ai _ _ _ _ _
  refine A.seq ?_
  refine A.block ?_
  refine qDs [(0, hix (ix bJ (bf hx1))), (1, hlo 500015300 0 (ix bJ (bf hx1)))] [25] [(7, i6 e1)] ?_
  obtain ⟨bk, h5, hm⟩ := aa hm
  refine qG [(2, hdc [520152001] (SC.at [(800152500, 715200000), (800152501, 520152001)] (ih h5)) ajG)] [7] [] [800152000, 715200000] [(800152000, .cells 22 [.own 520152001]), (520152001, .slice 3 1 (ml bJ bk) 0 false)] ?_
  show ai _ _ _ _ _
  refine qGs [(0, hto (inc hx1 hb1))] [24] [(24, i6 ((j1 + 1 : Nat) : Int))] ?_
  exact Exists.intro bk (And.intro hm (bA.go [.sw 520152001 715200000] [] (by kernel_rfl)))
 rintro j1 m_1 hj1 hl1 hm
 rw [hK1] at hm
 refine qDs [] [] [(25, .bool (decide ((j1 : Int) < (aJ.length:Int))))] ?_
 refine A.seq ?_
 refine qF (ltF hl1) ?_
 refine A.exit ?_
 obtain rfl := some_inj hm
 exact A.fin W0 [.sw 715200000 800152501] rfl (by kernel_rfl)
theorem vE {t : aH} {ef : Int} {closed : List Int} {r : (List Int)} (hm : oD t ef closed = some r) : RO Tryz.prog 123 [] [.agg (k2 t), i6 ef, lf bJ closed] (lf bJ r) := by
 refine aR Tryz.func123 rfl rfl ?_
 unfold oD at hm
 refine qS [(0, .al 123003), (1, .al 123005)] [(1, i6 ef), (3, .ptr 123003 0), (5, .ptr 123005 0)] [(123003, .cells 44 (k2 t)), (123005, .cells 22 [lf bJ closed])] ?_
 refine qD [(0, .al 123007)] [] [(7, .ptr 123007 0)] [] [(123007, .cells 22 [.aC])] ?_
 refine qD [(0, .al 123008)] [] [(8, .ptr 123008 0)] [] [(123008, .cells 109 [.gJ])] ?_
 refine qD [] [3, 5] [] [123008] [(123008, .cells 109 [.fn 152 [.ptr 123007 0, .ptr 123005 0, .ptr 123003 0, .ptr 123008 0]])] ?_
 obtain ⟨af, h1, hm⟩ := aa hm
 refine A.RS W0 [.ac 123007 800152500 3 1 0] [(2, hdc [520123001] (SC.at [(800152000, 123007), (800152001, 123005), (800152002, 123003), (800152003, 123008), (800152501, 520123001)] (uH fuel h1)) ajG)] [(7, .ptr 123007 0)] [(123007, .cells 22 [.own 520123001]), (520123001, .slice 3 1 (ml bJ af) 0 false)] (by kernel_rfl) ?_
 obtain ⟨h2, hm⟩ := eZ hm
 refine qS [(1, hdc [] (acO (d := 520123001) (T := 3) af (of_decide_eq_true h2)) ajI)] [(7, .ptr 123007 0)] [(123007, .cells 22 [.own 520123001]), (520123001, .slice 3 1 (ml bJ (iM af)) 0 false)] ?_
 refine qD [] [7] [(6, .own 520123001)] [123007] [] ?_
 refine A.ret ?_
 obtain rfl := some_inj hm
 exact A.fin W0 [.fz [520123001]] rfl (by kernel_rfl)
theorem uw {t : aH} {aL : Int} {r : (List Int)} (hm : gY t aL = some r) : bM Tryz.prog 130 [] [.agg (k2 t), i6 aL] (fun a σ' => a = .own 500013000 ∧ σ' = [(500013000, .slice 3 1 (ml bJ r) 0 false)]) := by
 refine aR Tryz.func130 rfl rfl ?_
 unfold gY at hm
 refine qS [(0, .al 130002)] [(1, i6 aL), (2, .ptr 130002 0)] [(130002, .cells 44 (k2 t))] ?_
 refine A.seq ?_
 obtain ⟨af, h1, hm⟩ := aa hm
 refine qDs [(1, hro (gH h1) yA)] [] [(7, .bool (!af))] ?_
 rcases ah hm with ⟨c1,hm⟩|⟨c1,hm⟩
 ·refine qT c1 ?_
  refine qS [] [(4, .aC)] [] ?_
  refine A.ret ?_
  obtain rfl := some_inj hm
  exact A.fin W0 [.ad 4 500013000 3 1] rfl (by kernel_rfl)
 refine qF c1 ?_
 refine A.skip ?_
 show ai _ _ _ _ _
 obtain ⟨ay, h2, hm⟩ := aa hm
 refine qS [(2, hdc [500015300] (oE h2) ajH)] [(4, .own 500015300)] [(500015300, .slice 3 1 (ml bJ ay) 0 false)] ?_
 refine A.ret ?_
 obtain rfl := some_inj hm
 exact A.fin W0 [.sw 500015300 500013000] rfl (by kernel_rfl)
theorem oZ {t : aH} {a : Int} {b : Int} {r : Bool} (hm : nw t a b = some r) : RO Tryz.prog 67 [] [.agg (k2 t), i6 a, i6 b] (.bool r) := by
 refine aR Tryz.func67 rfl rfl ?_
 unfold nw at hm
 refine qS [(0, .al 67003)] [(1, i6 a), (2, i6 b), (3, .ptr 67003 0)] [(67003, .cells 44 (k2 t))] ?_
 obtain ⟨af, h1, hm⟩ := aa hm
 rcases ah hm with ⟨c1,hm⟩|⟨c1,hm⟩
 ·obtain ⟨ay, h2, hm⟩ := aa hm
  rcases ah hm with ⟨c2,hm⟩|⟨c2,hm⟩
  ·obtain ⟨aJ, h3, hm⟩ := aa hm
   obtain ⟨bk, h4, hm⟩ := aa hm
   refine qS [(2, hro (gE h1) wz), (3, hto (bE c1)), (6, hro (gE h2) wz), (8, hto (bE c2)), (11, hro (vE h3) atP), (13, hro (fU h4) ab2)] [(6, .bool bk)] [] ?_
   cases hm
   exact A.ret qE
  refine qS [(2, hro (gE h1) wz), (3, hto (bE c1)), (6, hro (gE h2) wz), (8, hto (bE c2))] [(6, .bool false)] [] ?_
  cases hm
  exact A.ret qE
 refine qS [(2, hro (gE h1) wz), (3, hto (bE c1))] [(6, .bool false)] [] ?_
 cases hm
 exact A.ret qE
end Go.Proofs.YtpmifmdidfgpdaaGreat
