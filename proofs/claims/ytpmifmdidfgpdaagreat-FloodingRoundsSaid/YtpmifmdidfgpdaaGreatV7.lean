/- The eC of cr of the program. No condition but bT bB stand in each. -/
import Derived.Test.YtpmifmdidfgpdaaGreatDA
namespace Go.Proofs.YtpmifmdidfgpdaaGreat
open Go
set_option maxRecDepth 100000
set_option linter.all false
theorem lR {n : Int} {r : Bool} (hm : ku n = some r) : RO Tryz.prog 144 [] [i6 n] (.bool r) := by
 refine aT Tryz.func144 rfl rfl ?_
 unfold ku at hm
 refine qS [] [(0, i6 n)] [] ?_
 refine A.mid [(2, .bool ((decide (n = (8:Int))) || ((decide (n = (16:Int))) || ((decide (n = (32:Int))) || (decide (n = (64:Int)))))))] [] (fun hk => ?_) ?_
 ·rcases tf (decide (n = (8:Int))) with c1 | c1
  ·exact qS [(2, hto (bE c1)), (14, hto (orT (q := ((decide (n = (16:Int))) || ((decide (n = (32:Int))) || (decide (n = (64:Int)))))) c1))] _ _ hk
  rcases tf (decide (n = (16:Int))) with c2 | c2
  ·exact qS [(2, hto (bE c1)), (6, hto (bE c2)), (14, hto ((orT (q := ((decide (n = (32:Int))) || (decide (n = (64:Int))))) c2).trans (orF (q := ((decide (n = (16:Int))) || ((decide (n = (32:Int))) || (decide (n = (64:Int)))))) c1)))] _ _ hk
  rcases tf (decide (n = (32:Int))) with c3 | c3
  ·exact qS [(2, hto (bE c1)), (6, hto (bE c2)), (10, hto (bE c3)), (14, hto (((orT (q := decide (n = (64:Int))) c3).trans (orF (q := ((decide (n = (32:Int))) || (decide (n = (64:Int))))) c2)).trans (orF (q := ((decide (n = (16:Int))) || ((decide (n = (32:Int))) || (decide (n = (64:Int)))))) c1)))] _ _ hk
  exact qS [(2, hto (bE c1)), (6, hto (bE c2)), (10, hto (bE c3)), (14, hto (((orF (q := decide (n = (64:Int))) c3).trans (orF (q := ((decide (n = (32:Int))) || (decide (n = (64:Int))))) c2)).trans (orF (q := ((decide (n = (16:Int))) || ((decide (n = (32:Int))) || (decide (n = (64:Int)))))) c1)))] _ _ hk
 cases hm
 exact A.ret qE
theorem bP {n : Int} {low : Int} {high : Int} {r : Bool} (hm : fu n low high = some r) : RO Tryz.prog 143 [] [i6 n, i6 low, i6 high] (.bool r) := by
 refine aT Tryz.func143 rfl rfl ?_
 unfold fu at hm
 refine qS [] [(0, i6 n), (1, i6 low), (2, i6 high)] [] ?_
 refine A.mid [(6, .bool ((decide (low ≤ n)) && (decide (n ≤ high))))] [] (fun hk => ?_) ?_
 ·rcases tf (decide (low ≤ n)) with c1 | c1
  ·exact qS [(3, hto (bE c1)), (8, hto (qu (q := decide (n ≤ high)) c1))] _ _ hk
  exact qS [(3, hto (bE c1)), (8, hto (rF (q := decide (n ≤ high)) c1))] _ _ hk
 cases hm
 exact A.ret qE
theorem lS {l : List bz} {r : Bool} (hm : gC l = some r) : RO Tryz.prog 98 [] [lf aS l] (.bool r) := by
 refine aT Tryz.func98 rfl rfl ?_
 unfold gC at hm
 refine qS [] [(0, lf aS l)] [] ?_
 refine A.seq ?_
 refine qDs [(1, hto (lnE aS l))] [] [(6, .bool (decide ((8:Int) < (l.length:Int))))] ?_
 rcases ai hm with ⟨c1,hm⟩|⟨c1,hm⟩
 ·refine qT c1 ?_
  refine qS [] [(2, .bool false)] [] ?_
  cases hm
  exact A.ret qE
 refine qF c1 ?_
 refine A.skip ?_
 show ah _ _ _ _ _
 refine A.seq ?_
 refine qDs [] [6] [(3, i6 0)] ?_
 refine A.block ?_
 refine A.bS 0 rfl fun hb1 => ?_
 obtain ⟨B1, K1, hB1, hK1, hm⟩ := bt hm
 refine A.lpI (l := l) (j0 := 0) (B := B1) (K := K1) hm (fun j1 => fun sg => match sg with | () => [(0, lf aS l), (3, i6 (j1 : Int))]) (fun j1 => fun sg => match sg with | () => []) ?_ ?_ ?_
 ·exact qW
 ·rintro j1 e1 Z1 ⟨⟩ hj1 hx1 hm
  rw [hB1] at hm
  refine A.seq ?_
  refine qDs [(2, hto (lnE aS l))] [] [(10, .bool (decide ((j1 : Int) < (l.length:Int))))] ?_
  refine qT (ltT hx1) ?_
  refine A.skip ?_
  show ah _ _ _ _ _
  refine A.seq ?_
  refine A.block ?_
  obtain ⟨J1, hJ1, hm⟩ := bJ hm
  refine A.J (J := J1) (r := r) (fun v_1 => [(0, lf aS l), (3, i6 (j1 : Int)), (55, .bool v_1)]) (fun v_1 => []) ?_ ?_
  ·obtain ⟨af, h1, hm⟩ := aa hm
   rcases ai hm with ⟨c2,hm⟩|⟨c2,hm⟩
   ·refine qGs [(2, hix (ix aS (bf hx1))), (5, hro (bP h1) gd), (7, hto (bE c2))] [10] [(55, .bool true)] ?_
    exact qX true hm
   obtain ⟨ay, h2, hm⟩ := aa hm
   rcases ai hm with ⟨c3,hm⟩|⟨c3,hm⟩
   ·refine qGs [(2, hix (ix aS (bf hx1))), (5, hro (bP h1) gd), (7, hto (bE c2)), (10, hix (ix aS (bf hx1))), (13, hro (bP h2) gd), (16, hto (bE c3))] [10] [(55, .bool true)] ?_
    exact qX true hm
   obtain ⟨aK, h3, hm⟩ := aa hm
   rcases ai hm with ⟨c4,hm⟩|⟨c4,hm⟩
   ·refine qGs [(2, hix (ix aS (bf hx1))), (5, hro (bP h1) gd), (7, hto (bE c2)), (10, hix (ix aS (bf hx1))), (13, hro (bP h2) gd), (16, hto (bE c3)), (19, hix (ix aS (bf hx1))), (22, hro (lR h3) aef), (25, hto (bE c4))] [10] [(55, .bool true)] ?_
    exact qX true hm
   rcases ai hm with ⟨c5,hm⟩|⟨c5,hm⟩
   ·obtain ⟨e_1, h4, hm⟩ := aa hm
    refine qGs [(2, hix (ix aS (bf hx1))), (5, hro (bP h1) gd), (7, hto (bE c2)), (10, hix (ix aS (bf hx1))), (13, hro (bP h2) gd), (16, hto (bE c3)), (19, hix (ix aS (bf hx1))), (22, hro (lR h3) aef), (25, hto (bE c4)), (28, hto (bE c5)), (32, hix (ix aS h4)), (37, hix (ix aS (bf hx1)))] [10] [(55, .bool (decide (e1.b9 ≤ e_1.b9)))] ?_
    exact qX (decide (e1.b9 ≤ e_1.b9)) hm
   refine qGs [(2, hix (ix aS (bf hx1))), (5, hro (bP h1) gd), (7, hto (bE c2)), (10, hix (ix aS (bf hx1))), (13, hro (bP h2) gd), (16, hto (bE c3)), (19, hix (ix aS (bf hx1))), (22, hro (lR h3) aef), (25, hto (bE c4)), (28, hto (bE c5))] [10] [(55, .bool false)] ?_
   exact qX false hm
  rintro v_1 hm
  rw [hJ1] at hm
  rcases ai hm with ⟨c6,hm⟩|⟨c6,hm⟩
  ·refine qT c6 ?_
   refine qS [] [(2, .bool false)] [] ?_
   cases hm
   exact A.ret qE
  refine qF c6 ?_
  refine A.skip ?_
  show ah _ _ _ _ _
  refine qGs [(1, hto (inc hx1 hb1))] [3, 55] [(3, i6 ((j1 + 1 : Nat) : Int))] ?_
  exact qX () hm
 rintro j1 ⟨⟩ hj1 hl1 hm
 rw [hK1] at hm
 refine A.seq ?_
 refine qDs [(2, hto (lnE aS l))] [] [(10, .bool (decide ((j1 : Int) < (l.length:Int))))] ?_
 refine qF (ltF hl1) ?_
 refine A.exit ?_
 show ah _ _ _ _ _
 refine qS [] [(2, .bool true)] [] ?_
 cases hm
 exact A.ret qE
theorem eW {a : aj} {r : Bool} (hm : fZ a = some r) : RO Tryz.prog 145 [] [.agg (k6 a)] (.bool r) := by
 refine aT Tryz.func145 rfl rfl ?_
 unfold fZ at hm
 refine qS [(0, .al 145001)] [(1, .ptr 145001 0)] [(145001, .cells 50 (k6 a))] ?_
 refine A.seq ?_
 obtain ⟨J1, hJ1, hm⟩ := bJ hm
 refine A.J (J := J1) (r := r) (fun v_1 => [(1, .ptr 145001 0), (20, .bool v_1)]) (fun v_1 => [(145001, .cells 50 (k6 a))]) ?_ ?_
 ·obtain ⟨af, h1, hm⟩ := aa hm
  rcases ai hm with ⟨c1,hm⟩|⟨c1,hm⟩
  ·refine qGs [(2, hro (bP h1) gd), (4, hto (bE c1))] [] [(20, .bool true)] ?_
   exact qX true hm
  obtain ⟨ay, h2, hm⟩ := aa hm
  rcases ai hm with ⟨c2,hm⟩|⟨c2,hm⟩
  ·refine qGs [(2, hro (bP h1) gd), (4, hto (bE c1)), (7, hro (bP h2) gd), (10, hto (bE c2))] [] [(20, .bool true)] ?_
   exact qX true hm
  refine qGs [(2, hro (bP h1) gd), (4, hto (bE c1)), (7, hro (bP h2) gd), (10, hto (bE c2)), (13, hto (lnE bk a.Links))] [] [(20, .bool (decide ((23:Int) < (a.Links.length:Int))))] ?_
  exact qX (decide ((23:Int) < (a.Links.length:Int))) hm
 rintro v_1 hm
 rw [hJ1] at hm
 rcases ai hm with ⟨c3,hm⟩|⟨c3,hm⟩
 ·refine qT c3 ?_
  refine qS [] [(2, .bool false)] [] ?_
  cases hm
  exact A.ret qE
 refine qF c3 ?_
 refine A.skip ?_
 show ah _ _ _ _ _
 refine A.seq ?_
 refine qDs [] [20] [(3, i6 0)] ?_
 refine A.block ?_
 refine A.bC 1 3 rfl rfl rfl fun hb1 => ?_
 obtain ⟨B1, K1, hB1, hK1, hm⟩ := bt hm
 refine A.lpI (l := a.Links) (j0 := 0) (B := B1) (K := K1) hm (fun j1 => fun sg => match sg with | () => [(1, .ptr 145001 0), (3, i6 (j1 : Int))]) (fun j1 => fun sg => match sg with | () => [(145001, .cells 50 (k6 a))]) ?_ ?_ ?_
 ·exact qW
 ·rintro j1 e1 Z1 ⟨⟩ hj1 hx1 hm
  rw [hB1] at hm
  refine A.seq ?_
  refine qDs [(3, hto (lnE bk a.Links))] [] [(25, .bool (decide ((j1 : Int) < (a.Links.length:Int))))] ?_
  refine qT (ltT hx1) ?_
  refine A.skip ?_
  show ah _ _ _ _ _
  refine A.seq ?_
  refine A.block ?_
  refine qD [(3, hix (ix bk (bf hx1))), (5, .al 145004)] [25] [(4, .ptr 145004 0)] [] [(145004, .cells 106 (k5 e1))] ?_
  obtain ⟨J2, hJ2, hm⟩ := bJ hm
  refine A.J (J := J2) (r := r) (fun v_2 => [(1, .ptr 145001 0), (3, i6 (j1 : Int)), (71, .bool v_2)]) (fun v_2 => [(145001, .cells 50 (k6 a))]) ?_ ?_
  ·obtain ⟨aK, h3, hm⟩ := aa hm
   rcases ai hm with ⟨c4,hm⟩|⟨c4,hm⟩
   ·refine qG [(2, hro (bP h3) gd), (4, hto (bE c4))] [4] [(71, .bool true)] [145004] [] ?_
    exact qX true hm
   rcases ai hm with ⟨c5,hm⟩|⟨c5,hm⟩
   ·refine qG [(2, hro (bP h3) gd), (4, hto (bE c4)), (11, hto (bE c5))] [4] [(71, .bool true)] [145004] [] ?_
    exact qX true hm
   obtain ⟨bh, h4, hm⟩ := aa hm
   rcases ai hm with ⟨c6,hm⟩|⟨c6,hm⟩
   ·refine qG [(2, hro (bP h3) gd), (4, hto (bE c4)), (11, hto (bE c5)), (14, hro (bP h4) gd), (17, hto (bE c6))] [4] [(71, .bool true)] [145004] [] ?_
    exact qX true hm
   obtain ⟨bI, h5, hm⟩ := aa hm
   rcases ai hm with ⟨c7,hm⟩|⟨c7,hm⟩
   ·refine qG [(2, hro (bP h3) gd), (4, hto (bE c4)), (11, hto (bE c5)), (14, hro (bP h4) gd), (17, hto (bE c6)), (20, hro (bP h5) gd), (23, hto (bE c7))] [4] [(71, .bool true)] [145004] [] ?_
    exact qX true hm
   rcases ai hm with ⟨c8,hm⟩|⟨c8,hm⟩
   ·obtain ⟨e_1, h6, hm⟩ := aa hm
    refine qG [(2, hro (bP h3) gd), (4, hto (bE c4)), (11, hto (bE c5)), (14, hro (bP h4) gd), (17, hto (bE c6)), (20, hro (bP h5) gd), (23, hto (bE c7)), (26, hto (bE c8)), (31, hix (ix bk h6))] [4] [(71, .bool (decide (e1.bw ≤ e_1.bw)))] [145004] [] ?_
    exact qX (decide (e1.bw ≤ e_1.bw)) hm
   refine qG [(2, hro (bP h3) gd), (4, hto (bE c4)), (11, hto (bE c5)), (14, hro (bP h4) gd), (17, hto (bE c6)), (20, hro (bP h5) gd), (23, hto (bE c7)), (26, hto (bE c8))] [4] [(71, .bool false)] [145004] [] ?_
   exact qX false hm
  rintro v_2 hm
  rw [hJ2] at hm
  rcases ai hm with ⟨c9,hm⟩|⟨c9,hm⟩
  ·refine qT c9 ?_
   refine qS [] [(2, .bool false)] [] ?_
   cases hm
   exact A.ret qE
  refine qF c9 ?_
  refine A.skip ?_
  show ah _ _ _ _ _
  refine qGs [(1, hto (inc hx1 hb1))] [3, 71] [(3, i6 ((j1 + 1 : Nat) : Int))] ?_
  exact qX () hm
 rintro j1 ⟨⟩ hj1 hl1 hm
 rw [hK1] at hm
 refine A.seq ?_
 refine qDs [(3, hto (lnE bk a.Links))] [] [(25, .bool (decide ((j1 : Int) < (a.Links.length:Int))))] ?_
 refine qF (ltF hl1) ?_
 refine A.exit ?_
 show ah _ _ _ _ _
 obtain ⟨bV, h7, hm⟩ := aa hm
 refine qS [(2, hro (lS h7) ahP)] [(2, .bool bV)] [] ?_
 cases hm
 exact A.ret qE
theorem qB {a : aj} {b : aj} {r : Bool} (hm : mm a b = some r) : RO Tryz.prog 27 [] [.agg (k6 a), .agg (k6 b)] (.bool r) := by
 refine aT Tryz.func27 rfl rfl ?_
 unfold mm at hm
 refine qS [(0, .al 27002), (1, .al 27003)] [(2, .ptr 27002 0), (3, .ptr 27003 0)] [(27002, .cells 50 (k6 a)), (27003, .cells 50 (k6 b))] ?_
 refine A.seq ?_
 refine A.mid [(2, .ptr 27002 0), (3, .ptr 27003 0), (43, .bool ((!decide (a.ak = b.ak)) || ((!decide (a.Seq = b.Seq)) || ((!(a.aX == b.aX)) || ((!decide ((a.Links.length:Int) = (b.Links.length:Int))) || (!decide ((a.Claims.length:Int) = (b.Claims.length:Int))))))))] [(27002, .cells 50 (k6 a)), (27003, .cells 50 (k6 b))] (fun hk => ?_) ?_
 ·rcases tf (!decide (a.ak = b.ak)) with c1 | c1
  ·exact qS [(5, hto (bE c1)), (36, hto (orT (q := ((!decide (a.Seq = b.Seq)) || ((!(a.aX == b.aX)) || ((!decide ((a.Links.length:Int) = (b.Links.length:Int))) || (!decide ((a.Claims.length:Int) = (b.Claims.length:Int))))))) c1))] _ _ hk
  rcases tf (!decide (a.Seq = b.Seq)) with c2 | c2
  ·exact qS [(5, hto (bE c1)), (12, hto (bE c2)), (36, hto ((orT (q := ((!(a.aX == b.aX)) || ((!decide ((a.Links.length:Int) = (b.Links.length:Int))) || (!decide ((a.Claims.length:Int) = (b.Claims.length:Int)))))) c2).trans (orF (q := ((!decide (a.Seq = b.Seq)) || ((!(a.aX == b.aX)) || ((!decide ((a.Links.length:Int) = (b.Links.length:Int))) || (!decide ((a.Claims.length:Int) = (b.Claims.length:Int))))))) c1)))] _ _ hk
  rcases tf (!(a.aX == b.aX)) with c3 | c3
  ·exact qS [(5, hto (bE c1)), (12, hto (bE c2)), (19, hto (bE c3)), (36, hto (((orT (q := ((!decide ((a.Links.length:Int) = (b.Links.length:Int))) || (!decide ((a.Claims.length:Int) = (b.Claims.length:Int))))) c3).trans (orF (q := ((!(a.aX == b.aX)) || ((!decide ((a.Links.length:Int) = (b.Links.length:Int))) || (!decide ((a.Claims.length:Int) = (b.Claims.length:Int)))))) c2)).trans (orF (q := ((!decide (a.Seq = b.Seq)) || ((!(a.aX == b.aX)) || ((!decide ((a.Links.length:Int) = (b.Links.length:Int))) || (!decide ((a.Claims.length:Int) = (b.Claims.length:Int))))))) c1)))] _ _ hk
  rcases tf (!decide ((a.Links.length:Int) = (b.Links.length:Int))) with c4 | c4
  ·exact qS [(5, hto (bE c1)), (12, hto (bE c2)), (19, hto (bE c3)), (22, hto (lnE bk a.Links)), (25, hto (lnE bk b.Links)), (28, hto (bE c4)), (36, hto ((((orT (q := !decide ((a.Claims.length:Int) = (b.Claims.length:Int))) c4).trans (orF (q := ((!decide ((a.Links.length:Int) = (b.Links.length:Int))) || (!decide ((a.Claims.length:Int) = (b.Claims.length:Int))))) c3)).trans (orF (q := ((!(a.aX == b.aX)) || ((!decide ((a.Links.length:Int) = (b.Links.length:Int))) || (!decide ((a.Claims.length:Int) = (b.Claims.length:Int)))))) c2)).trans (orF (q := ((!decide (a.Seq = b.Seq)) || ((!(a.aX == b.aX)) || ((!decide ((a.Links.length:Int) = (b.Links.length:Int))) || (!decide ((a.Claims.length:Int) = (b.Claims.length:Int))))))) c1)))] _ _ hk
  exact qS [(5, hto (bE c1)), (12, hto (bE c2)), (19, hto (bE c3)), (22, hto (lnE bk a.Links)), (25, hto (lnE bk b.Links)), (28, hto (bE c4)), (31, hto (lnE aS a.Claims)), (34, hto (lnE aS b.Claims)), (36, hto ((((orF (q := !decide ((a.Claims.length:Int) = (b.Claims.length:Int))) c4).trans (orF (q := ((!decide ((a.Links.length:Int) = (b.Links.length:Int))) || (!decide ((a.Claims.length:Int) = (b.Claims.length:Int))))) c3)).trans (orF (q := ((!(a.aX == b.aX)) || ((!decide ((a.Links.length:Int) = (b.Links.length:Int))) || (!decide ((a.Claims.length:Int) = (b.Claims.length:Int)))))) c2)).trans (orF (q := ((!decide (a.Seq = b.Seq)) || ((!(a.aX == b.aX)) || ((!decide ((a.Links.length:Int) = (b.Links.length:Int))) || (!decide ((a.Claims.length:Int) = (b.Claims.length:Int))))))) c1)))] _ _ hk
 rcases ai hm with ⟨c5,hm⟩|⟨c5,hm⟩
 ·refine qT c5 ?_
  refine qS [] [(4, .bool false)] [] ?_
  cases hm
  exact A.ret qE
 refine qF c5 ?_
 refine A.skip ?_
 show ah _ _ _ _ _
 refine A.seq ?_
 refine qDs [] [43] [(5, i6 0)] ?_
 refine A.block ?_
 refine A.bC 2 3 rfl rfl rfl fun hb1 => ?_
 obtain ⟨B1, K1, hB1, hK1, hm⟩ := bt hm
 refine A.lpI (l := a.Links) (j0 := 0) (B := B1) (K := K1) hm (fun j1 => fun sg => match sg with | () => [(2, .ptr 27002 0), (3, .ptr 27003 0), (5, i6 (j1 : Int))]) (fun j1 => fun sg => match sg with | () => [(27002, .cells 50 (k6 a)), (27003, .cells 50 (k6 b))]) ?_ ?_ ?_
 ·exact qW
 ·rintro j1 e1 Z1 ⟨⟩ hj1 hx1 hm
  rw [hB1] at hm
  refine A.seq ?_
  refine qDs [(3, hto (lnE bk a.Links))] [] [(48, .bool (decide ((j1 : Int) < (a.Links.length:Int))))] ?_
  refine qT (ltT hx1) ?_
  refine A.skip ?_
  show ah _ _ _ _ _
  refine A.seq ?_
  refine A.block ?_
  obtain ⟨e_1, h1, hm⟩ := aa hm
  refine qDs [(3, hix (ix bk (bf hx1))), (8, hix (ix bk h1)), (10, .sq true 106 (.agg (k5 e1)) (.agg (k5 e_1)) (!(jE e1 e_1)) (fun x y w => aa9 x y _ _ _ _ _ _ w))] [48] [(61, .bool (!(jE e1 e_1)))] ?_
  rcases ai hm with ⟨c6,hm⟩|⟨c6,hm⟩
  ·refine qT c6 ?_
   refine qS [] [(4, .bool false)] [] ?_
   cases hm
   exact A.ret qE
  refine qF c6 ?_
  refine A.skip ?_
  show ah _ _ _ _ _
  refine qGs [(1, hto (inc hx1 hb1))] [5, 61] [(5, i6 ((j1 + 1 : Nat) : Int))] ?_
  exact qX () hm
 rintro j1 ⟨⟩ hj1 hl1 hm
 rw [hK1] at hm
 refine A.seq ?_
 refine qDs [(3, hto (lnE bk a.Links))] [] [(48, .bool (decide ((j1 : Int) < (a.Links.length:Int))))] ?_
 refine qF (ltF hl1) ?_
 refine A.exit ?_
 show ah _ _ _ _ _
 refine A.seq ?_
 refine qDs [] [5, 48] [(6, i6 0)] ?_
 refine A.block ?_
 refine A.bC 2 4 rfl rfl rfl fun hb2 => ?_
 obtain ⟨B2, K2, hB2, hK2, hm⟩ := bt hm
 refine A.lpI (l := a.Claims) (j0 := 0) (B := B2) (K := K2) hm (fun j2 => fun sg => match sg with | () => [(2, .ptr 27002 0), (3, .ptr 27003 0), (6, i6 (j2 : Int))]) (fun j2 => fun sg => match sg with | () => [(27002, .cells 50 (k6 a)), (27003, .cells 50 (k6 b))]) ?_ ?_ ?_
 ·exact qW
 ·rintro j2 e2 Z2 ⟨⟩ hj2 hx2 hm
  rw [hB2] at hm
  refine A.seq ?_
  refine qDs [(3, hto (lnE aS a.Claims))] [] [(66, .bool (decide ((j2 : Int) < (a.Claims.length:Int))))] ?_
  refine qT (ltT hx2) ?_
  refine A.skip ?_
  show ah _ _ _ _ _
  refine A.seq ?_
  refine A.block ?_
  obtain ⟨e_2, h2, hm⟩ := aa hm
  refine qDs [(3, hix (ix aS (bf hx2))), (8, hix (ix aS h2)), (10, .sq true 85 (.agg (k4 e2)) (.agg (k4 e_2)) (!(gH e2 e_2)) (fun x y w => yR x y _ _ _ _ _ _ w))] [66] [(79, .bool (!(gH e2 e_2)))] ?_
  rcases ai hm with ⟨c7,hm⟩|⟨c7,hm⟩
  ·refine qT c7 ?_
   refine qS [] [(4, .bool false)] [] ?_
   cases hm
   exact A.ret qE
  refine qF c7 ?_
  refine A.skip ?_
  show ah _ _ _ _ _
  refine qGs [(1, hto (inc hx2 hb2))] [6, 79] [(6, i6 ((j2 + 1 : Nat) : Int))] ?_
  exact qX () hm
 rintro j2 ⟨⟩ hj2 hl2 hm
 rw [hK2] at hm
 refine A.seq ?_
 refine qDs [(3, hto (lnE aS a.Claims))] [] [(66, .bool (decide ((j2 : Int) < (a.Claims.length:Int))))] ?_
 refine qF (ltF hl2) ?_
 refine A.exit ?_
 show ah _ _ _ _ _
 refine qS [] [(4, .bool true)] [] ?_
 cases hm
 exact A.ret qE
end Go.Proofs.YtpmifmdidfgpdaaGreat
