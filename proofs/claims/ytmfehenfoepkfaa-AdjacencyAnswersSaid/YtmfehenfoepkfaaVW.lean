/- The jt of dK of the program. No condition but bR bw stand in each. -/
import Derived.Test.YtmfehenfoepkfaaDA
namespace Go.Proofs.Ytmfehenfoepkfaa
open Go
set_option maxRecDepth 100000
set_option linter.all false
theorem iV {t : List Int} {r : aC} (hm : eO t = some r) : cv Try.prog 8 [] [lf aA t] (fun a σ' => a = .ptr 900000081 0 ∧ σ' = [(900000081, .cells 81 (k4 r))]) := by
 refine aZ Try.func8 rfl rfl ?_
 unfold eO at hm
 refine qS [] [(0, lf aA t)] [] ?_
 obtain ⟨l_1, h1, hm⟩ := aa hm
 refine qS [(2, hto (lnE aA t)), (4, hsl (sl aA h1)), (6, .al 8009)] [(2, .ptr 8009 0)] [(8009, .cells 81 [lf aA l_1, i6 0])] ?_
 refine A.ret ?_
 obtain rfl := some_inj hm
 exact A.fin W0 [.sw 8009 900000081] rfl (by kernel_rfl)
theorem qI {t : aC} {r : Int × aC} (hm : fN t = some r) : cv Try.prog 61 [(900000081, .cells 81 (k4 t))] [.ptr 900000081 0] (fun a σ' => a = i6 r.1 ∧ σ' = [(900000081, .cells 81 (k4 r.2))]) := by
 refine aZ Try.func61 rfl rfl ?_
 unfold fN at hm
 refine qS [] [(0, .ptr 900000081 0)] [(900000081, .cells 81 (k4 t))] ?_
 refine A.seq ?_
 refine qDs [(8, hto (lnE aA t.L))] [] [(12, .bool (decide ((t.L.length:Int) ≤ t.At)))] ?_
 rcases aq hm with ⟨c1,hm⟩|⟨c1,hm⟩
 ·refine qT c1 ?_
  refine qDs [] [0, 12] [(2, i6 0)] ?_
  cases hm
  exact A.ret qE
 refine qF c1 ?_
 refine A.skip ?_
 show ah _ _ _ _ _
 refine qD [] [12] [] [900000081] [(900000081, .cells 81 [lf aA t.L, i6 (w64 (t.At + (1:Int)))])] ?_
 obtain ⟨e_1, h1, hm⟩ := aa hm
 refine qDs [(9, hix (ix aA h1))] [0] [(2, i6 e_1)] ?_
 cases hm
 exact A.ret qE
theorem tY {xa0 : Int} {n : Int} {r : Int} (hm : iO xa0 n = some r) : RO Try.prog 60 [] [i6 xa0, i6 n] (i6 r) := by
 refine aZ Try.func60 rfl rfl ?_
 unfold iO at hm
 refine qS [] [(0, i6 xa0), (1, i6 n)] [] ?_
 refine A.seq ?_
 refine qDs [] [] [(6, .bool (decide (n < (1:Int))))] ?_
 rcases aq hm with ⟨c1,hm⟩|⟨c1,hm⟩
 ·refine qT c1 ?_
  refine qS [] [(4, i6 0)] [] ?_
  cases hm
  exact A.ret qE
 refine qF c1 ?_
 refine A.skip ?_
 show ah _ _ _ _ _
 obtain ⟨h1, hm⟩ := eP hm
 refine qDs [(2, .qr n (of_decide_eq_true h1))] [0, 6] [(0, i6 (Int.tmod xa0 n))] ?_
 obtain ⟨J1, hJ1, hm⟩ := bN hm
 refine A.J (J := J1) (r := r) (fun ak => [(0, i6 ak)]) (fun ak => []) ?_ ?_
 ·refine qDs [] [] [(11, .bool (decide (Int.tmod xa0 n < (0:Int))))] ?_
  rcases aq hm with ⟨c2,hm⟩|⟨c2,hm⟩
  ·refine qT c2 ?_
   refine qR [] [(0, i6 (w64 ((Int.tmod xa0 n) + n)))] [] ?_
   exact qX (w64 ((Int.tmod xa0 n) + n)) hm
  refine qF c2 ?_
  refine A.skip ?_
  exact qX (Int.tmod xa0 n) hm
 rintro ak hm
 rw [hJ1] at hm
 refine qS [] [(4, i6 ak)] [] ?_
 cases hm
 exact A.ret qE
theorem aO {t : aC} {n : Int} {r : Int × aC} (hm : aK t n = some r) : cv Try.prog 24 [(900000081, .cells 81 (k4 t))] [.ptr 900000081 0, i6 n] (fun a σ' => a = i6 r.1 ∧ σ' = [(900000081, .cells 81 (k4 r.2))]) := by
 refine aZ Try.func24 rfl rfl ?_
 unfold aK at hm
 refine qS [] [(0, .ptr 900000081 0), (1, i6 n)] [(900000081, .cells 81 (k4 t))] ?_
 obtain ⟨ak, h1, hm⟩ := aa hm
 obtain ⟨aF, h2, hm⟩ := aa hm
 refine qS [(1, hdc [] (qI h1) ck61), (3, hro (tY h2) ck60)] [(4, i6 aF)] [(900000081, .cells 81 (k4 ak.2))] ?_
 cases hm
 exact A.ret qE
theorem cN {t : aC} {lo : Int} {hi : Int} {r : Int × aC} (hm : cn t lo hi = some r) : cv Try.prog 37 [(900000081, .cells 81 (k4 t))] [.ptr 900000081 0, i6 lo, i6 hi] (fun a σ' => a = i6 r.1 ∧ σ' = [(900000081, .cells 81 (k4 r.2))]) := by
 refine aZ Try.func37 rfl rfl ?_
 unfold cn at hm
 refine qS [] [(0, .ptr 900000081 0), (1, i6 lo), (2, i6 hi)] [(900000081, .cells 81 (k4 t))] ?_
 obtain ⟨ak, h1, hm⟩ := aa hm
 refine qS [(6, hdc [] (aO h1) gv)] [(6, i6 (w64 (lo + ak.1)))] [(900000081, .cells 81 (k4 ak.2))] ?_
 cases hm
 exact A.ret qE
theorem bF {t : aC} {l : List Int} {r : Int × aC} (hm : bx t l = some r) : cv Try.prog 40 [(900000081, .cells 81 (k4 t))] [.ptr 900000081 0, lf aA l] (fun a σ' => a = i6 r.1 ∧ σ' = [(900000081, .cells 81 (k4 r.2))]) := by
 refine aZ Try.func40 rfl rfl ?_
 unfold bx at hm
 refine qS [] [(0, .ptr 900000081 0), (1, lf aA l)] [(900000081, .cells 81 (k4 t))] ?_
 obtain ⟨ak, h1, hm⟩ := aa hm
 obtain ⟨e_1, h2, hm⟩ := aa hm
 refine qS [(3, hto (lnE aA l)), (4, hdc [] (aO h1) gv), (5, hix (ix aA h2))] [(4, i6 e_1)] [(900000081, .cells 81 (k4 ak.2))] ?_
 cases hm
 exact A.ret qE
theorem dn {l : List Int} {xa1 : Int} {r : Bool} (hm : dg l xa1 = some r) : RO Try.prog 43 [] [lf aA l, i6 xa1] (.bool r) := by
 refine aZ Try.func43 rfl rfl ?_
 unfold dg at hm
 refine qS [] [(0, lf aA l), (1, i6 xa1)] [] ?_
 refine A.seq ?_
 refine qDs [] [] [(5, i6 0)] ?_
 refine A.block ?_
 refine A.bS 0 rfl fun hb1 => ?_
 obtain ⟨B1, K1, hB1, hK1, hm⟩ := aP hm
 refine A.lpI (l := l) (j0 := 0) (B := B1) (K := K1) hm (fun j1 => fun sg => match sg with | () => [(0, lf aA l), (1, i6 xa1), (5, i6 (j1 : Int))]) (fun j1 => fun sg => match sg with | () => []) ?_ ?_ ?_
 ·exact qW
 ·rintro j1 e1 Z1 ⟨⟩ hj1 hx1 hm
  rw [hB1] at hm
  refine A.seq ?_
  refine qDs [(2, hto (lnE aA l))] [] [(9, .bool (decide ((j1 : Int) < (l.length:Int))))] ?_
  refine qT (ltT hx1) ?_
  refine A.skip ?_
  show ah _ _ _ _ _
  refine A.seq ?_
  refine A.block ?_
  refine qDs [(2, hix (ix aA (aY hx1)))] [9] [(17, .bool (decide (e1 = xa1)))] ?_
  rcases aq hm with ⟨c1,hm⟩|⟨c1,hm⟩
  ·refine qT c1 ?_
   refine qS [] [(4, .bool true)] [] ?_
   cases hm
   exact A.ret qE
  refine qF c1 ?_
  refine A.skip ?_
  show ah _ _ _ _ _
  refine qGs [(1, hto (inc hx1 hb1))] [5, 17] [(5, i6 ((j1 + 1 : Nat) : Int))] ?_
  exact qX () hm
 rintro j1 ⟨⟩ hj1 hl1 hm
 rw [hK1] at hm
 refine A.seq ?_
 refine qDs [(2, hto (lnE aA l))] [] [(9, .bool (decide ((j1 : Int) < (l.length:Int))))] ?_
 refine qF (ltF hl1) ?_
 refine A.exit ?_
 show ah _ _ _ _ _
 refine qS [] [(4, .bool false)] [] ?_
 cases hm
 exact A.ret qE
theorem o7 {l : List Int} {xa1 : Int} {r : (List Int)} (hm : gH l xa1 = some r) : RO Try.prog 51 [] [lf aA l, i6 xa1] (lf aA r) := by
 refine aZ Try.func51 rfl rfl ?_
 unfold gH at hm
 refine qS [] [(0, lf aA l), (1, i6 xa1)] [] ?_
 refine qDs [] [] [(5, i6 0)] ?_
 refine A.seq ?_
 refine A.block ?_
 obtain ⟨F1, n1, hF1, hm⟩ := iJ hm
 refine A.lpW (F := F1) hm (fun k_1 => [(0, lf aA l), (1, i6 xa1), (5, i6 k_1)]) (fun k_1 => []) ?_ ?_
 ·exact qW
 rintro Z1 k_1 hm
 rw [hF1] at hm
 refine A.seq ?_
 obtain ⟨J1, hJ1, hm⟩ := bN hm
 refine A.J (J := J1) (r := r) (fun v_1 => [(0, lf aA l), (1, i6 xa1), (5, i6 k_1), (18, .bool v_1)]) (fun v_1 => []) ?_ ?_
 ·rcases aq hm with ⟨c1,hm⟩|⟨c1,hm⟩
  ·obtain ⟨e_1, h1, hm⟩ := aa hm
   refine qGs [(2, hto (lnE aA l)), (4, hto (bE c1)), (7, hix (ix aA h1))] [] [(18, .bool (decide (e_1 < xa1)))] ?_
   exact qX (decide (e_1 < xa1)) hm
  refine qGs [(2, hto (lnE aA l)), (4, hto (bE c1))] [] [(18, .bool false)] ?_
  exact qX false hm
 rintro v_1 hm
 rw [hJ1] at hm
 rcases aq hm with ⟨c2,hm⟩|⟨c2,hm⟩
 ·refine qT c2 ?_
  refine A.skip ?_
  show ah _ _ _ _ _
  refine A.block ?_
  refine qGs [] [5, 18] [(5, i6 (w64 (k_1 + (1:Int))))] ?_
  exact qX (w64 (k_1 + (1:Int))) hm
 refine qF c2 ?_
 refine A.exit ?_
 show ah _ _ _ _ _
 refine A.seq ?_
 obtain ⟨J2, hJ2, hm⟩ := bN hm
 refine A.J (J := J2) (r := r) (fun v_2 => [(0, lf aA l), (1, i6 xa1), (5, i6 k_1), (32, .bool v_2)]) (fun v_2 => []) ?_ ?_
 ·rcases aq hm with ⟨c3,hm⟩|⟨c3,hm⟩
  ·obtain ⟨e_2, h2, hm⟩ := aa hm
   refine qGs [(2, hto (lnE aA l)), (4, hto (bE c3)), (7, hix (ix aA h2))] [18] [(32, .bool (decide (e_2 = xa1)))] ?_
   exact qX (decide (e_2 = xa1)) hm
  refine qGs [(2, hto (lnE aA l)), (4, hto (bE c3))] [18] [(32, .bool false)] ?_
  exact qX false hm
 rintro v_2 hm
 rw [hJ2] at hm
 rcases aq hm with ⟨c4,hm⟩|⟨c4,hm⟩
 ·refine qT c4 ?_
  refine qS [] [(4, lf aA l)] [] ?_
  cases hm
  exact A.ret qE
 refine qF c4 ?_
 refine A.skip ?_
 show ah _ _ _ _ _
 obtain ⟨l_1, h3, hm⟩ := aa hm
 obtain ⟨l_2, h4, hm⟩ := aa hm
 refine qD [(1, .al 51035), (4, hsl (abP aA h3)), (5, hap 51539 (ap aA (bytes := 8) (by decide) h4))] [1, 32] [(6, .own 51539)] [] [(51539, .slice 3 1 (ml aA l_2) 0 false)] ?_
 obtain ⟨l_3, h5, hm⟩ := aa hm
 obtain ⟨l_4, h6, hm⟩ := aa hm
 refine A.RS W0 [.fz [51539]] [(3, hs3 (sl aA h5)), (5, ako 51545 afy (ap aA (bytes := 8) (by decide) h6) (akm aA h4 (Nat.succ_pos _)))] [(4, .own 51545)] [(51545, .slice 3 1 (ml aA l_4) 0 false)] (by kernel_rfl) ?_
 refine A.ret ?_
 obtain rfl := some_inj hm
 exact A.fin W0 [.fz [51545]] rfl (by kernel_rfl)
theorem kO {a : List Int} {b : List Int} {r : Bool} (hm : gn a b = some r) : RO Try.prog 16 [] [lf aA a, lf aA b] (.bool r) := by
 refine aZ Try.func16 rfl rfl ?_
 unfold gn at hm
 refine qS [] [(0, lf aA a), (1, lf aA b)] [] ?_
 refine A.seq ?_
 refine qDs [(1, hto (lnE aA a)), (3, hto (lnE aA b))] [] [(10, .bool (!decide ((a.length:Int) = (b.length:Int))))] ?_
 rcases aq hm with ⟨c1,hm⟩|⟨c1,hm⟩
 ·refine qT c1 ?_
  refine qS [] [(4, .bool false)] [] ?_
  cases hm
  exact A.ret qE
 refine qF c1 ?_
 refine A.skip ?_
 show ah _ _ _ _ _
 refine A.seq ?_
 refine qDs [] [10] [(5, i6 0)] ?_
 refine A.block ?_
 refine A.bS 0 rfl fun hb1 => ?_
 obtain ⟨B1, K1, hB1, hK1, hm⟩ := aP hm
 refine A.lpI (l := a) (j0 := 0) (B := B1) (K := K1) hm (fun j1 => fun sg => match sg with | () => [(0, lf aA a), (1, lf aA b), (5, i6 (j1 : Int))]) (fun j1 => fun sg => match sg with | () => []) ?_ ?_ ?_
 ·exact qW
 ·rintro j1 e1 Z1 ⟨⟩ hj1 hx1 hm
  rw [hB1] at hm
  refine A.seq ?_
  refine qDs [(2, hto (lnE aA a))] [] [(14, .bool (decide ((j1 : Int) < (a.length:Int))))] ?_
  refine qT (ltT hx1) ?_
  refine A.skip ?_
  show ah _ _ _ _ _
  refine A.seq ?_
  refine A.block ?_
  obtain ⟨e_1, h1, hm⟩ := aa hm
  refine qDs [(2, hix (ix aA (aY hx1))), (6, hix (ix aA h1))] [14] [(25, .bool (!decide (e1 = e_1)))] ?_
  rcases aq hm with ⟨c2,hm⟩|⟨c2,hm⟩
  ·refine qT c2 ?_
   refine qS [] [(4, .bool false)] [] ?_
   cases hm
   exact A.ret qE
  refine qF c2 ?_
  refine A.skip ?_
  show ah _ _ _ _ _
  refine qGs [(1, hto (inc hx1 hb1))] [5, 25] [(5, i6 ((j1 + 1 : Nat) : Int))] ?_
  exact qX () hm
 rintro j1 ⟨⟩ hj1 hl1 hm
 rw [hK1] at hm
 refine A.seq ?_
 refine qDs [(2, hto (lnE aA a))] [] [(14, .bool (decide ((j1 : Int) < (a.length:Int))))] ?_
 refine qF (ltF hl1) ?_
 refine A.exit ?_
 show ah _ _ _ _ _
 refine qS [] [(4, .bool true)] [] ?_
 cases hm
 exact A.ret qE
end Go.Proofs.Ytmfehenfoepkfaa
