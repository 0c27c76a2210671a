/- The iY of ee of the program. No condition but bL aY stand in each. -/
import Derived.Test.YtdjeacigeegklaaDA
namespace Go.Proofs.Ytdjeacigeegklaa
open Go
set_option maxRecDepth 100000
set_option linter.all false
theorem lE {t : List Int} {r : aQ} (hm : fW t = some r) : dH Try.prog 6 [] [lf bx t] (fun a σ' => a = .ptr 900000074 0 ∧ σ' = [(900000074, .cells 74 (k3 r))]) := by
 refine bO Try.func6 rfl rfl ?_
 unfold fW at hm
 refine qS [] [(0, lf bx t)] [] ?_
 obtain ⟨l_1, h1, hm⟩ := af hm
 refine qS [(2, hto (lnE bx t)), (4, hsl (sl bx h1)), (6, .al 6009)] [(2, .ptr 6009 0)] [(6009, .cells 74 [lf bx l_1, i6 0])] ?_
 refine A.ret ?_
 obtain rfl := some_inj hm
 exact A.fin W0 [.sw 6009 900000074] rfl (by kernel_rfl)
theorem qk {t : aQ} {r : Int × aQ} (hm : gm t = some r) : dH Try.prog 29 [(900000074, .cells 74 (k3 t))] [.ptr 900000074 0] (fun a σ' => a = i6 r.1 ∧ σ' = [(900000074, .cells 74 (k3 r.2))]) := by
 refine bO Try.func29 rfl rfl ?_
 unfold gm at hm
 refine qS [] [(0, .ptr 900000074 0)] [(900000074, .cells 74 (k3 t))] ?_
 refine A.seq ?_
 refine qDs [(8, hto (lnE bx t.L))] [] [(12, .bool (decide ((t.L.length:Int) ≤ t.At)))] ?_
 rcases aA hm with ⟨c1,hm⟩|⟨c1,hm⟩
 ·refine qT c1 ?_
  refine qDs [] [0, 12] [(2, i6 0)] ?_
  cases hm
  exact A.ret qE
 refine qF c1 ?_
 refine A.skip ?_
 show aj _ _ _ _ _
 refine qD [] [12] [] [900000074] [(900000074, .cells 74 [lf bx t.L, i6 (w64 (t.At + (1:Int)))])] ?_
 obtain ⟨e_1, h1, hm⟩ := af hm
 refine qDs [(9, hix (ix bx h1))] [0] [(2, i6 e_1)] ?_
 cases hm
 exact A.ret qE
theorem tI {xa0 : Int} {n : Int} {r : Int} (hm : iV xa0 n = some r) : RO Try.prog 28 [] [i6 xa0, i6 n] (i6 r) := by
 refine bO Try.func28 rfl rfl ?_
 unfold iV at hm
 refine qS [] [(0, i6 xa0), (1, i6 n)] [] ?_
 refine A.seq ?_
 refine qDs [] [] [(6, .bool (decide (n < (1:Int))))] ?_
 rcases aA hm with ⟨c1,hm⟩|⟨c1,hm⟩
 ·refine qT c1 ?_
  refine qS [] [(4, i6 0)] [] ?_
  cases hm
  exact A.ret qE
 refine qF c1 ?_
 refine A.skip ?_
 show aj _ _ _ _ _
 obtain ⟨h1, hm⟩ := eB hm
 refine qDs [(2, .qr n (of_decide_eq_true h1))] [0, 6] [(0, i6 (Int.tmod xa0 n))] ?_
 obtain ⟨J1, hJ1, hm⟩ := cD hm
 refine A.J (J := J1) (r := r) (fun ay => [(0, i6 ay)]) (fun ay => []) ?_ ?_
 ·refine qDs [] [] [(11, .bool (decide (Int.tmod xa0 n < (0:Int))))] ?_
  rcases aA hm with ⟨c2,hm⟩|⟨c2,hm⟩
  ·refine qT c2 ?_
   refine qR [] [(0, i6 (w64 ((Int.tmod xa0 n) + n)))] [] ?_
   exact qX (w64 ((Int.tmod xa0 n) + n)) hm
  refine qF c2 ?_
  refine A.skip ?_
  exact qX (Int.tmod xa0 n) hm
 rintro ay hm
 rw [hJ1] at hm
 refine qS [] [(4, i6 ay)] [] ?_
 cases hm
 exact A.ret qE
theorem br {t : aQ} {n : Int} {r : Int × aQ} (hm : bn t n = some r) : dH Try.prog 11 [(900000074, .cells 74 (k3 t))] [.ptr 900000074 0, i6 n] (fun a σ' => a = i6 r.1 ∧ σ' = [(900000074, .cells 74 (k3 r.2))]) := by
 refine bO Try.func11 rfl rfl ?_
 unfold bn at hm
 refine qS [] [(0, .ptr 900000074 0), (1, i6 n)] [(900000074, .cells 74 (k3 t))] ?_
 obtain ⟨ay, h1, hm⟩ := af hm
 obtain ⟨aV, h2, hm⟩ := af hm
 refine qS [(1, hdc [] (qk h1) ck29), (3, hro (tI h2) ck28)] [(4, i6 aV)] [(900000074, .cells 74 (k3 ay.2))] ?_
 cases hm
 exact A.ret qE
theorem iF {t : aQ} {lo : Int} {hi : Int} {r : Int × aQ} (hm : dZ t lo hi = some r) : dH Try.prog 17 [(900000074, .cells 74 (k3 t))] [.ptr 900000074 0, i6 lo, i6 hi] (fun a σ' => a = i6 r.1 ∧ σ' = [(900000074, .cells 74 (k3 r.2))]) := by
 refine bO Try.func17 rfl rfl ?_
 unfold dZ at hm
 refine qS [] [(0, .ptr 900000074 0), (1, i6 lo), (2, i6 hi)] [(900000074, .cells 74 (k3 t))] ?_
 obtain ⟨ay, h1, hm⟩ := af hm
 refine qS [(6, hdc [] (br h1) jl)] [(6, i6 (w64 (lo + ay.1)))] [(900000074, .cells 74 (k3 ay.2))] ?_
 cases hm
 exact A.ret qE
theorem dL {t : aQ} {l : List Int} {r : Int × aQ} (hm : cN t l = some r) : dH Try.prog 18 [(900000074, .cells 74 (k3 t))] [.ptr 900000074 0, lf bx l] (fun a σ' => a = i6 r.1 ∧ σ' = [(900000074, .cells 74 (k3 r.2))]) := by
 refine bO Try.func18 rfl rfl ?_
 unfold cN at hm
 refine qS [] [(0, .ptr 900000074 0), (1, lf bx l)] [(900000074, .cells 74 (k3 t))] ?_
 obtain ⟨ay, h1, hm⟩ := af hm
 obtain ⟨e_1, h2, hm⟩ := af hm
 refine qS [(3, hto (lnE bx l)), (4, hdc [] (br h1) jl), (5, hix (ix bx h2))] [(4, i6 e_1)] [(900000074, .cells 74 (k3 ay.2))] ?_
 cases hm
 exact A.ret qE
theorem uj {l : List Int} {xa1 : Int} {r : Bool} (hm : jm l xa1 = some r) : RO Try.prog 16 [] [lf bx l, i6 xa1] (.bool r) := by
 refine bO Try.func16 rfl rfl ?_
 unfold jm at hm
 refine qS [] [(0, lf bx l), (1, i6 xa1)] [] ?_
 refine A.seq ?_
 refine qDs [] [] [(5, i6 0)] ?_
 refine A.block ?_
 refine A.bS 0 rfl fun hb1 => ?_
 obtain ⟨B1, K1, hB1, hK1, hm⟩ := bN hm
 refine A.lpI (l := l) (j0 := 0) (B := B1) (K := K1) hm (fun j1 => fun sg => match sg with | () => [(0, lf bx l), (1, i6 xa1), (5, i6 (j1 : Int))]) (fun j1 => fun sg => match sg with | () => []) ?_ ?_ ?_
 ·exact qW
 ·rintro j1 e1 Z1 ⟨⟩ hj1 hx1 hm
  rw [hB1] at hm
  refine A.seq ?_
  refine qDs [(2, hto (lnE bx l))] [] [(9, .bool (decide ((j1 : Int) < (l.length:Int))))] ?_
  refine qT (ltT hx1) ?_
  refine A.skip ?_
  show aj _ _ _ _ _
  refine A.seq ?_
  refine A.block ?_
  refine qDs [(2, hix (ix bx (b8 hx1)))] [9] [(17, .bool (decide (e1 = xa1)))] ?_
  rcases aA hm with ⟨c1,hm⟩|⟨c1,hm⟩
  ·refine qT c1 ?_
   refine qS [] [(4, .bool true)] [] ?_
   cases hm
   exact A.ret qE
  refine qF c1 ?_
  refine A.skip ?_
  show aj _ _ _ _ _
  refine qGs [(1, hto (inc hx1 hb1))] [5, 17] [(5, i6 ((j1 + 1 : Nat) : Int))] ?_
  exact qX () hm
 rintro j1 ⟨⟩ hj1 hl1 hm
 rw [hK1] at hm
 refine A.seq ?_
 refine qDs [(2, hto (lnE bx l))] [] [(9, .bool (decide ((j1 : Int) < (l.length:Int))))] ?_
 refine qF (ltF hl1) ?_
 refine A.exit ?_
 show aj _ _ _ _ _
 refine qS [] [(4, .bool false)] [] ?_
 cases hm
 exact A.ret qE
end Go.Proofs.Ytdjeacigeegklaa
