/- The eC of cr of the program. No condition but bT bB stand in each. -/
import Derived.Test.YtpmifmdidfgpdaaGreatDA
namespace Go.Proofs.YtpmifmdidfgpdaaGreat
open Go
set_option maxRecDepth 100000
set_option linter.all false
theorem zb {n : Int} {r : Int} (hm : nv n = some r) : RO Tryz.prog 209 [] [i6 n] (i6 r) := by
 refine aT Tryz.func209 rfl rfl ?_
 unfold nv at hm
 refine qS [] [(0, i6 n)] [] ?_
 refine qS [(2, .qr (8:Int) (by decide))] [(2, i6 (w64 (Int.tdiv (w64 (n + (7:Int))) (8:Int))))] [] ?_
 cases hm
 exact A.ret qE
theorem tY {sa0 : aZ} {r : Bool} (hm : kR sa0 = some r) : RO Tryz.prog 205 [] [.agg [lf (eK .u8) sa0.Data, i6 sa0.Bits]] (.bool r) := by
 refine aT Tryz.func205 rfl rfl ?_
 unfold kR at hm
 refine qS [(0, .al 205001)] [(1, .ptr 205001 0)] [(205001, .cells 201 [lf (eK .u8) sa0.Data, i6 sa0.Bits])] ?_
 refine A.seq ?_
 obtain ⟨J1, hJ1, hm⟩ := bJ hm
 refine A.J (J := J1) (r := r) (fun v_1 => [(1, .ptr 205001 0), (20, .bool v_1)]) (fun v_1 => [(205001, .cells 201 [lf (eK .u8) sa0.Data, i6 sa0.Bits])]) ?_ ?_
 ·rcases ai hm with ⟨c1,hm⟩|⟨c1,hm⟩
  ·refine qGs [(3, hto (bE c1))] [] [(20, .bool true)] ?_
   exact qX true hm
  rcases ai hm with ⟨c2,hm⟩|⟨c2,hm⟩
  ·refine qGs [(3, hto (bE c1)), (8, hto (bE c2))] [] [(20, .bool true)] ?_
   exact qX true hm
  obtain ⟨af, h1, hm⟩ := aa hm
  refine qGs [(3, hto (bE c1)), (8, hto (bE c2)), (11, hto (lnE (eK .u8) sa0.Data)), (14, hro (zb h1) auc)] [] [(20, .bool (!decide ((sa0.Data.length:Int) = af)))] ?_
  exact qX (!decide ((sa0.Data.length:Int) = af)) hm
 rintro v_1 hm
 rw [hJ1] at hm
 rcases ai hm with ⟨c3,hm⟩|⟨c3,hm⟩
 ·refine qT c3 ?_
  refine qS [] [(2, .bool false)] [] ?_
  cases hm
  exact A.ret qE
 refine qF c3 ?_
 refine A.skip ?_
 show ah _ _ _ _ _
 refine qDs [(2, hto (lnE (eK .u8) sa0.Data))] [20] [(3, i6 (w64 ((w64 ((8:Int) * (sa0.Data.length:Int))) - sa0.Bits)))] ?_
 rcases ai hm with ⟨c4,hm⟩|⟨c4,hm⟩
 ·refine qS [(2, hto (bE c4))] [(2, .bool true)] [] ?_
  cases hm
  exact A.ret qE
 obtain ⟨e_1, h2, hm⟩ := aa hm
 obtain ⟨h3, hm⟩ := eV hm
 refine qS [(2, hto (bE c4)), (7, hto (lnE (eK .u8) sa0.Data)), (9, hix (ix (eK .u8) h2)), (13, .sh (w64 ((8:Int) - (w64 ((w64 ((8:Int) * (sa0.Data.length:Int))) - sa0.Bits)))) (of_decide_eq_true h3))] [(2, .bool (decide (IntKind.wrap .u8 (e_1 * 2 ^ min (w64 ((8:Int) - (w64 ((w64 ((8:Int) * (sa0.Data.length:Int))) - sa0.Bits)))).toNat 8) = (0:Int))))] [] ?_
 cases hm
 exact A.ret qE
theorem aaA {sa0 : aZ} {i : Int} {r : Int} (hm : oT sa0 i = some r) : RO Tryz.prog 206 [] [.agg [lf (eK .u8) sa0.Data, i6 sa0.Bits], i6 i] (.int .u64 r) := by
 refine aT Tryz.func206 rfl rfl ?_
 unfold oT at hm
 refine qS [(0, .al 206002)] [(1, i6 i), (2, .ptr 206002 0)] [(206002, .cells 201 [lf (eK .u8) sa0.Data, i6 sa0.Bits])] ?_
 obtain ⟨e_1, h1, hm⟩ := aa hm
 obtain ⟨h2, hm⟩ := eV hm
 refine qS [(3, .qr (8:Int) (by decide)), (4, hix (ix (eK .u8) h1)), (7, .qr (8:Int) (by decide)), (9, .sh (w64 ((7:Int) - (Int.tmod i (8:Int)))) (of_decide_eq_true h2))] [(4, .int .u64 (IntKind.wrap .u64 (cS .and .u8 (Int.fdiv e_1 (2 ^ min (w64 ((7:Int) - (Int.tmod i (8:Int)))).toNat 8)) (1:Int))))] [] ?_
 cases hm
 exact A.ret qE
theorem zc {sa0 : aZ} {value : Int} {n : Int} {r : aZ} (hm : nw sa0 value n = some r) : bM Tryz.prog 208 [(505020800, .slice 5 1 (ml (eK .u8) sa0.Data) 0 false), (900000201, .cells 201 [.own 505020800, i6 sa0.Bits])] [.ptr 900000201 0, .int .u64 value, i6 n] (fun a σ' => a = .tup [] ∧ σ' = [(900000201, .cells 201 [.own 505020801, i6 r.Bits]), (505020801, .slice 5 1 (ml (eK .u8) r.Data) 0 false)]) := by
 refine aT Tryz.func208 rfl rfl ?_
 unfold nw at hm
 refine A.block ?_
 obtain ⟨F1, n1, hF1, hm⟩ := fC hm
 refine A.lpW (F := F1) hm (fun sg => match sg with | (n_1, m_1, m_2) => [(0, .ptr 900000201 0), (1, .int .u64 value), (2, i6 n_1)]) (fun sg => match sg with | (n_1, m_1, m_2) => [(900000201, .cells 201 [.own 700020100, i6 m_2]), (700020100, .slice 5 1 (ml (eK .u8) m_1) 0 false)]) ?_ ?_
 ·exact bA.go [.rn 505020800 700020100] [] (by kernel_rfl)
 rintro Z1 ⟨n_1, m_1, m_2⟩ hm
 rw [hF1] at hm
 refine A.seq ?_
 refine qDs [] [] [(10, .bool (decide ((0:Int) < n_1)))] ?_
 rcases ai hm with ⟨c1,hm⟩|⟨c1,hm⟩
 ·refine qT c1 ?_
  refine A.skip ?_
  show ah _ _ _ _ _
  refine A.block ?_
  refine qDs [(4, hto (lnE (eK .u8) m_1))] [10] [(6, i6 (w64 ((w64 ((8:Int) * (m_1.length:Int))) - m_2)))] ?_
  obtain ⟨J1, hJ1, hm⟩ := bJ hm
  refine A.J (J := J1) (r := r) (fun sg => match sg with | (cE, m_3) => [(0, .ptr 900000201 0), (1, .int .u64 value), (2, i6 n_1), (6, i6 cE)]) (fun sg => match sg with | (cE, m_3) => [(900000201, .cells 201 [.own 700020100, i6 m_2]), (700020100, .slice 5 1 (ml (eK .u8) m_3) 0 false)]) ?_ ?_
  ·refine qDs [] [] [(23, .bool (decide (w64 ((w64 ((8:Int) * (m_1.length:Int))) - m_2) = (0:Int))))] ?_
   rcases ai hm with ⟨c2,hm⟩|⟨c2,hm⟩
   ·refine qT c2 ?_
    obtain ⟨l_1, h1, hm⟩ := aa hm
    refine qG [(6, hap 208530 (ap (eK .u8) (bytes := 1) (by decide) h1))] [6, 23] [(6, i6 8)] [900000201, 700020100] [(900000201, .cells 201 [.own 208530, i6 m_2]), (208530, .slice 5 1 (ml (eK .u8) l_1) 0 false)] ?_
    exact Exists.intro ((8:Int), l_1) (And.intro hm (bA.go [.sw 208530 700020100] [] (by kernel_rfl)))
   refine qF c2 ?_
   refine A.skip ?_
   exact qX (w64 ((w64 ((8:Int) * (m_1.length:Int))) - m_2), m_1) hm
  rintro ⟨cE, m_3⟩ hm
  rw [hJ1] at hm
  refine qDs [] [] [(7, i6 (if cE < n_1 then cE else n_1))] ?_
  obtain ⟨h2, hm⟩ := eV hm
  obtain ⟨h3, hm⟩ := eV hm
  refine qDs [(4, .sh (w64 (n_1 - (if cE < n_1 then cE else n_1))) (of_decide_eq_true h2)), (6, .sh (if cE < n_1 then cE else n_1) (of_decide_eq_true h3))] [] [(8, .int .u64 (cS .and .u64 (Int.fdiv value (2 ^ min (w64 (n_1 - (if cE < n_1 then cE else n_1))).toNat 64)) (IntKind.wrap .u64 ((IntKind.wrap .u64 ((1:Int) * 2 ^ min (if cE < n_1 then cE else n_1).toNat 64)) - (1:Int)))))] ?_
  obtain ⟨e_1, h4, hm⟩ := aa hm
  obtain ⟨h5, hm⟩ := eV hm
  obtain ⟨l_2, h6, hm⟩ := aa hm
  refine qD [(8, hto (lnE (eK .u8) m_3)), (10, hix (ix (eK .u8) h4)), (11, hlo 700020100 0 (ix (eK .u8) h4)), (16, .sh (w64 (cE - (if cE < n_1 then cE else n_1))) (of_decide_eq_true h5)), (19, hix (ix (eK .u8) h4)), (20, hso 700020100 (st (eK .u8) (off := 0) (ca := [.int .u8 (cS .or .u8 e_1 (IntKind.wrap .u8 (IntKind.wrap .u64 ((cS .and .u64 (Int.fdiv value (2 ^ min (w64 (n_1 - (if cE < n_1 then cE else n_1))).toNat 64)) (IntKind.wrap .u64 ((IntKind.wrap .u64 ((1:Int) * 2 ^ min (if cE < n_1 then cE else n_1).toNat 64)) - (1:Int)))) * 2 ^ min (w64 (cE - (if cE < n_1 then cE else n_1))).toNat 64))))]) h4 h6 rfl) (iM h4).1.1)] [6, 8] [] [700020100] [(700020100, .slice 5 1 (ml (eK .u8) l_2) 0 false)] ?_
  refine qD [] [] [] [900000201] [(900000201, .cells 201 [.own 700020100, i6 (w64 (m_2 + (if cE < n_1 then cE else n_1)))])] ?_
  refine qGs [] [2, 7] [(2, i6 (w64 (n_1 - (if cE < n_1 then cE else n_1))))] ?_
  exact qX (w64 (n_1 - (if cE < n_1 then cE else n_1)), l_2, w64 (m_2 + (if cE < n_1 then cE else n_1))) hm
 refine qF c1 ?_
 refine A.exit ?_
 obtain rfl := some_inj hm
 exact A.fin W0 [.sw 700020100 505020801] rfl (by kernel_rfl)
theorem zd {sa0 : aZ} {r : aZ} (hm : pE sa0 = some r) : bM Tryz.prog 207 [] [.agg [lf (eK .u8) sa0.Data, i6 sa0.Bits]] (fun a σ' => a = .agg [.own 500020700, i6 r.Bits] ∧ σ' = [(500020700, .slice 5 1 (ml (eK .u8) r.Data) 0 false)]) := by
 refine aT Tryz.func207 rfl rfl ?_
 unfold pE at hm
 refine qS [(0, .al 207001), (1, .al 207002)] [(1, .ptr 207001 0), (2, .ptr 207002 0)] [(207001, .cells 201 [lf (eK .u8) sa0.Data, i6 sa0.Bits]), (207002, .cells 201 [.aG, i6 0])] ?_
 obtain ⟨l_1, h1, hm⟩ := aa hm
 refine qS [(2, hap 207505 (ap (eK .u8) (bytes := 1) (by decide) h1))] [(2, .ptr 207002 0)] [(207002, .cells 201 [.own 207505, i6 sa0.Bits]), (207505, .slice 5 1 (ml (eK .u8) l_1) 0 false)] ?_
 refine A.ret ?_
 obtain rfl := some_inj hm
 exact A.fin W0 [.sw 207505 500020700] rfl (by kernel_rfl)
theorem yf {sa0 : aZ} {value : Int} {n : Int} {r : aZ × Int} (hm : mw sa0 value n = some r) : RO Tryz.prog 204 [] [.agg [lf (eK .u8) sa0.Data, i6 sa0.Bits], .int .u64 value, i6 n] (.tup [.agg [lf (eK .u8) r.1.Data, i6 r.1.Bits], i6 r.2]) := by
 refine aT Tryz.func204 rfl rfl ?_
 unfold mw at hm
 refine qS [(0, .al 204003), (1, .al 204006)] [(1, .int .u64 value), (2, i6 n), (3, .ptr 204003 0), (6, .ptr 204006 0)] [(204003, .cells 201 [lf (eK .u8) sa0.Data, i6 sa0.Bits]), (204006, .cells 201 [.aG, i6 0])] ?_
 refine A.seq ?_
 refine A.block ?_
 obtain ⟨af, h1, hm⟩ := aa hm
 refine qDs [(1, hro (tY h1) ajy)] [] [(9, .bool (!af))] ?_
 rcases ai hm with ⟨c1,hm⟩|⟨c1,hm⟩
 ·refine qT c1 ?_
  refine qD [] [1, 2, 3, 9] [(7, i6 1)] [204003] [] ?_
  cases hm
  exact A.ret qE
 refine qF c1 ?_
 obtain ⟨J1, hJ1, hm⟩ := bJ hm
 refine A.J (J := J1) (r := r) (fun v_1 => [(1, .int .u64 value), (2, i6 n), (3, .ptr 204003 0), (6, .ptr 204006 0), (14, .bool v_1)]) (fun v_1 => [(204003, .cells 201 [lf (eK .u8) sa0.Data, i6 sa0.Bits]), (204006, .cells 201 [.aG, i6 0])]) ?_ ?_
 ·rcases ai hm with ⟨c2,hm⟩|⟨c2,hm⟩
  ·refine qGs [(2, hto (bE c2))] [9] [(14, .bool true)] ?_
   exact qX true hm
  rcases ai hm with ⟨c3,hm⟩|⟨c3,hm⟩
  ·refine qGs [(2, hto (bE c2)), (6, hto (bE c3))] [9] [(14, .bool true)] ?_
   exact qX true hm
  rcases ai hm with ⟨c4,hm⟩|⟨c4,hm⟩
  ·obtain ⟨h2, hm⟩ := eV hm
   refine qGs [(2, hto (bE c2)), (6, hto (bE c3)), (9, hto (bE c4)), (12, .sh n (of_decide_eq_true h2))] [9] [(14, .bool (!decide (Int.fdiv value (2 ^ min n.toNat 64) = (0:Int))))] ?_
   exact qX (!decide (Int.fdiv value (2 ^ min n.toNat 64) = (0:Int))) hm
  refine qGs [(2, hto (bE c2)), (6, hto (bE c3)), (9, hto (bE c4))] [9] [(14, .bool false)] ?_
  exact qX false hm
 rintro v_1 hm
 rw [hJ1] at hm
 rcases ai hm with ⟨c5,hm⟩|⟨c5,hm⟩
 ·refine qT c5 ?_
  refine qD [] [1, 2, 3, 14] [(7, i6 2)] [204003] [] ?_
  cases hm
  exact A.ret qE
 refine qF c5 ?_
 refine qDs [] [14] [(32, .bool (decide ((8192:Int) < w64 (sa0.Bits + n))))] ?_
 rcases ai hm with ⟨c6,hm⟩|⟨c6,hm⟩
 ·refine qT c6 ?_
  refine qD [] [1, 2, 3, 32] [(7, i6 3)] [204003] [] ?_
  cases hm
  exact A.ret qE
 refine qF c6 ?_
 refine A.skip ?_
 show ah _ _ _ _ _
 obtain ⟨ay, h3, hm⟩ := aa hm
 refine qD [(1, hdc [500020700] (zd h3) aua), (2, .al 204008)] [3, 32] [(8, .ptr 204008 0)] [204003] [(500020700, .slice 5 1 (ml (eK .u8) ay.Data) 0 false), (204008, .cells 201 [.own 500020700, i6 ay.Bits])] ?_
 obtain ⟨aK, h4, hm⟩ := aa hm
 refine qD [(2, hdc [520204001] (SC.at [(505020800, 500020700), (900000201, 204008), (505020801, 520204001)] (zc h4)) aub)] [1, 2] [] [500020700, 204008] [(204008, .cells 201 [.own 520204001, i6 aK.Bits]), (520204001, .slice 5 1 (ml (eK .u8) aK.Data) 0 false)] ?_
 refine qD [] [8] [(7, i6 0)] [204006, 204008] [(204006, .cells 201 [.own 520204001, i6 aK.Bits])] ?_
 refine A.ret ?_
 obtain rfl := some_inj hm
 exact A.fin W0 [.fz [520204001]] rfl (by kernel_rfl)
theorem zf {sa0 : aZ} {r : Int × Int} (hm : kS sa0 = some r) : RO Tryz.prog 196 [] [.agg [lf (eK .u8) sa0.Data, i6 sa0.Bits]] (.tup [.int .u64 r.1, i6 r.2]) := by
 refine aT Tryz.func196 rfl rfl ?_
 unfold kS at hm
 refine qS [(0, .al 196001)] [(1, .ptr 196001 0)] [(196001, .cells 201 [lf (eK .u8) sa0.Data, i6 sa0.Bits])] ?_
 refine A.scope ?_
 refine A.seq ?_
 obtain ⟨af, h1, hm⟩ := aa hm
 refine qS [(1, hro (tY h1) ajy)] [(1, .ptr 196001 0), (9, .bool (!af))] [(196001, .cells 201 [lf (eK .u8) sa0.Data, i6 sa0.Bits])] ?_
 rcases ai hm with ⟨c1,hm⟩|⟨c1,hm⟩
 ·refine qT c1 ?_
  refine qS [] [(2, .int .u64 (0:Int)), (3, i6 1)] [] ?_
  cases hm
  exact A.ret qE
 refine qF c1 ?_
 refine A.skip ?_
 show ah _ _ _ _ _
 refine qDs [] [9] [(4, .int .u64 (65535:Int))] ?_
 refine A.seq ?_
 refine A.label ?_
 show ah _ _ _ _ _
 refine A.seq ?_
 refine qS [] [(1, .ptr 196001 0), (4, .int .u64 (65535:Int)), (11, i6 sa0.Bits), (12, i6 0)] [(196001, .cells 201 [lf (eK .u8) sa0.Data, i6 sa0.Bits])] ?_
 refine A.block ?_
 obtain ⟨hh1, hm⟩ := eV hm
 obtain ⟨B1, K1, hB1, hK1, hm⟩ := jg hm
 refine A.lpN (hi := sa0.Bits) (B := B1) (K := K1) hm rfl (fun j1 => fun eo => [(1, .ptr 196001 0), (4, .int .u64 eo), (11, i6 sa0.Bits), (12, i6 (j1 : Int))]) (fun j1 => fun eo => [(196001, .cells 201 [lf (eK .u8) sa0.Data, i6 sa0.Bits])]) ?_ ?_ ?_
 ·exact qW
 ·rintro j1 Z1 eo hj1 hx1 hm
  rw [hB1] at hm
  refine qDs [] [] [(13, .bool (decide ((j1 : Int) < sa0.Bits)))] ?_
  refine A.seq ?_
  refine A.cT rfl (decide_eq_true hx1) ?_
  refine A.skip ?_
  show ah _ _ _ _ _
  obtain ⟨J1, hJ1, hm⟩ := bJ hm
  refine A.J (J := J1) (r := r) (fun oE => [(1, .ptr 196001 0), (4, .int .u64 oE), (11, i6 sa0.Bits), (12, i6 (j1 : Int))]) (fun oE => [(196001, .cells 201 [lf (eK .u8) sa0.Data, i6 sa0.Bits])]) ?_ ?_
  ·refine A.block ?_
   refine qDs [] [13] [(5, i6 (j1 : Int))] ?_
   refine qDs [(1, .sh (15:Int) (by decide))] [] [(6, .int .u64 (Int.fdiv eo (2 ^ min (15:Int).toNat 64)))] ?_
   refine qDs [(1, .sh (1:Int) (by decide))] [4] [(4, .int .u64 (cS .and .u64 (IntKind.wrap .u64 (eo * 2 ^ min (1:Int).toNat 64)) (65535:Int)))] ?_
   refine A.seq ?_
   obtain ⟨ay, h2, hm⟩ := aa hm
   refine qDs [(3, hro (aaA h2) at9)] [5, 6] [(24, .bool (decide (Int.fdiv eo (2 ^ min (15:Int).toNat 64) = ay)))] ?_
   rcases ai hm with ⟨c2,hm⟩|⟨c2,hm⟩
   ·refine qT c2 ?_
    refine A.exit ?_
    exact qX (cS .and .u64 (IntKind.wrap .u64 (eo * 2 ^ min (1:Int).toNat 64)) (65535:Int)) hm
   refine qF c2 ?_
   refine A.skip ?_
   show ah _ _ _ _ _
   refine qGs [] [4, 24] [(4, .int .u64 (cS .xor .u64 (cS .and .u64 (IntKind.wrap .u64 (eo * 2 ^ min (1:Int).toNat 64)) (65535:Int)) (4129:Int)))] ?_
   exact qX (cS .xor .u64 (cS .and .u64 (IntKind.wrap .u64 (eo * 2 ^ min (1:Int).toNat 64)) (65535:Int)) (4129:Int)) hm
  rintro oE hm
  rw [hJ1] at hm
  refine qGs [(0, hto (tL (by omega) hx1 (of_decide_eq_true hh1)))] [12] [(12, i6 (j1 + 1 : Int))] ?_
  exact qX oE hm
 rintro j1 eo hj1 hl1 hm
 rw [hK1] at hm
 refine qDs [] [] [(13, .bool (decide ((j1 : Int) < sa0.Bits)))] ?_
 refine A.seq ?_
 refine A.cF rfl (geF hl1) ?_
 refine A.exit ?_
 show ah _ _ _ _ _
 refine qS [] [(2, .int .u64 eo), (3, i6 0)] [] ?_
 cases hm
 exact A.ret qE
end Go.Proofs.YtpmifmdidfgpdaaGreat
