/- The iY of ee of the program. No condition but bL aY stand in each. -/
import Derived.Test.YtdjeacigeegklaaDL
import Derived.Test.YtdjeacigeegklaaVK
import Derived.Test.YtdjeacigeegklaaVN
namespace Go.Proofs.Ytdjeacigeegklaa
open Go
set_option maxRecDepth 100000
set_option linter.all false
theorem rz  {r : aa} (hm : ny = some r) : RO Try.prog 30 [] [] (.agg (k2 r)) := by
 refine bO Try.func30 rfl rfl ?_
 unfold ny at hm
 refine qS [(0, .al 30000)] [(0, .ptr 30000 0)] [(30000, .cells 28 [.aW, .aW])] ?_
 refine qD [] [] [] [30000] [(30000, .cells 28 [.lst true (ml aL ([(aP.mk (1:Int) true), (aP.mk (2:Int) true), (aP.mk (3:Int) true)] : List aP)), .lst true (ml b9 ([(bf.mk (1:Int) (2:Int) (1:Int) (1:Int) (0:Int)), (bf.mk (2:Int) (3:Int) (1:Int) (1:Int) (0:Int))] : List bf))])] ?_
 cases hm
 exact A.ret qE
theorem gu  {r : Bool} (hm : eU = some r) : RO Try.prog 12 [] [] (.bool r) := by
 refine bO Try.func12 rfl rfl ?_
 unfold eU at hm
 refine qS [] [] [] ?_
 obtain ⟨ay, h1, hm⟩ := af hm
 obtain ⟨aV, h2, hm⟩ := af hm
 refine qS [(0, hro (rz h1) an5), (1, hro (rV h2) an2), (5, .al 12001)] [(1, .ptr 12001 0)] [(12001, .cells 32 (k5 aV.1))] ?_
 obtain ⟨bu, h3, hm⟩ := af hm
 obtain ⟨aK, h4, hm⟩ := af hm
 refine qS [(1, hro (rz h3) an5), (3, hro (lV h4) afo), (7, .al 12003)] [(3, .ptr 12003 0), (4, i6 aK.2)] [(12003, .cells 45 (k12 aK.1))] ?_
 rcases aA hm with ⟨c1,hm⟩|⟨c1,hm⟩
 ·rcases aA hm with ⟨c2,hm⟩|⟨c2,hm⟩
  ·obtain ⟨e_1, h5, hm⟩ := af hm
   rcases aA hm with ⟨c3,hm⟩|⟨c3,hm⟩
   ·rcases aA hm with ⟨c4,hm⟩|⟨c4,hm⟩
    ·obtain ⟨e_2, h6, hm⟩ := af hm
     rcases aA hm with ⟨c5,hm⟩|⟨c5,hm⟩
     ·obtain ⟨e_3, h7, hm⟩ := af hm
      refine qS [(2, hto (bE c1)), (5, hto (lnE ck aK.1.cK)), (8, hto (bE c2)), (11, hix (ix ck h5)), (16, hto (bE c3)), (19, hto (lnE cG aK.1.cB)), (22, hto (bE c4)), (25, hix (ix cG h6)), (30, hto (bE c5)), (33, hix (ix cG h7))] [(0, .bool (decide (e_3.Bits = (32:Int))))] [] ?_
      cases hm
      exact A.ret qE
     refine qS [(2, hto (bE c1)), (5, hto (lnE ck aK.1.cK)), (8, hto (bE c2)), (11, hix (ix ck h5)), (16, hto (bE c3)), (19, hto (lnE cG aK.1.cB)), (22, hto (bE c4)), (25, hix (ix cG h6)), (30, hto (bE c5))] [(0, .bool false)] [] ?_
     cases hm
     exact A.ret qE
    refine qS [(2, hto (bE c1)), (5, hto (lnE ck aK.1.cK)), (8, hto (bE c2)), (11, hix (ix ck h5)), (16, hto (bE c3)), (19, hto (lnE cG aK.1.cB)), (22, hto (bE c4))] [(0, .bool false)] [] ?_
    cases hm
    exact A.ret qE
   refine qS [(2, hto (bE c1)), (5, hto (lnE ck aK.1.cK)), (8, hto (bE c2)), (11, hix (ix ck h5)), (16, hto (bE c3))] [(0, .bool false)] [] ?_
   cases hm
   exact A.ret qE
  refine qS [(2, hto (bE c1)), (5, hto (lnE ck aK.1.cK)), (8, hto (bE c2))] [(0, .bool false)] [] ?_
  cases hm
  exact A.ret qE
 refine qS [(2, hto (bE c1))] [(0, .bool false)] [] ?_
 cases hm
 exact A.ret qE
theorem qd {sa0 : aQ} {e : aM} {r : aS × aQ} (hm : jg sa0 e = some r) : dH Try.prog 9 [(900000074, .cells 74 (k3 sa0))] [.ptr 900000074 0, .agg (k5 e)] (fun a σ' => a = .agg (k7 r.1) ∧ σ' = [(900000074, .cells 74 (k3 r.2))]) := by
 refine bO Try.func9 rfl rfl ?_
 unfold jg at hm
 refine qS [(0, .al 9003), (1, .al 9004)] [(0, .ptr 900000074 0), (3, .ptr 9003 0), (4, .ptr 9004 0)] [(900000074, .cells 74 (k3 sa0)), (9003, .cells 32 (k5 e)), (9004, .cells 36 [i6 0, i6 0, i6 0, i6 0, i6 0, i6 0, i6 0, i6 0, .int .u64 (0:Int), .str (⟨#[]⟩ : ByteArray)])] ?_
 obtain ⟨ay, h1, hm⟩ := af hm
 obtain ⟨aV, h2, hm⟩ := af hm
 obtain ⟨bu, h3, hm⟩ := af hm
 refine qD [(4, hdc [] (dL h1) w8), (6, hdc [] (br h2) jl), (8, hdc [] (br h3) jl), (10, .al 9005)] [] [(5, .ptr 9005 0)] [900000074] [(900000074, .cells 74 (k3 bu.2)), (9005, .cells 36 [i6 2, i6 0, i6 0, i6 e.Length, i6 ay.1, i6 aV.1, i6 0, i6 bu.1, .int .u64 (0:Int), .str (⟨#[100, 97, 116, 97]⟩ : ByteArray)])] ?_
 obtain ⟨aK, h4, hm⟩ := af hm
 refine qD [(2, hdc [] (dL h4) w8)] [] [(6, i6 aK.1)] [900000074] [(900000074, .cells 74 (k3 aK.2))] ?_
 refine A.seq ?_
 refine qD [(2, hto (lnE ak e.List))] [3] [(23, lf ak e.List), (24, i6 (e.List.length:Int)), (25, i6 0)] [9003] [] ?_
 refine A.block ?_
 refine A.bS 23 rfl fun hb1 => ?_
 obtain ⟨B1, K1, hB1, hK1, hm⟩ := bN hm
 refine A.lpI (l := e.List) (j0 := 0) (B := B1) (K := K1) hm (fun j1 => fun sg => match sg with | (m_1, m_2, m_3) => [(0, .ptr 900000074 0), (4, .ptr 9004 0), (5, .ptr 9005 0), (6, i6 aK.1), (23, lf ak e.List), (24, i6 (e.List.length:Int)), (25, i6 (j1 : Int))]) (fun j1 => fun sg => match sg with | (m_1, m_2, m_3) => [(900000074, .cells 74 [lf bx m_2, i6 m_3]), (9004, .cells 36 [i6 0, i6 0, i6 0, i6 0, i6 0, i6 0, i6 0, i6 0, .int .u64 (0:Int), .str (⟨#[]⟩ : ByteArray)]), (9005, .cells 36 [i6 2, i6 0, i6 0, i6 e.Length, i6 ay.1, i6 aV.1, i6 0, i6 bu.1, .int .u64 m_1, .str (⟨#[100, 97, 116, 97]⟩ : ByteArray)])]) ?_ ?_ ?_
 ·exact qW
 ·rintro j1 e1 Z1 ⟨m_1, m_2, m_3⟩ hj1 hx1 hm
  rw [hB1] at hm
  refine qDs [] [] [(26, .bool (decide ((j1 : Int) < (e.List.length:Int))))] ?_
  refine A.seq ?_
  refine qT (ltT hx1) ?_
  refine A.skip ?_
  show aj _ _ _ _ _
  obtain ⟨J1, hJ1, hm⟩ := cD hm
  refine A.J (J := J1) (r := r) (fun sg => match sg with | (m_4, m_5, m_6) => [(0, .ptr 900000074 0), (4, .ptr 9004 0), (5, .ptr 9005 0), (6, i6 aK.1), (23, lf ak e.List), (24, i6 (e.List.length:Int)), (25, i6 (j1 : Int))]) (fun sg => match sg with | (m_4, m_5, m_6) => [(900000074, .cells 74 [lf bx m_4, i6 m_5]), (9004, .cells 36 [i6 0, i6 0, i6 0, i6 0, i6 0, i6 0, i6 0, i6 0, .int .u64 (0:Int), .str (⟨#[]⟩ : ByteArray)]), (9005, .cells 36 [i6 2, i6 0, i6 0, i6 e.Length, i6 ay.1, i6 aV.1, i6 0, i6 bu.1, .int .u64 m_6, .str (⟨#[100, 97, 116, 97]⟩ : ByteArray)])]) ?_ ?_
  ·refine A.block ?_
   refine qD [(0, hix (ix ak (b8 hx1))), (2, .al 9008)] [26] [(8, .ptr 9008 0)] [] [(9008, .cells 39 (k4 e1))] ?_
   obtain ⟨cO, h5, hm⟩ := af hm
   refine qD [(2, hdc [] (br h5) jl)] [] [(32, .bool (decide ((0:Int) < cO.1)))] [900000074] [(900000074, .cells 74 (k3 cO.2))] ?_
   rcases aA hm with ⟨c1,hm⟩|⟨c1,hm⟩
   ·refine qT c1 ?_
    obtain ⟨h6, hm⟩ := eB hm
    refine qG [(5, .sh (IntKind.wrap .u64 e1.Bit) (of_decide_eq_true h6))] [8, 32] [] [9005, 9008] [(9005, .cells 36 [i6 2, i6 0, i6 0, i6 e.Length, i6 ay.1, i6 aV.1, i6 0, i6 bu.1, .int .u64 (bH .or .u64 m_1 (IntKind.wrap .u64 ((1:Int) * 2 ^ min (IntKind.wrap .u64 e1.Bit).toNat 64))), .str (⟨#[100, 97, 116, 97]⟩ : ByteArray)])] ?_
    exact qX (cO.2.L, cO.2.At, bH .or .u64 m_1 (IntKind.wrap .u64 ((1:Int) * 2 ^ min (IntKind.wrap .u64 e1.Bit).toNat 64))) hm
   refine qF c1 ?_
   refine A.skip ?_
   exact qX (cO.2.L, cO.2.At, m_1) hm
  rintro ⟨m_4, m_5, m_6⟩ hm
  rw [hJ1] at hm
  refine qGs [(0, hto (inc hx1 hb1))] [25] [(25, i6 ((j1 + 1 : Nat) : Int))] ?_
  exact qX (m_6, m_4, m_5) hm
 rintro j1 ⟨m_1, m_2, m_3⟩ hj1 hl1 hm
 rw [hK1] at hm
 refine qDs [] [] [(26, .bool (decide ((j1 : Int) < (e.List.length:Int))))] ?_
 refine A.seq ?_
 refine qF (ltF hl1) ?_
 refine A.exit ?_
 show aj _ _ _ _ _
 refine qD [] [0, 5, 6, 23, 24, 25, 26] [] [9004, 9005] [(9004, .cells 36 [i6 2, i6 0, i6 0, i6 e.Length, i6 ay.1, i6 aV.1, i6 0, i6 bu.1, .int .u64 m_1, .str (⟨#[100, 97, 116, 97]⟩ : ByteArray)])] ?_
 cases hm
 exact A.ret qE
end Go.Proofs.Ytdjeacigeegklaa
