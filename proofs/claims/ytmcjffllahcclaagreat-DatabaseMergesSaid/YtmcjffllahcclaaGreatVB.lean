/- The walks of functions of the program. No condition but those that stand in each. -/
import Derived.Test.YtmcjffllahcclaaGreatDA
namespace Go.Proofs.YtmcjffllahcclaaGreat
open Go
set_option maxRecDepth 100000
set_option linter.all false
theorem m_bitio_bytes_ok {n : Int} {r : Int} (hm : m_bitio_bytes n = some r) : RO Tryz.prog 146 [] [.int .i64 n] (.int .i64 r) := by
  refine enterA Tryz.func146 rfl rfl ?_
  unfold m_bitio_bytes at hm
  refine A.RS W0 [] [] [(0, .int .i64 n)] [] (by kernel_rfl) ?_
  refine A.RS W0 [] [(2, .qr (8:Int) (by decide))] [(2, .int .i64 (w64 (Int.tdiv (w64 (n + (7:Int))) (8:Int))))] [] (by kernel_rfl) ?_
  refine A.ret ?_
  obtain rfl := some_inj hm
  exact A.fin W0 [] rfl (by kernel_rfl)
theorem m_bitio_Valid_ok {sa0 : GStream} {r : Bool} (hm : m_bitio_Valid sa0 = some r) : RO Tryz.prog 140 [] [.agg [.lst false (ml (eK .u8) sa0.Data), .int .i64 sa0.Bits]] (.bool r) := by
  refine enterA Tryz.func140 rfl rfl ?_
  unfold m_bitio_Valid at hm
  refine A.RS W0 [] [(0, .al 140001)] [(1, .ptr 140001 0)] [(140001, .cells 126 [.lst false (ml (eK .u8) sa0.Data), .int .i64 sa0.Bits])] (by kernel_rfl) ?_
  refine A.seq ?_
  obtain ⟨J1, hJ1, hm⟩ := jn_some hm
  refine A.J (J := J1) (r := r) (fun v_1 => [(1, .ptr 140001 0), (20, .bool v_1)]) (fun v_1 => [(140001, .cells 126 [.lst false (ml (eK .u8) sa0.Data), .int .i64 sa0.Bits])]) ?_ ?_
  · skip
    rcases cs_some hm with ⟨c1, hm⟩ | ⟨c1, hm⟩
    · skip
      refine A.R W0 [] [(3, hto (bE c1))] [(1, .ptr 140001 0), (20, .bool true)] [(140001, .cells 126 [.lst false (ml (eK .u8) sa0.Data), .int .i64 sa0.Bits])] (by kernel_rfl) ?_
      exact Exists.intro true (And.intro hm (Weak.go [] [] (by kernel_rfl)))
    rcases cs_some hm with ⟨c2, hm⟩ | ⟨c2, hm⟩
    · skip
      refine A.R W0 [] [(3, hto (bE c1)), (8, hto (bE c2))] [(1, .ptr 140001 0), (20, .bool true)] [(140001, .cells 126 [.lst false (ml (eK .u8) sa0.Data), .int .i64 sa0.Bits])] (by kernel_rfl) ?_
      exact Exists.intro true (And.intro hm (Weak.go [] [] (by kernel_rfl)))
    obtain ⟨vx_1, h1, hm⟩ := bnd_some hm
    refine A.R W0 [] [(3, hto (bE c1)), (8, hto (bE c2)), (11, hto (lnE (eK .u8) sa0.Data)), (14, hro (m_bitio_bytes_ok h1) ck146)] [(1, .ptr 140001 0), (20, .bool (!decide ((sa0.Data.length:Int) = vx_1)))] [(140001, .cells 126 [.lst false (ml (eK .u8) sa0.Data), .int .i64 sa0.Bits])] (by kernel_rfl) ?_
    exact Exists.intro (!decide ((sa0.Data.length:Int) = vx_1)) (And.intro hm (Weak.go [] [] (by kernel_rfl)))
  rintro v_1 hm
  rw [hJ1] at hm
  rcases cs_some hm with ⟨c3, hm⟩ | ⟨c3, hm⟩
  · skip
    refine A.cT rfl c3 ?_
    refine A.RS W0 [] [] [(2, .bool false)] [] (by kernel_rfl) ?_
    refine A.ret ?_
    obtain rfl := some_inj hm
    exact A.fin W0 [] rfl (by kernel_rfl)
  refine A.cF rfl c3 ?_
  refine A.skip ?_
  show acode _ _ _ _ _
  refine A.RS W0 [] [(2, hto (lnE (eK .u8) sa0.Data))] [(1, .ptr 140001 0), (3, .int .i64 (w64 ((w64 ((8:Int) * (sa0.Data.length:Int))) - sa0.Bits)))] [(140001, .cells 126 [.lst false (ml (eK .u8) sa0.Data), .int .i64 sa0.Bits])] (by kernel_rfl) ?_
  rcases cs_some hm with ⟨c4, hm⟩ | ⟨c4, hm⟩
  · skip
    refine A.RS W0 [] [(2, hto (bE c4))] [(2, .bool true)] [] (by kernel_rfl) ?_
    refine A.ret ?_
    obtain rfl := some_inj hm
    exact A.fin W0 [] rfl (by kernel_rfl)
  obtain ⟨e_1, h2, hm⟩ := bnd_some hm
  obtain ⟨h3, hm⟩ := chk_some hm
  refine A.RS W0 [] [(2, hto (bE c4)), (7, hto (lnE (eK .u8) sa0.Data)), (9, hix (ix (eK .u8) h2)), (13, .sh (w64 ((8:Int) - (w64 ((w64 ((8:Int) * (sa0.Data.length:Int))) - sa0.Bits)))) (of_decide_eq_true h3))] [(2, .bool (decide (IntKind.wrap .u8 (e_1 * 2 ^ min (w64 ((8:Int) - (w64 ((w64 ((8:Int) * (sa0.Data.length:Int))) - sa0.Bits)))).toNat 8) = (0:Int))))] [] (by kernel_rfl) ?_
  refine A.ret ?_
  obtain rfl := some_inj hm
  exact A.fin W0 [] rfl (by kernel_rfl)
theorem m_bitio_bit_ok {sa0 : GStream} {i : Int} {r : Int} (hm : m_bitio_bit sa0 i = some r) : RO Tryz.prog 141 [] [.agg [.lst false (ml (eK .u8) sa0.Data), .int .i64 sa0.Bits], .int .i64 i] (.int .u64 r) := by
  refine enterA Tryz.func141 rfl rfl ?_
  unfold m_bitio_bit at hm
  refine A.RS W0 [] [(0, .al 141002)] [(1, .int .i64 i), (2, .ptr 141002 0)] [(141002, .cells 126 [.lst false (ml (eK .u8) sa0.Data), .int .i64 sa0.Bits])] (by kernel_rfl) ?_
  obtain ⟨e_1, h1, hm⟩ := bnd_some hm
  obtain ⟨h2, hm⟩ := chk_some hm
  refine A.RS W0 [] [(3, .qr (8:Int) (by decide)), (4, hix (ix (eK .u8) h1)), (7, .qr (8:Int) (by decide)), (9, .sh (w64 ((7:Int) - (Int.tmod i (8:Int)))) (of_decide_eq_true h2))] [(4, .int .u64 (IntKind.wrap .u64 (bitsI .and .u8 (Int.fdiv e_1 (2 ^ min (w64 ((7:Int) - (Int.tmod i (8:Int)))).toNat 8)) (1:Int))))] [] (by kernel_rfl) ?_
  refine A.ret ?_
  obtain rfl := some_inj hm
  exact A.fin W0 [] rfl (by kernel_rfl)
theorem m_bitio_write_ok {sa0 : GStream} {value : Int} {n : Int} {r : GStream} (hm : m_bitio_write sa0 value n = some r) : SCalls Tryz.prog 145 [(505014500, .slice 5 1 (ml (eK .u8) sa0.Data) 0 false), (900000126, .cells 126 [.own 505014500, .int .i64 sa0.Bits])] [.ptr 900000126 0, .int .u64 value, .int .i64 n] (fun a σ' => a = .tup [] ∧ σ' = [(900000126, .cells 126 [.own 505014501, .int .i64 r.Bits]), (505014501, .slice 5 1 (ml (eK .u8) r.Data) 0 false)]) := by
  refine enterA Tryz.func145 rfl rfl ?_
  unfold m_bitio_write at hm
  refine A.block ?_
  obtain ⟨F1, n1, hF1, hm⟩ := whl_some hm
  refine A.lpW (F := F1) hm (fun sg => match sg with | (n_1, m_1, m_2) => [(0, .ptr 900000126 0), (1, .int .u64 value), (2, .int .i64 n_1)]) (fun sg => match sg with | (n_1, m_1, m_2) => [(900000126, .cells 126 [.own 700012600, .int .i64 m_2]), (700012600, .slice 5 1 (ml (eK .u8) m_1) 0 false)]) ?_ ?_
  · exact Weak.go [.rn 505014500 700012600] [] (by kernel_rfl)
  rintro Z1 ⟨n_1, m_1, m_2⟩ hm
  rw [hF1] at hm
  refine A.seq ?_
  refine A.RS W0 [] [] [(0, .ptr 900000126 0), (1, .int .u64 value), (2, .int .i64 n_1), (10, .bool (decide ((0:Int) < n_1)))] [(900000126, .cells 126 [.own 700012600, .int .i64 m_2]), (700012600, .slice 5 1 (ml (eK .u8) m_1) 0 false)] (by kernel_rfl) ?_
  rcases cs_some hm with ⟨c1, hm⟩ | ⟨c1, hm⟩
  · skip
    refine A.cT rfl c1 ?_
    refine A.skip ?_
    show acode _ _ _ _ _
    refine A.block ?_
    refine A.RS W0 [] [(4, hto (lnE (eK .u8) m_1))] [(0, .ptr 900000126 0), (1, .int .u64 value), (2, .int .i64 n_1), (6, .int .i64 (w64 ((w64 ((8:Int) * (m_1.length:Int))) - m_2)))] [(900000126, .cells 126 [.own 700012600, .int .i64 m_2]), (700012600, .slice 5 1 (ml (eK .u8) m_1) 0 false)] (by kernel_rfl) ?_
    obtain ⟨J1, hJ1, hm⟩ := jn_some hm
    refine A.J (J := J1) (r := r) (fun sg => match sg with | (free_1, m_3) => [(0, .ptr 900000126 0), (1, .int .u64 value), (2, .int .i64 n_1), (6, .int .i64 free_1)]) (fun sg => match sg with | (free_1, m_3) => [(900000126, .cells 126 [.own 700012600, .int .i64 m_2]), (700012600, .slice 5 1 (ml (eK .u8) m_3) 0 false)]) ?_ ?_
    · skip
      refine A.RS W0 [] [] [(0, .ptr 900000126 0), (1, .int .u64 value), (2, .int .i64 n_1), (6, .int .i64 (w64 ((w64 ((8:Int) * (m_1.length:Int))) - m_2))), (23, .bool (decide (w64 ((w64 ((8:Int) * (m_1.length:Int))) - m_2) = (0:Int))))] [(900000126, .cells 126 [.own 700012600, .int .i64 m_2]), (700012600, .slice 5 1 (ml (eK .u8) m_1) 0 false)] (by kernel_rfl) ?_
      rcases cs_some hm with ⟨c2, hm⟩ | ⟨c2, hm⟩
      · skip
        refine A.cT rfl c2 ?_
        obtain ⟨l_1, h1, hm⟩ := bnd_some hm
        refine A.R W0 [] [(6, hap 145530 (ap (eK .u8) (bytes := 1) (by decide) h1))] [(0, .ptr 900000126 0), (1, .int .u64 value), (2, .int .i64 n_1), (6, .int .i64 (8:Int))] [(900000126, .cells 126 [.own 145530, .int .i64 m_2]), (145530, .slice 5 1 (ml (eK .u8) l_1) 0 false)] (by kernel_rfl) ?_
        exact Exists.intro ((8:Int), l_1) (And.intro hm (Weak.go [.sw 145530 700012600] [] (by kernel_rfl)))
      refine A.cF rfl c2 ?_
      refine A.skip ?_
      exact Exists.intro (w64 ((w64 ((8:Int) * (m_1.length:Int))) - m_2), m_1) (And.intro hm (Weak.go [] [] (by kernel_rfl)))
    rintro ⟨free_1, m_3⟩ hm
    rw [hJ1] at hm
    refine A.RS W0 [] [] [(0, .ptr 900000126 0), (1, .int .u64 value), (2, .int .i64 n_1), (6, .int .i64 free_1), (7, .int .i64 (if free_1 < n_1 then free_1 else n_1))] [(900000126, .cells 126 [.own 700012600, .int .i64 m_2]), (700012600, .slice 5 1 (ml (eK .u8) m_3) 0 false)] (by kernel_rfl) ?_
    obtain ⟨h2, hm⟩ := chk_some hm
    obtain ⟨h3, hm⟩ := chk_some hm
    refine A.RS W0 [] [(4, .sh (w64 (n_1 - (if free_1 < n_1 then free_1 else n_1))) (of_decide_eq_true h2)), (6, .sh (if free_1 < n_1 then free_1 else n_1) (of_decide_eq_true h3))] [(0, .ptr 900000126 0), (1, .int .u64 value), (2, .int .i64 n_1), (6, .int .i64 free_1), (7, .int .i64 (if free_1 < n_1 then free_1 else n_1)), (8, .int .u64 (bitsI .and .u64 (Int.fdiv value (2 ^ min (w64 (n_1 - (if free_1 < n_1 then free_1 else n_1))).toNat 64)) (IntKind.wrap .u64 ((IntKind.wrap .u64 ((1:Int) * 2 ^ min (if free_1 < n_1 then free_1 else n_1).toNat 64)) - (1:Int)))))] [(900000126, .cells 126 [.own 700012600, .int .i64 m_2]), (700012600, .slice 5 1 (ml (eK .u8) m_3) 0 false)] (by kernel_rfl) ?_
    obtain ⟨e_1, h4, hm⟩ := bnd_some hm
    obtain ⟨h5, hm⟩ := chk_some hm
    obtain ⟨l_2, h6, hm⟩ := bnd_some hm
    refine A.RS W0 [] [(8, hto (lnE (eK .u8) m_3)), (10, hix (ix (eK .u8) h4)), (11, hlo 700012600 0 (ix (eK .u8) h4)), (16, .sh (w64 (free_1 - (if free_1 < n_1 then free_1 else n_1))) (of_decide_eq_true h5)), (19, hix (ix (eK .u8) h4)), (20, hso 700012600 (st (eK .u8) (off := 0) (ca := [.int .u8 (bitsI .or .u8 e_1 (IntKind.wrap .u8 (IntKind.wrap .u64 ((bitsI .and .u64 (Int.fdiv value (2 ^ min (w64 (n_1 - (if free_1 < n_1 then free_1 else n_1))).toNat 64)) (IntKind.wrap .u64 ((IntKind.wrap .u64 ((1:Int) * 2 ^ min (if free_1 < n_1 then free_1 else n_1).toNat 64)) - (1:Int)))) * 2 ^ min (w64 (free_1 - (if free_1 < n_1 then free_1 else n_1))).toNat 64))))]) h4 h6 rfl) (elO_some h4).1.1)] [(0, .ptr 900000126 0), (1, .int .u64 value), (2, .int .i64 n_1), (7, .int .i64 (if free_1 < n_1 then free_1 else n_1))] [(900000126, .cells 126 [.own 700012600, .int .i64 m_2]), (700012600, .slice 5 1 (ml (eK .u8) l_2) 0 false)] (by kernel_rfl) ?_
    refine A.RS W0 [] [] [(0, .ptr 900000126 0), (1, .int .u64 value), (2, .int .i64 n_1), (7, .int .i64 (if free_1 < n_1 then free_1 else n_1))] [(900000126, .cells 126 [.own 700012600, .int .i64 (w64 (m_2 + (if free_1 < n_1 then free_1 else n_1)))]), (700012600, .slice 5 1 (ml (eK .u8) l_2) 0 false)] (by kernel_rfl) ?_
    refine A.R W0 [] [] [(0, .ptr 900000126 0), (1, .int .u64 value), (2, .int .i64 (w64 (n_1 - (if free_1 < n_1 then free_1 else n_1))))] [(900000126, .cells 126 [.own 700012600, .int .i64 (w64 (m_2 + (if free_1 < n_1 then free_1 else n_1)))]), (700012600, .slice 5 1 (ml (eK .u8) l_2) 0 false)] (by kernel_rfl) ?_
    exact Exists.intro (w64 (n_1 - (if free_1 < n_1 then free_1 else n_1)), l_2, w64 (m_2 + (if free_1 < n_1 then free_1 else n_1))) (And.intro hm (Weak.go [] [] (by kernel_rfl)))
  refine A.cF rfl c1 ?_
  refine A.exit ?_
  obtain rfl := some_inj hm
  exact A.fin W0 [.sw 700012600 505014501] rfl (by kernel_rfl)
theorem m_bitio_clone_ok {sa0 : GStream} {r : GStream} (hm : m_bitio_clone sa0 = some r) : SCalls Tryz.prog 144 [] [.agg [.lst false (ml (eK .u8) sa0.Data), .int .i64 sa0.Bits]] (fun a σ' => a = .agg [.own 500014400, .int .i64 r.Bits] ∧ σ' = [(500014400, .slice 5 1 (ml (eK .u8) r.Data) 0 false)]) := by
  refine enterA Tryz.func144 rfl rfl ?_
  unfold m_bitio_clone at hm
  refine A.RS W0 [] [(0, .al 144001), (1, .al 144002)] [(1, .ptr 144001 0), (2, .ptr 144002 0)] [(144001, .cells 126 [.lst false (ml (eK .u8) sa0.Data), .int .i64 sa0.Bits]), (144002, .cells 126 [.nils, .int .i64 (0:Int)])] (by kernel_rfl) ?_
  obtain ⟨l_1, h1, hm⟩ := bnd_some hm
  refine A.RS W0 [] [(2, hap 144505 (ap (eK .u8) (bytes := 1) (by decide) h1))] [(2, .ptr 144002 0)] [(144002, .cells 126 [.own 144505, .int .i64 sa0.Bits]), (144505, .slice 5 1 (ml (eK .u8) l_1) 0 false)] (by kernel_rfl) ?_
  refine A.ret ?_
  obtain rfl := some_inj hm
  exact A.fin W0 [.sw 144505 500014400] rfl (by kernel_rfl)
theorem m_bitio_Append_ok {sa0 : GStream} {value : Int} {n : Int} {r : GStream × Int} (hm : m_bitio_Append sa0 value n = some r) : RO Tryz.prog 139 [] [.agg [.lst false (ml (eK .u8) sa0.Data), .int .i64 sa0.Bits], .int .u64 value, .int .i64 n] (.tup [.agg [.lst false (ml (eK .u8) r.1.Data), .int .i64 r.1.Bits], .int .i64 r.2]) := by
  refine enterA Tryz.func139 rfl rfl ?_
  unfold m_bitio_Append at hm
  refine A.RS W0 [] [(0, .al 139003), (1, .al 139006)] [(1, .int .u64 value), (2, .int .i64 n), (3, .ptr 139003 0), (6, .ptr 139006 0)] [(139003, .cells 126 [.lst false (ml (eK .u8) sa0.Data), .int .i64 sa0.Bits]), (139006, .cells 126 [.nils, .int .i64 (0:Int)])] (by kernel_rfl) ?_
  refine A.seq ?_
  refine A.block ?_
  obtain ⟨vx_1, h1, hm⟩ := bnd_some hm
  refine A.RS W0 [] [(1, hro (m_bitio_Valid_ok h1) ck140)] [(1, .int .u64 value), (2, .int .i64 n), (3, .ptr 139003 0), (6, .ptr 139006 0), (9, .bool (!vx_1))] [(139003, .cells 126 [.lst false (ml (eK .u8) sa0.Data), .int .i64 sa0.Bits]), (139006, .cells 126 [.nils, .int .i64 (0:Int)])] (by kernel_rfl) ?_
  rcases cs_some hm with ⟨c1, hm⟩ | ⟨c1, hm⟩
  · skip
    refine A.cT rfl c1 ?_
    refine A.RS W0 [] [] [(6, .ptr 139006 0), (7, .int .i64 (1:Int))] [(139006, .cells 126 [.nils, .int .i64 (0:Int)])] (by kernel_rfl) ?_
    refine A.ret ?_
    obtain rfl := some_inj hm
    exact A.fin W0 [] rfl (by kernel_rfl)
  refine A.cF rfl c1 ?_
  obtain ⟨J1, hJ1, hm⟩ := jn_some hm
  refine A.J (J := J1) (r := r) (fun v_1 => [(1, .int .u64 value), (2, .int .i64 n), (3, .ptr 139003 0), (6, .ptr 139006 0), (14, .bool v_1)]) (fun v_1 => [(139003, .cells 126 [.lst false (ml (eK .u8) sa0.Data), .int .i64 sa0.Bits]), (139006, .cells 126 [.nils, .int .i64 (0:Int)])]) ?_ ?_
  · skip
    rcases cs_some hm with ⟨c2, hm⟩ | ⟨c2, hm⟩
    · skip
      refine A.R W0 [] [(2, hto (bE c2))] [(1, .int .u64 value), (2, .int .i64 n), (3, .ptr 139003 0), (6, .ptr 139006 0), (14, .bool true)] [(139003, .cells 126 [.lst false (ml (eK .u8) sa0.Data), .int .i64 sa0.Bits]), (139006, .cells 126 [.nils, .int .i64 (0:Int)])] (by kernel_rfl) ?_
      exact Exists.intro true (And.intro hm (Weak.go [] [] (by kernel_rfl)))
    rcases cs_some hm with ⟨c3, hm⟩ | ⟨c3, hm⟩
    · skip
      refine A.R W0 [] [(2, hto (bE c2)), (6, hto (bE c3))] [(1, .int .u64 value), (2, .int .i64 n), (3, .ptr 139003 0), (6, .ptr 139006 0), (14, .bool true)] [(139003, .cells 126 [.lst false (ml (eK .u8) sa0.Data), .int .i64 sa0.Bits]), (139006, .cells 126 [.nils, .int .i64 (0:Int)])] (by kernel_rfl) ?_
      exact Exists.intro true (And.intro hm (Weak.go [] [] (by kernel_rfl)))
    rcases cs_some hm with ⟨c4, hm⟩ | ⟨c4, hm⟩
    · skip
      obtain ⟨h2, hm⟩ := chk_some hm
      refine A.R W0 [] [(2, hto (bE c2)), (6, hto (bE c3)), (9, hto (bE c4)), (12, .sh n (of_decide_eq_true h2))] [(1, .int .u64 value), (2, .int .i64 n), (3, .ptr 139003 0), (6, .ptr 139006 0), (14, .bool (!decide (Int.fdiv value (2 ^ min n.toNat 64) = (0:Int))))] [(139003, .cells 126 [.lst false (ml (eK .u8) sa0.Data), .int .i64 sa0.Bits]), (139006, .cells 126 [.nils, .int .i64 (0:Int)])] (by kernel_rfl) ?_
      exact Exists.intro (!decide (Int.fdiv value (2 ^ min n.toNat 64) = (0:Int))) (And.intro hm (Weak.go [] [] (by kernel_rfl)))
    refine A.R W0 [] [(2, hto (bE c2)), (6, hto (bE c3)), (9, hto (bE c4))] [(1, .int .u64 value), (2, .int .i64 n), (3, .ptr 139003 0), (6, .ptr 139006 0), (14, .bool false)] [(139003, .cells 126 [.lst false (ml (eK .u8) sa0.Data), .int .i64 sa0.Bits]), (139006, .cells 126 [.nils, .int .i64 (0:Int)])] (by kernel_rfl) ?_
    exact Exists.intro false (And.intro hm (Weak.go [] [] (by kernel_rfl)))
  rintro v_1 hm
  rw [hJ1] at hm
  rcases cs_some hm with ⟨c5, hm⟩ | ⟨c5, hm⟩
  · skip
    refine A.cT rfl c5 ?_
    refine A.RS W0 [] [] [(6, .ptr 139006 0), (7, .int .i64 (2:Int))] [(139006, .cells 126 [.nils, .int .i64 (0:Int)])] (by kernel_rfl) ?_
    refine A.ret ?_
    obtain rfl := some_inj hm
    exact A.fin W0 [] rfl (by kernel_rfl)
  refine A.cF rfl c5 ?_
  refine A.RS W0 [] [] [(1, .int .u64 value), (2, .int .i64 n), (3, .ptr 139003 0), (6, .ptr 139006 0), (32, .bool (decide ((8192:Int) < w64 (sa0.Bits + n))))] [(139003, .cells 126 [.lst false (ml (eK .u8) sa0.Data), .int .i64 sa0.Bits]), (139006, .cells 126 [.nils, .int .i64 (0:Int)])] (by kernel_rfl) ?_
  rcases cs_some hm with ⟨c6, hm⟩ | ⟨c6, hm⟩
  · skip
    refine A.cT rfl c6 ?_
    refine A.RS W0 [] [] [(6, .ptr 139006 0), (7, .int .i64 (3:Int))] [(139006, .cells 126 [.nils, .int .i64 (0:Int)])] (by kernel_rfl) ?_
    refine A.ret ?_
    obtain rfl := some_inj hm
    exact A.fin W0 [] rfl (by kernel_rfl)
  refine A.cF rfl c6 ?_
  refine A.skip ?_
  show acode _ _ _ _ _
  obtain ⟨vx_2, h3, hm⟩ := bnd_some hm
  refine A.RS W0 [] [(1, hdc [500014400] (m_bitio_clone_ok h3) ck144), (2, .al 139008)] [(1, .int .u64 value), (2, .int .i64 n), (6, .ptr 139006 0), (8, .ptr 139008 0)] [(139006, .cells 126 [.nils, .int .i64 (0:Int)]), (500014400, .slice 5 1 (ml (eK .u8) vx_2.Data) 0 false), (139008, .cells 126 [.own 500014400, .int .i64 vx_2.Bits])] (by kernel_rfl) ?_
  obtain ⟨vx_3, h4, hm⟩ := bnd_some hm
  refine A.RS W0 [] [(2, hdc [520139001] (SC.at [(505014500, 500014400), (900000126, 139008), (505014501, 520139001)] (m_bitio_write_ok h4)) ck145)] [(6, .ptr 139006 0), (8, .ptr 139008 0)] [(139006, .cells 126 [.nils, .int .i64 (0:Int)]), (139008, .cells 126 [.own 520139001, .int .i64 vx_3.Bits]), (520139001, .slice 5 1 (ml (eK .u8) vx_3.Data) 0 false)] (by kernel_rfl) ?_
  refine A.RS W0 [] [] [(6, .ptr 139006 0), (7, .int .i64 (0:Int))] [(139006, .cells 126 [.own 520139001, .int .i64 vx_3.Bits]), (520139001, .slice 5 1 (ml (eK .u8) vx_3.Data) 0 false)] (by kernel_rfl) ?_
  refine A.ret ?_
  obtain rfl := some_inj hm
  exact A.fin W0 [.fz [520139001]] rfl (by kernel_rfl)
theorem m_bitio_Check_ok {sa0 : GStream} {r : Int × Int} (hm : m_bitio_Check sa0 = some r) : RO Tryz.prog 128 [] [.agg [.lst false (ml (eK .u8) sa0.Data), .int .i64 sa0.Bits]] (.tup [.int .u64 r.1, .int .i64 r.2]) := by
  refine enterA Tryz.func128 rfl rfl ?_
  unfold m_bitio_Check at hm
  refine A.RS W0 [] [(0, .al 128001)] [(1, .ptr 128001 0)] [(128001, .cells 126 [.lst false (ml (eK .u8) sa0.Data), .int .i64 sa0.Bits])] (by kernel_rfl) ?_
  refine A.scope ?_
  refine A.seq ?_
  obtain ⟨vx_1, h1, hm⟩ := bnd_some hm
  refine A.RS W0 [] [(1, hro (m_bitio_Valid_ok h1) ck140)] [(1, .ptr 128001 0), (9, .bool (!vx_1))] [(128001, .cells 126 [.lst false (ml (eK .u8) sa0.Data), .int .i64 sa0.Bits])] (by kernel_rfl) ?_
  rcases cs_some hm with ⟨c1, hm⟩ | ⟨c1, hm⟩
  · skip
    refine A.cT rfl c1 ?_
    refine A.RS W0 [] [] [(2, .int .u64 (0:Int)), (3, .int .i64 (1:Int))] [] (by kernel_rfl) ?_
    refine A.ret ?_
    obtain rfl := some_inj hm
    exact A.fin W0 [] rfl (by kernel_rfl)
  refine A.cF rfl c1 ?_
  refine A.skip ?_
  show acode _ _ _ _ _
  refine A.RS W0 [] [] [(1, .ptr 128001 0), (4, .int .u64 (65535:Int))] [(128001, .cells 126 [.lst false (ml (eK .u8) sa0.Data), .int .i64 sa0.Bits])] (by kernel_rfl) ?_
  refine A.seq ?_
  refine A.label ?_
  show acode _ _ _ _ _
  refine A.seq ?_
  refine A.RS W0 [] [] [(1, .ptr 128001 0), (4, .int .u64 (65535:Int)), (11, .int .i64 sa0.Bits), (12, .int .i64 (0:Int))] [(128001, .cells 126 [.lst false (ml (eK .u8) sa0.Data), .int .i64 sa0.Bits])] (by kernel_rfl) ?_
  refine A.block ?_
  obtain ⟨hh1, hm⟩ := chk_some hm
  obtain ⟨B1, K1, hB1, hK1, hm⟩ := forN_some hm
  refine A.lpN (hi := sa0.Bits) (B := B1) (K := K1) hm rfl (fun j1 => fun register_1 => [(1, .ptr 128001 0), (4, .int .u64 register_1), (11, .int .i64 sa0.Bits), (12, .int .i64 (j1 : Int))]) (fun j1 => fun register_1 => [(128001, .cells 126 [.lst false (ml (eK .u8) sa0.Data), .int .i64 sa0.Bits])]) ?_ ?_ ?_
  · exact Weak.go [] [] (by kernel_rfl)
  · skip
    rintro j1 Z1 register_1 hj1 hx1 hm
    rw [hB1] at hm
    refine A.RS W0 [] [] [(1, .ptr 128001 0), (4, .int .u64 register_1), (11, .int .i64 sa0.Bits), (12, .int .i64 (j1 : Int)), (13, .bool (decide ((j1 : Int) < sa0.Bits)))] [(128001, .cells 126 [.lst false (ml (eK .u8) sa0.Data), .int .i64 sa0.Bits])] (by kernel_rfl) ?_
    refine A.seq ?_
    refine A.cT rfl (decide_eq_true hx1) ?_
    refine A.skip ?_
    show acode _ _ _ _ _
    obtain ⟨J1, hJ1, hm⟩ := jn_some hm
    refine A.J (J := J1) (r := r) (fun register_2 => [(1, .ptr 128001 0), (4, .int .u64 register_2), (11, .int .i64 sa0.Bits), (12, .int .i64 (j1 : Int))]) (fun register_2 => [(128001, .cells 126 [.lst false (ml (eK .u8) sa0.Data), .int .i64 sa0.Bits])]) ?_ ?_
    · skip
      refine A.block ?_
      refine A.RS W0 [] [] [(1, .ptr 128001 0), (4, .int .u64 register_1), (11, .int .i64 sa0.Bits), (12, .int .i64 (j1 : Int)), (5, .int .i64 (j1 : Int))] [(128001, .cells 126 [.lst false (ml (eK .u8) sa0.Data), .int .i64 sa0.Bits])] (by kernel_rfl) ?_
      refine A.RS W0 [] [(1, .sh (15:Int) (by decide))] [(1, .ptr 128001 0), (4, .int .u64 register_1), (11, .int .i64 sa0.Bits), (12, .int .i64 (j1 : Int)), (5, .int .i64 (j1 : Int)), (6, .int .u64 (Int.fdiv register_1 (2 ^ min (15:Int).toNat 64)))] [(128001, .cells 126 [.lst false (ml (eK .u8) sa0.Data), .int .i64 sa0.Bits])] (by kernel_rfl) ?_
      refine A.RS W0 [] [(1, .sh (1:Int) (by decide))] [(1, .ptr 128001 0), (4, .int .u64 (bitsI .and .u64 (IntKind.wrap .u64 (register_1 * 2 ^ min (1:Int).toNat 64)) (65535:Int))), (11, .int .i64 sa0.Bits), (12, .int .i64 (j1 : Int)), (5, .int .i64 (j1 : Int)), (6, .int .u64 (Int.fdiv register_1 (2 ^ min (15:Int).toNat 64)))] [(128001, .cells 126 [.lst false (ml (eK .u8) sa0.Data), .int .i64 sa0.Bits])] (by kernel_rfl) ?_
      refine A.seq ?_
      obtain ⟨vx_2, h2, hm⟩ := bnd_some hm
      refine A.RS W0 [] [(3, hro (m_bitio_bit_ok h2) ck141)] [(1, .ptr 128001 0), (4, .int .u64 (bitsI .and .u64 (IntKind.wrap .u64 (register_1 * 2 ^ min (1:Int).toNat 64)) (65535:Int))), (11, .int .i64 sa0.Bits), (12, .int .i64 (j1 : Int)), (24, .bool (decide (Int.fdiv register_1 (2 ^ min (15:Int).toNat 64) = vx_2)))] [(128001, .cells 126 [.lst false (ml (eK .u8) sa0.Data), .int .i64 sa0.Bits])] (by kernel_rfl) ?_
      rcases cs_some hm with ⟨c2, hm⟩ | ⟨c2, hm⟩
      · skip
        refine A.cT rfl c2 ?_
        refine A.exit ?_
        exact Exists.intro (bitsI .and .u64 (IntKind.wrap .u64 (register_1 * 2 ^ min (1:Int).toNat 64)) (65535:Int)) (And.intro hm (Weak.go [] [] (by kernel_rfl)))
      refine A.cF rfl c2 ?_
      refine A.skip ?_
      show acode _ _ _ _ _
      refine A.R W0 [] [] [(1, .ptr 128001 0), (4, .int .u64 (bitsI .xor .u64 (bitsI .and .u64 (IntKind.wrap .u64 (register_1 * 2 ^ min (1:Int).toNat 64)) (65535:Int)) (4129:Int))), (11, .int .i64 sa0.Bits), (12, .int .i64 (j1 : Int))] [(128001, .cells 126 [.lst false (ml (eK .u8) sa0.Data), .int .i64 sa0.Bits])] (by kernel_rfl) ?_
      exact Exists.intro (bitsI .xor .u64 (bitsI .and .u64 (IntKind.wrap .u64 (register_1 * 2 ^ min (1:Int).toNat 64)) (65535:Int)) (4129:Int)) (And.intro hm (Weak.go [] [] (by kernel_rfl)))
    rintro register_2 hm
    rw [hJ1] at hm
    refine A.R W0 [] [(0, hto (incN (by omega) hx1 (of_decide_eq_true hh1)))] [(1, .ptr 128001 0), (4, .int .u64 register_2), (11, .int .i64 sa0.Bits), (12, .int .i64 (j1 + 1 : Int))] [(128001, .cells 126 [.lst false (ml (eK .u8) sa0.Data), .int .i64 sa0.Bits])] (by kernel_rfl) ?_
    exact Exists.intro register_2 (And.intro hm (Weak.go [] [] (by kernel_rfl)))
  rintro j1 register_1 hj1 hl1 hm
  rw [hK1] at hm
  refine A.RS W0 [] [] [(1, .ptr 128001 0), (4, .int .u64 register_1), (11, .int .i64 sa0.Bits), (12, .int .i64 (j1 : Int)), (13, .bool (decide ((j1 : Int) < sa0.Bits)))] [(128001, .cells 126 [.lst false (ml (eK .u8) sa0.Data), .int .i64 sa0.Bits])] (by kernel_rfl) ?_
  refine A.seq ?_
  refine A.cF rfl (geF hl1) ?_
  refine A.exit ?_
  show acode _ _ _ _ _
  refine A.RS W0 [] [] [(2, .int .u64 register_1), (3, .int .i64 (0:Int))] [] (by kernel_rfl) ?_
  refine A.ret ?_
  obtain rfl := some_inj hm
  exact A.fin W0 [] rfl (by kernel_rfl)
end Go.Proofs.YtmcjffllahcclaaGreat
