/- The walks of functions of the program. No condition but those that stand in each. -/
import Derived.Test.YtmcjffllahcclaaGreatDA
namespace Go.Proofs.YtmcjffllahcclaaGreat
open Go
set_option maxRecDepth 100000
set_option linter.all false
theorem m_ref02_bit_ok {l : List Int} {i : Int} {r : Int} (hm : m_ref02_bit l i = some r) : RO Tryz.prog 124 [] [.lst false (ml (eK .u8) l), .int .i64 i] (.int .u64 r) := by
  refine enterA Tryz.func124 rfl rfl ?_
  unfold m_ref02_bit at hm
  refine A.RS W0 [] [] [(0, .lst false (ml (eK .u8) l)), (1, .int .i64 i)] [] (by kernel_rfl) ?_
  obtain ⟨e_1, h1, hm⟩ := bnd_some hm
  obtain ⟨h2, hm⟩ := chk_some hm
  refine A.RS W0 [] [(2, .qr (8:Int) (by decide)), (3, hix (ix (eK .u8) h1)), (6, .qr (8:Int) (by decide)), (9, .sh (IntKind.wrap .u64 (w64 ((7:Int) - (Int.tmod i (8:Int))))) (of_decide_eq_true h2))] [(4, .int .u64 (bitsI .and .u64 (IntKind.wrap .u64 (Int.fdiv e_1 (2 ^ min (IntKind.wrap .u64 (w64 ((7:Int) - (Int.tmod i (8:Int))))).toNat 8))) (1:Int)))] [] (by kernel_rfl) ?_
  refine A.ret ?_
  obtain rfl := some_inj hm
  exact A.fin W0 [] rfl (by kernel_rfl)
theorem m_ref02_Valid_ok {sa0 : GStream} {r : Bool} (hm : m_ref02_Valid sa0 = some r) : RO Tryz.prog 123 [] [.agg [.lst false (ml (eK .u8) sa0.Data), .int .i64 sa0.Bits]] (.bool r) := by
  refine enterA Tryz.func123 rfl rfl ?_
  unfold m_ref02_Valid at hm
  refine A.RS W0 [] [(0, .al 123001)] [(1, .ptr 123001 0)] [(123001, .cells 126 [.lst false (ml (eK .u8) sa0.Data), .int .i64 sa0.Bits])] (by kernel_rfl) ?_
  refine A.seq ?_
  refine A.mid [(1, .ptr 123001 0), (21, .bool ((decide (sa0.Bits < (0:Int))) || ((decide ((8192:Int) < sa0.Bits)) || (!decide ((sa0.Data.length:Int) = w64 (Int.tdiv (w64 (sa0.Bits + (7:Int))) (8:Int)))))))] [(123001, .cells 126 [.lst false (ml (eK .u8) sa0.Data), .int .i64 sa0.Bits])] (fun hk => ?_) ?_
  · skip
    rcases tf (decide (sa0.Bits < (0:Int))) with c1 | c1
    · skip
      exact A.RS W0 [] [(3, hto (bE c1)), (17, hto (orT (q := ((decide ((8192:Int) < sa0.Bits)) || (!decide ((sa0.Data.length:Int) = w64 (Int.tdiv (w64 (sa0.Bits + (7:Int))) (8:Int)))))) c1))] _ _ (by kernel_rfl) hk
    rcases tf (decide ((8192:Int) < sa0.Bits)) with c2 | c2
    · skip
      exact A.RS W0 [] [(3, hto (bE c1)), (8, hto (bE c2)), (17, hto ((orT (q := !decide ((sa0.Data.length:Int) = w64 (Int.tdiv (w64 (sa0.Bits + (7:Int))) (8:Int)))) c2).trans (orF (q := ((decide ((8192:Int) < sa0.Bits)) || (!decide ((sa0.Data.length:Int) = w64 (Int.tdiv (w64 (sa0.Bits + (7:Int))) (8:Int)))))) c1)))] _ _ (by kernel_rfl) hk
    exact A.RS W0 [] [(3, hto (bE c1)), (8, hto (bE c2)), (11, hto (lnE (eK .u8) sa0.Data)), (15, .qr (8:Int) (by decide)), (17, hto ((orF (q := !decide ((sa0.Data.length:Int) = w64 (Int.tdiv (w64 (sa0.Bits + (7:Int))) (8:Int)))) c2).trans (orF (q := ((decide ((8192:Int) < sa0.Bits)) || (!decide ((sa0.Data.length:Int) = w64 (Int.tdiv (w64 (sa0.Bits + (7:Int))) (8:Int)))))) c1)))] _ _ (by kernel_rfl) hk
  rcases cs_some hm with ⟨c3, hm⟩ | ⟨c3, hm⟩
  · skip
    refine A.cT rfl c3 ?_
    refine A.RS W0 [] [] [(2, .bool false)] [] (by kernel_rfl) ?_
    refine A.ret ?_
    obtain rfl := some_inj hm
    exact A.fin W0 [] rfl (by kernel_rfl)
  refine A.cF rfl c3 ?_
  refine A.skip ?_
  show acode _ _ _ _ _
  refine A.seq ?_
  refine A.RS W0 [] [] [(1, .ptr 123001 0), (3, .int .i64 sa0.Bits)] [(123001, .cells 126 [.lst false (ml (eK .u8) sa0.Data), .int .i64 sa0.Bits])] (by kernel_rfl) ?_
  refine A.block ?_
  obtain ⟨F1, n1, hF1, hm⟩ := whl_some hm
  refine A.lpW (F := F1) hm (fun i_1 => [(1, .ptr 123001 0), (3, .int .i64 i_1)]) (fun i_1 => [(123001, .cells 126 [.lst false (ml (eK .u8) sa0.Data), .int .i64 sa0.Bits])]) ?_ ?_
  · exact Weak.go [] [] (by kernel_rfl)
  rintro Z1 i_1 hm
  rw [hF1] at hm
  refine A.seq ?_
  refine A.RS W0 [] [(3, hto (lnE (eK .u8) sa0.Data))] [(1, .ptr 123001 0), (3, .int .i64 i_1), (29, .bool (decide (i_1 < w64 ((8:Int) * (sa0.Data.length:Int)))))] [(123001, .cells 126 [.lst false (ml (eK .u8) sa0.Data), .int .i64 sa0.Bits])] (by kernel_rfl) ?_
  rcases cs_some hm with ⟨c4, hm⟩ | ⟨c4, hm⟩
  · skip
    refine A.cT rfl c4 ?_
    refine A.skip ?_
    show acode _ _ _ _ _
    refine A.seq ?_
    refine A.block ?_
    obtain ⟨vx_1, h1, hm⟩ := bnd_some hm
    refine A.RS W0 [] [(3, hro (m_ref02_bit_ok h1) ck124)] [(1, .ptr 123001 0), (3, .int .i64 i_1), (36, .bool (!decide (vx_1 = (0:Int))))] [(123001, .cells 126 [.lst false (ml (eK .u8) sa0.Data), .int .i64 sa0.Bits])] (by kernel_rfl) ?_
    rcases cs_some hm with ⟨c5, hm⟩ | ⟨c5, hm⟩
    · skip
      refine A.cT rfl c5 ?_
      refine A.RS W0 [] [] [(2, .bool false)] [] (by kernel_rfl) ?_
      refine A.ret ?_
      obtain rfl := some_inj hm
      exact A.fin W0 [] rfl (by kernel_rfl)
    refine A.cF rfl c5 ?_
    refine A.skip ?_
    show acode _ _ _ _ _
    refine A.R W0 [] [] [(1, .ptr 123001 0), (3, .int .i64 (w64 (i_1 + (1:Int))))] [(123001, .cells 126 [.lst false (ml (eK .u8) sa0.Data), .int .i64 sa0.Bits])] (by kernel_rfl) ?_
    exact Exists.intro (w64 (i_1 + (1:Int))) (And.intro hm (Weak.go [] [] (by kernel_rfl)))
  refine A.cF rfl c4 ?_
  refine A.exit ?_
  show acode _ _ _ _ _
  refine A.RS W0 [] [] [(2, .bool true)] [] (by kernel_rfl) ?_
  refine A.ret ?_
  obtain rfl := some_inj hm
  exact A.fin W0 [] rfl (by kernel_rfl)
theorem m_ref02_Put_ok {sa0 : GStream} {b : Int} {r : GStream} (hm : m_ref02_Put sa0 b = some r) : RO Tryz.prog 125 [] [.agg [.lst false (ml (eK .u8) sa0.Data), .int .i64 sa0.Bits], .int .u64 b] (.agg [.lst false (ml (eK .u8) r.Data), .int .i64 r.Bits]) := by
  refine enterA Tryz.func125 rfl rfl ?_
  unfold m_ref02_Put at hm
  refine A.RS W0 [] [(0, .al 125002), (1, .al 125004)] [(1, .int .u64 b), (2, .ptr 125002 0), (4, .ptr 125004 0)] [(125002, .cells 126 [.lst false (ml (eK .u8) sa0.Data), .int .i64 sa0.Bits]), (125004, .cells 126 [.nils, .int .i64 (0:Int)])] (by kernel_rfl) ?_
  refine A.RS W0 [] [] [(1, .int .u64 b), (2, .ptr 125002 0), (4, .ptr 125004 0), (5, .nils)] [(125002, .cells 126 [.lst false (ml (eK .u8) sa0.Data), .int .i64 sa0.Bits]), (125004, .cells 126 [.nils, .int .i64 (0:Int)])] (by kernel_rfl) ?_
  obtain ⟨l_1, h1, hm⟩ := bnd_some hm
  refine A.RS W0 [] [(3, hap 125509 (ap (eK .u8) (bytes := 1) (by decide) h1))] [(1, .int .u64 b), (2, .ptr 125002 0), (4, .ptr 125004 0), (5, .own 125509)] [(125002, .cells 126 [.lst false (ml (eK .u8) sa0.Data), .int .i64 sa0.Bits]), (125004, .cells 126 [.nils, .int .i64 (0:Int)]), (125509, .slice 5 1 (ml (eK .u8) l_1) 0 false)] (by kernel_rfl) ?_
  obtain ⟨J1, hJ1, hm⟩ := jn_some hm
  refine A.J (J := J1) (r := r) (fun l_2 => [(1, .int .u64 b), (2, .ptr 125002 0), (4, .ptr 125004 0), (5, .own 600125005)]) (fun l_2 => [(125002, .cells 126 [.lst false (ml (eK .u8) sa0.Data), .int .i64 sa0.Bits]), (125004, .cells 126 [.nils, .int .i64 (0:Int)]), (600125005, .slice 5 1 (ml (eK .u8) l_2) 0 false)]) ?_ ?_
  · skip
    refine A.RS W0 [] [(2, .qr (8:Int) (by decide))] [(1, .int .u64 b), (2, .ptr 125002 0), (4, .ptr 125004 0), (5, .own 125509), (13, .bool (decide (Int.tmod sa0.Bits (8:Int) = (0:Int))))] [(125002, .cells 126 [.lst false (ml (eK .u8) sa0.Data), .int .i64 sa0.Bits]), (125004, .cells 126 [.nils, .int .i64 (0:Int)]), (125509, .slice 5 1 (ml (eK .u8) l_1) 0 false)] (by kernel_rfl) ?_
    rcases cs_some hm with ⟨c1, hm⟩ | ⟨c1, hm⟩
    · skip
      refine A.cT rfl c1 ?_
      obtain ⟨l_3, h2, hm⟩ := bnd_some hm
      refine A.R W0 [] [(2, hap 125516 (ap (eK .u8) (bytes := 1) (by decide) h2))] [(1, .int .u64 b), (2, .ptr 125002 0), (4, .ptr 125004 0), (5, .own 125516)] [(125002, .cells 126 [.lst false (ml (eK .u8) sa0.Data), .int .i64 sa0.Bits]), (125004, .cells 126 [.nils, .int .i64 (0:Int)]), (125516, .slice 5 1 (ml (eK .u8) l_3) 0 false)] (by kernel_rfl) ?_
      exact Exists.intro l_3 (And.intro hm (Weak.go [.sw 125516 600125005] [] (by kernel_rfl)))
    refine A.cF rfl c1 ?_
    refine A.skip ?_
    exact Exists.intro l_1 (And.intro hm (Weak.go [.sw 125509 600125005] [] (by kernel_rfl)))
  rintro l_2 hm
  rw [hJ1] at hm
  obtain ⟨J2, hJ2, hm⟩ := jn_some hm
  refine A.J (J := J2) (r := r) (fun l_4 => [(2, .ptr 125002 0), (4, .ptr 125004 0), (5, .own 600125005)]) (fun l_4 => [(125002, .cells 126 [.lst false (ml (eK .u8) sa0.Data), .int .i64 sa0.Bits]), (125004, .cells 126 [.nils, .int .i64 (0:Int)]), (600125005, .slice 5 1 (ml (eK .u8) l_4) 0 false)]) ?_ ?_
  · skip
    refine A.RS W0 [] [] [(2, .ptr 125002 0), (4, .ptr 125004 0), (5, .own 600125005), (18, .bool (decide (b = (1:Int))))] [(125002, .cells 126 [.lst false (ml (eK .u8) sa0.Data), .int .i64 sa0.Bits]), (125004, .cells 126 [.nils, .int .i64 (0:Int)]), (600125005, .slice 5 1 (ml (eK .u8) l_2) 0 false)] (by kernel_rfl) ?_
    rcases cs_some hm with ⟨c2, hm⟩ | ⟨c2, hm⟩
    · skip
      refine A.cT rfl c2 ?_
      obtain ⟨e_1, h3, hm⟩ := bnd_some hm
      obtain ⟨h4, hm⟩ := chk_some hm
      obtain ⟨l_5, h5, hm⟩ := bnd_some hm
      refine A.R W0 [] [(3, .qr (8:Int) (by decide)), (4, hix (ix (eK .u8) h3)), (5, hlo 600125005 0 (ix (eK .u8) h3)), (8, .qr (8:Int) (by decide)), (11, .sh (IntKind.wrap .u64 (w64 ((7:Int) - (Int.tmod sa0.Bits (8:Int))))) (of_decide_eq_true h4)), (13, hix (ix (eK .u8) h3)), (14, hso 600125005 (st (eK .u8) (off := 0) (ca := [.int .u8 (bitsI .or .u8 e_1 (IntKind.wrap .u8 ((1:Int) * 2 ^ min (IntKind.wrap .u64 (w64 ((7:Int) - (Int.tmod sa0.Bits (8:Int))))).toNat 8)))]) h3 h5 rfl) (elO_some h3).1.1)] [(2, .ptr 125002 0), (4, .ptr 125004 0), (5, .own 600125005)] [(125002, .cells 126 [.lst false (ml (eK .u8) sa0.Data), .int .i64 sa0.Bits]), (125004, .cells 126 [.nils, .int .i64 (0:Int)]), (600125005, .slice 5 1 (ml (eK .u8) l_5) 0 false)] (by kernel_rfl) ?_
      exact Exists.intro l_5 (And.intro hm (Weak.go [] [] (by kernel_rfl)))
    refine A.cF rfl c2 ?_
    refine A.skip ?_
    exact Exists.intro l_2 (And.intro hm (Weak.go [] [] (by kernel_rfl)))
  rintro l_4 hm
  rw [hJ2] at hm
  refine A.RS W0 [] [] [(4, .ptr 125004 0)] [(125004, .cells 126 [.own 600125005, .int .i64 (w64 (sa0.Bits + (1:Int)))]), (600125005, .slice 5 1 (ml (eK .u8) l_4) 0 false)] (by kernel_rfl) ?_
  refine A.ret ?_
  obtain rfl := some_inj hm
  exact A.fin W0 [.fz [600125005]] rfl (by kernel_rfl)
theorem m_ref02_Append_ok {sa0 : GStream} {value : Int} {n : Int} {r : GStream × Int} (hm : m_ref02_Append sa0 value n = some r) : RO Tryz.prog 122 [] [.agg [.lst false (ml (eK .u8) sa0.Data), .int .i64 sa0.Bits], .int .u64 value, .int .i64 n] (.tup [.agg [.lst false (ml (eK .u8) r.1.Data), .int .i64 r.1.Bits], .int .i64 r.2]) := by
  refine enterA Tryz.func122 rfl rfl ?_
  unfold m_ref02_Append at hm
  refine A.RS W0 [] [(0, .al 122003), (1, .al 122006)] [(1, .int .u64 value), (2, .int .i64 n), (3, .ptr 122003 0), (6, .ptr 122006 0)] [(122003, .cells 126 [.lst false (ml (eK .u8) sa0.Data), .int .i64 sa0.Bits]), (122006, .cells 126 [.nils, .int .i64 (0:Int)])] (by kernel_rfl) ?_
  refine A.seq ?_
  obtain ⟨vx_1, h1, hm⟩ := bnd_some hm
  refine A.RS W0 [] [(1, hro (m_ref02_Valid_ok h1) ck123)] [(1, .int .u64 value), (2, .int .i64 n), (3, .ptr 122003 0), (6, .ptr 122006 0), (11, .bool (!vx_1))] [(122003, .cells 126 [.lst false (ml (eK .u8) sa0.Data), .int .i64 sa0.Bits]), (122006, .cells 126 [.nils, .int .i64 (0:Int)])] (by kernel_rfl) ?_
  rcases cs_some hm with ⟨c1, hm⟩ | ⟨c1, hm⟩
  · skip
    refine A.cT rfl c1 ?_
    refine A.RS W0 [] [] [(6, .ptr 122006 0), (7, .int .i64 (1:Int))] [(122006, .cells 126 [.nils, .int .i64 (0:Int)])] (by kernel_rfl) ?_
    refine A.ret ?_
    obtain rfl := some_inj hm
    exact A.fin W0 [] rfl (by kernel_rfl)
  refine A.cF rfl c1 ?_
  refine A.skip ?_
  show acode _ _ _ _ _
  refine A.seq ?_
  obtain ⟨J1, hJ1, hm⟩ := jn_some hm
  refine A.J (J := J1) (r := r) (fun v_1 => [(1, .int .u64 value), (2, .int .i64 n), (3, .ptr 122003 0), (6, .ptr 122006 0), (29, .bool v_1)]) (fun v_1 => [(122003, .cells 126 [.lst false (ml (eK .u8) sa0.Data), .int .i64 sa0.Bits]), (122006, .cells 126 [.nils, .int .i64 (0:Int)])]) ?_ ?_
  · skip
    rcases cs_some hm with ⟨c2, hm⟩ | ⟨c2, hm⟩
    · skip
      refine A.R W0 [] [(2, hto (bE c2))] [(1, .int .u64 value), (2, .int .i64 n), (3, .ptr 122003 0), (6, .ptr 122006 0), (29, .bool true)] [(122003, .cells 126 [.lst false (ml (eK .u8) sa0.Data), .int .i64 sa0.Bits]), (122006, .cells 126 [.nils, .int .i64 (0:Int)])] (by kernel_rfl) ?_
      exact Exists.intro true (And.intro hm (Weak.go [] [] (by kernel_rfl)))
    rcases cs_some hm with ⟨c3, hm⟩ | ⟨c3, hm⟩
    · skip
      refine A.R W0 [] [(2, hto (bE c2)), (6, hto (bE c3))] [(1, .int .u64 value), (2, .int .i64 n), (3, .ptr 122003 0), (6, .ptr 122006 0), (29, .bool true)] [(122003, .cells 126 [.lst false (ml (eK .u8) sa0.Data), .int .i64 sa0.Bits]), (122006, .cells 126 [.nils, .int .i64 (0:Int)])] (by kernel_rfl) ?_
      exact Exists.intro true (And.intro hm (Weak.go [] [] (by kernel_rfl)))
    rcases cs_some hm with ⟨c4, hm⟩ | ⟨c4, hm⟩
    · skip
      obtain ⟨h2, hm⟩ := chk_some hm
      refine A.R W0 [] [(2, hto (bE c2)), (6, hto (bE c3)), (9, hto (bE c4)), (13, .sh (IntKind.wrap .u64 n) (of_decide_eq_true h2))] [(1, .int .u64 value), (2, .int .i64 n), (3, .ptr 122003 0), (6, .ptr 122006 0), (29, .bool (!decide (Int.fdiv value (2 ^ min (IntKind.wrap .u64 n).toNat 64) = (0:Int))))] [(122003, .cells 126 [.lst false (ml (eK .u8) sa0.Data), .int .i64 sa0.Bits]), (122006, .cells 126 [.nils, .int .i64 (0:Int)])] (by kernel_rfl) ?_
      exact Exists.intro (!decide (Int.fdiv value (2 ^ min (IntKind.wrap .u64 n).toNat 64) = (0:Int))) (And.intro hm (Weak.go [] [] (by kernel_rfl)))
    refine A.R W0 [] [(2, hto (bE c2)), (6, hto (bE c3)), (9, hto (bE c4))] [(1, .int .u64 value), (2, .int .i64 n), (3, .ptr 122003 0), (6, .ptr 122006 0), (29, .bool false)] [(122003, .cells 126 [.lst false (ml (eK .u8) sa0.Data), .int .i64 sa0.Bits]), (122006, .cells 126 [.nils, .int .i64 (0:Int)])] (by kernel_rfl) ?_
    exact Exists.intro false (And.intro hm (Weak.go [] [] (by kernel_rfl)))
  rintro v_1 hm
  rw [hJ1] at hm
  rcases cs_some hm with ⟨c5, hm⟩ | ⟨c5, hm⟩
  · skip
    refine A.cT rfl c5 ?_
    refine A.RS W0 [] [] [(6, .ptr 122006 0), (7, .int .i64 (2:Int))] [(122006, .cells 126 [.nils, .int .i64 (0:Int)])] (by kernel_rfl) ?_
    refine A.ret ?_
    obtain rfl := some_inj hm
    exact A.fin W0 [] rfl (by kernel_rfl)
  refine A.cF rfl c5 ?_
  refine A.skip ?_
  show acode _ _ _ _ _
  refine A.seq ?_
  refine A.RS W0 [] [] [(1, .int .u64 value), (2, .int .i64 n), (3, .ptr 122003 0), (6, .ptr 122006 0), (35, .bool (decide ((8192:Int) < w64 (sa0.Bits + n))))] [(122003, .cells 126 [.lst false (ml (eK .u8) sa0.Data), .int .i64 sa0.Bits]), (122006, .cells 126 [.nils, .int .i64 (0:Int)])] (by kernel_rfl) ?_
  rcases cs_some hm with ⟨c6, hm⟩ | ⟨c6, hm⟩
  · skip
    refine A.cT rfl c6 ?_
    refine A.RS W0 [] [] [(6, .ptr 122006 0), (7, .int .i64 (3:Int))] [(122006, .cells 126 [.nils, .int .i64 (0:Int)])] (by kernel_rfl) ?_
    refine A.ret ?_
    obtain rfl := some_inj hm
    exact A.fin W0 [] rfl (by kernel_rfl)
  refine A.cF rfl c6 ?_
  refine A.skip ?_
  show acode _ _ _ _ _
  refine A.seq ?_
  refine A.RS W0 [] [] [(1, .int .u64 value), (3, .ptr 122003 0), (6, .ptr 122006 0), (8, .int .i64 (w64 (n - (1:Int))))] [(122003, .cells 126 [.lst false (ml (eK .u8) sa0.Data), .int .i64 sa0.Bits]), (122006, .cells 126 [.nils, .int .i64 (0:Int)])] (by kernel_rfl) ?_
  refine A.block ?_
  obtain ⟨F1, n1, hF1, hm⟩ := whl_some hm
  refine A.lpW (F := F1) hm (fun sg => match sg with | (i_1, m_1, m_2) => [(1, .int .u64 value), (3, .ptr 122003 0), (6, .ptr 122006 0), (8, .int .i64 i_1)]) (fun sg => match sg with | (i_1, m_1, m_2) => [(122003, .cells 126 [.lst false (ml (eK .u8) m_1), .int .i64 m_2]), (122006, .cells 126 [.nils, .int .i64 (0:Int)])]) ?_ ?_
  · exact Weak.go [] [] (by kernel_rfl)
  rintro Z1 ⟨i_1, m_1, m_2⟩ hm
  rw [hF1] at hm
  refine A.seq ?_
  refine A.RS W0 [] [] [(1, .int .u64 value), (3, .ptr 122003 0), (6, .ptr 122006 0), (8, .int .i64 i_1), (40, .bool (decide ((0:Int) ≤ i_1)))] [(122003, .cells 126 [.lst false (ml (eK .u8) m_1), .int .i64 m_2]), (122006, .cells 126 [.nils, .int .i64 (0:Int)])] (by kernel_rfl) ?_
  rcases cs_some hm with ⟨c7, hm⟩ | ⟨c7, hm⟩
  · skip
    refine A.cT rfl c7 ?_
    refine A.skip ?_
    show acode _ _ _ _ _
    refine A.seq ?_
    refine A.block ?_
    obtain ⟨h3, hm⟩ := chk_some hm
    obtain ⟨vx_2, h4, hm⟩ := bnd_some hm
    refine A.R W0 [] [(4, .sh (IntKind.wrap .u64 i_1) (of_decide_eq_true h3)), (6, hro (m_ref02_Put_ok h4) ck125)] [(1, .int .u64 value), (3, .ptr 122003 0), (6, .ptr 122006 0), (8, .int .i64 i_1)] [(122003, .cells 126 [.lst false (ml (eK .u8) vx_2.Data), .int .i64 vx_2.Bits]), (122006, .cells 126 [.nils, .int .i64 (0:Int)])] (by kernel_rfl) ?_
    show acode _ _ _ _ _
    refine A.R W0 [] [] [(1, .int .u64 value), (3, .ptr 122003 0), (6, .ptr 122006 0), (8, .int .i64 (w64 (i_1 - (1:Int))))] [(122003, .cells 126 [.lst false (ml (eK .u8) vx_2.Data), .int .i64 vx_2.Bits]), (122006, .cells 126 [.nils, .int .i64 (0:Int)])] (by kernel_rfl) ?_
    exact Exists.intro (w64 (i_1 - (1:Int)), vx_2.Data, vx_2.Bits) (And.intro hm (Weak.go [] [] (by kernel_rfl)))
  refine A.cF rfl c7 ?_
  refine A.exit ?_
  show acode _ _ _ _ _
  refine A.RS W0 [] [] [(6, .ptr 122006 0), (7, .int .i64 (0:Int))] [(122006, .cells 126 [.lst false (ml (eK .u8) m_1), .int .i64 m_2])] (by kernel_rfl) ?_
  refine A.ret ?_
  obtain rfl := some_inj hm
  exact A.fin W0 [] rfl (by kernel_rfl)
theorem m_ref02_Align_ok {sa0 : GStream} {r : GStream × Int} (hm : m_ref02_Align sa0 = some r) : RO Tryz.prog 95 [] [.agg [.lst false (ml (eK .u8) sa0.Data), .int .i64 sa0.Bits]] (.tup [.agg [.lst false (ml (eK .u8) r.1.Data), .int .i64 r.1.Bits], .int .i64 r.2]) := by
  refine enterA Tryz.func95 rfl rfl ?_
  unfold m_ref02_Align at hm
  refine A.RS W0 [] [(0, .al 95001), (1, .al 95002)] [(1, .ptr 95001 0), (2, .ptr 95002 0)] [(95001, .cells 126 [.lst false (ml (eK .u8) sa0.Data), .int .i64 sa0.Bits]), (95002, .cells 126 [.nils, .int .i64 (0:Int)])] (by kernel_rfl) ?_
  refine A.seq ?_
  obtain ⟨vx_1, h1, hm⟩ := bnd_some hm
  refine A.RS W0 [] [(1, hro (m_ref02_Valid_ok h1) ck123)] [(1, .ptr 95001 0), (2, .ptr 95002 0), (6, .bool (!vx_1))] [(95001, .cells 126 [.lst false (ml (eK .u8) sa0.Data), .int .i64 sa0.Bits]), (95002, .cells 126 [.nils, .int .i64 (0:Int)])] (by kernel_rfl) ?_
  rcases cs_some hm with ⟨c1, hm⟩ | ⟨c1, hm⟩
  · skip
    refine A.cT rfl c1 ?_
    refine A.RS W0 [] [] [(2, .ptr 95002 0), (3, .int .i64 (1:Int))] [(95002, .cells 126 [.nils, .int .i64 (0:Int)])] (by kernel_rfl) ?_
    refine A.ret ?_
    obtain rfl := some_inj hm
    exact A.fin W0 [] rfl (by kernel_rfl)
  refine A.cF rfl c1 ?_
  refine A.skip ?_
  show acode _ _ _ _ _
  refine A.seq ?_
  refine A.block ?_
  obtain ⟨F1, n1, hF1, hm⟩ := whl_some hm
  refine A.lpW (F := F1) hm (fun sg => match sg with | (m_1, m_2) => [(1, .ptr 95001 0), (2, .ptr 95002 0)]) (fun sg => match sg with | (m_1, m_2) => [(95001, .cells 126 [.lst false (ml (eK .u8) m_1), .int .i64 m_2]), (95002, .cells 126 [.nils, .int .i64 (0:Int)])]) ?_ ?_
  · exact Weak.go [] [] (by kernel_rfl)
  rintro Z1 ⟨m_1, m_2⟩ hm
  rw [hF1] at hm
  refine A.seq ?_
  refine A.RS W0 [] [(2, .qr (8:Int) (by decide))] [(1, .ptr 95001 0), (2, .ptr 95002 0), (11, .bool (!decide (Int.tmod m_2 (8:Int) = (0:Int))))] [(95001, .cells 126 [.lst false (ml (eK .u8) m_1), .int .i64 m_2]), (95002, .cells 126 [.nils, .int .i64 (0:Int)])] (by kernel_rfl) ?_
  rcases cs_some hm with ⟨c2, hm⟩ | ⟨c2, hm⟩
  · skip
    refine A.cT rfl c2 ?_
    refine A.skip ?_
    show acode _ _ _ _ _
    refine A.block ?_
    obtain ⟨vx_2, h2, hm⟩ := bnd_some hm
    refine A.R W0 [] [(1, hro (m_ref02_Put_ok h2) ck125)] [(1, .ptr 95001 0), (2, .ptr 95002 0)] [(95001, .cells 126 [.lst false (ml (eK .u8) vx_2.Data), .int .i64 vx_2.Bits]), (95002, .cells 126 [.nils, .int .i64 (0:Int)])] (by kernel_rfl) ?_
    exact Exists.intro (vx_2.Data, vx_2.Bits) (And.intro hm (Weak.go [] [] (by kernel_rfl)))
  refine A.cF rfl c2 ?_
  refine A.exit ?_
  show acode _ _ _ _ _
  refine A.RS W0 [] [] [(2, .ptr 95002 0), (3, .int .i64 (0:Int))] [(95002, .cells 126 [.lst false (ml (eK .u8) m_1), .int .i64 m_2])] (by kernel_rfl) ?_
  refine A.ret ?_
  obtain rfl := some_inj hm
  exact A.fin W0 [] rfl (by kernel_rfl)
theorem m_ref02_Check_ok {sa0 : GStream} {r : Int × Int} (hm : m_ref02_Check sa0 = some r) : RO Tryz.prog 94 [] [.agg [.lst false (ml (eK .u8) sa0.Data), .int .i64 sa0.Bits]] (.tup [.int .u64 r.1, .int .i64 r.2]) := by
  refine enterA Tryz.func94 rfl rfl ?_
  unfold m_ref02_Check at hm
  refine A.RS W0 [] [(0, .al 94001)] [(1, .ptr 94001 0)] [(94001, .cells 126 [.lst false (ml (eK .u8) sa0.Data), .int .i64 sa0.Bits])] (by kernel_rfl) ?_
  refine A.seq ?_
  obtain ⟨vx_1, h1, hm⟩ := bnd_some hm
  refine A.RS W0 [] [(1, hro (m_ref02_Valid_ok h1) ck123)] [(1, .ptr 94001 0), (9, .bool (!vx_1))] [(94001, .cells 126 [.lst false (ml (eK .u8) sa0.Data), .int .i64 sa0.Bits])] (by kernel_rfl) ?_
  rcases cs_some hm with ⟨c1, hm⟩ | ⟨c1, hm⟩
  · skip
    refine A.cT rfl c1 ?_
    refine A.RS W0 [] [] [(2, .int .u64 (0:Int)), (3, .int .i64 (1:Int))] [] (by kernel_rfl) ?_
    refine A.ret ?_
    obtain rfl := some_inj hm
    exact A.fin W0 [] rfl (by kernel_rfl)
  refine A.cF rfl c1 ?_
  refine A.skip ?_
  show acode _ _ _ _ _
  refine A.RS W0 [] [] [(1, .ptr 94001 0), (4, .int .u64 (65535:Int))] [(94001, .cells 126 [.lst false (ml (eK .u8) sa0.Data), .int .i64 sa0.Bits])] (by kernel_rfl) ?_
  refine A.seq ?_
  refine A.RS W0 [] [] [(1, .ptr 94001 0), (4, .int .u64 (65535:Int)), (5, .int .i64 (0:Int))] [(94001, .cells 126 [.lst false (ml (eK .u8) sa0.Data), .int .i64 sa0.Bits])] (by kernel_rfl) ?_
  refine A.block ?_
  obtain ⟨hh1, hm⟩ := chk_some hm
  obtain ⟨B1, K1, hB1, hK1, hm⟩ := forN_some hm
  refine A.lpN (hi := sa0.Bits) (B := B1) (K := K1) hm rfl (fun j1 => fun vr_1 => [(1, .ptr 94001 0), (4, .int .u64 vr_1), (5, .int .i64 (j1 : Int))]) (fun j1 => fun vr_1 => [(94001, .cells 126 [.lst false (ml (eK .u8) sa0.Data), .int .i64 sa0.Bits])]) ?_ ?_ ?_
  · exact Weak.go [] [] (by kernel_rfl)
  · skip
    rintro j1 Z1 vr_1 hj1 hx1 hm
    rw [hB1] at hm
    refine A.seq ?_
    refine A.RS W0 [] [] [(1, .ptr 94001 0), (4, .int .u64 vr_1), (5, .int .i64 (j1 : Int)), (13, .bool (decide ((j1 : Int) < sa0.Bits)))] [(94001, .cells 126 [.lst false (ml (eK .u8) sa0.Data), .int .i64 sa0.Bits])] (by kernel_rfl) ?_
    refine A.cT rfl (decide_eq_true hx1) ?_
    refine A.skip ?_
    show acode _ _ _ _ _
    obtain ⟨J1, hJ1, hm⟩ := jn_some hm
    refine A.J (J := J1) (r := r) (fun vr_2 => [(1, .ptr 94001 0), (4, .int .u64 vr_2), (5, .int .i64 (j1 : Int))]) (fun vr_2 => [(94001, .cells 126 [.lst false (ml (eK .u8) sa0.Data), .int .i64 sa0.Bits])]) ?_ ?_
    · skip
      refine A.block ?_
      refine A.RS W0 [] [(1, .sh (15:Int) (by decide))] [(1, .ptr 94001 0), (4, .int .u64 vr_1), (5, .int .i64 (j1 : Int)), (6, .int .u64 (Int.fdiv vr_1 (2 ^ min (15:Int).toNat 64)))] [(94001, .cells 126 [.lst false (ml (eK .u8) sa0.Data), .int .i64 sa0.Bits])] (by kernel_rfl) ?_
      refine A.RS W0 [] [(1, .sh (1:Int) (by decide))] [(1, .ptr 94001 0), (4, .int .u64 (bitsI .and .u64 (IntKind.wrap .u64 (vr_1 * 2 ^ min (1:Int).toNat 64)) (65535:Int))), (5, .int .i64 (j1 : Int)), (6, .int .u64 (Int.fdiv vr_1 (2 ^ min (15:Int).toNat 64)))] [(94001, .cells 126 [.lst false (ml (eK .u8) sa0.Data), .int .i64 sa0.Bits])] (by kernel_rfl) ?_
      obtain ⟨vx_2, h2, hm⟩ := bnd_some hm
      refine A.RS W0 [] [(4, hro (m_ref02_bit_ok h2) ck124)] [(1, .ptr 94001 0), (4, .int .u64 (bitsI .and .u64 (IntKind.wrap .u64 (vr_1 * 2 ^ min (1:Int).toNat 64)) (65535:Int))), (5, .int .i64 (j1 : Int)), (26, .bool (!decide (Int.fdiv vr_1 (2 ^ min (15:Int).toNat 64) = vx_2)))] [(94001, .cells 126 [.lst false (ml (eK .u8) sa0.Data), .int .i64 sa0.Bits])] (by kernel_rfl) ?_
      rcases cs_some hm with ⟨c2, hm⟩ | ⟨c2, hm⟩
      · skip
        refine A.cT rfl c2 ?_
        refine A.R W0 [] [] [(1, .ptr 94001 0), (4, .int .u64 (bitsI .xor .u64 (bitsI .and .u64 (IntKind.wrap .u64 (vr_1 * 2 ^ min (1:Int).toNat 64)) (65535:Int)) (4129:Int))), (5, .int .i64 (j1 : Int))] [(94001, .cells 126 [.lst false (ml (eK .u8) sa0.Data), .int .i64 sa0.Bits])] (by kernel_rfl) ?_
        exact Exists.intro (bitsI .xor .u64 (bitsI .and .u64 (IntKind.wrap .u64 (vr_1 * 2 ^ min (1:Int).toNat 64)) (65535:Int)) (4129:Int)) (And.intro hm (Weak.go [] [] (by kernel_rfl)))
      refine A.cF rfl c2 ?_
      refine A.skip ?_
      exact Exists.intro (bitsI .and .u64 (IntKind.wrap .u64 (vr_1 * 2 ^ min (1:Int).toNat 64)) (65535:Int)) (And.intro hm (Weak.go [] [] (by kernel_rfl)))
    rintro vr_2 hm
    rw [hJ1] at hm
    refine A.R W0 [] [(1, hto (incN (by omega) hx1 (of_decide_eq_true hh1)))] [(1, .ptr 94001 0), (4, .int .u64 vr_2), (5, .int .i64 (j1 + 1 : Int))] [(94001, .cells 126 [.lst false (ml (eK .u8) sa0.Data), .int .i64 sa0.Bits])] (by kernel_rfl) ?_
    exact Exists.intro vr_2 (And.intro hm (Weak.go [] [] (by kernel_rfl)))
  rintro j1 vr_1 hj1 hl1 hm
  rw [hK1] at hm
  refine A.seq ?_
  refine A.RS W0 [] [] [(1, .ptr 94001 0), (4, .int .u64 vr_1), (5, .int .i64 (j1 : Int)), (13, .bool (decide ((j1 : Int) < sa0.Bits)))] [(94001, .cells 126 [.lst false (ml (eK .u8) sa0.Data), .int .i64 sa0.Bits])] (by kernel_rfl) ?_
  refine A.cF rfl (geF hl1) ?_
  refine A.exit ?_
  show acode _ _ _ _ _
  refine A.RS W0 [] [] [(2, .int .u64 vr_1), (3, .int .i64 (0:Int))] [] (by kernel_rfl) ?_
  refine A.ret ?_
  obtain rfl := some_inj hm
  exact A.fin W0 [] rfl (by kernel_rfl)
theorem m_ref01_Code_ok {length : Int} {r : Int} (hm : m_ref01_Code length = some r) : RO Tryz.prog 93 [] [.int .i64 length] (.int .i64 r) := by
  refine enterA Tryz.func93 rfl rfl ?_
  unfold m_ref01_Code at hm
  refine A.RS W0 [] [] [(0, .int .i64 length)] [] (by kernel_rfl) ?_
  refine A.RS W0 [] [] [(0, .int .i64 length), (3, .int .i64 (0:Int))] [] (by kernel_rfl) ?_
  refine A.seq ?_
  refine A.block ?_
  obtain ⟨F1, n1, hF1, hm⟩ := whl_some hm
  refine A.lpW (F := F1) hm (fun sg => match sg with | (length_1, n_1) => [(0, .int .i64 length_1), (3, .int .i64 n_1)]) (fun sg => match sg with | (length_1, n_1) => []) ?_ ?_
  · exact Weak.go [] [] (by kernel_rfl)
  rintro Z1 ⟨length_1, n_1⟩ hm
  rw [hF1] at hm
  refine A.seq ?_
  refine A.RS W0 [] [] [(0, .int .i64 length_1), (3, .int .i64 n_1), (5, .bool (decide ((8:Int) < length_1)))] [] (by kernel_rfl) ?_
  rcases cs_some hm with ⟨c1, hm⟩ | ⟨c1, hm⟩
  · skip
    refine A.cT rfl c1 ?_
    refine A.skip ?_
    show acode _ _ _ _ _
    refine A.block ?_
    refine A.RS W0 [] [(1, .qr (2:Int) (by decide))] [(0, .int .i64 (w64 (Int.tdiv length_1 (2:Int)))), (3, .int .i64 n_1)] [] (by kernel_rfl) ?_
    refine A.R W0 [] [] [(0, .int .i64 (w64 (Int.tdiv length_1 (2:Int)))), (3, .int .i64 (w64 (n_1 + (1:Int))))] [] (by kernel_rfl) ?_
    exact Exists.intro (w64 (Int.tdiv length_1 (2:Int)), w64 (n_1 + (1:Int))) (And.intro hm (Weak.go [] [] (by kernel_rfl)))
  refine A.cF rfl c1 ?_
  refine A.exit ?_
  show acode _ _ _ _ _
  refine A.RS W0 [] [] [(2, .int .i64 n_1)] [] (by kernel_rfl) ?_
  refine A.ret ?_
  obtain rfl := some_inj hm
  exact A.fin W0 [] rfl (by kernel_rfl)
end Go.Proofs.YtmcjffllahcclaaGreat
