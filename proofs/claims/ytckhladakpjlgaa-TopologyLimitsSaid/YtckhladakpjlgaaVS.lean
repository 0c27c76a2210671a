/- The walks of functions of the program. No condition but those that stand in each. -/
import Derived.Test.YtckhladakpjlgaaDS
namespace Go.Proofs.Ytckhladakpjlgaa
open Go
set_option maxRecDepth 100000
set_option linter.all false
theorem m_math_bits_Len64_ok {xa0 : Int} {r : Int} (hm : m_math_bits_Len64 xa0 = some r) : RO Try.prog 81 [] [.int .u64 xa0] (.int .i64 r) := by
  refine enterA Try.func81 rfl rfl ?_
  unfold m_math_bits_Len64 at hm
  refine A.RS W0 [] [] [(0, .int .u64 xa0), (2, .int .i64 (0:Int))] [] (by kernel_rfl) ?_
  obtain ⟨J1, hJ1, hm⟩ := jn_some hm
  refine A.J (J := J1) (r := r) (fun sg => match sg with | (vx_1, n_1) => [(0, .int .u64 vx_1), (2, .int .i64 n_1)]) (fun sg => match sg with | (vx_1, n_1) => []) ?_ ?_
  · skip
    refine A.RS W0 [] [] [(0, .int .u64 xa0), (2, .int .i64 (0:Int)), (4, .bool (decide ((4294967296:Int) ≤ xa0)))] [] (by kernel_rfl) ?_
    rcases cs_some hm with ⟨c1, hm⟩ | ⟨c1, hm⟩
    · skip
      refine A.cT rfl c1 ?_
      refine A.RS W0 [] [(1, .sh (32:Int) (by decide))] [(0, .int .u64 (Int.fdiv xa0 (2 ^ min (32:Int).toNat 64)))] [] (by kernel_rfl) ?_
      refine A.R W0 [] [] [(0, .int .u64 (Int.fdiv xa0 (2 ^ min (32:Int).toNat 64))), (2, .int .i64 (32:Int))] [] (by kernel_rfl) ?_
      exact Exists.intro (Int.fdiv xa0 (2 ^ min (32:Int).toNat 64), (32:Int)) (And.intro hm (Weak.go [] [] (by kernel_rfl)))
    refine A.cF rfl c1 ?_
    refine A.skip ?_
    exact Exists.intro (xa0, (0:Int)) (And.intro hm (Weak.go [] [] (by kernel_rfl)))
  rintro ⟨vx_1, n_1⟩ hm
  rw [hJ1] at hm
  obtain ⟨J2, hJ2, hm⟩ := jn_some hm
  refine A.J (J := J2) (r := r) (fun sg => match sg with | (vx_2, n_2) => [(0, .int .u64 vx_2), (2, .int .i64 n_2)]) (fun sg => match sg with | (vx_2, n_2) => []) ?_ ?_
  · skip
    refine A.RS W0 [] [] [(0, .int .u64 vx_1), (2, .int .i64 n_1), (8, .bool (decide ((65536:Int) ≤ vx_1)))] [] (by kernel_rfl) ?_
    rcases cs_some hm with ⟨c2, hm⟩ | ⟨c2, hm⟩
    · skip
      refine A.cT rfl c2 ?_
      refine A.RS W0 [] [(1, .sh (16:Int) (by decide))] [(0, .int .u64 (Int.fdiv vx_1 (2 ^ min (16:Int).toNat 64))), (2, .int .i64 n_1)] [] (by kernel_rfl) ?_
      refine A.R W0 [] [] [(0, .int .u64 (Int.fdiv vx_1 (2 ^ min (16:Int).toNat 64))), (2, .int .i64 (w64 (n_1 + (16:Int))))] [] (by kernel_rfl) ?_
      exact Exists.intro (Int.fdiv vx_1 (2 ^ min (16:Int).toNat 64), w64 (n_1 + (16:Int))) (And.intro hm (Weak.go [] [] (by kernel_rfl)))
    refine A.cF rfl c2 ?_
    refine A.skip ?_
    exact Exists.intro (vx_1, n_1) (And.intro hm (Weak.go [] [] (by kernel_rfl)))
  rintro ⟨vx_2, n_2⟩ hm
  rw [hJ2] at hm
  obtain ⟨J3, hJ3, hm⟩ := jn_some hm
  refine A.J (J := J3) (r := r) (fun sg => match sg with | (vx_3, n_3) => [(0, .int .u64 vx_3), (2, .int .i64 n_3)]) (fun sg => match sg with | (vx_3, n_3) => []) ?_ ?_
  · skip
    refine A.RS W0 [] [] [(0, .int .u64 vx_2), (2, .int .i64 n_2), (14, .bool (decide ((256:Int) ≤ vx_2)))] [] (by kernel_rfl) ?_
    rcases cs_some hm with ⟨c3, hm⟩ | ⟨c3, hm⟩
    · skip
      refine A.cT rfl c3 ?_
      refine A.RS W0 [] [(1, .sh (8:Int) (by decide))] [(0, .int .u64 (Int.fdiv vx_2 (2 ^ min (8:Int).toNat 64))), (2, .int .i64 n_2)] [] (by kernel_rfl) ?_
      refine A.R W0 [] [] [(0, .int .u64 (Int.fdiv vx_2 (2 ^ min (8:Int).toNat 64))), (2, .int .i64 (w64 (n_2 + (8:Int))))] [] (by kernel_rfl) ?_
      exact Exists.intro (Int.fdiv vx_2 (2 ^ min (8:Int).toNat 64), w64 (n_2 + (8:Int))) (And.intro hm (Weak.go [] [] (by kernel_rfl)))
    refine A.cF rfl c3 ?_
    refine A.skip ?_
    exact Exists.intro (vx_2, n_2) (And.intro hm (Weak.go [] [] (by kernel_rfl)))
  rintro ⟨vx_3, n_3⟩ hm
  rw [hJ3] at hm
  obtain ⟨b_1, h1, hm⟩ := bnd_some hm
  refine A.RS W0 [] [(3, .is (⟨#[0, 1, 2, 2, 3, 3, 3, 3, 4, 4, 4, 4, 4, 4, 4, 4, 5, 5, 5, 5, 5, 5, 5, 5, 5, 5, 5, 5, 5, 5, 5, 5, 6, 6, 6, 6, 6, 6, 6, 6, 6, 6, 6, 6, 6, 6, 6, 6, 6, 6, 6, 6, 6, 6, 6, 6, 6, 6, 6, 6, 6, 6, 6, 6, 7, 7, 7, 7, 7, 7, 7, 7, 7, 7, 7, 7, 7, 7, 7, 7, 7, 7, 7, 7, 7, 7, 7, 7, 7, 7, 7, 7, 7, 7, 7, 7, 7, 7, 7, 7, 7, 7, 7, 7, 7, 7, 7, 7, 7, 7, 7, 7, 7, 7, 7, 7, 7, 7, 7, 7, 7, 7, 7, 7, 7, 7, 7, 7, 8, 8, 8, 8, 8, 8, 8, 8, 8, 8, 8, 8, 8, 8, 8, 8, 8, 8, 8, 8, 8, 8, 8, 8, 8, 8, 8, 8, 8, 8, 8, 8, 8, 8, 8, 8, 8, 8, 8, 8, 8, 8, 8, 8, 8, 8, 8, 8, 8, 8, 8, 8, 8, 8, 8, 8, 8, 8, 8, 8, 8, 8, 8, 8, 8, 8, 8, 8, 8, 8, 8, 8, 8, 8, 8, 8, 8, 8, 8, 8, 8, 8, 8, 8, 8, 8, 8, 8, 8, 8, 8, 8, 8, 8, 8, 8, 8, 8, 8, 8, 8, 8, 8, 8, 8, 8, 8, 8, 8, 8, 8, 8, 8, 8, 8, 8, 8, 8, 8, 8, 8, 8, 8, 8, 8, 8, 8, 8]⟩ : ByteArray) (IntKind.wrap .u8 vx_3) b_1 (ixS_some h1))] [(2, .int .i64 (w64 (n_3 + (w64 (b_1.toNat : Int)))))] [] (by kernel_rfl) ?_
  refine A.ret ?_
  obtain rfl := some_inj hm
  exact A.fin W0 [] rfl (by kernel_rfl)
theorem m_math_bits_Len_ok {xa0 : Int} {r : Int} (hm : m_math_bits_Len xa0 = some r) : RO Try.prog 69 [] [.int .u64 xa0] (.int .i64 r) := by
  refine enterA Try.func69 rfl rfl ?_
  unfold m_math_bits_Len at hm
  refine A.RS W0 [] [] [(0, .int .u64 xa0)] [] (by kernel_rfl) ?_
  refine A.seq ?_
  refine A.cF rfl rfl ?_
  refine A.skip ?_
  show acode _ _ _ _ _
  obtain ⟨vx_1, h1, hm⟩ := bnd_some hm
  refine A.RS W0 [] [(1, hro (m_math_bits_Len64_ok h1) ck81)] [(2, .int .i64 vx_1)] [] (by kernel_rfl) ?_
  refine A.ret ?_
  obtain rfl := some_inj hm
  exact A.fin W0 [] rfl (by kernel_rfl)
theorem m_slices_insertionSortOrdered_int_nil_ok  {r : Unit} (hm : m_slices_insertionSortOrdered_int_nil = some r) : RO Try.prog 71 [] [.nils, .int .i64 (0:Int), .int .i64 (0:Int)] (.tup []) := by
  refine enterA Try.func71 rfl rfl ?_
  unfold m_slices_insertionSortOrdered_int_nil at hm
  refine A.RS W0 [] [] [(0, .nils), (1, .int .i64 (0:Int)), (2, .int .i64 (0:Int)), (6, .int .i64 (1:Int))] [] (by kernel_rfl) ?_
  refine A.block ?_
  obtain ⟨F1, n1, hF1, hm⟩ := whl_some hm
  refine A.lpW (F := F1) hm (fun sg => match sg with | () => [(0, .nils), (1, .int .i64 (0:Int)), (2, .int .i64 (0:Int)), (6, .int .i64 (1:Int))]) (fun sg => match sg with | () => []) ?_ ?_
  · exact Weak.go [] [] (by kernel_rfl)
  rintro Z1 ⟨⟩ hm
  rw [hF1] at hm
  refine A.seq ?_
  refine A.RS W0 [] [] [(0, .nils), (1, .int .i64 (0:Int)), (2, .int .i64 (0:Int)), (6, .int .i64 (1:Int)), (12, .bool false)] [] (by kernel_rfl) ?_
  refine A.cF rfl rfl ?_
  refine A.exit ?_
  obtain rfl := some_inj hm
  exact A.fin W0 [] rfl (by kernel_rfl)
theorem m_slices_pdqsortOrdered_int_nil_ok {limit : Int} {r : Unit} (hm : m_slices_pdqsortOrdered_int_nil limit = some r) : RO Try.prog 68 [] [.nils, .int .i64 (0:Int), .int .i64 (0:Int), .int .i64 limit] (.tup []) := by
  refine enterA Try.func68 rfl rfl ?_
  unfold m_slices_pdqsortOrdered_int_nil at hm
  refine A.RS W0 [] [] [(0, .nils), (1, .int .i64 (0:Int)), (2, .int .i64 (0:Int)), (3, .int .i64 limit), (8, .bool true)] [] (by kernel_rfl) ?_
  refine A.RS W0 [] [] [(0, .nils), (1, .int .i64 (0:Int)), (2, .int .i64 (0:Int)), (3, .int .i64 limit), (8, .bool true), (9, .bool true)] [] (by kernel_rfl) ?_
  refine A.block ?_
  obtain ⟨F1, n1, hF1, hm⟩ := whl_some hm
  refine A.lpW (F := F1) hm (fun sg => match sg with | () => [(0, .nils), (1, .int .i64 (0:Int)), (2, .int .i64 (0:Int)), (3, .int .i64 limit), (8, .bool true), (9, .bool true)]) (fun sg => match sg with | () => []) ?_ ?_
  · exact Weak.go [] [] (by kernel_rfl)
  rintro Z1 ⟨⟩ hm
  rw [hF1] at hm
  refine A.block ?_
  refine A.RS W0 [] [] [(0, .nils), (1, .int .i64 (0:Int)), (2, .int .i64 (0:Int)), (3, .int .i64 limit), (8, .bool true), (9, .bool true), (10, .int .i64 (0:Int))] [] (by kernel_rfl) ?_
  refine A.seq ?_
  refine A.RS W0 [] [] [(0, .nils), (1, .int .i64 (0:Int)), (2, .int .i64 (0:Int)), (3, .int .i64 limit), (8, .bool true), (9, .bool true), (10, .int .i64 (0:Int)), (23, .bool true)] [] (by kernel_rfl) ?_
  refine A.cT rfl rfl ?_
  obtain ⟨vx_1, h1, hm⟩ := bnd_some hm
  refine A.RS W0 [] [(3, hroR 1 (m_slices_insertionSortOrdered_int_nil_ok h1) ck71)] [] [] (by kernel_rfl) ?_
  refine A.ret ?_
  obtain rfl := some_inj hm
  exact A.fin W0 [] rfl (by kernel_rfl)
theorem m_slices_Sort_Lint_int_nil_ok  {r : Unit} (hm : m_slices_Sort_Lint_int_nil = some r) : RO Try.prog 65 [] [.nils] (.tup []) := by
  refine enterA Try.func65 rfl rfl ?_
  unfold m_slices_Sort_Lint_int_nil at hm
  refine A.RS W0 [] [] [(0, .nils), (2, .int .i64 (0:Int))] [] (by kernel_rfl) ?_
  obtain ⟨vx_1, h1, hm⟩ := bnd_some hm
  obtain ⟨vx_2, h2, hm⟩ := bnd_some hm
  refine A.R W0 [] [(4, hro (m_math_bits_Len_ok h1) ck69), (5, hroR 1 (m_slices_pdqsortOrdered_int_nil_ok h2) ck68)] [] [] (by kernel_rfl) ?_
  obtain rfl := some_inj hm
  exact A.fin W0 [] rfl (by kernel_rfl)
end Go.Proofs.Ytckhladakpjlgaa
