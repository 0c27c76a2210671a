/- The walks of functions of the program. No condition but those that stand in each. -/
import Derived.Test.YtckhladakpjlgaaD0
namespace Go.Proofs.Ytckhladakpjlgaa
open Go
set_option maxRecDepth 100000
set_option linter.all false
theorem m_ref04_Has_ok {l : List Int} {n : Int} {r : Bool} (hm : m_ref04_Has l n = some r) : RO Try.prog 53 [] [.lst false (ml eInt l), .int .i64 n] (.bool r) := by
  refine enterA Try.func53 rfl rfl ?_
  unfold m_ref04_Has at hm
  refine A.RS W0 [] [] [(0, .lst false (ml eInt l)), (1, .int .i64 n)] [] (by kernel_rfl) ?_
  refine A.seq ?_
  refine A.RS W0 [] [] [(0, .lst false (ml eInt l)), (1, .int .i64 n), (5, .int .i64 (0:Int))] [] (by kernel_rfl) ?_
  refine A.block ?_
  refine A.bS 0 rfl fun hb1 => ?_
  obtain ⟨B1, K1, hB1, hK1, hm⟩ := forI_some hm
  refine A.lpI (l := l) (j0 := 0) (B := B1) (K := K1) hm (fun j1 => fun sg => match sg with | () => [(0, .lst false (ml eInt l)), (1, .int .i64 n), (5, .int .i64 (j1 : Int))]) (fun j1 => fun sg => match sg with | () => []) ?_ ?_ ?_
  · exact Weak.go [] [] (by kernel_rfl)
  · skip
    rintro j1 e1 Z1 ⟨⟩ hj1 hx1 hm
    rw [hB1] at hm
    refine A.seq ?_
    refine A.RS W0 [] [(2, hto (lnE eInt l))] [(0, .lst false (ml eInt l)), (1, .int .i64 n), (5, .int .i64 (j1 : Int)), (9, .bool (decide ((j1 : Int) < (l.length:Int))))] [] (by kernel_rfl) ?_
    refine A.cT rfl (ltT hx1) ?_
    refine A.skip ?_
    show acode _ _ _ _ _
    refine A.seq ?_
    refine A.block ?_
    refine A.RS W0 [] [(2, hix (ix eInt (elO_nat hx1)))] [(0, .lst false (ml eInt l)), (1, .int .i64 n), (5, .int .i64 (j1 : Int)), (17, .bool (decide (e1 = n)))] [] (by kernel_rfl) ?_
    rcases cs_some hm with ⟨c1, hm⟩ | ⟨c1, hm⟩
    · skip
      refine A.cT rfl c1 ?_
      refine A.RS W0 [] [] [(4, .bool true)] [] (by kernel_rfl) ?_
      refine A.ret ?_
      obtain rfl := some_inj hm
      exact A.fin W0 [] rfl (by kernel_rfl)
    refine A.cF rfl c1 ?_
    refine A.skip ?_
    show acode _ _ _ _ _
    refine A.R W0 [] [(1, hto (inc hx1 hb1))] [(0, .lst false (ml eInt l)), (1, .int .i64 n), (5, .int .i64 ((j1 + 1 : Nat) : Int))] [] (by kernel_rfl) ?_
    exact Exists.intro () (And.intro hm (Weak.go [] [] (by kernel_rfl)))
  rintro j1 ⟨⟩ hj1 hl1 hm
  rw [hK1] at hm
  refine A.seq ?_
  refine A.RS W0 [] [(2, hto (lnE eInt l))] [(0, .lst false (ml eInt l)), (1, .int .i64 n), (5, .int .i64 (j1 : Int)), (9, .bool (decide ((j1 : Int) < (l.length:Int))))] [] (by kernel_rfl) ?_
  refine A.cF rfl (ltF hl1) ?_
  refine A.exit ?_
  show acode _ _ _ _ _
  refine A.RS W0 [] [] [(4, .bool false)] [] (by kernel_rfl) ?_
  refine A.ret ?_
  obtain rfl := some_inj hm
  exact A.fin W0 [] rfl (by kernel_rfl)
theorem m_ref04_Ints_ok {a : List Int} {b : List Int} {r : Bool} (hm : m_ref04_Ints a b = some r) : RO Try.prog 44 [] [.lst false (ml eInt a), .lst false (ml eInt b)] (.bool r) := by
  refine enterA Try.func44 rfl rfl ?_
  unfold m_ref04_Ints at hm
  refine A.RS W0 [] [] [(0, .lst false (ml eInt a)), (1, .lst false (ml eInt b))] [] (by kernel_rfl) ?_
  refine A.seq ?_
  refine A.RS W0 [] [(1, hto (lnE eInt a)), (3, hto (lnE eInt b))] [(0, .lst false (ml eInt a)), (1, .lst false (ml eInt b)), (10, .bool (!decide ((a.length:Int) = (b.length:Int))))] [] (by kernel_rfl) ?_
  rcases cs_some hm with ⟨c1, hm⟩ | ⟨c1, hm⟩
  · skip
    refine A.cT rfl c1 ?_
    refine A.RS W0 [] [] [(4, .bool false)] [] (by kernel_rfl) ?_
    refine A.ret ?_
    obtain rfl := some_inj hm
    exact A.fin W0 [] rfl (by kernel_rfl)
  refine A.cF rfl c1 ?_
  refine A.skip ?_
  show acode _ _ _ _ _
  refine A.seq ?_
  refine A.RS W0 [] [] [(0, .lst false (ml eInt a)), (1, .lst false (ml eInt b)), (5, .int .i64 (0:Int))] [] (by kernel_rfl) ?_
  refine A.block ?_
  refine A.bS 0 rfl fun hb1 => ?_
  obtain ⟨B1, K1, hB1, hK1, hm⟩ := forI_some hm
  refine A.lpI (l := a) (j0 := 0) (B := B1) (K := K1) hm (fun j1 => fun sg => match sg with | () => [(0, .lst false (ml eInt a)), (1, .lst false (ml eInt b)), (5, .int .i64 (j1 : Int))]) (fun j1 => fun sg => match sg with | () => []) ?_ ?_ ?_
  · exact Weak.go [] [] (by kernel_rfl)
  · skip
    rintro j1 e1 Z1 ⟨⟩ hj1 hx1 hm
    rw [hB1] at hm
    refine A.seq ?_
    refine A.RS W0 [] [(2, hto (lnE eInt a))] [(0, .lst false (ml eInt a)), (1, .lst false (ml eInt b)), (5, .int .i64 (j1 : Int)), (14, .bool (decide ((j1 : Int) < (a.length:Int))))] [] (by kernel_rfl) ?_
    refine A.cT rfl (ltT hx1) ?_
    refine A.skip ?_
    show acode _ _ _ _ _
    refine A.seq ?_
    refine A.block ?_
    obtain ⟨e_1, h1, hm⟩ := bnd_some hm
    refine A.RS W0 [] [(2, hix (ix eInt (elO_nat hx1))), (6, hix (ix eInt h1))] [(0, .lst false (ml eInt a)), (1, .lst false (ml eInt b)), (5, .int .i64 (j1 : Int)), (25, .bool (!decide (e1 = e_1)))] [] (by kernel_rfl) ?_
    rcases cs_some hm with ⟨c2, hm⟩ | ⟨c2, hm⟩
    · skip
      refine A.cT rfl c2 ?_
      refine A.RS W0 [] [] [(4, .bool false)] [] (by kernel_rfl) ?_
      refine A.ret ?_
      obtain rfl := some_inj hm
      exact A.fin W0 [] rfl (by kernel_rfl)
    refine A.cF rfl c2 ?_
    refine A.skip ?_
    show acode _ _ _ _ _
    refine A.R W0 [] [(1, hto (inc hx1 hb1))] [(0, .lst false (ml eInt a)), (1, .lst false (ml eInt b)), (5, .int .i64 ((j1 + 1 : Nat) : Int))] [] (by kernel_rfl) ?_
    exact Exists.intro () (And.intro hm (Weak.go [] [] (by kernel_rfl)))
  rintro j1 ⟨⟩ hj1 hl1 hm
  rw [hK1] at hm
  refine A.seq ?_
  refine A.RS W0 [] [(2, hto (lnE eInt a))] [(0, .lst false (ml eInt a)), (1, .lst false (ml eInt b)), (5, .int .i64 (j1 : Int)), (14, .bool (decide ((j1 : Int) < (a.length:Int))))] [] (by kernel_rfl) ?_
  refine A.cF rfl (ltF hl1) ?_
  refine A.exit ?_
  show acode _ _ _ _ _
  refine A.RS W0 [] [] [(4, .bool true)] [] (by kernel_rfl) ?_
  refine A.ret ?_
  obtain rfl := some_inj hm
  exact A.fin W0 [] rfl (by kernel_rfl)
end Go.Proofs.Ytckhladakpjlgaa
