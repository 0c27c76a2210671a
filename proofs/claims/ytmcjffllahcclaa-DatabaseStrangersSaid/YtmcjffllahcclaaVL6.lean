/- The walks of functions of the program. No condition but those that stand in each. -/
import Derived.Test.YtmcjffllahcclaaDL6
import Derived.Test.YtmcjffllahcclaaV8
import Derived.Test.YtmcjffllahcclaaVT
import Derived.Test.YtmcjffllahcclaaVL
import Derived.Test.YtmcjffllahcclaaVU
namespace Go.Proofs.Ytmcjffllahcclaa
open Go
set_option maxRecDepth 100000
set_option linter.all false
theorem m_law08_DatabaseStrangers_ok {t : List Int} {r : Bool} (hm : m_law08_DatabaseStrangers t = some r) : RO Try.prog 3 [] [.lst false (ml eInt t)] (.bool r) := by
  refine enterA Try.func3 rfl rfl ?_
  unfold m_law08_DatabaseStrangers at hm
  refine A.RS W0 [] [] [(0, .lst false (ml eInt t))] [] (by kernel_rfl) ?_
  obtain ⟨vx_1, h1, hm⟩ := bnd_some hm
  refine A.RS W0 [] [(1, hdc [900000045] (m_mk_New_ok h1) ck4)] [(3, .ptr 900000045 0)] [(900000045, .cells 45 [.lst false (ml eInt vx_1.L), .int .i64 vx_1.At])] (by kernel_rfl) ?_
  obtain ⟨vx_2, h2, hm⟩ := bnd_some hm
  refine A.RS W0 [] [(1, hdc [] (m_mk_Tape_Database_ok h2) ck5), (2, .al 3004)] [(3, .ptr 900000045 0), (4, .ptr 3004 0)] [(900000045, .cells 45 [.lst false (ml eInt vx_2.2.L), .int .i64 vx_2.2.At]), (3004, .cells 27 [.lst false (ml eGAdvert vx_2.1.Adverts)])] (by kernel_rfl) ?_
  obtain ⟨vx_3, h3, hm⟩ := bnd_some hm
  refine A.RS W0 [] [(1, hdc [] (m_mk_Tape_Advert_ok h3) ck6), (2, .al 3005)] [(4, .ptr 3004 0), (5, .ptr 3005 0)] [(3004, .cells 27 [.lst false (ml eGAdvert vx_2.1.Adverts)]), (3005, .cells 32 [.int .i64 vx_3.1.Router, .int .i64 vx_3.1.Seq, .bool vx_3.1.Capable, .lst false (ml eGReach vx_3.1.Links), .lst false (ml eGClaim vx_3.1.Claims)])] (by kernel_rfl) ?_
  obtain ⟨vx_4, h4, hm⟩ := bnd_some hm
  refine A.RS W0 [] [(2, hro (m_database_Put_ok h4) ck7), (6, .al 3006)] [(4, .ptr 3004 0), (6, .ptr 3006 0), (7, .bool vx_4.2)] [(3004, .cells 27 [.lst false (ml eGAdvert vx_2.1.Adverts)]), (3006, .cells 27 [.lst false (ml eGAdvert vx_4.1.Adverts)])] (by kernel_rfl) ?_
  refine A.seq ?_
  refine A.RS W0 [] [] [(4, .ptr 3004 0), (6, .ptr 3006 0), (23, .bool (!vx_4.2))] [(3004, .cells 27 [.lst false (ml eGAdvert vx_2.1.Adverts)]), (3006, .cells 27 [.lst false (ml eGAdvert vx_4.1.Adverts)])] (by kernel_rfl) ?_
  rcases cs_some hm with ⟨c1, hm⟩ | ⟨c1, hm⟩
  · skip
    refine A.cT rfl c1 ?_
    refine A.RS W0 [] [] [(2, .bool false)] [] (by kernel_rfl) ?_
    refine A.ret ?_
    obtain rfl := some_inj hm
    exact A.fin W0 [] rfl (by kernel_rfl)
  refine A.cF rfl c1 ?_
  refine A.skip ?_
  show acode _ _ _ _ _
  refine A.seq ?_
  refine A.RS W0 [] [] [(4, .ptr 3004 0), (6, .ptr 3006 0), (8, .int .i64 (0:Int))] [(3004, .cells 27 [.lst false (ml eGAdvert vx_2.1.Adverts)]), (3006, .cells 27 [.lst false (ml eGAdvert vx_4.1.Adverts)])] (by kernel_rfl) ?_
  refine A.block ?_
  refine A.bC 4 0 rfl rfl rfl fun hb1 => ?_
  obtain ⟨B1, K1, hB1, hK1, hm⟩ := forI_some hm
  refine A.lpI (l := vx_2.1.Adverts) (j0 := 0) (B := B1) (K := K1) hm (fun j1 => fun sg => match sg with | () => [(4, .ptr 3004 0), (6, .ptr 3006 0), (8, .int .i64 (j1 : Int))]) (fun j1 => fun sg => match sg with | () => [(3004, .cells 27 [.lst false (ml eGAdvert vx_2.1.Adverts)]), (3006, .cells 27 [.lst false (ml eGAdvert vx_4.1.Adverts)])]) ?_ ?_ ?_
  · exact Weak.go [] [] (by kernel_rfl)
  · skip
    rintro j1 e1 Z1 ⟨⟩ hj1 hx1 hm
    rw [hB1] at hm
    refine A.seq ?_
    refine A.RS W0 [] [(3, hto (lnE eGAdvert vx_2.1.Adverts))] [(4, .ptr 3004 0), (6, .ptr 3006 0), (8, .int .i64 (j1 : Int)), (28, .bool (decide ((j1 : Int) < (vx_2.1.Adverts.length:Int))))] [(3004, .cells 27 [.lst false (ml eGAdvert vx_2.1.Adverts)]), (3006, .cells 27 [.lst false (ml eGAdvert vx_4.1.Adverts)])] (by kernel_rfl) ?_
    refine A.cT rfl (ltT hx1) ?_
    refine A.skip ?_
    show acode _ _ _ _ _
    refine A.seq ?_
    refine A.block ?_
    refine A.RS W0 [] [(3, hix (ix eGAdvert (elO_nat hx1)))] [(4, .ptr 3004 0), (6, .ptr 3006 0), (8, .int .i64 (j1 : Int)), (9, .int .i64 e1.Router)] [(3004, .cells 27 [.lst false (ml eGAdvert vx_2.1.Adverts)]), (3006, .cells 27 [.lst false (ml eGAdvert vx_4.1.Adverts)])] (by kernel_rfl) ?_
    obtain ⟨vx_5, h5, hm⟩ := bnd_some hm
    obtain ⟨vx_6, h6, hm⟩ := bnd_some hm
    obtain ⟨vx_7, h7, hm⟩ := bnd_some hm
    refine A.RS W0 [] [(2, hro (m_database_View_ok h5) ck9), (5, hro (m_database_View_ok h6) ck9), (6, hro (m_ref05_Same_ok h7) ck8)] [(4, .ptr 3004 0), (6, .ptr 3006 0), (8, .int .i64 (j1 : Int)), (44, .bool (!vx_7))] [(3004, .cells 27 [.lst false (ml eGAdvert vx_2.1.Adverts)]), (3006, .cells 27 [.lst false (ml eGAdvert vx_4.1.Adverts)])] (by kernel_rfl) ?_
    rcases cs_some hm with ⟨c2, hm⟩ | ⟨c2, hm⟩
    · skip
      refine A.cT rfl c2 ?_
      refine A.RS W0 [] [] [(2, .bool false)] [] (by kernel_rfl) ?_
      refine A.ret ?_
      obtain rfl := some_inj hm
      exact A.fin W0 [] rfl (by kernel_rfl)
    refine A.cF rfl c2 ?_
    refine A.skip ?_
    show acode _ _ _ _ _
    refine A.R W0 [] [(1, hto (inc hx1 hb1))] [(4, .ptr 3004 0), (6, .ptr 3006 0), (8, .int .i64 ((j1 + 1 : Nat) : Int))] [(3004, .cells 27 [.lst false (ml eGAdvert vx_2.1.Adverts)]), (3006, .cells 27 [.lst false (ml eGAdvert vx_4.1.Adverts)])] (by kernel_rfl) ?_
    exact Exists.intro () (And.intro hm (Weak.go [] [] (by kernel_rfl)))
  rintro j1 ⟨⟩ hj1 hl1 hm
  rw [hK1] at hm
  refine A.seq ?_
  refine A.RS W0 [] [(3, hto (lnE eGAdvert vx_2.1.Adverts))] [(4, .ptr 3004 0), (6, .ptr 3006 0), (8, .int .i64 (j1 : Int)), (28, .bool (decide ((j1 : Int) < (vx_2.1.Adverts.length:Int))))] [(3004, .cells 27 [.lst false (ml eGAdvert vx_2.1.Adverts)]), (3006, .cells 27 [.lst false (ml eGAdvert vx_4.1.Adverts)])] (by kernel_rfl) ?_
  refine A.cF rfl (ltF hl1) ?_
  refine A.exit ?_
  show acode _ _ _ _ _
  obtain ⟨vx_8, h8, hm⟩ := bnd_some hm
  rcases cs_some hm with ⟨c3, hm⟩ | ⟨c3, hm⟩
  · skip
    obtain ⟨vx_9, h9, hm⟩ := bnd_some hm
    refine A.RS W0 [] [(1, hro (m_database_View_ok h8) ck9), (3, hto (lnE eGRouter vx_8.Routers)), (5, hto (bE c3)), (6, hro (m_law08_awake_ok h9) ck10)] [(2, .bool vx_9)] [] (by kernel_rfl) ?_
    refine A.ret ?_
    obtain rfl := some_inj hm
    exact A.fin W0 [] rfl (by kernel_rfl)
  refine A.RS W0 [] [(1, hro (m_database_View_ok h8) ck9), (3, hto (lnE eGRouter vx_8.Routers)), (5, hto (bE c3))] [(2, .bool false)] [] (by kernel_rfl) ?_
  refine A.ret ?_
  obtain rfl := some_inj hm
  exact A.fin W0 [] rfl (by kernel_rfl)
end Go.Proofs.Ytmcjffllahcclaa
