/- The eR of cw of the program. No condition but bT bF stand in each. -/
import Derived.Test.YtpmifmdidfgpdaaGreatDL
import Derived.Test.YtpmifmdidfgpdaaGreatVG
import Derived.Test.YtpmifmdidfgpdaaGreatVTF
namespace Go.Proofs.YtpmifmdidfgpdaaGreat
open Go
set_option maxRecDepth 100000
set_option linter.all false
theorem aaR  {r : aA × Bool} (hm : rH = some r) : bO Tryz.prog 34 [] [] (fun a σ' => a = .tup [.agg [lf az r.1.Links, .own 500003400, .own 500003401], .bool r.2] ∧ σ' = [(500003400, .slice 81 5 (ml aL r.1.aG) 0 false), (500003401, .slice 62 3 (ml aN r.1.aF) 0 false)]) := by
 refine aQ Tryz.func34 rfl rfl ?_
 unfold rH at hm
 refine qS [(0, .al 34000)] [(0, .ptr 34000 0)] [(34000, .cells 27 [.aD, .aD, .aD])] ?_
 refine qD [(2, .al 34009), (4, .al 34011), (6, .al 34002)] [] [(2, .ptr 34002 0)] [] [(34009, .slice 87 2 (ml aS ([(aZ.mk (1:Int) false), (aZ.mk (2:Int) false)] : List aZ)) 0 false), (34011, .slice 78 5 (ml az ([(aX.mk (1:Int) (2:Int) (1:Int) (1:Int) (0:Int))] : List aX)) 0 false), (34002, .cells 44 [.own 34009, .own 34011])] ?_
 obtain ⟨af, h1, hm⟩ := aa hm
 refine A.RS W0 [.fz [34009, 34011]] [(1, hro (xB h1) ck80), (5, .al 34003)] [(0, .ptr 34000 0), (3, .ptr 34003 0), (4, i6 af.2)] [(34000, .cells 27 [.aD, .aD, .aD]), (34003, .cells 27 (k11 af.1))] (by kernel_rfl) ?_
 obtain ⟨aq, h2, hm⟩ := aa hm
 refine qS [(1, hdc [500002800, 500002801] (lD h2) aiU)] [(0, .ptr 34000 0), (3, .ptr 34003 0), (4, i6 af.2), (5, i6 aq.2)] [(34000, .cells 27 [.aD, .aD, .aD]), (34003, .cells 27 [lf az aq.1.Links, .own 500002800, .own 500002801]), (500002800, .slice 81 5 (ml aL aq.1.aG) 0 false), (500002801, .slice 62 3 (ml aN aq.1.aF) 0 false)] ?_
 obtain ⟨aI, h3, hm⟩ := aa hm
 refine A.RS W0 [.fz [500002800, 500002801]] [(1, hdc [510034001, 510034002] (SC.at [(500002800, 510034001), (500002801, 510034002)] (lD h3)) aiU)] [(0, .ptr 34000 0), (3, .ptr 34003 0), (4, i6 af.2), (5, i6 aq.2), (6, i6 aI.2)] [(34000, .cells 27 [.aD, .aD, .aD]), (34003, .cells 27 [lf az aI.1.Links, .own 510034001, .own 510034002]), (510034001, .slice 81 5 (ml aL aI.1.aG) 0 false), (510034002, .slice 62 3 (ml aN aI.1.aF) 0 false)] (by kernel_rfl) ?_
 refine A.mid [(0, .ptr 34000 0), (1, .bool ((decide (af.2 = (0:Int))) && ((decide (aq.2 = (0:Int))) && (decide (aI.2 = (0:Int))))))] [(34000, .cells 27 [lf az aI.1.Links, .own 510034001, .own 510034002]), (510034001, .slice 81 5 (ml aL aI.1.aG) 0 false), (510034002, .slice 62 3 (ml aN aI.1.aF) 0 false)] (fun hk => ?_) ?_
 ·rcases tf (decide (af.2 = (0:Int))) with c1 | c1
  ·rcases tf (decide (aq.2 = (0:Int))) with c2 | c2
   ·exact qS [(3, hto (bE c1)), (7, hto (bE c2)), (12, hto ((qY (q := decide (aI.2 = (0:Int))) c2).trans (qY (q := ((decide (aq.2 = (0:Int))) && (decide (aI.2 = (0:Int))))) c1)))] _ _ hk
   exact qS [(3, hto (bE c1)), (7, hto (bE c2)), (12, hto ((rZ (q := decide (aI.2 = (0:Int))) c2).trans (qY (q := ((decide (aq.2 = (0:Int))) && (decide (aI.2 = (0:Int))))) c1)))] _ _ hk
  exact qS [(3, hto (bE c1)), (12, hto (rZ (q := ((decide (aq.2 = (0:Int))) && (decide (aI.2 = (0:Int))))) c1))] _ _ hk
 refine A.ret ?_
 obtain rfl := some_inj hm
 exact A.fin W0 [.sw 510034001 500003400, .sw 510034002 500003401] rfl (by kernel_rfl)
theorem uJ  {r : Bool} (hm : oc = some r) : RO Tryz.prog 16 [] [] (.bool r) := by
 refine aQ Tryz.func16 rfl rfl ?_
 unfold oc at hm
 refine qS [] [] [] ?_
 obtain ⟨af, h1, hm⟩ := aa hm
 refine qS [(0, hdc [500003400, 500003401] (aaR h1) ck34), (4, .al 16001)] [(1, .ptr 16001 0), (2, .bool af.2)] [(500003400, .slice 81 5 (ml aL af.1.aG) 0 false), (500003401, .slice 62 3 (ml aN af.1.aF) 0 false), (16001, .cells 27 [lf az af.1.Links, .own 500003400, .own 500003401])] ?_
 obtain ⟨aq, h2, hm⟩ := aa hm
 refine A.RS W0 [.fz [500003400, 500003401]] [(1, hro (xC h2) ck13)] [(1, .ptr 16001 0), (2, .bool af.2), (3, i6 aq.2)] [(16001, .cells 27 (k11 aq.1))] (by kernel_rfl) ?_
 rcases ah hm with ⟨c1,hm⟩|⟨c1,hm⟩
 ·rcases ah hm with ⟨c2,hm⟩|⟨c2,hm⟩
  ·rcases ah hm with ⟨c3,hm⟩|⟨c3,hm⟩
   ·obtain ⟨e_1, h3, hm⟩ := aa hm
    rcases ah hm with ⟨c4,hm⟩|⟨c4,hm⟩
    ·obtain ⟨aI, h4, hm⟩ := aa hm
     refine qS [(1, hto (bE c1)), (5, hto (bE c2)), (8, hto (lnE aL aq.1.aG)), (11, hto (bE c3)), (14, hix (ix aL h3)), (18, hto (lnE aJ e_1.Database.ay)), (21, hto (bE c4)), (23, hro (nj h4) aiS)] [(0, .bool aI)] [] ?_
     cases hm
     exact A.ret qE
    refine qS [(1, hto (bE c1)), (5, hto (bE c2)), (8, hto (lnE aL aq.1.aG)), (11, hto (bE c3)), (14, hix (ix aL h3)), (18, hto (lnE aJ e_1.Database.ay)), (21, hto (bE c4))] [(0, .bool false)] [] ?_
    cases hm
    exact A.ret qE
   refine qS [(1, hto (bE c1)), (5, hto (bE c2)), (8, hto (lnE aL aq.1.aG)), (11, hto (bE c3))] [(0, .bool false)] [] ?_
   cases hm
   exact A.ret qE
  refine qS [(1, hto (bE c1)), (5, hto (bE c2))] [(0, .bool false)] [] ?_
  cases hm
  exact A.ret qE
 refine qS [(1, hto (bE c1))] [(0, .bool false)] [] ?_
 cases hm
 exact A.ret qE
theorem vZ {f : aA} {r : Bool} (hm : kM f = some r) : RO Tryz.prog 12 [] [.agg (k11 f)] (.bool r) := by
 refine aQ Tryz.func12 rfl rfl ?_
 unfold kM at hm
 refine qS [(0, .al 12001)] [(1, .ptr 12001 0)] [(12001, .cells 27 (k11 f))] ?_
 refine A.mid [(2, .bool ((decide ((100:Int) < (f.Links.length:Int))) || ((decide ((30:Int) < (f.aG.length:Int))) || (decide ((30:Int) < (f.aF.length:Int))))))] [] (fun hk => ?_) ?_
 ·rcases tf (decide ((100:Int) < (f.Links.length:Int))) with c1 | c1
  ·exact qS [(2, hto (lnE az f.Links)), (4, hto (bE c1)), (16, hto (orT (q := ((decide ((30:Int) < (f.aG.length:Int))) || (decide ((30:Int) < (f.aF.length:Int))))) c1))] _ _ hk
  rcases tf (decide ((30:Int) < (f.aG.length:Int))) with c2 | c2
  ·exact qS [(2, hto (lnE az f.Links)), (4, hto (bE c1)), (7, hto (lnE aL f.aG)), (10, hto (bE c2)), (16, hto ((orT (q := decide ((30:Int) < (f.aF.length:Int))) c2).trans (orF (q := ((decide ((30:Int) < (f.aG.length:Int))) || (decide ((30:Int) < (f.aF.length:Int))))) c1)))] _ _ hk
  exact qS [(2, hto (lnE az f.Links)), (4, hto (bE c1)), (7, hto (lnE aL f.aG)), (10, hto (bE c2)), (13, hto (lnE aN f.aF)), (16, hto ((orF (q := decide ((30:Int) < (f.aF.length:Int))) c2).trans (orF (q := ((decide ((30:Int) < (f.aG.length:Int))) || (decide ((30:Int) < (f.aF.length:Int))))) c1)))] _ _ hk
 cases hm
 exact A.ret qE
theorem uK {sa0 : aP} {f : aA} {n : Int} {r : aA × aP} (hm : lP sa0 f n = some r) : bO Tryz.prog 10 [(900000074, .cells 74 (k3 sa0))] [.ptr 900000074 0, .agg (k11 f), i6 n] (fun a σ' => a = .agg (k11 r.1) ∧ σ' = [(900000074, .cells 74 (k3 r.2))]) := by
 refine aQ Tryz.func10 rfl rfl ?_
 unfold lP at hm
 refine qS [(0, .al 10004), (1, .al 10006)] [(0, .ptr 900000074 0), (2, i6 n), (4, .ptr 10004 0), (6, .ptr 10006 0)] [(900000074, .cells 74 (k3 sa0)), (10004, .cells 27 (k11 f)), (10006, .cells 27 [.aD, .aD, .aD])] ?_
 refine A.seq ?_
 obtain ⟨af, h1, hm⟩ := aa hm
 refine qD [(2, hdc [] (ia h1) zV)] [2] [(10, .bool (!af.1))] [900000074] [(900000074, .cells 74 (k3 af.2))] ?_
 rcases ah hm with ⟨c1,hm⟩|⟨c1,hm⟩
 ·refine qT c1 ?_
  refine qD [] [0, 4, 10] [] [10004, 10006] [(10006, .cells 27 (k11 f))] ?_
  cases hm
  exact A.ret qE
 refine qF c1 ?_
 refine A.skip ?_
 show ai _ _ _ _ _
 obtain ⟨J1, hJ1, hm⟩ := bB hm
 refine A.J (J := J1) (r := r) (fun sg => match sg with | (m_1, m_2, m_3, m_4, m_5) => [(4, .ptr 10004 0), (6, .ptr 10006 0)]) (fun sg => match sg with | (m_1, m_2, m_3, m_4, m_5) => [(900000074, .cells 74 [lf aY m_1, i6 m_2]), (10004, .cells 27 [lf az m_3, lf aL m_4, lf aN m_5]), (10006, .cells 27 [.aD, .aD, .aD])]) ?_ ?_
 ·obtain ⟨aq, h2, hm⟩ := aa hm
  refine qD [(1, hdc [] (bQ h2) jj)] [10] [(13, i6 aq.1)] [900000074] [(900000074, .cells 74 (k3 aq.2))] ?_
  refine A.block ?_
  refine qDs [] [] [(34, .bool (decide (aq.1 = (0:Int))))] ?_
  rcases ah hm with ⟨c2,hm⟩|⟨c2,hm⟩
  ·refine qT c2 ?_
   obtain ⟨l_1, h3, hm⟩ := aa hm
   obtain ⟨l_2, h4, hm⟩ := aa hm
   refine qG [(4, hto (lnE az f.Links)), (7, hto (lnE az f.Links)), (8, hs3 (sl az h3)), (11, hap 10547 (ap az (bytes := 40) (by decide) h4))] [0, 13, 34] [] [10004] [(10004, .cells 27 [.own 10547, lf aL f.aG, lf aN f.aF]), (10547, .slice 78 5 (ml az l_2) 0 false)] ?_
   exact Exists.intro (aq.2.L, aq.2.At, l_2, f.aG, f.aF) (And.intro hm (bz.go [.fz [10547], .sc 10004 [900000074, 10004, 10006]] [] (by kernel_rfl)))
  refine qF c2 ?_
  refine qDs [] [34] [(49, .bool (decide (aq.1 = (1:Int))))] ?_
  rcases ah hm with ⟨c3,hm⟩|⟨c3,hm⟩
  ·refine qT c3 ?_
   obtain ⟨l_3, h5, hm⟩ := aa hm
   obtain ⟨aI, h6, hm⟩ := aa hm
   obtain ⟨bk, h7, hm⟩ := aa hm
   obtain ⟨l_4, h8, hm⟩ := aa hm
   refine qG [(4, hto (lnE aL f.aG)), (7, hto (lnE aL f.aG)), (8, hs3 (sl aL h5)), (10, hdc [] (bQ h6) jj), (12, hdc [] (gM h7) zW), (15, hap 10566 (ap aL (bytes := 72) (by decide) h8))] [0, 13, 49] [] [900000074, 10004] [(900000074, .cells 74 (k3 bk.2)), (10004, .cells 27 [lf az f.Links, .own 10566, lf aN f.aF]), (10566, .slice 81 5 (ml aL l_4) 0 false)] ?_
   exact Exists.intro (bk.2.L, bk.2.At, f.Links, l_4, f.aF) (And.intro hm (bz.go [.fz [10566], .sc 10004 [900000074, 10004, 10006]] [] (by kernel_rfl)))
  refine qF c3 ?_
  refine qDs [] [49] [(68, .bool (decide (aq.1 = (2:Int))))] ?_
  rcases ah hm with ⟨c4,hm⟩|⟨c4,hm⟩
  ·refine qT c4 ?_
   obtain ⟨l_5, h9, hm⟩ := aa hm
   obtain ⟨bG, h10, hm⟩ := aa hm
   obtain ⟨b9, h11, hm⟩ := aa hm
   obtain ⟨l_6, h12, hm⟩ := aa hm
   refine qG [(4, hto (lnE aN f.aF)), (7, hto (lnE aN f.aF)), (8, hs3 (sl aN h9)), (10, hdc [] (bQ h10) jj), (12, hdc [] (bQ h11) jj), (15, hap 10585 (ap aN (bytes := 40) (by decide) h12))] [0, 13, 68] [] [900000074, 10004] [(900000074, .cells 74 (k3 b9.2)), (10004, .cells 27 [lf az f.Links, lf aL f.aG, .own 10585]), (10585, .slice 62 3 (ml aN l_6) 0 false)] ?_
   exact Exists.intro (b9.2.L, b9.2.At, f.Links, f.aG, l_6) (And.intro hm (bz.go [.fz [10585], .sc 10004 [900000074, 10004, 10006]] [] (by kernel_rfl)))
  refine qF c4 ?_
  refine qDs [] [13, 68] [(87, .bool (decide (aq.1 = (3:Int))))] ?_
  rcases ah hm with ⟨c5,hm⟩|⟨c5,hm⟩
  ·refine qT c5 ?_
   obtain ⟨l_7, h13, hm⟩ := aa hm
   obtain ⟨ct, h14, hm⟩ := aa hm
   obtain ⟨l_8, h15, hm⟩ := aa hm
   refine qG [(4, hto (lnE aL f.aG)), (7, hto (lnE aL f.aG)), (8, hs3 (sl aL h13)), (10, hdc [] (SC.yy (r' := .agg (k7 ct.1)) (σ3 := [(900000074, .cells 74 (k3 ct.2))]) [500004900] (qt h14) (by kernel_rfl) (by kernel_rfl)) aqb), (13, hap 10602 (ap aL (bytes := 72) (by decide) h15))] [0, 87] [] [900000074, 10004] [(900000074, .cells 74 (k3 ct.2)), (10004, .cells 27 [lf az f.Links, .own 10602, lf aN f.aF]), (10602, .slice 81 5 (ml aL l_8) 0 false)] ?_
   exact Exists.intro (ct.2.L, ct.2.At, f.Links, l_8, f.aF) (And.intro hm (bz.go [.fz [10602], .sc 10004 [900000074, 10004, 10006]] [] (by kernel_rfl)))
  refine qF c5 ?_
  obtain ⟨l_9, h16, hm⟩ := aa hm
  obtain ⟨dw, h17, hm⟩ := aa hm
  obtain ⟨dK, h18, hm⟩ := aa hm
  obtain ⟨afh, h19, hm⟩ := aa hm
  refine qG [(4, hto (lnE aL f.aG)), (7, hto (lnE aL f.aG)), (8, hs3 (sl aL h16)), (10, hdc [] (bQ h17) jj), (13, hdc [] (di h18) ri), (18, hap 10532 (ap aL (bytes := 72) (by decide) h19))] [0, 87] [] [900000074, 10004] [(900000074, .cells 74 (k3 dK.2)), (10004, .cells 27 [lf az f.Links, .own 10532, lf aN f.aF]), (10532, .slice 81 5 (ml aL afh) 0 false)] ?_
  exact Exists.intro (dK.2.L, dK.2.At, f.Links, afh, f.aF) (And.intro hm (bz.go [.fz [10532], .sc 10004 [900000074, 10004, 10006]] [] (by kernel_rfl)))
 rintro ⟨m_1, m_2, m_3, m_4, m_5⟩ hm
 rw [hJ1] at hm
 refine qD [] [4] [] [10004, 10006] [(10006, .cells 27 [lf az m_3, lf aL m_4, lf aN m_5])] ?_
 cases hm
 exact A.ret qE
end Go.Proofs.YtpmifmdidfgpdaaGreat
