/- The eC of cr of the program. No condition but bT bB stand in each. -/
import Derived.Test.YtpmifmdidfgpdaaGreatDL
import Derived.Test.YtpmifmdidfgpdaaGreatVG
import Derived.Test.YtpmifmdidfgpdaaGreatVTF
namespace Go.Proofs.YtpmifmdidfgpdaaGreat
open Go
set_option maxRecDepth 100000
set_option linter.all false
theorem zW  {r : aB × Bool} (hm : qM = some r) : bM Tryz.prog 34 [] [] (fun a σ' => a = .tup [.agg [lf az r.1.Links, .own 500003400, .own 500003401], .bool r.2] ∧ σ' = [(500003400, .slice 81 5 (ml aO r.1.aC) 0 false), (500003401, .slice 62 3 (ml aN r.1.aA) 0 false)]) := by
 refine aT Tryz.func34 rfl rfl ?_
 unfold qM at hm
 refine qS [(0, .al 34000)] [(0, .ptr 34000 0)] [(34000, .cells 27 [.aG, .aG, .aG])] ?_
 refine qD [(2, .al 34009), (4, .al 34011), (6, .al 34002)] [] [(2, .ptr 34002 0)] [] [(34009, .slice 87 2 (ml aU ([(aY.mk (1:Int) false), (aY.mk (2:Int) false)] : List aY)) 0 false), (34011, .slice 78 5 (ml az ([(aQ.mk (1:Int) (2:Int) (1:Int) (1:Int) (0:Int))] : List aQ)) 0 false), (34002, .cells 44 [.own 34009, .own 34011])] ?_
 obtain ⟨af, h1, hm⟩ := aa hm
 refine A.RS W0 [.fz [34009, 34011]] [(1, hro (wL h1) ck80), (5, .al 34003)] [(0, .ptr 34000 0), (3, .ptr 34003 0), (4, i6 af.2)] [(34000, .cells 27 [.aG, .aG, .aG]), (34003, .cells 27 (k11 af.1))] (by kernel_rfl) ?_
 obtain ⟨ay, h2, hm⟩ := aa hm
 refine qS [(1, hdc [500002800, 500002801] (oI h2) aph)] [(0, .ptr 34000 0), (3, .ptr 34003 0), (4, i6 af.2), (5, i6 ay.2)] [(34000, .cells 27 [.aG, .aG, .aG]), (34003, .cells 27 [lf az ay.1.Links, .own 500002800, .own 500002801]), (500002800, .slice 81 5 (ml aO ay.1.aC) 0 false), (500002801, .slice 62 3 (ml aN ay.1.aA) 0 false)] ?_
 obtain ⟨aK, h3, hm⟩ := aa hm
 refine A.RS W0 [.fz [500002800, 500002801]] [(1, hdc [510034001, 510034002] (SC.at [(500002800, 510034001), (500002801, 510034002)] (oI h3)) aph)] [(0, .ptr 34000 0), (3, .ptr 34003 0), (4, i6 af.2), (5, i6 ay.2), (6, i6 aK.2)] [(34000, .cells 27 [.aG, .aG, .aG]), (34003, .cells 27 [lf az aK.1.Links, .own 510034001, .own 510034002]), (510034001, .slice 81 5 (ml aO aK.1.aC) 0 false), (510034002, .slice 62 3 (ml aN aK.1.aA) 0 false)] (by kernel_rfl) ?_
 refine A.mid [(0, .ptr 34000 0), (1, .bool ((decide (af.2 = (0:Int))) && ((decide (ay.2 = (0:Int))) && (decide (aK.2 = (0:Int))))))] [(34000, .cells 27 [lf az aK.1.Links, .own 510034001, .own 510034002]), (510034001, .slice 81 5 (ml aO aK.1.aC) 0 false), (510034002, .slice 62 3 (ml aN aK.1.aA) 0 false)] (fun hk => ?_) ?_
 ·rcases tf (decide (af.2 = (0:Int))) with c1 | c1
  ·rcases tf (decide (ay.2 = (0:Int))) with c2 | c2
   ·exact qS [(3, hto (bE c1)), (7, hto (bE c2)), (12, hto ((qu (q := decide (aK.2 = (0:Int))) c2).trans (qu (q := ((decide (ay.2 = (0:Int))) && (decide (aK.2 = (0:Int))))) c1)))] _ _ hk
   exact qS [(3, hto (bE c1)), (7, hto (bE c2)), (12, hto ((rF (q := decide (aK.2 = (0:Int))) c2).trans (qu (q := ((decide (ay.2 = (0:Int))) && (decide (aK.2 = (0:Int))))) c1)))] _ _ hk
  exact qS [(3, hto (bE c1)), (12, hto (rF (q := ((decide (ay.2 = (0:Int))) && (decide (aK.2 = (0:Int))))) c1))] _ _ hk
 refine A.ret ?_
 obtain rfl := some_inj hm
 exact A.fin W0 [.sw 510034001 500003400, .sw 510034002 500003401] rfl (by kernel_rfl)
theorem zo  {r : Bool} (hm : pF = some r) : RO Tryz.prog 16 [] [] (.bool r) := by
 refine aT Tryz.func16 rfl rfl ?_
 unfold pF at hm
 refine qS [] [] [] ?_
 obtain ⟨af, h1, hm⟩ := aa hm
 refine qS [(0, hdc [500003400, 500003401] (zW h1) ck34), (4, .al 16001)] [(1, .ptr 16001 0), (2, .bool af.2)] [(500003400, .slice 81 5 (ml aO af.1.aC) 0 false), (500003401, .slice 62 3 (ml aN af.1.aA) 0 false), (16001, .cells 27 [lf az af.1.Links, .own 500003400, .own 500003401])] ?_
 obtain ⟨ay, h2, hm⟩ := aa hm
 refine A.RS W0 [.fz [500003400, 500003401]] [(1, hro (ru h2) ape)] [(1, .ptr 16001 0), (2, .bool af.2), (3, i6 ay.2)] [(16001, .cells 27 (k11 ay.1))] (by kernel_rfl) ?_
 rcases ai hm with ⟨c1,hm⟩|⟨c1,hm⟩
 ·rcases ai hm with ⟨c2,hm⟩|⟨c2,hm⟩
  ·rcases ai hm with ⟨c3,hm⟩|⟨c3,hm⟩
   ·obtain ⟨e_1, h3, hm⟩ := aa hm
    rcases ai hm with ⟨c4,hm⟩|⟨c4,hm⟩
    ·obtain ⟨aK, h4, hm⟩ := aa hm
     refine qS [(1, hto (bE c1)), (5, hto (bE c2)), (8, hto (lnE aO ay.1.aC)), (11, hto (bE c3)), (14, hix (ix aO h3)), (18, hto (lnE aH e_1.Database.aq)), (21, hto (bE c4)), (23, hro (vp h4) ck19)] [(0, .bool aK)] [] ?_
     cases hm
     exact A.ret qE
    refine qS [(1, hto (bE c1)), (5, hto (bE c2)), (8, hto (lnE aO ay.1.aC)), (11, hto (bE c3)), (14, hix (ix aO h3)), (18, hto (lnE aH e_1.Database.aq)), (21, hto (bE c4))] [(0, .bool false)] [] ?_
    cases hm
    exact A.ret qE
   refine qS [(1, hto (bE c1)), (5, hto (bE c2)), (8, hto (lnE aO ay.1.aC)), (11, hto (bE c3))] [(0, .bool false)] [] ?_
   cases hm
   exact A.ret qE
  refine qS [(1, hto (bE c1)), (5, hto (bE c2))] [(0, .bool false)] [] ?_
  cases hm
  exact A.ret qE
 refine qS [(1, hto (bE c1))] [(0, .bool false)] [] ?_
 cases hm
 exact A.ret qE
theorem aaF {f : aB} {r : Bool} (hm : oV f = some r) : RO Tryz.prog 12 [] [.agg (k11 f)] (.bool r) := by
 refine aT Tryz.func12 rfl rfl ?_
 unfold oV at hm
 refine qS [(0, .al 12001)] [(1, .ptr 12001 0)] [(12001, .cells 27 (k11 f))] ?_
 refine A.mid [(2, .bool ((decide ((100:Int) < (f.Links.length:Int))) || ((decide ((30:Int) < (f.aC.length:Int))) || (decide ((30:Int) < (f.aA.length:Int))))))] [] (fun hk => ?_) ?_
 ·rcases tf (decide ((100:Int) < (f.Links.length:Int))) with c1 | c1
  ·exact qS [(2, hto (lnE az f.Links)), (4, hto (bE c1)), (16, hto (orT (q := ((decide ((30:Int) < (f.aC.length:Int))) || (decide ((30:Int) < (f.aA.length:Int))))) c1))] _ _ hk
  rcases tf (decide ((30:Int) < (f.aC.length:Int))) with c2 | c2
  ·exact qS [(2, hto (lnE az f.Links)), (4, hto (bE c1)), (7, hto (lnE aO f.aC)), (10, hto (bE c2)), (16, hto ((orT (q := decide ((30:Int) < (f.aA.length:Int))) c2).trans (orF (q := ((decide ((30:Int) < (f.aC.length:Int))) || (decide ((30:Int) < (f.aA.length:Int))))) c1)))] _ _ hk
  exact qS [(2, hto (lnE az f.Links)), (4, hto (bE c1)), (7, hto (lnE aO f.aC)), (10, hto (bE c2)), (13, hto (lnE aN f.aA)), (16, hto ((orF (q := decide ((30:Int) < (f.aA.length:Int))) c2).trans (orF (q := ((decide ((30:Int) < (f.aC.length:Int))) || (decide ((30:Int) < (f.aA.length:Int))))) c1)))] _ _ hk
 cases hm
 exact A.ret qE
theorem zp {sa0 : aR} {f : aB} {n : Int} {r : aB × aR} (hm : nC sa0 f n = some r) : bM Tryz.prog 10 [(900000074, .cells 74 (k3 sa0))] [.ptr 900000074 0, .agg (k11 f), i6 n] (fun a σ' => a = .agg (k11 r.1) ∧ σ' = [(900000074, .cells 74 (k3 r.2))]) := by
 refine aT Tryz.func10 rfl rfl ?_
 unfold nC at hm
 refine qS [(0, .al 10004), (1, .al 10006)] [(0, .ptr 900000074 0), (2, i6 n), (4, .ptr 10004 0), (6, .ptr 10006 0)] [(900000074, .cells 74 (k3 sa0)), (10004, .cells 27 (k11 f)), (10006, .cells 27 [.aG, .aG, .aG])] ?_
 refine A.seq ?_
 obtain ⟨af, h1, hm⟩ := aa hm
 refine qD [(2, hdc [] (gI h1) y4)] [2] [(10, .bool (!af.1))] [900000074] [(900000074, .cells 74 (k3 af.2))] ?_
 rcases ai hm with ⟨c1,hm⟩|⟨c1,hm⟩
 ·refine qT c1 ?_
  refine qD [] [0, 4, 10] [] [10004, 10006] [(10006, .cells 27 (k11 f))] ?_
  cases hm
  exact A.ret qE
 refine qF c1 ?_
 refine A.skip ?_
 show ah _ _ _ _ _
 obtain ⟨J1, hJ1, hm⟩ := bJ hm
 refine A.J (J := J1) (r := r) (fun sg => match sg with | (m_1, m_2, m_3, m_4, m_5) => [(4, .ptr 10004 0), (6, .ptr 10006 0)]) (fun sg => match sg with | (m_1, m_2, m_3, m_4, m_5) => [(900000074, .cells 74 [lf bL m_1, i6 m_2]), (10004, .cells 27 [lf az m_3, lf aO m_4, lf aN m_5]), (10006, .cells 27 [.aG, .aG, .aG])]) ?_ ?_
 ·obtain ⟨ay, h2, hm⟩ := aa hm
  refine qD [(1, hdc [] (bO h2) iN)] [10] [(13, i6 ay.1)] [900000074] [(900000074, .cells 74 (k3 ay.2))] ?_
  refine A.block ?_
  refine qDs [] [] [(34, .bool (decide (ay.1 = (0:Int))))] ?_
  rcases ai hm with ⟨c2,hm⟩|⟨c2,hm⟩
  ·refine qT c2 ?_
   obtain ⟨l_1, h3, hm⟩ := aa hm
   obtain ⟨l_2, h4, hm⟩ := aa hm
   refine qG [(4, hto (lnE az f.Links)), (7, hto (lnE az f.Links)), (8, hs3 (sl az h3)), (11, hap 10547 (ap az (bytes := 40) (by decide) h4))] [0, 13, 34] [] [10004] [(10004, .cells 27 [.own 10547, lf aO f.aC, lf aN f.aA]), (10547, .slice 78 5 (ml az l_2) 0 false)] ?_
   exact Exists.intro (ay.2.L, ay.2.At, l_2, f.aC, f.aA) (And.intro hm (bA.go [.fz [10547], .sc 10004 [900000074, 10004, 10006]] [] (by kernel_rfl)))
  refine qF c2 ?_
  refine qDs [] [34] [(49, .bool (decide (ay.1 = (1:Int))))] ?_
  rcases ai hm with ⟨c3,hm⟩|⟨c3,hm⟩
  ·refine qT c3 ?_
   obtain ⟨l_3, h5, hm⟩ := aa hm
   obtain ⟨aK, h6, hm⟩ := aa hm
   obtain ⟨bh, h7, hm⟩ := aa hm
   obtain ⟨l_4, h8, hm⟩ := aa hm
   refine qG [(4, hto (lnE aO f.aC)), (7, hto (lnE aO f.aC)), (8, hs3 (sl aO h5)), (10, hdc [] (bO h6) iN), (12, hdc [] (gv h7) y5), (15, hap 10566 (ap aO (bytes := 72) (by decide) h8))] [0, 13, 49] [] [900000074, 10004] [(900000074, .cells 74 (k3 bh.2)), (10004, .cells 27 [lf az f.Links, .own 10566, lf aN f.aA]), (10566, .slice 81 5 (ml aO l_4) 0 false)] ?_
   exact Exists.intro (bh.2.L, bh.2.At, f.Links, l_4, f.aA) (And.intro hm (bA.go [.fz [10566], .sc 10004 [900000074, 10004, 10006]] [] (by kernel_rfl)))
  refine qF c3 ?_
  refine qDs [] [49] [(68, .bool (decide (ay.1 = (2:Int))))] ?_
  rcases ai hm with ⟨c4,hm⟩|⟨c4,hm⟩
  ·refine qT c4 ?_
   obtain ⟨l_5, h9, hm⟩ := aa hm
   obtain ⟨bI, h10, hm⟩ := aa hm
   obtain ⟨bV, h11, hm⟩ := aa hm
   obtain ⟨l_6, h12, hm⟩ := aa hm
   refine qG [(4, hto (lnE aN f.aA)), (7, hto (lnE aN f.aA)), (8, hs3 (sl aN h9)), (10, hdc [] (bO h10) iN), (12, hdc [] (bO h11) iN), (15, hap 10585 (ap aN (bytes := 40) (by decide) h12))] [0, 13, 68] [] [900000074, 10004] [(900000074, .cells 74 (k3 bV.2)), (10004, .cells 27 [lf az f.Links, lf aO f.aC, .own 10585]), (10585, .slice 62 3 (ml aN l_6) 0 false)] ?_
   exact Exists.intro (bV.2.L, bV.2.At, f.Links, f.aC, l_6) (And.intro hm (bA.go [.fz [10585], .sc 10004 [900000074, 10004, 10006]] [] (by kernel_rfl)))
  refine qF c4 ?_
  refine qDs [] [13, 68] [(87, .bool (decide (ay.1 = (3:Int))))] ?_
  rcases ai hm with ⟨c5,hm⟩|⟨c5,hm⟩
  ·refine qT c5 ?_
   obtain ⟨l_7, h13, hm⟩ := aa hm
   obtain ⟨cD, h14, hm⟩ := aa hm
   obtain ⟨l_8, h15, hm⟩ := aa hm
   refine qG [(4, hto (lnE aO f.aC)), (7, hto (lnE aO f.aC)), (8, hs3 (sl aO h13)), (10, hdc [] (SC.xK (r' := .agg (k7 cD.1)) (σ3 := [(900000074, .cells 74 (k3 cD.2))]) [500004900] (qa h14) (by kernel_rfl) (by kernel_rfl)) api), (13, hap 10602 (ap aO (bytes := 72) (by decide) h15))] [0, 87] [] [900000074, 10004] [(900000074, .cells 74 (k3 cD.2)), (10004, .cells 27 [lf az f.Links, .own 10602, lf aN f.aA]), (10602, .slice 81 5 (ml aO l_8) 0 false)] ?_
   exact Exists.intro (cD.2.L, cD.2.At, f.Links, l_8, f.aA) (And.intro hm (bA.go [.fz [10602], .sc 10004 [900000074, 10004, 10006]] [] (by kernel_rfl)))
  refine qF c5 ?_
  obtain ⟨l_9, h16, hm⟩ := aa hm
  obtain ⟨dg, h17, hm⟩ := aa hm
  obtain ⟨dB, h18, hm⟩ := aa hm
  obtain ⟨aej, h19, hm⟩ := aa hm
  refine qG [(4, hto (lnE aO f.aC)), (7, hto (lnE aO f.aC)), (8, hs3 (sl aO h16)), (10, hdc [] (bO h17) iN), (13, hdc [] (di h18) qw), (18, hap 10532 (ap aO (bytes := 72) (by decide) h19))] [0, 87] [] [900000074, 10004] [(900000074, .cells 74 (k3 dB.2)), (10004, .cells 27 [lf az f.Links, .own 10532, lf aN f.aA]), (10532, .slice 81 5 (ml aO aej) 0 false)] ?_
  exact Exists.intro (dB.2.L, dB.2.At, f.Links, aej, f.aA) (And.intro hm (bA.go [.fz [10532], .sc 10004 [900000074, 10004, 10006]] [] (by kernel_rfl)))
 rintro ⟨m_1, m_2, m_3, m_4, m_5⟩ hm
 rw [hJ1] at hm
 refine qD [] [4] [] [10004, 10006] [(10006, .cells 27 [lf az m_3, lf aO m_4, lf aN m_5])] ?_
 cases hm
 exact A.ret qE
end Go.Proofs.YtpmifmdidfgpdaaGreat
