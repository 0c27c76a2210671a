/- The walks of functions of the program. No condition but those that stand in each. -/
import Derived.Test.YtflifgcoleknlaaDL3
import Derived.Test.YtflifgcoleknlaaVR
import Derived.Test.YtflifgcoleknlaaVL
import Derived.Test.YtflifgcoleknlaaV3
namespace Go.Proofs.Ytflifgcoleknlaa
open Go
set_option maxRecDepth 100000
set_option linter.all false
theorem m_law06_ShortestUses_ok {t : List Int} {xa1 : Int} {y : Int} {z : Int} {raw : GHop} {r : Bool} (hm : m_law06_ShortestUses t xa1 y z raw = some r) : RO Try.prog 4 [] [lf eInt t, i6 xa1, i6 y, i6 z, .agg (k4 raw)] (.bool r) := by
 refine enterA Try.func4 rfl rfl ?_
 unfold m_law06_ShortestUses at hm
 refine qS [(0, .al 4009)] [(0, lf eInt t), (1, i6 xa1), (2, i6 y), (3, i6 z), (9, .ptr 4009 0)] [(4009, .cells 39 (k4 raw))] ?_
 obtain ⟨vx_1, h1, hm⟩ := bnd_some hm
 refine qD [(1, hdc [900000064] (m_mk_New_ok h1) ck12)] [0] [(11, .ptr 900000064 0)] [] [(900000064, .cells 64 (k3 vx_1))] ?_
 obtain ⟨vx_2, h2, hm⟩ := bnd_some hm
 refine qD [(1, hdc [500001300, 500001301] (m_mk_Tape_Topology_ok h2) ck13), (2, .al 4012)] [] [(12, .ptr 4012 0)] [900000064] [(900000064, .cells 64 (k3 vx_2.2)), (500001300, .slice 67 2 (ml eGRouter vx_2.1.Routers) 0 false), (500001301, .slice 42 5 (ml eGLink vx_2.1.Links) 0 false), (4012, .cells 28 [.own 500001300, .own 500001301])] ?_
 obtain ⟨vx_3, h3, hm⟩ := bnd_some hm
 obtain ⟨vx_4, h4, hm⟩ := bnd_some hm
 obtain ⟨vx_5, h5, hm⟩ := bnd_some hm
 refine A.RS W0 [.fz [500001300, 500001301]] [(2, hdc [] (m_mk_Tape_Router_ok h3) ck14), (5, hdc [] (m_mk_Tape_Router_ok h4) ck14), (8, hdc [] (m_mk_Tape_Router_ok h5) ck14)] [(1, i6 xa1), (2, i6 y), (3, i6 z), (9, .ptr 4009 0), (11, .ptr 900000064 0), (12, .ptr 4012 0), (13, i6 vx_3.1), (14, i6 vx_4.1), (15, i6 vx_5.1)] [(4009, .cells 39 (k4 raw)), (900000064, .cells 64 (k3 vx_5.2)), (500001300, .slice 67 2 (ml eGRouter vx_2.1.Routers) (ml eGRouter vx_2.1.Routers).length true), (500001301, .slice 42 5 (ml eGLink vx_2.1.Links) (ml eGLink vx_2.1.Links).length true), (4012, .cells 28 [.own 500001300, .own 500001301])] (by kernel_rfl) ?_
 obtain ⟨vx_6, h6, hm⟩ := bnd_some hm
 obtain ⟨vx_7, h7, hm⟩ := bnd_some hm
 refine qS [(2, hdc [] (m_mk_Tape_Router_ok h6) ck14), (5, hdc [] (m_mk_Tape_Router_ok h7) ck14), (7, .al 4016)] [(1, i6 xa1), (2, i6 y), (3, i6 z), (9, .ptr 4009 0), (11, .ptr 900000064 0), (12, .ptr 4012 0), (13, i6 vx_3.1), (14, i6 vx_4.1), (15, i6 vx_5.1), (16, .ptr 4016 0)] [(4009, .cells 39 (k4 raw)), (900000064, .cells 64 (k3 vx_7.2)), (500001300, .slice 67 2 (ml eGRouter vx_2.1.Routers) (ml eGRouter vx_2.1.Routers).length true), (500001301, .slice 42 5 (ml eGLink vx_2.1.Links) (ml eGLink vx_2.1.Links).length true), (4012, .cells 28 [.own 500001300, .own 500001301]), (4016, .cells 39 [i6 vx_6.1, i6 vx_7.1])] ?_
 obtain ⟨J1, hJ1, hm⟩ := jn_some hm
 refine A.J (J := J1) (r := r) (fun sg => match sg with | (m_1, m_2) => [(1, i6 xa1), (2, i6 y), (3, i6 z), (9, .ptr 4009 0), (12, .ptr 4012 0), (13, i6 vx_3.1), (14, i6 vx_4.1), (15, i6 vx_5.1), (16, .ptr 4016 0)]) (fun sg => match sg with | (m_1, m_2) => [(4009, .cells 39 (k4 raw)), (500001300, .slice 67 2 (ml eGRouter vx_2.1.Routers) (ml eGRouter vx_2.1.Routers).length true), (500001301, .slice 42 5 (ml eGLink vx_2.1.Links) (ml eGLink vx_2.1.Links).length true), (4012, .cells 28 [.own 500001300, .own 500001301]), (4016, .cells 39 [i6 m_1, i6 m_2])]) ?_ ?_
 ·obtain ⟨J2, hJ2, hm⟩ := jn_some hm
  refine A.J (J := J2) (r := r) (fun sg => match sg with | (v_1, m_3, m_4) => [(1, i6 xa1), (2, i6 y), (3, i6 z), (9, .ptr 4009 0), (11, .ptr 900000064 0), (12, .ptr 4012 0), (13, i6 vx_3.1), (14, i6 vx_4.1), (15, i6 vx_5.1), (16, .ptr 4016 0), (46, .bool v_1)]) (fun sg => match sg with | (v_1, m_3, m_4) => [(4009, .cells 39 (k4 raw)), (900000064, .cells 64 [lf eInt m_3, i6 m_4]), (500001300, .slice 67 2 (ml eGRouter vx_2.1.Routers) (ml eGRouter vx_2.1.Routers).length true), (500001301, .slice 42 5 (ml eGLink vx_2.1.Links) (ml eGLink vx_2.1.Links).length true), (4012, .cells 28 [.own 500001300, .own 500001301]), (4016, .cells 39 [i6 vx_6.1, i6 vx_7.1])]) ?_ ?_
  ·rcases cs_some hm with ⟨c1,hm⟩|⟨c1,hm⟩
   ·obtain ⟨vx_8, h8, hm⟩ := bnd_some hm
    refine qG [(2, hto (lnE eGLink vx_2.1.Links)), (4, hto (bE c1)), (6, hdc [] (m_mk_Tape_Next_ok h8) ck23)] [] [(46, .bool (decide ((0:Int) < vx_8.1)))] [900000064] [(900000064, .cells 64 (k3 vx_8.2))] ?_
    exact qX (decide ((0:Int) < vx_8.1), vx_8.2.L, vx_8.2.At) hm
   refine qGs [(2, hto (lnE eGLink vx_2.1.Links)), (4, hto (bE c1))] [] [(46, .bool false)] ?_
   exact qX (false, vx_7.2.L, vx_7.2.At) hm
  rintro ⟨v_1, m_3, m_4⟩ hm
  rw [hJ2] at hm
  rcases cs_some hm with ⟨c2,hm⟩|⟨c2,hm⟩
  ·refine qT c2 ?_
   obtain ⟨vx_9, h9, hm⟩ := bnd_some hm
   obtain ⟨e_1, h10, hm⟩ := bnd_some hm
   refine qD [(5, hto (lnE eGLink vx_2.1.Links)), (6, hdc [] (m_mk_Tape_Next_ok h9) ck23), (7, hix (ix eGLink h10)), (8, hlo 500001301 0 (ix eGLink h10)), (9, .al 4017)] [11, 46] [(17, .ptr 4017 0)] [900000064] [(4017, .cells 42 (k1 e_1))] ?_
   refine qG [] [17] [] [4016, 4017] [(4016, .cells 39 [i6 e_1.B, i6 e_1.A])] ?_
   exact qX (e_1.B, e_1.A) hm
  refine qF c2 ?_
  refine A.skip ?_
  exact qX (vx_6.1, vx_7.1) hm
 rintro ⟨m_1, m_2⟩ hm
 rw [hJ1] at hm
 obtain ⟨vx_10, h11, hm⟩ := bnd_some hm
 obtain ⟨vx_11, h12, hm⟩ := bnd_some hm
 rcases cs_some hm with ⟨c3,hm⟩|⟨c3,hm⟩
 ·obtain ⟨vx_12, h13, hm⟩ := bnd_some hm
  obtain ⟨vx_13, h14, hm⟩ := bnd_some hm
  rcases cs_some hm with ⟨c4,hm⟩|⟨c4,hm⟩
  ·obtain ⟨vx_14, h15, hm⟩ := bnd_some hm
   obtain ⟨vx_15, h16, hm⟩ := bnd_some hm
   rcases cs_some hm with ⟨c5,hm⟩|⟨c5,hm⟩
   ·obtain ⟨vx_16, h17, hm⟩ := bnd_some hm
    obtain ⟨vx_17, h18, hm⟩ := bnd_some hm
    rcases cs_some hm with ⟨c6,hm⟩|⟨c6,hm⟩
    ·obtain ⟨vx_18, h19, hm⟩ := bnd_some hm
     refine qS [(4, hro (m_shortest_Uses_ok h11) ck24), (9, hro (m_ref06_Uses_ok h12) ck25), (11, hto (bE c3)), (16, hro (m_shortest_Uses_ok h13) ck24), (21, hro (m_ref06_Uses_ok h14) ck25), (24, hto (bE c4)), (29, hro (m_shortest_Avoids_ok h15) ck26), (34, hro (m_ref06_Avoids_ok h16) ck27), (37, hto (bE c5)), (42, hro (m_shortest_Avoids_ok h17) ck26), (47, hro (m_ref06_Avoids_ok h18) ck27), (50, hto (bE c6)), (51, hro (m_law06_awake_ok h19) ck22)] [(10, .bool vx_18)] [] ?_
     cases hm
     exact A.ret qE
    refine qS [(4, hro (m_shortest_Uses_ok h11) ck24), (9, hro (m_ref06_Uses_ok h12) ck25), (11, hto (bE c3)), (16, hro (m_shortest_Uses_ok h13) ck24), (21, hro (m_ref06_Uses_ok h14) ck25), (24, hto (bE c4)), (29, hro (m_shortest_Avoids_ok h15) ck26), (34, hro (m_ref06_Avoids_ok h16) ck27), (37, hto (bE c5)), (42, hro (m_shortest_Avoids_ok h17) ck26), (47, hro (m_ref06_Avoids_ok h18) ck27), (50, hto (bE c6))] [(10, .bool false)] [] ?_
    cases hm
    exact A.ret qE
   refine qS [(4, hro (m_shortest_Uses_ok h11) ck24), (9, hro (m_ref06_Uses_ok h12) ck25), (11, hto (bE c3)), (16, hro (m_shortest_Uses_ok h13) ck24), (21, hro (m_ref06_Uses_ok h14) ck25), (24, hto (bE c4)), (29, hro (m_shortest_Avoids_ok h15) ck26), (34, hro (m_ref06_Avoids_ok h16) ck27), (37, hto (bE c5))] [(10, .bool false)] [] ?_
   cases hm
   exact A.ret qE
  refine qS [(4, hro (m_shortest_Uses_ok h11) ck24), (9, hro (m_ref06_Uses_ok h12) ck25), (11, hto (bE c3)), (16, hro (m_shortest_Uses_ok h13) ck24), (21, hro (m_ref06_Uses_ok h14) ck25), (24, hto (bE c4))] [(10, .bool false)] [] ?_
  cases hm
  exact A.ret qE
 refine qS [(4, hro (m_shortest_Uses_ok h11) ck24), (9, hro (m_ref06_Uses_ok h12) ck25), (11, hto (bE c3))] [(10, .bool false)] [] ?_
 cases hm
 exact A.ret qE
end Go.Proofs.Ytflifgcoleknlaa
