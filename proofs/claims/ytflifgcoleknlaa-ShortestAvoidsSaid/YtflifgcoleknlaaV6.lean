/- The walks of functions of the program. No condition but those that stand in each. -/
import Derived.Test.YtflifgcoleknlaaDA
import Derived.Test.YtflifgcoleknlaaVC
import Derived.Test.YtflifgcoleknlaaSF
namespace Go.Proofs.Ytflifgcoleknlaa
open Go
set_option maxRecDepth 100000
set_option linter.all false
theorem m_shortest_valid_ok {t : GTopology} {r : Bool} (hm : m_shortest_valid t = some r) : RO Try.prog 46 [] [.agg (k2 t)] (.bool r) := by
 refine enterA Try.func46 rfl rfl ?_
 unfold m_shortest_valid at hm
 refine qS [(0, .al 46001)] [(1, .ptr 46001 0)] [(46001, .cells 28 (k2 t))] ?_
 obtain ⟨vx_1, h1, hm⟩ := bnd_some hm
 refine qS [(1, hro (m_topology_Check_ok h1) ck63)] [(2, .bool (decide (vx_1 = (0:Int))))] [] ?_
 cases hm
 exact A.ret qE
theorem m_shortest_read_ok {t : GTopology} {r : GShortest_graph} (hm : m_shortest_read t = some r) : RO Try.prog 47 [] [.agg (k2 t)] (.agg [.mpf (encM .i64 (vL eGShortest_step) r.out_), .mpf (encM .i64 (vL eGShortest_step) r.in_)]) := by
 refine enterA Try.func47 rfl rfl ?_
 unfold m_shortest_read at hm
 refine qS [(0, .al 47001), (1, .al 47002)] [(1, .ptr 47001 0), (2, .ptr 47002 0)] [(47001, .cells 28 (k2 t)), (47002, .cells 74 [.junk, .junk])] ?_
 refine qD [(0, .al 47009), (1, .al 47010), (3, .al 47003)] [] [(3, .ptr 47003 0)] [] [(47009, .map 3 86 (encM .i64 (vL eGShortest_step) [])), (47010, .map 3 86 (encM .i64 (vL eGShortest_step) [])), (47003, .cells 74 [.mapv 47009, .mapv 47010])] ?_
 refine A.weak (Weak.toOutM (d := 47009) (e := 450047009) rfl rfl rfl rfl rfl) ?_
 refine A.weak (Weak.toOutM (d := 47010) (e := 450047010) rfl rfl rfl rfl rfl) ?_
 refine A.seq ?_
 refine qS [(2, hto (lnE eGRouter t.Routers))] [(1, .ptr 47001 0), (2, .ptr 47002 0), (3, .ptr 47003 0), (13, lf eGRouter t.Routers), (14, i6 (t.Routers.length:Int)), (15, i6 0)] [(47001, .cells 28 (k2 t)), (47002, .cells 74 [.junk, .junk]), (47009, .outM 3 86 450047009 (encK .i64 ([] : List (Int × List GShortest_step))) none none), (450047009, .bun (encB 88 2 eGShortest_step.enc ([] : List (Int × List GShortest_step)))), (47010, .outM 3 86 450047010 (encK .i64 ([] : List (Int × List GShortest_step))) none none), (450047010, .bun (encB 88 2 eGShortest_step.enc ([] : List (Int × List GShortest_step)))), (47003, .cells 74 [.mapv 47009, .mapv 47010])] ?_
 refine A.block ?_
 refine A.bS 13 rfl fun hb1 => ?_
 obtain ⟨B1, K1, hB1, hK1, hm⟩ := forI_some hm
 refine A.lpI (l := t.Routers) (j0 := 0) (B := B1) (K := K1) hm (fun j1 => fun sg => match sg with | (m_1, m_2) => [(1, .ptr 47001 0), (2, .ptr 47002 0), (3, .ptr 47003 0), (13, lf eGRouter t.Routers), (14, i6 (t.Routers.length:Int)), (15, i6 (j1 : Int))]) (fun j1 => fun sg => match sg with | (m_1, m_2) => [(47001, .cells 28 (k2 t)), (47002, .cells 74 [.junk, .junk]), (47009, .outM 3 86 450047009 (encK .i64 m_1) none none), (450047009, .bun (encB 88 2 eGShortest_step.enc m_1)), (47010, .outM 3 86 450047010 (encK .i64 m_2) none none), (450047010, .bun (encB 88 2 eGShortest_step.enc m_2)), (47003, .cells 74 [.mapv 47009, .mapv 47010])]) ?_ ?_ ?_
 ·exact qW
 ·rintro j1 e1 Z1 ⟨m_1, m_2⟩ hj1 hx1 hm
  rw [hB1] at hm
  refine qDs [] [] [(16, .bool (decide ((j1 : Int) < (t.Routers.length:Int))))] ?_
  refine A.seq ?_
  refine qT (ltT hx1) ?_
  refine A.skip ?_
  show acode _ _ _ _ _
  refine A.seq ?_
  refine A.block ?_
  refine qD [(0, hix (ix eGRouter (elO_nat hx1))), (2, .al 47005)] [16] [(5, .ptr 47005 0)] [] [(47005, .cells 67 (k0 e1))] ?_
  refine qG [(8, hpm 88 2 530047001 m_1 e1.ID eGShortest_step.enc [] map72), (9, hpm 88 2 530047002 m_2 e1.ID eGShortest_step.enc [] map72)] [5] [] [47009, 450047009, 47010, 450047010, 47005] [(47009, .outM 3 86 530047001 (encK .i64 (setI m_1 e1.ID [])) none none), (530047001, .bun (encB 88 2 eGShortest_step.enc (setI m_1 e1.ID []))), (47010, .outM 3 86 530047002 (encK .i64 (setI m_2 e1.ID [])) none none), (530047002, .bun (encB 88 2 eGShortest_step.enc (setI m_2 e1.ID [])))] ?_
  show acode _ _ _ _ _
  refine qGs [(0, hto (inc hx1 hb1))] [15] [(15, i6 ((j1 + 1 : Nat) : Int))] ?_
  exact Exists.intro (setI m_1 e1.ID [], setI m_2 e1.ID []) (And.intro hm (Weak.go [.rn 530047001 450047009, .rn 530047002 450047010] [] (by kernel_rfl)))
 rintro j1 ⟨m_1, m_2⟩ hj1 hl1 hm
 rw [hK1] at hm
 refine qDs [] [] [(16, .bool (decide ((j1 : Int) < (t.Routers.length:Int))))] ?_
 refine A.seq ?_
 refine qF (ltF hl1) ?_
 refine A.exit ?_
 show acode _ _ _ _ _
 refine A.seq ?_
 refine qD [(2, hto (lnE eGLink t.Links))] [1, 13, 14, 15, 16] [(29, lf eGLink t.Links), (30, i6 (t.Links.length:Int)), (31, i6 0)] [47001] [] ?_
 refine A.block ?_
 refine A.bS 29 rfl fun hb2 => ?_
 obtain ⟨B2, K2, hB2, hK2, hm⟩ := forI_some hm
 refine A.lpI (l := t.Links) (j0 := 0) (B := B2) (K := K2) hm (fun j2 => fun sg => match sg with | (m_3, m_4) => [(2, .ptr 47002 0), (3, .ptr 47003 0), (29, lf eGLink t.Links), (30, i6 (t.Links.length:Int)), (31, i6 (j2 : Int))]) (fun j2 => fun sg => match sg with | (m_3, m_4) => [(47002, .cells 74 [.junk, .junk]), (47009, .outM 3 86 450047009 (encK .i64 m_3) none none), (450047009, .bun (encB 88 2 eGShortest_step.enc m_3)), (47010, .outM 3 86 450047010 (encK .i64 m_4) none none), (450047010, .bun (encB 88 2 eGShortest_step.enc m_4)), (47003, .cells 74 [.mapv 47009, .mapv 47010])]) ?_ ?_ ?_
 ·exact qW
 ·rintro j2 e2 Z2 ⟨m_3, m_4⟩ hj2 hx2 hm
  rw [hB2] at hm
  refine qDs [] [] [(32, .bool (decide ((j2 : Int) < (t.Links.length:Int))))] ?_
  refine A.seq ?_
  refine qT (ltT hx2) ?_
  refine A.skip ?_
  show acode _ _ _ _ _
  refine A.seq ?_
  refine A.block ?_
  refine qD [(0, hix (ix eGLink (elO_nat hx2))), (2, .al 47007)] [32] [(7, .ptr 47007 0)] [] [(47007, .cells 42 (k1 e2))] ?_
  obtain ⟨l_1, h1, hm⟩ := bnd_some hm
  refine qD [(8, htk 88 2 530047004 530047003 m_3 e2.A eGShortest_step.enc map72 Try.zeroValue86), (15, hap 47550 (ap eGShortest_step (bytes := 16) (by decide) h1)), (16, hpmT 88 2 530047005 m_3 e2.A eGShortest_step.enc l_1 530047003 map72)] [] [] [47009, 450047009] [(47009, .outM 3 86 530047005 (encK .i64 (setI m_3 e2.A l_1)) none none), (530047005, .bun (encB 88 2 eGShortest_step.enc (setI m_3 e2.A l_1)))] ?_
  obtain ⟨l_2, h2, hm⟩ := bnd_some hm
  refine qD [(8, htk 88 2 530047007 530047006 (setI m_3 e2.A l_1) e2.B eGShortest_step.enc map72 Try.zeroValue86), (15, hap 47566 (ap eGShortest_step (bytes := 16) (by decide) h2)), (16, hpmT 88 2 530047008 (setI m_3 e2.A l_1) e2.B eGShortest_step.enc l_2 530047006 map72)] [] [] [47009, 530047005] [(47009, .outM 3 86 530047008 (encK .i64 (setI (setI m_3 e2.A l_1) e2.B l_2)) none none), (530047008, .bun (encB 88 2 eGShortest_step.enc (setI (setI m_3 e2.A l_1) e2.B l_2)))] ?_
  obtain ⟨l_3, h3, hm⟩ := bnd_some hm
  refine qD [(8, htk 88 2 530047010 530047009 m_4 e2.B eGShortest_step.enc map72 Try.zeroValue86), (15, hap 47582 (ap eGShortest_step (bytes := 16) (by decide) h3)), (16, hpmT 88 2 530047011 m_4 e2.B eGShortest_step.enc l_3 530047009 map72)] [] [] [47010, 450047010] [(47010, .outM 3 86 530047011 (encK .i64 (setI m_4 e2.B l_3)) none none), (530047011, .bun (encB 88 2 eGShortest_step.enc (setI m_4 e2.B l_3)))] ?_
  obtain ⟨l_4, h4, hm⟩ := bnd_some hm
  refine qG [(8, htk 88 2 530047013 530047012 (setI m_4 e2.B l_3) e2.A eGShortest_step.enc map72 Try.zeroValue86), (15, hap 47598 (ap eGShortest_step (bytes := 16) (by decide) h4)), (16, hpmT 88 2 530047014 (setI m_4 e2.B l_3) e2.A eGShortest_step.enc l_4 530047012 map72)] [7] [] [47010, 530047011, 47007] [(47010, .outM 3 86 530047014 (encK .i64 (setI (setI m_4 e2.B l_3) e2.A l_4)) none none), (530047014, .bun (encB 88 2 eGShortest_step.enc (setI (setI m_4 e2.B l_3) e2.A l_4)))] ?_
  show acode _ _ _ _ _
  refine qGs [(0, hto (inc hx2 hb2))] [31] [(31, i6 ((j2 + 1 : Nat) : Int))] ?_
  exact Exists.intro (setI (setI m_3 e2.A l_1) e2.B l_2, setI (setI m_4 e2.B l_3) e2.A l_4) (And.intro hm (Weak.go [.rn 530047008 450047009, .rn 530047014 450047010] [] (by kernel_rfl)))
 rintro j2 ⟨m_3, m_4⟩ hj2 hl2 hm
 rw [hK2] at hm
 refine qDs [] [] [(32, .bool (decide ((j2 : Int) < (t.Links.length:Int))))] ?_
 refine A.seq ?_
 refine qF (ltF hl2) ?_
 refine A.exit ?_
 show acode _ _ _ _ _
 refine A.seq ?_
 refine A.fixO (d := 47009) rfl fun es1 ck1 => ?_
 refine qS [(2, hrg 47102 es1 ck1 map72)] [(2, .ptr 47002 0), (3, .ptr 47003 0), (102, .ptr 47102 0)] [(47002, .cells 74 [.junk, .junk]), (47009, .outM 3 86 450047009 (encK .i64 m_3) none (some (es1, ck1))), (450047009, .bun (encB 88 2 eGShortest_step.enc m_3)), (47010, .outM 3 86 450047010 (encK .i64 m_4) none none), (450047010, .bun (encB 88 2 eGShortest_step.enc m_4)), (47003, .cells 74 [.mapv 47009, .mapv 47010]), (47102, .iter 47009 ck1 ck1 (#[]))] ?_
 refine A.block ?_
 obtain ⟨R1, hR1, hm⟩ := bnd_some hm
 refine A.rng (dm := 47009) (di := 47102) (it := 102) (clock := ck1) (es := es1) hR1 (fun sg => sg.map (·.1) = m_3.map (·.1)) (fun m_5 => [(2, .ptr 47002 0), (3, .ptr 47003 0), (102, .ptr 47102 0)]) (fun sn1 => fun m_5 => [(47002, .cells 74 [.junk, .junk]), (47009, .outM 3 86 450047009 (encK .i64 m_5) none (some (es1, ck1))), (450047009, .bun (encB 88 2 eGShortest_step.enc m_5)), (47010, .outM 3 86 450047010 (encK .i64 m_4) none none), (450047010, .bun (encB 88 2 eGShortest_step.enc m_4)), (47003, .cells 74 [.mapv 47009, .mapv 47010]), (47102, .iter 47009 ck1 ck1 sn1)]) ⟨rfl, rfl, rfl⟩ ⟨rfl, rfl, rfl⟩ (by kernel_rfl) rfl (by intro n v g g1 hB hi; obtain ⟨c, hB⟩ := chk_some hB; obtain ⟨x, hx, hB⟩ := bnd_some hB; obtain rfl := some_inj hB; exact (setI_keys x c).trans hi) (fun _ => rfl) (fun _ _ => rfl) (fun _ _ => ⟨_, rfl, rfl⟩) (fun _ _ _ => rfl) (fun _ _ hi _ _ _ _ hW hn => lenO hW rfl hn hi) ?_ ?_ ?_
 ·exact qW
 ·rintro sn1 me1 mi1 n_1 v_1 m_5 gz1 hE1 hl1 hv1 hm
  refine A.block ?_
  refine qS [(0, heo 47102 47009 ck1 .i64 sn1 hE1 (key_at hv1 hl1))] [(2, .ptr 47002 0), (3, .ptr 47003 0), (102, .ptr 47102 0), (8, i6 n_1)] [(47002, .cells 74 [.junk, .junk]), (47009, .outM 3 86 450047009 (encK .i64 m_5) none (some (es1, ck1))), (450047009, .bun (encB 88 2 eGShortest_step.enc m_5)), (47010, .outM 3 86 450047010 (encK .i64 m_4) none none), (450047010, .bun (encB 88 2 eGShortest_step.enc m_4)), (47003, .cells 74 [.mapv 47009, .mapv 47010]), (47102, .iter 47009 ck1 ck1 (sn1.push me1.born))] ?_
  obtain ⟨h5, hm⟩ := chk_some hm
  obtain ⟨l_5, h6, hm⟩ := bnd_some hm
  refine qG [(3, htk 88 2 530047016 530047015 m_5 n_1 eGShortest_step.enc map72 Try.zeroValue86), (4, hdc [] (sort_65 (d := 530047015) (T := 88) h6) ck64)] [8] [] [47009, 450047009] [(47009, .outM 3 86 530047016 (encK .i64 m_5) (holeI m_5 n_1 530047015) (some (es1, ck1))), (530047016, .bun (encB 88 2 eGShortest_step.enc (holI m_5 n_1))), (530047015, .slice 88 2 (ml eGShortest_step l_5) 0 false)] ?_
  obtain rfl := some_inj hm
  exact ((Weak.backM (d := 47009) (e := 530047016) (e2 := 530047017) (t := 530047015) m_5 n_1 eGShortest_step.enc l_5 h5 rfl rfl rfl rfl rfl rfl rfl).trans (Weak.go [.rn 530047017 450047009] [] (by kernel_rfl)))
 intro sn1
 show acode _ _ _ _ _
 refine A.weak (Weak.frzM (d := 47009) (e := 450047009) R1 eGShortest_step.enc rfl rfl) ?_
 refine A.weak (Weak.frzM (d := 47010) (e := 450047010) m_4 eGShortest_step.enc rfl rfl) ?_
 refine qS [] [(2, .ptr 47002 0)] [(47002, .cells 74 [.mapv 47009, .mapv 47010]), (47009, .mapF 3 86 (encM .i64 (vL eGShortest_step) R1)), (47010, .mapF 3 86 (encM .i64 (vL eGShortest_step) m_4))] ?_
 cases hm
 exact A.ret qE
theorem m_shortest_distances_ok {links : List (Int × List GShortest_step)} {froma1 : Int} {r : (List (Int × Int))} (hm : m_shortest_distances links froma1 = some r) : RO Try.prog 49 [] [.mpf (encM .i64 (vL eGShortest_step) links), i6 froma1] (.mpf (encM .i64 (vI .i64) r)) := by
 refine enterA Try.func49 rfl rfl ?_
 unfold m_shortest_distances at hm
 refine qS [] [(0, .mpf (encM .i64 (vL eGShortest_step) links)), (1, i6 froma1)] [] ?_
 refine A.scope ?_
 refine qS [(0, .al 49019)] [(0, .mpf (encM .i64 (vL eGShortest_step) links)), (1, i6 froma1), (5, .mapv 49019)] [(49019, .map 3 3 (encM .i64 (vI .i64) []))] ?_
 refine A.seq ?_
 refine qDs [(2, hlf links froma1 (vL eGShortest_step) [] map72 (zSl eGShortest_step Try.zeroValue86))] [] [(7, .bool ((getI links froma1).isSome))] ?_
 refine qDs [] [7] [(27, .bool (!((getI links froma1).isSome)))] ?_
 rcases cs_some hm with ⟨c1,hm⟩|⟨c1,hm⟩
 ·refine qT c1 ?_
  refine qDs [] [0, 1, 5, 27] [(4, .mapv 49019)] ?_
  refine A.ret ?_
  obtain rfl := some_inj hm
  exact A.fin W0 [.fz [49019]] rfl (by kernel_rfl)
 refine qF c1 ?_
 refine A.skip ?_
 show acode _ _ _ _ _
 refine qD [(0, .al 49029), (2, hmu (mu (k := .i64) (enc := (vI .i64)) [] froma1 (0:Int) rfl))] [1, 27] [(8, .mapv 49029)] [] [(49029, .map 3 3 (encM .i64 (vI .i64) (setI [] froma1 (0:Int))))] ?_
 refine A.seq ?_
 refine A.label ?_
 show acode _ _ _ _ _
 obtain ⟨J1, hJ1, hm⟩ := jn_some hm
 refine A.J (J := J1) (r := r) (fun sg => match sg with | (m_1, m_2) => [(5, .mapv 49019)]) (fun sg => match sg with | (m_1, m_2) => [(49019, .map 3 3 (encM .i64 (vI .i64) m_1))]) ?_ ?_
 ·refine A.block ?_
  obtain ⟨F1, n1, hF1, hm⟩ := whl_some hm
  refine A.lpW (F := F1) hm (fun sg => match sg with | (m_3, m_4) => [(0, .mpf (encM .i64 (vL eGShortest_step) links)), (5, .mapv 49019), (8, .mapv 49029)]) (fun sg => match sg with | (m_3, m_4) => [(49019, .map 3 3 (encM .i64 (vI .i64) m_3)), (49029, .map 3 3 (encM .i64 (vI .i64) m_4))]) ?_ ?_
  ·exact qW
  rintro Z1 ⟨m_3, m_4⟩ hm
  rw [hF1] at hm
  refine A.seq ?_
  refine qDs [(1, hlm (lm (k := .i64) (enc := (vI .i64)) m_4))] [] [(34, .bool (decide ((0:Int) < (m_4.length:Int))))] ?_
  rcases cs_some hm with ⟨c2,hm⟩|⟨c2,hm⟩
  ·refine qT c2 ?_
   refine A.skip ?_
   show acode _ _ _ _ _
   refine A.block ?_
   refine qDs [] [34] [(9, i6 0)] ?_
   refine A.seq ?_
   refine A.fixM (d := 49029) rfl fun es1 ck1 => ?_
   refine qS [(1, hrg 49036 es1 ck1 map77)] [(0, .mpf (encM .i64 (vL eGShortest_step) links)), (5, .mapv 49019), (8, .mapv 49029), (9, i6 0), (36, .ptr 49036 0)] [(49019, .map 3 3 (encM .i64 (vI .i64) m_3)), (49029, .mapx es1 ck1 3 3 (encM .i64 (vI .i64) m_4)), (49036, .iter 49029 ck1 ck1 (#[]))] ?_
   refine A.block ?_
   obtain ⟨R1, hR1, hm⟩ := bnd_some hm
   refine A.rng (dm := 49029) (di := 49036) (it := 36) (clock := ck1) (es := es1) hR1 (fun _ => True) (fun best_1 => [(0, .mpf (encM .i64 (vL eGShortest_step) links)), (5, .mapv 49019), (8, .mapv 49029), (9, i6 best_1), (36, .ptr 49036 0)]) (fun sn1 => fun best_1 => [(49019, .map 3 3 (encM .i64 (vI .i64) m_3)), (49029, .mapx es1 ck1 3 3 (encM .i64 (vI .i64) m_4)), (49036, .iter 49029 ck1 ck1 sn1)]) ⟨rfl, rfl, rfl⟩ ⟨rfl, rfl, rfl⟩ (by kernel_rfl) trivial (fun _ _ _ _ _ _ => trivial) (fun _ => rfl) (fun _ _ => rfl) (fun _ _ => ⟨_, rfl, rfl⟩) (fun _ _ _ => rfl) (fun _ _ _ _ _ _ _ hW hn => lenX hW rfl hn) ?_ ?_ ?_
   ·exact qW
   ·rintro sn1 me1 mi1 n_1 v_1 best_1 gz1 hE1 hl1 hv1 hm
    refine A.block ?_
    refine qS [(0, hex 49036 49029 ck1 .i64 sn1 (vI .i64) hE1 hl1)] [(0, .mpf (encM .i64 (vL eGShortest_step) links)), (5, .mapv 49019), (8, .mapv 49029), (9, i6 best_1), (36, .ptr 49036 0), (10, i6 n_1), (11, i6 v_1)] [(49019, .map 3 3 (encM .i64 (vI .i64) m_3)), (49029, .mapx es1 ck1 3 3 (encM .i64 (vI .i64) m_4)), (49036, .iter 49029 ck1 ck1 (sn1.push me1.born))] ?_
    refine A.mid [(0, .mpf (encM .i64 (vL eGShortest_step) links)), (5, .mapv 49019), (8, .mapv 49029), (9, i6 best_1), (36, .ptr 49036 0), (10, i6 n_1), (62, .bool ((decide (best_1 = (0:Int))) || ((decide (v_1 < ((getI m_4 best_1).getD (0:Int)))) || ((decide (v_1 = ((getI m_4 best_1).getD (0:Int)))) && (decide (n_1 < best_1))))))] [(49019, .map 3 3 (encM .i64 (vI .i64) m_3)), (49029, .mapx es1 ck1 3 3 (encM .i64 (vI .i64) m_4)), (49036, .iter 49029 ck1 ck1 (sn1.push me1.born))] (fun hk => ?_) ?_
    ·rcases tf (decide (best_1 = (0:Int))) with c3 | c3
     ·exact qS [(2, hto (bE c3)), (20, hto (orT (q := ((decide (v_1 < ((getI m_4 best_1).getD (0:Int)))) || ((decide (v_1 = ((getI m_4 best_1).getD (0:Int)))) && (decide (n_1 < best_1))))) c3))] _ _ hk
     rcases tf (decide (v_1 < ((getI m_4 best_1).getD (0:Int)))) with c4 | c4
     ·exact qS [(2, hto (bE c3)), (6, hlf m_4 best_1 (vI .i64) (0:Int) map77 (zI (k := .i64) Try.zeroValue3)), (9, hto (bE c4)), (20, hto ((orT (q := ((decide (v_1 = ((getI m_4 best_1).getD (0:Int)))) && (decide (n_1 < best_1)))) c4).trans (orF (q := ((decide (v_1 < ((getI m_4 best_1).getD (0:Int)))) || ((decide (v_1 = ((getI m_4 best_1).getD (0:Int)))) && (decide (n_1 < best_1))))) c3)))] _ _ hk
     rcases tf (decide (v_1 = ((getI m_4 best_1).getD (0:Int)))) with c5 | c5
     ·exact qS [(2, hto (bE c3)), (6, hlf m_4 best_1 (vI .i64) (0:Int) map77 (zI (k := .i64) Try.zeroValue3)), (9, hto (bE c4)), (13, hlf m_4 best_1 (vI .i64) (0:Int) map77 (zI (k := .i64) Try.zeroValue3)), (15, hto (bE c5)), (20, hto (((andT (q := decide (n_1 < best_1)) c5).trans (orF (q := ((decide (v_1 = ((getI m_4 best_1).getD (0:Int)))) && (decide (n_1 < best_1)))) c4)).trans (orF (q := ((decide (v_1 < ((getI m_4 best_1).getD (0:Int)))) || ((decide (v_1 = ((getI m_4 best_1).getD (0:Int)))) && (decide (n_1 < best_1))))) c3)))] _ _ hk
     exact qS [(2, hto (bE c3)), (6, hlf m_4 best_1 (vI .i64) (0:Int) map77 (zI (k := .i64) Try.zeroValue3)), (9, hto (bE c4)), (13, hlf m_4 best_1 (vI .i64) (0:Int) map77 (zI (k := .i64) Try.zeroValue3)), (15, hto (bE c5)), (20, hto (((andF (q := decide (n_1 < best_1)) c5).trans (orF (q := ((decide (v_1 = ((getI m_4 best_1).getD (0:Int)))) && (decide (n_1 < best_1)))) c4)).trans (orF (q := ((decide (v_1 < ((getI m_4 best_1).getD (0:Int)))) || ((decide (v_1 = ((getI m_4 best_1).getD (0:Int)))) && (decide (n_1 < best_1))))) c3)))] _ _ hk
    rcases cs_some hm with ⟨c6,hm⟩|⟨c6,hm⟩
    ·refine qT c6 ?_
     refine qGs [] [9, 10, 62] [(9, i6 n_1)] ?_
     obtain rfl := some_inj hm
     exact (qW)
    refine qF c6 ?_
    refine A.skip ?_
    obtain rfl := some_inj hm
    exact (qW)
   intro sn1
   show acode _ _ _ _ _
   refine A.weak (Weak.unfix (d := 49029) rfl) ?_
   refine qS [(2, hlk (lk (E := 3) (k := .i64) (enc := (vI .i64)) m_4 R1 (0:Int) (fun w => ⟨_, Try.zeroValue3 w, fun I => by simp [RepC, vI, vB]⟩)))] [(0, .mpf (encM .i64 (vL eGShortest_step) links)), (5, .mapv 49019), (8, .mapv 49029), (9, i6 R1), (12, i6 ((getI m_4 R1).getD (0:Int)))] [(49019, .map 3 3 (encM .i64 (vI .i64) m_3)), (49029, .map 3 3 (encM .i64 (vI .i64) m_4))] ?_
   refine qD [(2, hde m_4 R1 (vI .i64) map77)] [] [] [49029] [(49029, .map 3 3 (encM .i64 (vI .i64) (delI m_4 R1)))] ?_
   refine qD [(3, hmu (mu (k := .i64) (enc := (vI .i64)) m_3 R1 ((getI m_4 R1).getD (0:Int)) rfl))] [] [] [49019] [(49019, .map 3 3 (encM .i64 (vI .i64) (setI m_3 R1 ((getI m_4 R1).getD (0:Int)))))] ?_
   refine A.seq ?_
   refine qDs [(1, hlm (lm (k := .i64) (enc := (vI .i64)) (setI m_3 R1 ((getI m_4 R1).getD (0:Int))))), (3, hnf links (vL eGShortest_step) map72)] [] [(76, .bool (decide (((setI m_3 R1 ((getI m_4 R1).getD (0:Int))).length:Int) = (links.length:Int))))] ?_
   rcases cs_some hm with ⟨c7,hm⟩|⟨c7,hm⟩
   ·refine qT c7 ?_
    refine A.exit ?_
    exact qX (setI m_3 R1 ((getI m_4 R1).getD (0:Int)), delI m_4 R1) hm
   refine qF c7 ?_
   refine A.skip ?_
   show acode _ _ _ _ _
   refine qDs [(2, hlf links R1 (vL eGShortest_step) [] map72 (zSl eGShortest_step Try.zeroValue86)), (3, hto (lnE eGShortest_step ((getI links R1).getD [])))] [9, 76] [(79, lf eGShortest_step ((getI links R1).getD [])), (80, i6 (((getI links R1).getD []).length:Int)), (81, i6 0)] ?_
   refine A.block ?_
   refine A.bS 79 rfl fun hb2 => ?_
   obtain ⟨B2, K2, hB2, hK2, hm⟩ := forI_some hm
   refine A.lpI (l := ((getI links R1).getD [])) (j0 := 0) (B := B2) (K := K2) hm (fun j2 => fun m_5 => [(0, .mpf (encM .i64 (vL eGShortest_step) links)), (5, .mapv 49019), (8, .mapv 49029), (12, i6 ((getI m_4 R1).getD (0:Int))), (79, lf eGShortest_step ((getI links R1).getD [])), (80, i6 (((getI links R1).getD []).length:Int)), (81, i6 (j2 : Int))]) (fun j2 => fun m_5 => [(49019, .map 3 3 (encM .i64 (vI .i64) (setI m_3 R1 ((getI m_4 R1).getD (0:Int))))), (49029, .map 3 3 (encM .i64 (vI .i64) m_5))]) ?_ ?_ ?_
   ·exact qW
   ·rintro j2 e2 Z2 m_5 hj2 hx2 hm
    rw [hB2] at hm
    refine qDs [] [] [(82, .bool (decide ((j2 : Int) < (((getI links R1).getD []).length:Int))))] ?_
    refine A.seq ?_
    refine qT (ltT hx2) ?_
    refine A.skip ?_
    show acode _ _ _ _ _
    obtain ⟨J2, hJ2, hm⟩ := jn_some hm
    refine A.J (J := J2) (r := r) (fun m_6 => [(0, .mpf (encM .i64 (vL eGShortest_step) links)), (5, .mapv 49019), (8, .mapv 49029), (12, i6 ((getI m_4 R1).getD (0:Int))), (79, lf eGShortest_step ((getI links R1).getD [])), (80, i6 (((getI links R1).getD []).length:Int)), (81, i6 (j2 : Int))]) (fun m_6 => [(49019, .map 3 3 (encM .i64 (vI .i64) (setI m_3 R1 ((getI m_4 R1).getD (0:Int))))), (49029, .map 3 3 (encM .i64 (vI .i64) m_6))]) ?_ ?_
    ·refine A.block ?_
     refine qD [(0, hix (ix eGShortest_step (elO_nat hx2))), (2, .al 49014)] [82] [(14, .ptr 49014 0)] [] [(49014, .cells 88 (k6 e2))] ?_
     refine A.seq ?_
     refine qDs [(3, hlk (lk (E := 3) (k := .i64) (enc := (vI .i64)) (setI m_3 R1 ((getI m_4 R1).getD (0:Int))) e2.to_ (0:Int) (fun w => ⟨_, Try.zeroValue3 w, fun I => by simp [RepC, vI, vB]⟩)))] [] [(16, .bool ((getI (setI m_3 R1 ((getI m_4 R1).getD (0:Int))) e2.to_).isSome))] ?_
     refine qDs [] [16] [(92, .bool ((getI (setI m_3 R1 ((getI m_4 R1).getD (0:Int))) e2.to_).isSome))] ?_
     rcases cs_some hm with ⟨c8,hm⟩|⟨c8,hm⟩
     ·refine qT c8 ?_
      refine A.exit ?_
      exact qX m_5 hm
     refine qF c8 ?_
     refine A.skip ?_
     show acode _ _ _ _ _
     refine qDs [(3, hlk (lk (E := 3) (k := .i64) (enc := (vI .i64)) m_5 e2.to_ (0:Int) (fun w => ⟨_, Try.zeroValue3 w, fun I => by simp [RepC, vI, vB]⟩)))] [92] [(17, i6 ((getI m_5 e2.to_).getD (0:Int))), (18, .bool ((getI m_5 e2.to_).isSome))] ?_
     refine A.mid [(0, .mpf (encM .i64 (vL eGShortest_step) links)), (5, .mapv 49019), (8, .mapv 49029), (12, i6 ((getI m_4 R1).getD (0:Int))), (79, lf eGShortest_step ((getI links R1).getD [])), (80, i6 (((getI links R1).getD []).length:Int)), (81, i6 (j2 : Int)), (14, .ptr 49014 0), (109, .bool ((!((getI m_5 e2.to_).isSome)) || (decide (w64 (((getI m_4 R1).getD (0:Int)) + e2.cost_) < ((getI m_5 e2.to_).getD (0:Int))))))] [(49019, .map 3 3 (encM .i64 (vI .i64) (setI m_3 R1 ((getI m_4 R1).getD (0:Int))))), (49029, .map 3 3 (encM .i64 (vI .i64) m_5)), (49014, .cells 88 (k6 e2))] (fun hk => ?_) ?_
     ·rcases tf (!((getI m_5 e2.to_).isSome)) with c9 | c9
      ·exact qS [(2, hto (bE c9)), (9, hto (orT (q := decide (w64 (((getI m_4 R1).getD (0:Int)) + e2.cost_) < ((getI m_5 e2.to_).getD (0:Int)))) c9))] _ _ hk
      exact qS [(2, hto (bE c9)), (9, hto (orF (q := decide (w64 (((getI m_4 R1).getD (0:Int)) + e2.cost_) < ((getI m_5 e2.to_).getD (0:Int)))) c9))] _ _ hk
     rcases cs_some hm with ⟨c10,hm⟩|⟨c10,hm⟩
     ·refine qT c10 ?_
      refine qG [(7, hmu (mu (k := .i64) (enc := (vI .i64)) m_5 e2.to_ (w64 (((getI m_4 R1).getD (0:Int)) + e2.cost_)) rfl))] [14, 109] [] [49029, 49014] [(49029, .map 3 3 (encM .i64 (vI .i64) (setI m_5 e2.to_ (w64 (((getI m_4 R1).getD (0:Int)) + e2.cost_)))))] ?_
      exact qX (setI m_5 e2.to_ (w64 (((getI m_4 R1).getD (0:Int)) + e2.cost_))) hm
     refine qF c10 ?_
     refine A.skip ?_
     exact qX m_5 hm
    rintro m_6 hm
    rw [hJ2] at hm
    refine qGs [(0, hto (inc hx2 hb2))] [81] [(81, i6 ((j2 + 1 : Nat) : Int))] ?_
    exact qX m_6 hm
   rintro j2 m_5 hj2 hl2 hm
   rw [hK2] at hm
   refine qDs [] [] [(82, .bool (decide ((j2 : Int) < (((getI links R1).getD []).length:Int))))] ?_
   refine A.seq ?_
   refine qF (ltF hl2) ?_
   refine A.exit ?_
   exact qX (setI m_3 R1 ((getI m_4 R1).getD (0:Int)), m_5) hm
  refine qF c2 ?_
  refine A.exit ?_
  exact qX (m_3, m_4) hm
 rintro ⟨m_1, m_2⟩ hm
 rw [hJ1] at hm
 refine qDs [] [5] [(4, .mapv 49019)] ?_
 refine A.ret ?_
 obtain rfl := some_inj hm
 exact A.fin W0 [.fz [49019]] rfl (by kernel_rfl)
theorem m_shortest_graph_next_ok {g : GShortest_graph} {costs : List (Int × Int)} {froma2 : Int} {r : (List Int)} (hm : m_shortest_graph_next g costs froma2 = some r) : RO Try.prog 48 [] [.agg [.mpf (encM .i64 (vL eGShortest_step) g.out_), .mpf (encM .i64 (vL eGShortest_step) g.in_)], .mpf (encM .i64 (vI .i64) costs), i6 froma2] (lf eInt r) := by
 refine enterA Try.func48 rfl rfl ?_
 unfold m_shortest_graph_next at hm
 refine qS [(0, .al 48003)] [(1, .mpf (encM .i64 (vI .i64) costs)), (2, i6 froma2), (3, .ptr 48003 0)] [(48003, .cells 74 [.mpf (encM .i64 (vL eGShortest_step) g.out_), .mpf (encM .i64 (vL eGShortest_step) g.in_)])] ?_
 refine qDs [] [] [(7, .nils)] ?_
 refine qDs [(2, hlf costs froma2 (vI .i64) (0:Int) map77 (zI (k := .i64) Try.zeroValue3))] [] [(8, i6 ((getI costs froma2).getD (0:Int))), (9, .bool ((getI costs froma2).isSome))] ?_
 refine A.seq ?_
 refine qDs [] [9] [(21, .bool (!((getI costs froma2).isSome)))] ?_
 rcases cs_some hm with ⟨c1,hm⟩|⟨c1,hm⟩
 ·refine qT c1 ?_
  refine qS [] [(6, .nils)] [] ?_
  cases hm
  exact A.ret qE
 refine qF c1 ?_
 refine A.skip ?_
 show acode _ _ _ _ _
 refine A.seq ?_
 refine qD [(3, hlf g.out_ froma2 (vL eGShortest_step) [] map72 (zSl eGShortest_step Try.zeroValue86)), (4, hto (lnE eGShortest_step ((getI g.out_ froma2).getD [])))] [2, 3, 21] [(25, lf eGShortest_step ((getI g.out_ froma2).getD [])), (26, i6 (((getI g.out_ froma2).getD []).length:Int)), (27, i6 0)] [48003] [] ?_
 refine A.block ?_
 refine A.bS 25 rfl fun hb1 => ?_
 obtain ⟨B1, K1, hB1, hK1, hm⟩ := forI_some hm
 refine A.lpI (l := ((getI g.out_ froma2).getD [])) (j0 := 0) (B := B1) (K := K1) hm (fun j1 => fun out_1 => [(1, .mpf (encM .i64 (vI .i64) costs)), (7, .own 600048007), (8, i6 ((getI costs froma2).getD (0:Int))), (25, lf eGShortest_step ((getI g.out_ froma2).getD [])), (26, i6 (((getI g.out_ froma2).getD []).length:Int)), (27, i6 (j1 : Int))]) (fun j1 => fun out_1 => [(600048007, .slice 3 1 (ml eInt out_1) 0 false)]) ?_ ?_ ?_
 ·exact Weak.go [.ad 7 600048007 3 1] [] (by kernel_rfl)
 ·rintro j1 e1 Z1 out_1 hj1 hx1 hm
  rw [hB1] at hm
  refine qDs [] [] [(28, .bool (decide ((j1 : Int) < (((getI g.out_ froma2).getD []).length:Int))))] ?_
  refine A.seq ?_
  refine qT (ltT hx1) ?_
  refine A.skip ?_
  show acode _ _ _ _ _
  obtain ⟨J1, hJ1, hm⟩ := jn_some hm
  refine A.J (J := J1) (r := r) (fun out_2 => [(1, .mpf (encM .i64 (vI .i64) costs)), (7, .own 600048007), (8, i6 ((getI costs froma2).getD (0:Int))), (25, lf eGShortest_step ((getI g.out_ froma2).getD [])), (26, i6 (((getI g.out_ froma2).getD []).length:Int)), (27, i6 (j1 : Int))]) (fun out_2 => [(600048007, .slice 3 1 (ml eInt out_2) 0 false)]) ?_ ?_
  ·refine A.block ?_
   refine qD [(0, hix (ix eGShortest_step (elO_nat hx1))), (2, .al 48011)] [28] [(11, .ptr 48011 0)] [] [(48011, .cells 88 (k6 e1))] ?_
   refine qDs [(3, hlf costs e1.to_ (vI .i64) (0:Int) map77 (zI (k := .i64) Try.zeroValue3))] [] [(12, i6 ((getI costs e1.to_).getD (0:Int))), (13, .bool ((getI costs e1.to_).isSome))] ?_
   refine A.mid [(1, .mpf (encM .i64 (vI .i64) costs)), (7, .own 600048007), (8, i6 ((getI costs froma2).getD (0:Int))), (25, lf eGShortest_step ((getI g.out_ froma2).getD [])), (26, i6 (((getI g.out_ froma2).getD []).length:Int)), (27, i6 (j1 : Int)), (11, .ptr 48011 0), (46, .bool (((getI costs e1.to_).isSome) && (decide (w64 (e1.cost_ + ((getI costs e1.to_).getD (0:Int))) = ((getI costs froma2).getD (0:Int))))))] [(600048007, .slice 3 1 (ml eInt out_1) 0 false), (48011, .cells 88 (k6 e1))] (fun hk => ?_) ?_
   ·rcases tf ((getI costs e1.to_).isSome) with c2 | c2
    ·exact qS [(1, hto (bE c2)), (8, hto (andT (q := decide (w64 (e1.cost_ + ((getI costs e1.to_).getD (0:Int))) = ((getI costs froma2).getD (0:Int)))) c2))] _ _ hk
    exact qS [(1, hto (bE c2)), (8, hto (andF (q := decide (w64 (e1.cost_ + ((getI costs e1.to_).getD (0:Int))) = ((getI costs froma2).getD (0:Int)))) c2))] _ _ hk
   rcases cs_some hm with ⟨c3,hm⟩|⟨c3,hm⟩
   ·refine qT c3 ?_
    obtain ⟨l_1, h1, hm⟩ := bnd_some hm
    refine qG [(4, hap 48551 (ap eInt (bytes := 8) (by decide) h1))] [7, 11, 46] [(7, .own 48551)] [600048007, 48011] [(48551, .slice 3 1 (ml eInt l_1) 0 false)] ?_
    exact Exists.intro l_1 (And.intro hm (Weak.go [.sw 48551 600048007] [] (by kernel_rfl)))
   refine qF c3 ?_
   refine A.skip ?_
   exact qX out_1 hm
  rintro out_2 hm
  rw [hJ1] at hm
  refine qGs [(0, hto (inc hx1 hb1))] [27] [(27, i6 ((j1 + 1 : Nat) : Int))] ?_
  exact qX out_2 hm
 rintro j1 out_1 hj1 hl1 hm
 rw [hK1] at hm
 refine qDs [] [] [(28, .bool (decide ((j1 : Int) < (((getI g.out_ froma2).getD []).length:Int))))] ?_
 refine A.seq ?_
 refine qF (ltF hl1) ?_
 refine A.exit ?_
 show acode _ _ _ _ _
 refine qDs [] [1, 7, 8, 25, 26, 27, 28] [(6, .own 600048007)] ?_
 refine A.ret ?_
 obtain rfl := some_inj hm
 exact A.fin W0 [.fz [600048007]] rfl (by kernel_rfl)
theorem m_shortest_Cost_ok {t : GTopology} {froma1 : Int} {toa2 : Int} {r : Int × Bool} (hm : m_shortest_Cost t froma1 toa2 = some r) : RO Try.prog 29 [] [.agg (k2 t), i6 froma1, i6 toa2] (.tup [i6 r.1, .bool r.2]) := by
 refine enterA Try.func29 rfl rfl ?_
 unfold m_shortest_Cost at hm
 refine qS [(0, .al 29003)] [(1, i6 froma1), (2, i6 toa2), (3, .ptr 29003 0)] [(29003, .cells 28 (k2 t))] ?_
 refine A.seq ?_
 obtain ⟨vx_1, h1, hm⟩ := bnd_some hm
 refine qDs [(1, hro (m_shortest_valid_ok h1) ck46)] [] [(12, .bool (!vx_1))] ?_
 rcases cs_some hm with ⟨c1,hm⟩|⟨c1,hm⟩
 ·refine qT c1 ?_
  refine qS [] [(6, i6 0), (7, .bool false)] [] ?_
  cases hm
  exact A.ret qE
 refine qF c1 ?_
 refine A.skip ?_
 show acode _ _ _ _ _
 obtain ⟨vx_2, h2, hm⟩ := bnd_some hm
 obtain ⟨vx_3, h3, hm⟩ := bnd_some hm
 refine qS [(1, hro (m_shortest_read_ok h2) ck47), (4, hro (m_shortest_distances_ok h3) ck49), (6, hlf vx_3 toa2 (vI .i64) (0:Int) map77 (zI (k := .i64) Try.zeroValue3))] [(8, i6 ((getI vx_3 toa2).getD (0:Int))), (9, .bool ((getI vx_3 toa2).isSome))] [] ?_
 refine qS [] [(6, i6 ((getI vx_3 toa2).getD (0:Int))), (7, .bool ((getI vx_3 toa2).isSome))] [] ?_
 cases hm
 exact A.ret qE
theorem m_shortest_Next_ok {t : GTopology} {froma1 : Int} {toa2 : Int} {r : (List Int)} (hm : m_shortest_Next t froma1 toa2 = some r) : RO Try.prog 16 [] [.agg (k2 t), i6 froma1, i6 toa2] (lf eInt r) := by
 refine enterA Try.func16 rfl rfl ?_
 unfold m_shortest_Next at hm
 refine qS [(0, .al 16003)] [(1, i6 froma1), (2, i6 toa2), (3, .ptr 16003 0)] [(16003, .cells 28 (k2 t))] ?_
 refine A.seq ?_
 obtain ⟨J1, hJ1, hm⟩ := jn_some hm
 refine A.J (J := J1) (r := r) (fun v_1 => [(1, i6 froma1), (2, i6 toa2), (3, .ptr 16003 0), (15, .bool v_1)]) (fun v_1 => [(16003, .cells 28 (k2 t))]) ?_ ?_
 ·obtain ⟨vx_1, h1, hm⟩ := bnd_some hm
  rcases cs_some hm with ⟨c1,hm⟩|⟨c1,hm⟩
  ·refine qGs [(1, hro (m_shortest_valid_ok h1) ck46), (3, hto (bE c1))] [] [(15, .bool true)] ?_
   exact qX true hm
  refine qGs [(1, hro (m_shortest_valid_ok h1) ck46), (3, hto (bE c1))] [] [(15, .bool (decide (froma1 = toa2)))] ?_
  exact qX (decide (froma1 = toa2)) hm
 rintro v_1 hm
 rw [hJ1] at hm
 rcases cs_some hm with ⟨c2,hm⟩|⟨c2,hm⟩
 ·refine qT c2 ?_
  refine qS [] [(6, .nils)] [] ?_
  cases hm
  exact A.ret qE
 refine qF c2 ?_
 refine A.skip ?_
 show acode _ _ _ _ _
 obtain ⟨vx_2, h2, hm⟩ := bnd_some hm
 refine qD [(1, hro (m_shortest_read_ok h2) ck47), (2, .al 16007)] [3, 15] [(7, .ptr 16007 0)] [16003] [(16007, .cells 74 [.mpf (encM .i64 (vL eGShortest_step) vx_2.out_), .mpf (encM .i64 (vL eGShortest_step) vx_2.in_)])] ?_
 obtain ⟨vx_3, h3, hm⟩ := bnd_some hm
 obtain ⟨vx_4, h4, hm⟩ := bnd_some hm
 refine qS [(4, hro (m_shortest_distances_ok h3) ck49), (6, hro (m_shortest_graph_next_ok h4) ck48)] [(6, lf eInt vx_4)] [] ?_
 cases hm
 exact A.ret qE
theorem m_shortest_Route_ok {t : GTopology} {froma1 : Int} {toa2 : Int} {r : (List Int)} (hm : m_shortest_Route t froma1 toa2 = some r) : RO Try.prog 18 [] [.agg (k2 t), i6 froma1, i6 toa2] (lf eInt r) := by
 refine enterA Try.func18 rfl rfl ?_
 unfold m_shortest_Route at hm
 refine qS [(0, .al 18003)] [(1, i6 froma1), (2, i6 toa2), (3, .ptr 18003 0)] [(18003, .cells 28 (k2 t))] ?_
 refine A.seq ?_
 obtain ⟨J1, hJ1, hm⟩ := jn_some hm
 refine A.J (J := J1) (r := r) (fun v_1 => [(1, i6 froma1), (2, i6 toa2), (3, .ptr 18003 0), (19, .bool v_1)]) (fun v_1 => [(18003, .cells 28 (k2 t))]) ?_ ?_
 ·obtain ⟨vx_1, h1, hm⟩ := bnd_some hm
  rcases cs_some hm with ⟨c1,hm⟩|⟨c1,hm⟩
  ·refine qGs [(1, hro (m_shortest_valid_ok h1) ck46), (3, hto (bE c1))] [] [(19, .bool true)] ?_
   exact qX true hm
  refine qGs [(1, hro (m_shortest_valid_ok h1) ck46), (3, hto (bE c1))] [] [(19, .bool (decide (froma1 = toa2)))] ?_
  exact qX (decide (froma1 = toa2)) hm
 rintro v_1 hm
 rw [hJ1] at hm
 rcases cs_some hm with ⟨c2,hm⟩|⟨c2,hm⟩
 ·refine qT c2 ?_
  refine qS [] [(6, .nils)] [] ?_
  cases hm
  exact A.ret qE
 refine qF c2 ?_
 refine A.skip ?_
 show acode _ _ _ _ _
 obtain ⟨vx_2, h2, hm⟩ := bnd_some hm
 refine qD [(1, hro (m_shortest_read_ok h2) ck47), (2, .al 18007)] [3, 19] [(7, .ptr 18007 0)] [18003] [(18007, .cells 74 [.mpf (encM .i64 (vL eGShortest_step) vx_2.out_), .mpf (encM .i64 (vL eGShortest_step) vx_2.in_)])] ?_
 obtain ⟨vx_3, h3, hm⟩ := bnd_some hm
 refine qDs [(3, hro (m_shortest_distances_ok h3) ck49)] [] [(8, .mpf (encM .i64 (vI .i64) vx_3))] ?_
 refine qDs [] [] [(9, .nils)] ?_
 refine A.seq ?_
 refine qDs [] [1] [(10, i6 froma1)] ?_
 refine A.block ?_
 obtain ⟨F1, n1, hF1, hm⟩ := whl_some hm
 refine A.lpW (F := F1) hm (fun sg => match sg with | (out_1, vat_1) => [(2, i6 toa2), (7, .ptr 18007 0), (8, .mpf (encM .i64 (vI .i64) vx_3)), (9, .own 600018009), (10, i6 vat_1)]) (fun sg => match sg with | (out_1, vat_1) => [(18007, .cells 74 [.mpf (encM .i64 (vL eGShortest_step) vx_2.out_), .mpf (encM .i64 (vL eGShortest_step) vx_2.in_)]), (600018009, .slice 3 1 (ml eInt out_1) 0 false)]) ?_ ?_
 ·exact Weak.go [.ad 9 600018009 3 1] [] (by kernel_rfl)
 rintro Z1 ⟨out_1, vat_1⟩ hm
 rw [hF1] at hm
 refine A.seq ?_
 refine qDs [] [] [(29, .bool (!decide (vat_1 = toa2)))] ?_
 rcases cs_some hm with ⟨c3,hm⟩|⟨c3,hm⟩
 ·refine qT c3 ?_
  refine A.skip ?_
  show acode _ _ _ _ _
  refine A.seq ?_
  refine A.block ?_
  obtain ⟨vx_4, h4, hm⟩ := bnd_some hm
  refine qDs [(3, hro (m_shortest_graph_next_ok h4) ck48)] [10, 29] [(11, lf eInt vx_4)] ?_
  refine A.seq ?_
  refine qDs [(1, hto (lnE eInt vx_4))] [] [(42, .bool (decide ((vx_4.length:Int) = (0:Int))))] ?_
  rcases cs_some hm with ⟨c4,hm⟩|⟨c4,hm⟩
  ·refine qT c4 ?_
   refine qS [] [(6, .nils)] [] ?_
   cases hm
   exact A.ret qE
  refine qF c4 ?_
  refine A.skip ?_
  show acode _ _ _ _ _
  obtain ⟨e_1, h5, hm⟩ := bnd_some hm
  obtain ⟨l_1, h6, hm⟩ := bnd_some hm
  refine qG [(2, hix (ix eInt h5)), (5, hap 18548 (ap eInt (bytes := 8) (by decide) h6))] [9, 11, 42] [(9, .own 18548)] [600018009] [(18548, .slice 3 1 (ml eInt l_1) 0 false)] ?_
  show acode _ _ _ _ _
  obtain ⟨e_2, h7, hm⟩ := bnd_some hm
  refine qGs [(2, hto (lnE eInt l_1)), (4, hix (ix eInt h7)), (5, hlo 18548 0 (ix eInt h7))] [] [(10, i6 e_2)] ?_
  exact Exists.intro (l_1, e_2) (And.intro hm (Weak.go [.sw 18548 600018009] [] (by kernel_rfl)))
 refine qF c3 ?_
 refine A.exit ?_
 show acode _ _ _ _ _
 refine qD [] [2, 7, 8, 9, 10, 29] [(6, .own 600018009)] [18007] [] ?_
 refine A.ret ?_
 obtain rfl := some_inj hm
 exact A.fin W0 [.fz [600018009]] rfl (by kernel_rfl)
theorem m_shortest_graph_paths_ok : ∀ (n_ : Nat) {g : GShortest_graph} {costs : List (Int × Int)} {counted : List (Int × Int)} {froma3 : Int} {toa4 : Int} {r : Int × (List (Int × Int))} (hm : m_shortest_graph_paths n_ g costs counted froma3 toa4 = some r), SCalls Try.prog 54 [(540000542, .map 3 3 (encM .i64 (vI .i64) counted))] [.agg [.mpf (encM .i64 (vL eGShortest_step) g.out_), .mpf (encM .i64 (vL eGShortest_step) g.in_)], .mpf (encM .i64 (vI .i64) costs), .mapv 540000542, i6 froma3, i6 toa4] (fun a σ' => a = i6 r.1 ∧ σ' = [(540000542, .map 3 3 (encM .i64 (vI .i64) r.2))]) := by
 intro n_
 induction n_ with
 | zero => intros; rename_i hm; cases hm
 | succ n_ ih =>
 intro g costs counted froma3 toa4 r hm
 refine enterA Try.func54 rfl rfl ?_
 rw [m_shortest_graph_paths] at hm
 refine qS [(0, .al 54005)] [(1, .mpf (encM .i64 (vI .i64) costs)), (2, .mapv 540000542), (3, i6 froma3), (4, i6 toa4), (5, .ptr 54005 0)] [(540000542, .map 3 3 (encM .i64 (vI .i64) counted)), (54005, .cells 74 [.mpf (encM .i64 (vL eGShortest_step) g.out_), .mpf (encM .i64 (vL eGShortest_step) g.in_)])] ?_
 refine A.seq ?_
 refine qDs [] [] [(18, .bool (decide (froma3 = toa4)))] ?_
 rcases cs_some hm with ⟨c1,hm⟩|⟨c1,hm⟩
 ·refine qT c1 ?_
  refine qD [] [1, 2, 3, 4, 5, 18] [(10, i6 1)] [54005] [] ?_
  cases hm
  exact A.ret qE
 refine qF c1 ?_
 refine A.skip ?_
 show acode _ _ _ _ _
 refine A.seq ?_
 refine qDs [(2, hlk (lk (E := 3) (k := .i64) (enc := (vI .i64)) counted froma3 (0:Int) (fun w => ⟨_, Try.zeroValue3 w, fun I => by simp [RepC, vI, vB]⟩)))] [18] [(11, i6 ((getI counted froma3).getD (0:Int))), (12, .bool ((getI counted froma3).isSome))] ?_
 refine qDs [] [12] [(25, .bool ((getI counted froma3).isSome))] ?_
 rcases cs_some hm with ⟨c2,hm⟩|⟨c2,hm⟩
 ·refine qT c2 ?_
  refine qD [] [1, 2, 3, 4, 5, 11, 25] [(10, i6 ((getI counted froma3).getD (0:Int)))] [54005] [] ?_
  cases hm
  exact A.ret qE
 refine qF c2 ?_
 refine A.skip ?_
 show acode _ _ _ _ _
 refine qDs [] [11, 25] [(13, i6 0)] ?_
 refine A.seq ?_
 obtain ⟨vx_1, h1, hm⟩ := bnd_some hm
 refine qDs [(3, hro (m_shortest_graph_next_ok h1) ck48), (4, hto (lnE eInt vx_1))] [] [(30, lf eInt vx_1), (31, i6 (vx_1.length:Int)), (32, i6 0)] ?_
 refine A.block ?_
 refine A.bS 30 rfl fun hb1 => ?_
 obtain ⟨B1, K1, hB1, hK1, hm⟩ := forI_some hm
 refine A.lpI (l := vx_1) (j0 := 0) (B := B1) (K := K1) hm (fun j1 => fun sg => match sg with | (n_1, m_1) => [(1, .mpf (encM .i64 (vI .i64) costs)), (2, .mapv 540000542), (3, i6 froma3), (4, i6 toa4), (5, .ptr 54005 0), (13, i6 n_1), (30, lf eInt vx_1), (31, i6 (vx_1.length:Int)), (32, i6 (j1 : Int))]) (fun j1 => fun sg => match sg with | (n_1, m_1) => [(540000542, .map 3 3 (encM .i64 (vI .i64) m_1)), (54005, .cells 74 [.mpf (encM .i64 (vL eGShortest_step) g.out_), .mpf (encM .i64 (vL eGShortest_step) g.in_)])]) ?_ ?_ ?_
 ·exact qW
 ·rintro j1 e1 Z1 ⟨n_1, m_1⟩ hj1 hx1 hm
  rw [hB1] at hm
  refine qDs [] [] [(33, .bool (decide ((j1 : Int) < (vx_1.length:Int))))] ?_
  refine A.seq ?_
  refine qT (ltT hx1) ?_
  refine A.skip ?_
  show acode _ _ _ _ _
  refine A.seq ?_
  refine A.block ?_
  refine qDs [(0, hix (ix eInt (elO_nat hx1)))] [33] [(15, i6 e1)] ?_
  obtain ⟨vx_2, h2, hm⟩ := bnd_some hm
  refine qG [(6, hdc [] (ih h2) ck54)] [13, 15] [(13, i6 (if (w64 (n_1 + vx_2.1)) < (1000000:Int) then w64 (n_1 + vx_2.1) else (1000000:Int)))] [540000542] [(540000542, .map 3 3 (encM .i64 (vI .i64) vx_2.2))] ?_
  show acode _ _ _ _ _
  refine qGs [(0, hto (inc hx1 hb1))] [32] [(32, i6 ((j1 + 1 : Nat) : Int))] ?_
  exact qX ((if (w64 (n_1 + vx_2.1)) < (1000000:Int) then w64 (n_1 + vx_2.1) else (1000000:Int)), vx_2.2) hm
 rintro j1 ⟨n_1, m_1⟩ hj1 hl1 hm
 rw [hK1] at hm
 refine qDs [] [] [(33, .bool (decide ((j1 : Int) < (vx_1.length:Int))))] ?_
 refine A.seq ?_
 refine qF (ltF hl1) ?_
 refine A.exit ?_
 show acode _ _ _ _ _
 refine qS [(3, hmu (mu (k := .i64) (enc := (vI .i64)) m_1 froma3 n_1 rfl))] [(13, i6 n_1)] [(540000542, .map 3 3 (encM .i64 (vI .i64) (setI m_1 froma3 n_1)))] ?_
 refine qDs [] [13] [(10, i6 n_1)] ?_
 cases hm
 exact A.ret qE
theorem m_shortest_Paths_ok {t : GTopology} {froma1 : Int} {toa2 : Int} {r : Int} (hm : m_shortest_Paths t froma1 toa2 = some r) : RO Try.prog 20 [] [.agg (k2 t), i6 froma1, i6 toa2] (i6 r) := by
 refine enterA Try.func20 rfl rfl ?_
 unfold m_shortest_Paths at hm
 refine qS [(0, .al 20003)] [(1, i6 froma1), (2, i6 toa2), (3, .ptr 20003 0)] [(20003, .cells 28 (k2 t))] ?_
 refine A.seq ?_
 obtain ⟨J1, hJ1, hm⟩ := jn_some hm
 refine A.J (J := J1) (r := r) (fun v_1 => [(1, i6 froma1), (2, i6 toa2), (3, .ptr 20003 0), (17, .bool v_1)]) (fun v_1 => [(20003, .cells 28 (k2 t))]) ?_ ?_
 ·obtain ⟨vx_1, h1, hm⟩ := bnd_some hm
  rcases cs_some hm with ⟨c1,hm⟩|⟨c1,hm⟩
  ·refine qGs [(2, hro (m_topology_Has_ok h1) ck53), (4, hto (bE c1))] [] [(17, .bool true)] ?_
   exact qX true hm
  obtain ⟨vx_2, h2, hm⟩ := bnd_some hm
  refine qGs [(2, hro (m_topology_Has_ok h1) ck53), (4, hto (bE c1)), (7, hro (m_topology_Has_ok h2) ck53)] [] [(17, .bool (!vx_2))] ?_
  exact qX (!vx_2) hm
 rintro v_1 hm
 rw [hJ1] at hm
 rcases cs_some hm with ⟨c2,hm⟩|⟨c2,hm⟩
 ·refine qT c2 ?_
  refine qS [] [(6, i6 0)] [] ?_
  cases hm
  exact A.ret qE
 refine qF c2 ?_
 refine A.skip ?_
 show acode _ _ _ _ _
 obtain ⟨vx_3, h3, hm⟩ := bnd_some hm
 refine qD [(1, hro (m_shortest_read_ok h3) ck47), (2, .al 20007)] [3, 17] [(7, .ptr 20007 0)] [20003] [(20007, .cells 74 [.mpf (encM .i64 (vL eGShortest_step) vx_3.out_), .mpf (encM .i64 (vL eGShortest_step) vx_3.in_)])] ?_
 obtain ⟨vx_4, h4, hm⟩ := bnd_some hm
 obtain ⟨vx_5, h5, hm⟩ := bnd_some hm
 refine qS [(4, hro (m_shortest_distances_ok h4) ck49), (5, .al 20025), (8, hdc [] (SC.at [(540000542, 20025)] (m_shortest_graph_paths_ok fuel h5)) ck54)] [(6, i6 vx_5.1)] [] ?_
 cases hm
 exact A.ret qE
theorem m_shortest_Uses_ok {t : GTopology} {froma1 : Int} {toa2 : Int} {ha3 : GHop} {r : Bool} (hm : m_shortest_Uses t froma1 toa2 ha3 = some r) : RO Try.prog 24 [] [.agg (k2 t), i6 froma1, i6 toa2, .agg (k4 ha3)] (.bool r) := by
 refine enterA Try.func24 rfl rfl ?_
 unfold m_shortest_Uses at hm
 refine qS [(0, .al 24004), (1, .al 24007)] [(1, i6 froma1), (2, i6 toa2), (4, .ptr 24004 0), (7, .ptr 24007 0)] [(24004, .cells 28 (k2 t)), (24007, .cells 39 (k4 ha3))] ?_
 refine A.seq ?_
 obtain ⟨vx_1, h1, hm⟩ := bnd_some hm
 refine qDs [(1, hro (m_shortest_valid_ok h1) ck46)] [] [(20, .bool (!vx_1))] ?_
 rcases cs_some hm with ⟨c1,hm⟩|⟨c1,hm⟩
 ·refine qT c1 ?_
  refine qS [] [(8, .bool false)] [] ?_
  cases hm
  exact A.ret qE
 refine qF c1 ?_
 refine A.skip ?_
 show acode _ _ _ _ _
 obtain ⟨vx_2, h2, hm⟩ := bnd_some hm
 refine qD [(1, hro (m_shortest_read_ok h2) ck47), (2, .al 24009)] [20] [(9, .ptr 24009 0)] [] [(24009, .cells 74 [.mpf (encM .i64 (vL eGShortest_step) vx_2.out_), .mpf (encM .i64 (vL eGShortest_step) vx_2.in_)])] ?_
 obtain ⟨vx_3, h3, hm⟩ := bnd_some hm
 obtain ⟨vx_4, h4, hm⟩ := bnd_some hm
 refine qD [(3, hro (m_shortest_distances_ok h3) ck49), (7, hro (m_shortest_distances_ok h4) ck49)] [1, 9] [(10, .mpf (encM .i64 (vI .i64) vx_3)), (11, .mpf (encM .i64 (vI .i64) vx_4))] [24009] [] ?_
 obtain ⟨vx_5, h5, hm⟩ := bnd_some hm
 refine qD [(5, hro (m_topology_Cost_ok h5) ck58)] [4] [(12, i6 vx_5.1), (13, .bool vx_5.2)] [24004] [] ?_
 refine qDs [(3, hlf vx_3 ha3.From (vI .i64) (0:Int) map77 (zI (k := .i64) Try.zeroValue3))] [] [(14, i6 ((getI vx_3 ha3.From).getD (0:Int))), (15, .bool ((getI vx_3 ha3.From).isSome))] ?_
 refine qD [(3, hlf vx_4 ha3.To (vI .i64) (0:Int) map77 (zI (k := .i64) Try.zeroValue3))] [7, 11] [(16, i6 ((getI vx_4 ha3.To).getD (0:Int))), (17, .bool ((getI vx_4 ha3.To).isSome))] [24007] [] ?_
 refine A.mid [(8, .bool (vx_5.2 && (((getI vx_3 ha3.From).isSome) && (((getI vx_4 ha3.To).isSome) && (decide (w64 ((w64 (((getI vx_3 ha3.From).getD (0:Int)) + vx_5.1)) + ((getI vx_4 ha3.To).getD (0:Int))) = ((getI vx_3 toa2).getD (0:Int))))))))] [] (fun hk => ?_) ?_
 ·rcases tf vx_5.2 with c2 | c2
  ·rcases tf ((getI vx_3 ha3.From).isSome) with c3 | c3
   ·rcases tf ((getI vx_4 ha3.To).isSome) with c4 | c4
    ·exact qS [(1, hto (bE c2)), (4, hto (bE c3)), (7, hto (bE c4)), (15, hlf vx_3 toa2 (vI .i64) (0:Int) map77 (zI (k := .i64) Try.zeroValue3)), (18, hto (((andT (q := decide (w64 ((w64 (((getI vx_3 ha3.From).getD (0:Int)) + vx_5.1)) + ((getI vx_4 ha3.To).getD (0:Int))) = ((getI vx_3 toa2).getD (0:Int)))) c4).trans (andT (q := (((getI vx_4 ha3.To).isSome) && (decide (w64 ((w64 (((getI vx_3 ha3.From).getD (0:Int)) + vx_5.1)) + ((getI vx_4 ha3.To).getD (0:Int))) = ((getI vx_3 toa2).getD (0:Int)))))) c3)).trans (andT (q := (((getI vx_3 ha3.From).isSome) && (((getI vx_4 ha3.To).isSome) && (decide (w64 ((w64 (((getI vx_3 ha3.From).getD (0:Int)) + vx_5.1)) + ((getI vx_4 ha3.To).getD (0:Int))) = ((getI vx_3 toa2).getD (0:Int))))))) c2)))] _ _ hk
    exact qS [(1, hto (bE c2)), (4, hto (bE c3)), (7, hto (bE c4)), (18, hto (((andF (q := decide (w64 ((w64 (((getI vx_3 ha3.From).getD (0:Int)) + vx_5.1)) + ((getI vx_4 ha3.To).getD (0:Int))) = ((getI vx_3 toa2).getD (0:Int)))) c4).trans (andT (q := (((getI vx_4 ha3.To).isSome) && (decide (w64 ((w64 (((getI vx_3 ha3.From).getD (0:Int)) + vx_5.1)) + ((getI vx_4 ha3.To).getD (0:Int))) = ((getI vx_3 toa2).getD (0:Int)))))) c3)).trans (andT (q := (((getI vx_3 ha3.From).isSome) && (((getI vx_4 ha3.To).isSome) && (decide (w64 ((w64 (((getI vx_3 ha3.From).getD (0:Int)) + vx_5.1)) + ((getI vx_4 ha3.To).getD (0:Int))) = ((getI vx_3 toa2).getD (0:Int))))))) c2)))] _ _ hk
   exact qS [(1, hto (bE c2)), (4, hto (bE c3)), (18, hto ((andF (q := (((getI vx_4 ha3.To).isSome) && (decide (w64 ((w64 (((getI vx_3 ha3.From).getD (0:Int)) + vx_5.1)) + ((getI vx_4 ha3.To).getD (0:Int))) = ((getI vx_3 toa2).getD (0:Int)))))) c3).trans (andT (q := (((getI vx_3 ha3.From).isSome) && (((getI vx_4 ha3.To).isSome) && (decide (w64 ((w64 (((getI vx_3 ha3.From).getD (0:Int)) + vx_5.1)) + ((getI vx_4 ha3.To).getD (0:Int))) = ((getI vx_3 toa2).getD (0:Int))))))) c2)))] _ _ hk
  exact qS [(1, hto (bE c2)), (18, hto (andF (q := (((getI vx_3 ha3.From).isSome) && (((getI vx_4 ha3.To).isSome) && (decide (w64 ((w64 (((getI vx_3 ha3.From).getD (0:Int)) + vx_5.1)) + ((getI vx_4 ha3.To).getD (0:Int))) = ((getI vx_3 toa2).getD (0:Int))))))) c2))] _ _ hk
 cases hm
 exact A.ret qE
theorem m_shortest_Avoids_ok {t : GTopology} {froma1 : Int} {toa2 : Int} {router : Int} {r : Bool} (hm : m_shortest_Avoids t froma1 toa2 router = some r) : RO Try.prog 26 [] [.agg (k2 t), i6 froma1, i6 toa2, i6 router] (.bool r) := by
 refine enterA Try.func26 rfl rfl ?_
 unfold m_shortest_Avoids at hm
 refine qS [(0, .al 26004)] [(1, i6 froma1), (2, i6 toa2), (3, i6 router), (4, .ptr 26004 0)] [(26004, .cells 28 (k2 t))] ?_
 refine A.seq ?_
 obtain ⟨vx_1, h1, hm⟩ := bnd_some hm
 refine qDs [(1, hro (m_shortest_valid_ok h1) ck46)] [] [(20, .bool (!vx_1))] ?_
 rcases cs_some hm with ⟨c1,hm⟩|⟨c1,hm⟩
 ·refine qT c1 ?_
  refine qS [] [(8, .bool false)] [] ?_
  cases hm
  exact A.ret qE
 refine qF c1 ?_
 refine A.skip ?_
 show acode _ _ _ _ _
 obtain ⟨vx_2, h2, hm⟩ := bnd_some hm
 refine qD [(1, hro (m_shortest_read_ok h2) ck47), (2, .al 26009)] [4, 20] [(9, .ptr 26009 0)] [26004] [(26009, .cells 74 [.mpf (encM .i64 (vL eGShortest_step) vx_2.out_), .mpf (encM .i64 (vL eGShortest_step) vx_2.in_)])] ?_
 obtain ⟨vx_3, h3, hm⟩ := bnd_some hm
 obtain ⟨vx_4, h4, hm⟩ := bnd_some hm
 refine qD [(3, hro (m_shortest_distances_ok h3) ck49), (7, hro (m_shortest_distances_ok h4) ck49)] [1, 9] [(10, .mpf (encM .i64 (vI .i64) vx_3)), (11, .mpf (encM .i64 (vI .i64) vx_4))] [26009] [] ?_
 refine qDs [(2, hlf vx_3 toa2 (vI .i64) (0:Int) map77 (zI (k := .i64) Try.zeroValue3))] [2] [(12, i6 ((getI vx_3 toa2).getD (0:Int))), (13, .bool ((getI vx_3 toa2).isSome))] ?_
 refine qDs [(2, hlf vx_3 router (vI .i64) (0:Int) map77 (zI (k := .i64) Try.zeroValue3))] [10] [(14, i6 ((getI vx_3 router).getD (0:Int))), (15, .bool ((getI vx_3 router).isSome))] ?_
 refine qDs [(2, hlf vx_4 router (vI .i64) (0:Int) map77 (zI (k := .i64) Try.zeroValue3))] [3, 11] [(16, i6 ((getI vx_4 router).getD (0:Int))), (17, .bool ((getI vx_4 router).isSome))] ?_
 refine A.mid [(8, .bool (((getI vx_3 toa2).isSome) && (bif (getI vx_3 router).isSome then (bif (getI vx_4 router).isSome then !(decide (w64 (((getI vx_3 router).getD (0:Int)) + ((getI vx_4 router).getD (0:Int))) = ((getI vx_3 toa2).getD (0:Int)))) else true) else true)))] [] (fun hk => ?_) ?_
 ·rcases tf ((getI vx_3 toa2).isSome) with c2 | c2
  ·rcases tf ((getI vx_3 router).isSome) with c3 | c3
   ·rcases tf ((getI vx_4 router).isSome) with c4 | c4
    ·exact qS [(1, hto (bE c2)), (3, hto (bE c3)), (6, hto (bE c4)), (15, hto (((ifT (x := !(decide (w64 (((getI vx_3 router).getD (0:Int)) + ((getI vx_4 router).getD (0:Int))) = ((getI vx_3 toa2).getD (0:Int))))) (y := true) c4).trans (ifT (x := (bif (getI vx_4 router).isSome then !(decide (w64 (((getI vx_3 router).getD (0:Int)) + ((getI vx_4 router).getD (0:Int))) = ((getI vx_3 toa2).getD (0:Int)))) else true)) (y := true) c3)).trans (andT (q := (bif (getI vx_3 router).isSome then (bif (getI vx_4 router).isSome then !(decide (w64 (((getI vx_3 router).getD (0:Int)) + ((getI vx_4 router).getD (0:Int))) = ((getI vx_3 toa2).getD (0:Int)))) else true) else true)) c2)))] _ _ hk
    exact qS [(1, hto (bE c2)), (3, hto (bE c3)), (6, hto (bE c4)), (15, hto (((ifF (x := !(decide (w64 (((getI vx_3 router).getD (0:Int)) + ((getI vx_4 router).getD (0:Int))) = ((getI vx_3 toa2).getD (0:Int))))) (y := true) c4).trans (ifT (x := (bif (getI vx_4 router).isSome then !(decide (w64 (((getI vx_3 router).getD (0:Int)) + ((getI vx_4 router).getD (0:Int))) = ((getI vx_3 toa2).getD (0:Int)))) else true)) (y := true) c3)).trans (andT (q := (bif (getI vx_3 router).isSome then (bif (getI vx_4 router).isSome then !(decide (w64 (((getI vx_3 router).getD (0:Int)) + ((getI vx_4 router).getD (0:Int))) = ((getI vx_3 toa2).getD (0:Int)))) else true) else true)) c2)))] _ _ hk
   exact qS [(1, hto (bE c2)), (3, hto (bE c3)), (15, hto ((ifF (x := (bif (getI vx_4 router).isSome then !(decide (w64 (((getI vx_3 router).getD (0:Int)) + ((getI vx_4 router).getD (0:Int))) = ((getI vx_3 toa2).getD (0:Int)))) else true)) (y := true) c3).trans (andT (q := (bif (getI vx_3 router).isSome then (bif (getI vx_4 router).isSome then !(decide (w64 (((getI vx_3 router).getD (0:Int)) + ((getI vx_4 router).getD (0:Int))) = ((getI vx_3 toa2).getD (0:Int)))) else true) else true)) c2)))] _ _ hk
  exact qS [(1, hto (bE c2)), (15, hto (andF (q := (bif (getI vx_3 router).isSome then (bif (getI vx_4 router).isSome then !(decide (w64 (((getI vx_3 router).getD (0:Int)) + ((getI vx_4 router).getD (0:Int))) = ((getI vx_3 toa2).getD (0:Int)))) else true) else true)) c2))] _ _ hk
 cases hm
 exact A.ret qE
end Go.Proofs.Ytflifgcoleknlaa
