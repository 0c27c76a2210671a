/- The eC of cr of the program. No condition but bT bB stand in each. -/
import Derived.Test.YtpmifmdidfgpdaaGreatDA
import Derived.Test.YtpmifmdidfgpdaaGreatVB
import Derived.Test.YtpmifmdidfgpdaaGreatV9
import Derived.Test.YtpmifmdidfgpdaaGreatCB
namespace Go.Proofs.YtpmifmdidfgpdaaGreat
open Go
set_option maxRecDepth 100000
set_option linter.all false
theorem cI {w : bK} {n : Int} {bits : Int} {r : bK} (hm : bR w n bits = some r) : bM Tryz.prog 195 [(900000214, .cells 214 [lf (eK .u8) w.s_.Data, i6 w.s_.Bits])] [.ptr 900000214 0, i6 n, i6 bits] (fun a σ' => a = .tup [] ∧ σ' = [(900000214, .cells 214 [lf (eK .u8) r.s_.Data, i6 r.s_.Bits])]) := by
 refine aT Tryz.func195 rfl rfl ?_
 unfold bR at hm
 obtain ⟨af, h1, hm⟩ := aa hm
 refine qR [(8, hro (yf h1) at8)] [] [(900000214, .cells 214 [lf (eK .u8) af.1.Data, i6 af.1.Bits])] ?_
 obtain rfl := some_inj hm
 exact A.fin W0 [] rfl (by kernel_rfl)
theorem apD (u v : Value) (n : Int) (w : World) (h : (Extern.BytealgCompare.compare #[u, v]).run Tryz.prog w = .ok (.int .i64 n) w) : Calls Tryz.prog 184 #[u, v] w fun e w' => e = .returned (.int .i64 n) ∧ w' = w := by
 have hd : (callFunc 197 #[u, v]).run Tryz.prog w = .ok (.value (.int .i64 n)) w := by
  rw [run_callFunc_extern Tryz.func197 (by kernel_rfl) (by kernel_rfl) (by kernel_rfl) (e := Extern.BytealgCompare.compare) (by kernel_rfl), h]; rfl
 go_enter Tryz.func184, Tryz.ntmps184
 go_wp2
 go_ret
 exact ⟨rfl, rfl⟩
theorem xe {a b : List Int} {r : Int} (hm : qI a b = some r) : RO Tryz.prog 184 [] [.lst false (ml (eK .u8) a), .lst false (ml (eK .u8) b)] (.int .i64 r) := by
 cases hm
 exact amt apD
theorem sj {a : aj} {r : (List Int) × Int} (hm : ep a = some r) : RO Tryz.prog 183 [] [.agg (k6 a)] (.tup [lf (eK .u8) r.1, i6 r.2]) := by
 refine aT Tryz.func183 rfl rfl ?_
 unfold ep at hm
 refine qS [(0, .al 183001)] [(1, .ptr 183001 0)] [(183001, .cells 50 (k6 a))] ?_
 refine A.seq ?_
 obtain ⟨af, h1, hm⟩ := aa hm
 refine qDs [(1, hro (iu h1) aaw)] [] [(15, .bool (!af))] ?_
 rcases ai hm with ⟨c1,hm⟩|⟨c1,hm⟩
 ·refine qT c1 ?_
  refine qS [] [(2, .aG), (3, i6 1)] [] ?_
  cases hm
  exact A.ret qE
 refine qF c1 ?_
 refine A.skip ?_
 show ah _ _ _ _ _
 refine qD [(0, .al 183004)] [15] [(4, .ptr 183004 0)] [] [(183004, .cells 214 [.aG, i6 0])] ?_
 obtain ⟨ay, h2, hm⟩ := aa hm
 refine A.RS W0 [.sc 183004 [183001, 183004]] [(2, hdc [] (SC.at [(900000214, 183004)] (cI h2)) o9)] [(1, .ptr 183001 0), (4, .ptr 183004 0)] [(183001, .cells 50 (k6 a)), (183004, .cells 214 [lf (eK .u8) ay.s_.Data, i6 ay.s_.Bits])] (by kernel_rfl) ?_
 obtain ⟨aK, h3, hm⟩ := aa hm
 refine qS [(2, hdc [] (SC.at [(900000214, 183004)] (cI h3)) o9)] [(1, .ptr 183001 0), (4, .ptr 183004 0)] [(183001, .cells 50 (k6 a)), (183004, .cells 214 [lf (eK .u8) aK.s_.Data, i6 aK.s_.Bits])] ?_
 refine qDs [] [] [(5, i6 0)] ?_
 obtain ⟨J1, hJ1, hm⟩ := bJ hm
 refine A.J (J := J1) (r := r) (fun jm => [(1, .ptr 183001 0), (4, .ptr 183004 0), (5, i6 jm)]) (fun jm => [(183001, .cells 50 (k6 a)), (183004, .cells 214 [lf (eK .u8) aK.s_.Data, i6 aK.s_.Bits])]) ?_ ?_
 ·refine qDs [] [] [(23, .bool a.aX)] ?_
  rcases ai hm with ⟨c2,hm⟩|⟨c2,hm⟩
  ·refine qT c2 ?_
   refine qGs [] [5, 23] [(5, i6 1)] ?_
   exact qX (1:Int) hm
  refine qF c2 ?_
  refine A.skip ?_
  exact qX (0:Int) hm
 rintro jm hm
 rw [hJ1] at hm
 obtain ⟨bh, h4, hm⟩ := aa hm
 refine qD [(1, hdc [] (SC.at [(900000214, 183004)] (cI h4)) o9)] [5] [] [183004] [(183004, .cells 214 [lf (eK .u8) bh.s_.Data, i6 bh.s_.Bits])] ?_
 obtain ⟨bI, h5, hm⟩ := aa hm
 refine qD [(2, hto (lnE bk a.Links)), (3, hdc [] (SC.at [(900000214, 183004)] (cI h5)) o9)] [] [] [183004] [(183004, .cells 214 [lf (eK .u8) bI.s_.Data, i6 bI.s_.Bits])] ?_
 refine A.seq ?_
 refine qDs [(2, hto (lnE bk a.Links))] [] [(31, lf bk a.Links), (32, i6 (a.Links.length:Int)), (33, i6 0)] ?_
 refine A.block ?_
 refine A.bS 31 rfl fun hb1 => ?_
 obtain ⟨B1, K1, hB1, hK1, hm⟩ := bt hm
 refine A.lpI (l := a.Links) (j0 := 0) (B := B1) (K := K1) hm (fun j1 => fun sg => match sg with | (m_1, m_2) => [(1, .ptr 183001 0), (4, .ptr 183004 0), (31, lf bk a.Links), (32, i6 (a.Links.length:Int)), (33, i6 (j1 : Int))]) (fun j1 => fun sg => match sg with | (m_1, m_2) => [(183001, .cells 50 (k6 a)), (183004, .cells 214 [lf (eK .u8) m_1, i6 m_2])]) ?_ ?_ ?_
 ·exact qW
 ·rintro j1 e1 Z1 ⟨m_1, m_2⟩ hj1 hx1 hm
  rw [hB1] at hm
  refine qDs [] [] [(34, .bool (decide ((j1 : Int) < (a.Links.length:Int))))] ?_
  refine A.seq ?_
  refine qT (ltT hx1) ?_
  refine A.skip ?_
  show ah _ _ _ _ _
  refine A.seq ?_
  refine A.block ?_
  refine qD [(0, hix (ix bk (bf hx1))), (2, .al 183007)] [34] [(7, .ptr 183007 0)] [] [(183007, .cells 106 (k5 e1))] ?_
  obtain ⟨bV, h6, hm⟩ := aa hm
  refine qD [(2, hdc [] (SC.at [(900000214, 183004)] (cI h6)) o9)] [] [] [183004] [(183004, .cells 214 [lf (eK .u8) bV.s_.Data, i6 bV.s_.Bits])] ?_
  obtain ⟨cD, h7, hm⟩ := aa hm
  refine qD [(2, hdc [] (SC.at [(900000214, 183004)] (cI h7)) o9)] [] [] [183004] [(183004, .cells 214 [lf (eK .u8) cD.s_.Data, i6 cD.s_.Bits])] ?_
  obtain ⟨dg, h8, hm⟩ := aa hm
  refine qG [(2, hdc [] (SC.at [(900000214, 183004)] (cI h8)) o9)] [7] [] [183004, 183007] [(183004, .cells 214 [lf (eK .u8) dg.s_.Data, i6 dg.s_.Bits])] ?_
  show ah _ _ _ _ _
  refine qGs [(0, hto (inc hx1 hb1))] [33] [(33, i6 ((j1 + 1 : Nat) : Int))] ?_
  exact qX (dg.s_.Data, dg.s_.Bits) hm
 rintro j1 ⟨m_1, m_2⟩ hj1 hl1 hm
 rw [hK1] at hm
 refine qDs [] [] [(34, .bool (decide ((j1 : Int) < (a.Links.length:Int))))] ?_
 refine A.seq ?_
 refine qF (ltF hl1) ?_
 refine A.exit ?_
 show ah _ _ _ _ _
 obtain ⟨dB, h9, hm⟩ := aa hm
 refine qD [(2, hto (lnE aS a.Claims)), (3, hdc [] (SC.at [(900000214, 183004)] (cI h9)) o9)] [31, 32, 33, 34] [] [183004] [(183004, .cells 214 [lf (eK .u8) dB.s_.Data, i6 dB.s_.Bits])] ?_
 refine A.seq ?_
 refine qD [(2, hto (lnE aS a.Claims))] [1] [(52, lf aS a.Claims), (53, i6 (a.Claims.length:Int)), (54, i6 0)] [183001] [] ?_
 refine A.block ?_
 refine A.bS 52 rfl fun hb2 => ?_
 obtain ⟨B2, K2, hB2, hK2, hm⟩ := bt hm
 refine A.lpI (l := a.Claims) (j0 := 0) (B := B2) (K := K2) hm (fun j2 => fun sg => match sg with | (m_3, m_4) => [(4, .ptr 183004 0), (52, lf aS a.Claims), (53, i6 (a.Claims.length:Int)), (54, i6 (j2 : Int))]) (fun j2 => fun sg => match sg with | (m_3, m_4) => [(183004, .cells 214 [lf (eK .u8) m_3, i6 m_4])]) ?_ ?_ ?_
 ·exact qW
 ·rintro j2 e2 Z2 ⟨m_3, m_4⟩ hj2 hx2 hm
  rw [hB2] at hm
  refine qDs [] [] [(55, .bool (decide ((j2 : Int) < (a.Claims.length:Int))))] ?_
  refine A.seq ?_
  refine qT (ltT hx2) ?_
  refine A.skip ?_
  show ah _ _ _ _ _
  refine A.seq ?_
  refine A.block ?_
  refine qD [(0, hix (ix aS (bf hx2))), (2, .al 183009)] [55] [(9, .ptr 183009 0)] [] [(183009, .cells 85 (k4 e2))] ?_
  refine qDs [] [] [(10, i6 0)] ?_
  refine A.seq ?_
  refine A.block ?_
  obtain ⟨F3, n3, hF3, hm⟩ := fC hm
  refine A.lpW (F := F3) hm (fun jo => [(4, .ptr 183004 0), (9, .ptr 183009 0), (10, i6 jo), (52, lf aS a.Claims), (53, i6 (a.Claims.length:Int)), (54, i6 (j2 : Int))]) (fun jo => [(183004, .cells 214 [lf (eK .u8) m_3, i6 m_4]), (183009, .cells 85 (k4 e2))]) ?_ ?_
  ·exact qW
  rintro Z3 jo hm
  rw [hF3] at hm
  refine A.seq ?_
  obtain ⟨h10, hm⟩ := eV hm
  refine qDs [(1, .sh jo (of_decide_eq_true h10))] [] [(62, .bool (decide (IntKind.wrap .i64 ((8:Int) * 2 ^ min jo.toNat 64) < e2.Length)))] ?_
  rcases ai hm with ⟨c3,hm⟩|⟨c3,hm⟩
  ·refine qT c3 ?_
   refine A.skip ?_
   show ah _ _ _ _ _
   refine A.block ?_
   refine qGs [] [10, 62] [(10, i6 (w64 (jo + (1:Int))))] ?_
   exact qX (w64 (jo + (1:Int))) hm
  refine qF c3 ?_
  refine A.exit ?_
  show ah _ _ _ _ _
  obtain ⟨bQ, h11, hm⟩ := aa hm
  refine qD [(2, hdc [] (SC.at [(900000214, 183004)] (cI h11)) o9)] [62] [] [183004] [(183004, .cells 214 [lf (eK .u8) bQ.s_.Data, i6 bQ.s_.Bits])] ?_
  obtain ⟨en, h12, hm⟩ := aa hm
  refine qD [(2, hdc [] (SC.at [(900000214, 183004)] (cI h12)) o9)] [9] [] [183004, 183009] [(183004, .cells 214 [lf (eK .u8) en.s_.Data, i6 en.s_.Bits])] ?_
  obtain ⟨cm, h13, hm⟩ := aa hm
  refine qG [(1, hdc [] (SC.at [(900000214, 183004)] (cI h13)) o9)] [10] [] [183004] [(183004, .cells 214 [lf (eK .u8) cm.s_.Data, i6 cm.s_.Bits])] ?_
  show ah _ _ _ _ _
  refine qGs [(0, hto (inc hx2 hb2))] [54] [(54, i6 ((j2 + 1 : Nat) : Int))] ?_
  exact qX (cm.s_.Data, cm.s_.Bits) hm
 rintro j2 ⟨m_3, m_4⟩ hj2 hl2 hm
 rw [hK2] at hm
 refine qDs [] [] [(55, .bool (decide ((j2 : Int) < (a.Claims.length:Int))))] ?_
 refine A.seq ?_
 refine qF (ltF hl2) ?_
 refine A.exit ?_
 show ah _ _ _ _ _
 obtain ⟨gy, h14, hm⟩ := aa hm
 refine qDs [(2, hro (zf h14) at6)] [52, 53, 54, 55] [(11, .int .u64 gy.1)] ?_
 obtain ⟨lg, h15, hm⟩ := aa hm
 refine qD [(2, hdc [] (SC.at [(900000214, 183004)] (cI h15)) o9)] [11] [] [183004] [(183004, .cells 214 [lf (eK .u8) lg.s_.Data, i6 lg.s_.Bits])] ?_
 refine qS [] [(2, lf (eK .u8) lg.s_.Data), (3, i6 0)] [] ?_
 cases hm
 exact A.ret qE
theorem yh {a : aj} {b : aj} {r : Bool} (hm : mA a b = some r) : RO Tryz.prog 168 [] [.agg (k6 a), .agg (k6 b)] (.bool r) := by
 refine aT Tryz.func168 rfl rfl ?_
 unfold mA at hm
 refine qS [(0, .al 168002), (1, .al 168003)] [(2, .ptr 168002 0), (3, .ptr 168003 0)] [(168002, .cells 50 (k6 a)), (168003, .cells 50 (k6 b))] ?_
 obtain ⟨af, h1, hm⟩ := aa hm
 refine qDs [(1, hro (sj h1) ajv)] [] [(5, lf (eK .u8) af.1), (6, i6 af.2)] ?_
 obtain ⟨ay, h2, hm⟩ := aa hm
 refine qDs [(1, hro (sj h2) ajv)] [] [(7, lf (eK .u8) ay.1), (8, i6 ay.2)] ?_
 refine A.seq ?_
 refine A.mid [(2, .ptr 168002 0), (3, .ptr 168003 0), (5, lf (eK .u8) af.1), (7, lf (eK .u8) ay.1), (31, .bool ((!decide (af.2 = (0:Int))) || ((!decide (ay.2 = (0:Int))) || (!decide (a.ak = b.ak)))))] [(168002, .cells 50 (k6 a)), (168003, .cells 50 (k6 b))] (fun hk => ?_) ?_
 ·rcases tf (!decide (af.2 = (0:Int))) with c1 | c1
  ·exact qS [(2, hto (bE c1)), (12, hto (orT (q := ((!decide (ay.2 = (0:Int))) || (!decide (a.ak = b.ak)))) c1))] _ _ hk
  rcases tf (!decide (ay.2 = (0:Int))) with c2 | c2
  ·exact qS [(2, hto (bE c1)), (6, hto (bE c2)), (12, hto ((orT (q := !decide (a.ak = b.ak)) c2).trans (orF (q := ((!decide (ay.2 = (0:Int))) || (!decide (a.ak = b.ak)))) c1)))] _ _ hk
  exact qS [(2, hto (bE c1)), (6, hto (bE c2)), (12, hto ((orF (q := !decide (a.ak = b.ak)) c2).trans (orF (q := ((!decide (ay.2 = (0:Int))) || (!decide (a.ak = b.ak)))) c1)))] _ _ hk
 rcases ai hm with ⟨c3,hm⟩|⟨c3,hm⟩
 ·refine qT c3 ?_
  refine qS [] [(4, .bool false)] [] ?_
  cases hm
  exact A.ret qE
 refine qF c3 ?_
 refine A.skip ?_
 show ah _ _ _ _ _
 rcases ai hm with ⟨c4,hm⟩|⟨c4,hm⟩
 ·refine qS [(5, hto (bE c4))] [(4, .bool true)] [] ?_
  cases hm
  exact A.ret qE
 rcases ai hm with ⟨c5,hm⟩|⟨c5,hm⟩
 ·obtain ⟨aK, h3, hm⟩ := aa hm
  refine qS [(5, hto (bE c4)), (11, hto (bE c5)), (14, hro (xe h3) at0)] [(4, .bool (decide ((0:Int) < aK)))] [] ?_
  cases hm
  exact A.ret qE
 refine qS [(5, hto (bE c4)), (11, hto (bE c5))] [(4, .bool false)] [] ?_
 cases hm
 exact A.ret qE
end Go.Proofs.YtpmifmdidfgpdaaGreat
