/- The eR of cw of the program. No condition but bT bF stand in each. -/
import Derived.Test.YtpmifmdidfgpdaaGreatDA
import Derived.Test.YtpmifmdidfgpdaaGreatVB
import Derived.Test.YtpmifmdidfgpdaaGreatV9
import Derived.Test.YtpmifmdidfgpdaaGreatCB
namespace Go.Proofs.YtpmifmdidfgpdaaGreat
open Go
set_option maxRecDepth 100000
set_option linter.all false
theorem cN {w : bL} {n : Int} {bits : Int} {r : bL} (hm : bU w n bits = some r) : bO Tryz.prog 195 [(900000214, .cells 214 [lf (eK .u8) w.s_.Data, i6 w.s_.Bits])] [.ptr 900000214 0, i6 n, i6 bits] (fun a σ' => a = .tup [] ∧ σ' = [(900000214, .cells 214 [lf (eK .u8) r.s_.Data, i6 r.s_.Bits])]) := by
 refine aQ Tryz.func195 rfl rfl ?_
 unfold bU at hm
 obtain ⟨af, h1, hm⟩ := aa hm
 refine qR [(8, hro (y9 h1) auW)] [] [(900000214, .cells 214 [lf (eK .u8) af.1.Data, i6 af.1.Bits])] ?_
 obtain rfl := some_inj hm
 exact A.fin W0 [] rfl (by kernel_rfl)
theorem aqv (u v : Value) (n : Int) (w : World) (h : (Extern.BytealgCompare.compare #[u, v]).run Tryz.prog w = .ok (.int .i64 n) w) : Calls Tryz.prog 184 #[u, v] w fun e w' => e = .returned (.int .i64 n) ∧ w' = w := by
 have hd : (callFunc 197 #[u, v]).run Tryz.prog w = .ok (.value (.int .i64 n)) w := by
  rw [run_callFunc_extern Tryz.func197 (by kernel_rfl) (by kernel_rfl) (by kernel_rfl) (e := Extern.BytealgCompare.compare) (by kernel_rfl), h]; rfl
 go_enter Tryz.func184, Tryz.ntmps184
 go_wp2
 go_ret
 exact ⟨rfl, rfl⟩
theorem xW {a b : List Int} {r : Int} (hm : rD a b = some r) : RO Tryz.prog 184 [] [.lst false (ml (eK .u8) a), .lst false (ml (eK .u8) b)] (.int .i64 r) := by
 cases hm
 exact anp aqv
theorem sQ {a : ak} {r : (List Int) × Int} (hm : eG a = some r) : RO Tryz.prog 183 [] [.agg (k6 a)] (.tup [lf (eK .u8) r.1, i6 r.2]) := by
 refine aQ Tryz.func183 rfl rfl ?_
 unfold eG at hm
 refine qS [(0, .al 183001)] [(1, .ptr 183001 0)] [(183001, .cells 50 (k6 a))] ?_
 refine A.seq ?_
 obtain ⟨af, h1, hm⟩ := aa hm
 refine qDs [(1, hro (iR h1) abg)] [] [(15, .bool (!af))] ?_
 rcases ah hm with ⟨c1,hm⟩|⟨c1,hm⟩
 ·refine qT c1 ?_
  refine qS [] [(2, .aD), (3, i6 1)] [] ?_
  cases hm
  exact A.ret qE
 refine qF c1 ?_
 refine A.skip ?_
 show ai _ _ _ _ _
 refine qD [(0, .al 183004)] [15] [(4, .ptr 183004 0)] [] [(183004, .cells 214 [.aD, i6 0])] ?_
 obtain ⟨aq, h2, hm⟩ := aa hm
 refine A.RS W0 [.sc 183004 [183001, 183004]] [(2, hdc [] (SC.at [(900000214, 183004)] (cN h2)) pS)] [(1, .ptr 183001 0), (4, .ptr 183004 0)] [(183001, .cells 50 (k6 a)), (183004, .cells 214 [lf (eK .u8) aq.s_.Data, i6 aq.s_.Bits])] (by kernel_rfl) ?_
 obtain ⟨aI, h3, hm⟩ := aa hm
 refine qS [(2, hdc [] (SC.at [(900000214, 183004)] (cN h3)) pS)] [(1, .ptr 183001 0), (4, .ptr 183004 0)] [(183001, .cells 50 (k6 a)), (183004, .cells 214 [lf (eK .u8) aI.s_.Data, i6 aI.s_.Bits])] ?_
 refine qDs [] [] [(5, i6 0)] ?_
 obtain ⟨J1, hJ1, hm⟩ := bB hm
 refine A.J (J := J1) (r := r) (fun jL => [(1, .ptr 183001 0), (4, .ptr 183004 0), (5, i6 jL)]) (fun jL => [(183001, .cells 50 (k6 a)), (183004, .cells 214 [lf (eK .u8) aI.s_.Data, i6 aI.s_.Bits])]) ?_ ?_
 ·refine qDs [] [] [(23, .bool a.bh)] ?_
  rcases ah hm with ⟨c2,hm⟩|⟨c2,hm⟩
  ·refine qT c2 ?_
   refine qGs [] [5, 23] [(5, i6 1)] ?_
   exact qX (1:Int) hm
  refine qF c2 ?_
  refine A.skip ?_
  exact qX (0:Int) hm
 rintro jL hm
 rw [hJ1] at hm
 obtain ⟨bk, h4, hm⟩ := aa hm
 refine qD [(1, hdc [] (SC.at [(900000214, 183004)] (cN h4)) pS)] [5] [] [183004] [(183004, .cells 214 [lf (eK .u8) bk.s_.Data, i6 bk.s_.Bits])] ?_
 obtain ⟨bG, h5, hm⟩ := aa hm
 refine qD [(2, hto (lnE bn a.Links)), (3, hdc [] (SC.at [(900000214, 183004)] (cN h5)) pS)] [] [] [183004] [(183004, .cells 214 [lf (eK .u8) bG.s_.Data, i6 bG.s_.Bits])] ?_
 refine A.seq ?_
 refine qDs [(2, hto (lnE bn a.Links))] [] [(31, lf bn a.Links), (32, i6 (a.Links.length:Int)), (33, i6 0)] ?_
 refine A.block ?_
 refine A.bS 31 rfl fun hb1 => ?_
 obtain ⟨B1, K1, hB1, hK1, hm⟩ := bq hm
 refine A.lpI (l := a.Links) (j0 := 0) (B := B1) (K := K1) hm (fun j1 => fun sg => match sg with | (m_1, m_2) => [(1, .ptr 183001 0), (4, .ptr 183004 0), (31, lf bn a.Links), (32, i6 (a.Links.length:Int)), (33, i6 (j1 : Int))]) (fun j1 => fun sg => match sg with | (m_1, m_2) => [(183001, .cells 50 (k6 a)), (183004, .cells 214 [lf (eK .u8) m_1, i6 m_2])]) ?_ ?_ ?_
 ·exact qW
 ·rintro j1 e1 Z1 ⟨m_1, m_2⟩ hj1 hx1 hm
  rw [hB1] at hm
  refine qDs [] [] [(34, .bool (decide ((j1 : Int) < (a.Links.length:Int))))] ?_
  refine A.seq ?_
  refine qT (ltT hx1) ?_
  refine A.skip ?_
  show ai _ _ _ _ _
  refine A.seq ?_
  refine A.block ?_
  refine qD [(0, hix (ix bn (aV hx1))), (2, .al 183007)] [34] [(7, .ptr 183007 0)] [] [(183007, .cells 106 (k5 e1))] ?_
  obtain ⟨b9, h6, hm⟩ := aa hm
  refine qD [(2, hdc [] (SC.at [(900000214, 183004)] (cN h6)) pS)] [] [] [183004] [(183004, .cells 214 [lf (eK .u8) b9.s_.Data, i6 b9.s_.Bits])] ?_
  obtain ⟨ct, h7, hm⟩ := aa hm
  refine qD [(2, hdc [] (SC.at [(900000214, 183004)] (cN h7)) pS)] [] [] [183004] [(183004, .cells 214 [lf (eK .u8) ct.s_.Data, i6 ct.s_.Bits])] ?_
  obtain ⟨dw, h8, hm⟩ := aa hm
  refine qG [(2, hdc [] (SC.at [(900000214, 183004)] (cN h8)) pS)] [7] [] [183004, 183007] [(183004, .cells 214 [lf (eK .u8) dw.s_.Data, i6 dw.s_.Bits])] ?_
  show ai _ _ _ _ _
  refine qGs [(0, hto (inc hx1 hb1))] [33] [(33, i6 ((j1 + 1 : Nat) : Int))] ?_
  exact qX (dw.s_.Data, dw.s_.Bits) hm
 rintro j1 ⟨m_1, m_2⟩ hj1 hl1 hm
 rw [hK1] at hm
 refine qDs [] [] [(34, .bool (decide ((j1 : Int) < (a.Links.length:Int))))] ?_
 refine A.seq ?_
 refine qF (ltF hl1) ?_
 refine A.exit ?_
 show ai _ _ _ _ _
 obtain ⟨dK, h9, hm⟩ := aa hm
 refine qD [(2, hto (lnE aR a.Claims)), (3, hdc [] (SC.at [(900000214, 183004)] (cN h9)) pS)] [31, 32, 33, 34] [] [183004] [(183004, .cells 214 [lf (eK .u8) dK.s_.Data, i6 dK.s_.Bits])] ?_
 refine A.seq ?_
 refine qD [(2, hto (lnE aR a.Claims))] [1] [(52, lf aR a.Claims), (53, i6 (a.Claims.length:Int)), (54, i6 0)] [183001] [] ?_
 refine A.block ?_
 refine A.bS 52 rfl fun hb2 => ?_
 obtain ⟨B2, K2, hB2, hK2, hm⟩ := bq hm
 refine A.lpI (l := a.Claims) (j0 := 0) (B := B2) (K := K2) hm (fun j2 => fun sg => match sg with | (m_3, m_4) => [(4, .ptr 183004 0), (52, lf aR a.Claims), (53, i6 (a.Claims.length:Int)), (54, i6 (j2 : Int))]) (fun j2 => fun sg => match sg with | (m_3, m_4) => [(183004, .cells 214 [lf (eK .u8) m_3, i6 m_4])]) ?_ ?_ ?_
 ·exact qW
 ·rintro j2 e2 Z2 ⟨m_3, m_4⟩ hj2 hx2 hm
  rw [hB2] at hm
  refine qDs [] [] [(55, .bool (decide ((j2 : Int) < (a.Claims.length:Int))))] ?_
  refine A.seq ?_
  refine qT (ltT hx2) ?_
  refine A.skip ?_
  show ai _ _ _ _ _
  refine A.seq ?_
  refine A.block ?_
  refine qD [(0, hix (ix aR (aV hx2))), (2, .al 183009)] [55] [(9, .ptr 183009 0)] [] [(183009, .cells 85 (k4 e2))] ?_
  refine qDs [] [] [(10, i6 0)] ?_
  refine A.seq ?_
  refine A.block ?_
  obtain ⟨F3, n3, hF3, hm⟩ := fu hm
  refine A.lpW (F := F3) hm (fun jM => [(4, .ptr 183004 0), (9, .ptr 183009 0), (10, i6 jM), (52, lf aR a.Claims), (53, i6 (a.Claims.length:Int)), (54, i6 (j2 : Int))]) (fun jM => [(183004, .cells 214 [lf (eK .u8) m_3, i6 m_4]), (183009, .cells 85 (k4 e2))]) ?_ ?_
  ·exact qW
  rintro Z3 jM hm
  rw [hF3] at hm
  refine A.seq ?_
  obtain ⟨h10, hm⟩ := eV hm
  refine qDs [(1, .sh jM (of_decide_eq_true h10))] [] [(62, .bool (decide (IntKind.wrap .i64 ((8:Int) * 2 ^ min jM.toNat 64) < e2.Length)))] ?_
  rcases ah hm with ⟨c3,hm⟩|⟨c3,hm⟩
  ·refine qT c3 ?_
   refine A.skip ?_
   show ai _ _ _ _ _
   refine A.block ?_
   refine qGs [] [10, 62] [(10, i6 (w64 (jM + (1:Int))))] ?_
   exact qX (w64 (jM + (1:Int))) hm
  refine qF c3 ?_
  refine A.exit ?_
  show ai _ _ _ _ _
  obtain ⟨bK, h11, hm⟩ := aa hm
  refine qD [(2, hdc [] (SC.at [(900000214, 183004)] (cN h11)) pS)] [62] [] [183004] [(183004, .cells 214 [lf (eK .u8) bK.s_.Data, i6 bK.s_.Bits])] ?_
  obtain ⟨dA, h12, hm⟩ := aa hm
  refine qD [(2, hdc [] (SC.at [(900000214, 183004)] (cN h12)) pS)] [9] [] [183004, 183009] [(183004, .cells 214 [lf (eK .u8) dA.s_.Data, i6 dA.s_.Bits])] ?_
  obtain ⟨bZ, h13, hm⟩ := aa hm
  refine qG [(1, hdc [] (SC.at [(900000214, 183004)] (cN h13)) pS)] [10] [] [183004] [(183004, .cells 214 [lf (eK .u8) bZ.s_.Data, i6 bZ.s_.Bits])] ?_
  show ai _ _ _ _ _
  refine qGs [(0, hto (inc hx2 hb2))] [54] [(54, i6 ((j2 + 1 : Nat) : Int))] ?_
  exact qX (bZ.s_.Data, bZ.s_.Bits) hm
 rintro j2 ⟨m_3, m_4⟩ hj2 hl2 hm
 rw [hK2] at hm
 refine qDs [] [] [(55, .bool (decide ((j2 : Int) < (a.Claims.length:Int))))] ?_
 refine A.seq ?_
 refine qF (ltF hl2) ?_
 refine A.exit ?_
 show ai _ _ _ _ _
 obtain ⟨dL, h14, hm⟩ := aa hm
 refine qDs [(2, hro (aab h14) auU)] [52, 53, 54, 55] [(11, .int .u64 dL.1)] ?_
 obtain ⟨gb, h15, hm⟩ := aa hm
 refine qD [(2, hdc [] (SC.at [(900000214, 183004)] (cN h15)) pS)] [11] [] [183004] [(183004, .cells 214 [lf (eK .u8) gb.s_.Data, i6 gb.s_.Bits])] ?_
 refine qS [] [(2, lf (eK .u8) gb.s_.Data), (3, i6 0)] [] ?_
 cases hm
 exact A.ret qE
theorem zb {a : ak} {b : ak} {r : Bool} (hm : ng a b = some r) : RO Tryz.prog 168 [] [.agg (k6 a), .agg (k6 b)] (.bool r) := by
 refine aQ Tryz.func168 rfl rfl ?_
 unfold ng at hm
 refine qS [(0, .al 168002), (1, .al 168003)] [(2, .ptr 168002 0), (3, .ptr 168003 0)] [(168002, .cells 50 (k6 a)), (168003, .cells 50 (k6 b))] ?_
 obtain ⟨af, h1, hm⟩ := aa hm
 refine qDs [(1, hro (sQ h1) aku)] [] [(5, lf (eK .u8) af.1), (6, i6 af.2)] ?_
 obtain ⟨aq, h2, hm⟩ := aa hm
 refine qDs [(1, hro (sQ h2) aku)] [] [(7, lf (eK .u8) aq.1), (8, i6 aq.2)] ?_
 refine A.seq ?_
 refine A.mid [(2, .ptr 168002 0), (3, .ptr 168003 0), (5, lf (eK .u8) af.1), (7, lf (eK .u8) aq.1), (31, .bool ((!decide (af.2 = (0:Int))) || ((!decide (aq.2 = (0:Int))) || (!decide (a.aj = b.aj)))))] [(168002, .cells 50 (k6 a)), (168003, .cells 50 (k6 b))] (fun hk => ?_) ?_
 ·rcases tf (!decide (af.2 = (0:Int))) with c1 | c1
  ·exact qS [(2, hto (bE c1)), (12, hto (orT (q := ((!decide (aq.2 = (0:Int))) || (!decide (a.aj = b.aj)))) c1))] _ _ hk
  rcases tf (!decide (aq.2 = (0:Int))) with c2 | c2
  ·exact qS [(2, hto (bE c1)), (6, hto (bE c2)), (12, hto ((orT (q := !decide (a.aj = b.aj)) c2).trans (orF (q := ((!decide (aq.2 = (0:Int))) || (!decide (a.aj = b.aj)))) c1)))] _ _ hk
  exact qS [(2, hto (bE c1)), (6, hto (bE c2)), (12, hto ((orF (q := !decide (a.aj = b.aj)) c2).trans (orF (q := ((!decide (aq.2 = (0:Int))) || (!decide (a.aj = b.aj)))) c1)))] _ _ hk
 rcases ah hm with ⟨c3,hm⟩|⟨c3,hm⟩
 ·refine qT c3 ?_
  refine qS [] [(4, .bool false)] [] ?_
  cases hm
  exact A.ret qE
 refine qF c3 ?_
 refine A.skip ?_
 show ai _ _ _ _ _
 rcases ah hm with ⟨c4,hm⟩|⟨c4,hm⟩
 ·refine qS [(5, hto (bE c4))] [(4, .bool true)] [] ?_
  cases hm
  exact A.ret qE
 rcases ah hm with ⟨c5,hm⟩|⟨c5,hm⟩
 ·obtain ⟨aI, h3, hm⟩ := aa hm
  refine qS [(5, hto (bE c4)), (11, hto (bE c5)), (14, hro (xW h3) auQ)] [(4, .bool (decide ((0:Int) < aI)))] [] ?_
  cases hm
  exact A.ret qE
 refine qS [(5, hto (bE c4)), (11, hto (bE c5))] [(4, .bool false)] [] ?_
 cases hm
 exact A.ret qE
end Go.Proofs.YtpmifmdidfgpdaaGreat
