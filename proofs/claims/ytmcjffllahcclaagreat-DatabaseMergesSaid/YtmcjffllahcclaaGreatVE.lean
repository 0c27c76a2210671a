/- The walks of functions of the program. No condition but those that stand in each. -/
import Derived.Test.YtmcjffllahcclaaGreatDA
import Derived.Test.YtmcjffllahcclaaGreatVB
import Derived.Test.YtmcjffllahcclaaGreatV9
import Derived.Test.YtmcjffllahcclaaGreatCB
namespace Go.Proofs.YtmcjffllahcclaaGreat
open Go
set_option maxRecDepth 100000
set_option linter.all false
theorem m_advert_writer_put_ok {w : GAdvert_writer} {n : Int} {bits : Int} {r : GAdvert_writer} (hm : m_advert_writer_put w n bits = some r) : SCalls Tryz.prog 127 [(900000159, .cells 159 [.lst false (ml (eK .u8) w.s_.Data), .int .i64 w.s_.Bits])] [.ptr 900000159 0, .int .i64 n, .int .i64 bits] (fun a σ' => a = .tup [] ∧ σ' = [(900000159, .cells 159 [.lst false (ml (eK .u8) r.s_.Data), .int .i64 r.s_.Bits])]) := by
  refine enterA Tryz.func127 rfl rfl ?_
  unfold m_advert_writer_put at hm
  obtain ⟨vx_1, h1, hm⟩ := bnd_some hm
  refine A.R W0 [] [(8, hro (m_bitio_Append_ok h1) ck139)] [] [(900000159, .cells 159 [.lst false (ml (eK .u8) vx_1.1.Data), .int .i64 vx_1.1.Bits])] (by kernel_rfl) ?_
  obtain rfl := some_inj hm
  exact A.fin W0 [] rfl (by kernel_rfl)
theorem bcmp_w (u v : Value) (n : Int) (w : World) (h : (Extern.BytealgCompare.compare #[u, v]).run Tryz.prog w = .ok (.int .i64 n) w) : Calls Tryz.prog 100 #[u, v] w fun e w' => e = .returned (.int .i64 n) ∧ w' = w := by
  have hd : (callFunc 129 #[u, v]).run Tryz.prog w = .ok (.value (.int .i64 n)) w := by
    rw [run_callFunc_extern Tryz.func129 (by kernel_rfl) (by kernel_rfl) (by kernel_rfl) (e := Extern.BytealgCompare.compare) (by kernel_rfl), h]; rfl
  go_enter Tryz.func100, Tryz.ntmps100
  go_wp2
  go_ret
  exact ⟨rfl, rfl⟩
theorem m_bytes_Compare_ok {a b : List Int} {r : Int} (hm : m_bytes_Compare a b = some r) : RO Tryz.prog 100 [] [.lst false (ml (eK .u8) a), .lst false (ml (eK .u8) b)] (.int .i64 r) := by
  cases hm
  exact bcmp_ro bcmp_w
theorem m_advert_Encode_ok {a : GAdvert} {r : (List Int) × Int} (hm : m_advert_Encode a = some r) : RO Tryz.prog 99 [] [.agg [.int .i64 a.Router, .int .i64 a.Seq, .bool a.Capable, .lst false (ml eGReach a.Links), .lst false (ml eGClaim a.Claims)]] (.tup [.lst false (ml (eK .u8) r.1), .int .i64 r.2]) := by
  refine enterA Tryz.func99 rfl rfl ?_
  unfold m_advert_Encode at hm
  refine A.RS W0 [] [(0, .al 99001)] [(1, .ptr 99001 0)] [(99001, .cells 29 [.int .i64 a.Router, .int .i64 a.Seq, .bool a.Capable, .lst false (ml eGReach a.Links), .lst false (ml eGClaim a.Claims)])] (by kernel_rfl) ?_
  refine A.seq ?_
  obtain ⟨vx_1, h1, hm⟩ := bnd_some hm
  refine A.RS W0 [] [(1, hro (m_advert_Valid_ok h1) ck37)] [(1, .ptr 99001 0), (15, .bool (!vx_1))] [(99001, .cells 29 [.int .i64 a.Router, .int .i64 a.Seq, .bool a.Capable, .lst false (ml eGReach a.Links), .lst false (ml eGClaim a.Claims)])] (by kernel_rfl) ?_
  rcases cs_some hm with ⟨c1, hm⟩ | ⟨c1, hm⟩
  · skip
    refine A.cT rfl c1 ?_
    refine A.RS W0 [] [] [(2, .nils), (3, .int .i64 (1:Int))] [] (by kernel_rfl) ?_
    refine A.ret ?_
    obtain rfl := some_inj hm
    exact A.fin W0 [] rfl (by kernel_rfl)
  refine A.cF rfl c1 ?_
  refine A.skip ?_
  show acode _ _ _ _ _
  refine A.RS W0 [] [(0, .al 99004)] [(1, .ptr 99001 0), (4, .ptr 99004 0)] [(99001, .cells 29 [.int .i64 a.Router, .int .i64 a.Seq, .bool a.Capable, .lst false (ml eGReach a.Links), .lst false (ml eGClaim a.Claims)]), (99004, .cells 159 [.nils, .int .i64 (0:Int)])] (by kernel_rfl) ?_
  obtain ⟨vx_2, h2, hm⟩ := bnd_some hm
  refine A.RS W0 [.sc 99004 [99001, 99004]] [(2, hdc [] (SC.at [(900000159, 99004)] (m_advert_writer_put_ok h2)) ck127)] [(1, .ptr 99001 0), (4, .ptr 99004 0)] [(99001, .cells 29 [.int .i64 a.Router, .int .i64 a.Seq, .bool a.Capable, .lst false (ml eGReach a.Links), .lst false (ml eGClaim a.Claims)]), (99004, .cells 159 [.lst false (ml (eK .u8) vx_2.s_.Data), .int .i64 vx_2.s_.Bits])] (by kernel_rfl) ?_
  obtain ⟨vx_3, h3, hm⟩ := bnd_some hm
  refine A.RS W0 [] [(2, hdc [] (SC.at [(900000159, 99004)] (m_advert_writer_put_ok h3)) ck127)] [(1, .ptr 99001 0), (4, .ptr 99004 0)] [(99001, .cells 29 [.int .i64 a.Router, .int .i64 a.Seq, .bool a.Capable, .lst false (ml eGReach a.Links), .lst false (ml eGClaim a.Claims)]), (99004, .cells 159 [.lst false (ml (eK .u8) vx_3.s_.Data), .int .i64 vx_3.s_.Bits])] (by kernel_rfl) ?_
  refine A.RS W0 [] [] [(1, .ptr 99001 0), (4, .ptr 99004 0), (5, .int .i64 (0:Int))] [(99001, .cells 29 [.int .i64 a.Router, .int .i64 a.Seq, .bool a.Capable, .lst false (ml eGReach a.Links), .lst false (ml eGClaim a.Claims)]), (99004, .cells 159 [.lst false (ml (eK .u8) vx_3.s_.Data), .int .i64 vx_3.s_.Bits])] (by kernel_rfl) ?_
  obtain ⟨J1, hJ1, hm⟩ := jn_some hm
  refine A.J (J := J1) (r := r) (fun capable_1 => [(1, .ptr 99001 0), (4, .ptr 99004 0), (5, .int .i64 capable_1)]) (fun capable_1 => [(99001, .cells 29 [.int .i64 a.Router, .int .i64 a.Seq, .bool a.Capable, .lst false (ml eGReach a.Links), .lst false (ml eGClaim a.Claims)]), (99004, .cells 159 [.lst false (ml (eK .u8) vx_3.s_.Data), .int .i64 vx_3.s_.Bits])]) ?_ ?_
  · skip
    refine A.RS W0 [] [] [(1, .ptr 99001 0), (4, .ptr 99004 0), (5, .int .i64 (0:Int)), (23, .bool a.Capable)] [(99001, .cells 29 [.int .i64 a.Router, .int .i64 a.Seq, .bool a.Capable, .lst false (ml eGReach a.Links), .lst false (ml eGClaim a.Claims)]), (99004, .cells 159 [.lst false (ml (eK .u8) vx_3.s_.Data), .int .i64 vx_3.s_.Bits])] (by kernel_rfl) ?_
    rcases cs_some hm with ⟨c2, hm⟩ | ⟨c2, hm⟩
    · skip
      refine A.cT rfl c2 ?_
      refine A.R W0 [] [] [(1, .ptr 99001 0), (4, .ptr 99004 0), (5, .int .i64 (1:Int))] [(99001, .cells 29 [.int .i64 a.Router, .int .i64 a.Seq, .bool a.Capable, .lst false (ml eGReach a.Links), .lst false (ml eGClaim a.Claims)]), (99004, .cells 159 [.lst false (ml (eK .u8) vx_3.s_.Data), .int .i64 vx_3.s_.Bits])] (by kernel_rfl) ?_
      exact Exists.intro (1:Int) (And.intro hm (Weak.go [] [] (by kernel_rfl)))
    refine A.cF rfl c2 ?_
    refine A.skip ?_
    exact Exists.intro (0:Int) (And.intro hm (Weak.go [] [] (by kernel_rfl)))
  rintro capable_1 hm
  rw [hJ1] at hm
  obtain ⟨vx_4, h4, hm⟩ := bnd_some hm
  refine A.RS W0 [] [(1, hdc [] (SC.at [(900000159, 99004)] (m_advert_writer_put_ok h4)) ck127)] [(1, .ptr 99001 0), (4, .ptr 99004 0)] [(99001, .cells 29 [.int .i64 a.Router, .int .i64 a.Seq, .bool a.Capable, .lst false (ml eGReach a.Links), .lst false (ml eGClaim a.Claims)]), (99004, .cells 159 [.lst false (ml (eK .u8) vx_4.s_.Data), .int .i64 vx_4.s_.Bits])] (by kernel_rfl) ?_
  obtain ⟨vx_5, h5, hm⟩ := bnd_some hm
  refine A.RS W0 [] [(2, hto (lnE eGReach a.Links)), (3, hdc [] (SC.at [(900000159, 99004)] (m_advert_writer_put_ok h5)) ck127)] [(1, .ptr 99001 0), (4, .ptr 99004 0)] [(99001, .cells 29 [.int .i64 a.Router, .int .i64 a.Seq, .bool a.Capable, .lst false (ml eGReach a.Links), .lst false (ml eGClaim a.Claims)]), (99004, .cells 159 [.lst false (ml (eK .u8) vx_5.s_.Data), .int .i64 vx_5.s_.Bits])] (by kernel_rfl) ?_
  refine A.seq ?_
  refine A.RS W0 [] [(2, hto (lnE eGReach a.Links))] [(1, .ptr 99001 0), (4, .ptr 99004 0), (31, .lst false (ml eGReach a.Links)), (32, .int .i64 (a.Links.length:Int)), (33, .int .i64 (0:Int))] [(99001, .cells 29 [.int .i64 a.Router, .int .i64 a.Seq, .bool a.Capable, .lst false (ml eGReach a.Links), .lst false (ml eGClaim a.Claims)]), (99004, .cells 159 [.lst false (ml (eK .u8) vx_5.s_.Data), .int .i64 vx_5.s_.Bits])] (by kernel_rfl) ?_
  refine A.block ?_
  refine A.bS 31 rfl fun hb1 => ?_
  obtain ⟨B1, K1, hB1, hK1, hm⟩ := forI_some hm
  refine A.lpI (l := a.Links) (j0 := 0) (B := B1) (K := K1) hm (fun j1 => fun sg => match sg with | (m_1, m_2) => [(1, .ptr 99001 0), (4, .ptr 99004 0), (31, .lst false (ml eGReach a.Links)), (32, .int .i64 (a.Links.length:Int)), (33, .int .i64 (j1 : Int))]) (fun j1 => fun sg => match sg with | (m_1, m_2) => [(99001, .cells 29 [.int .i64 a.Router, .int .i64 a.Seq, .bool a.Capable, .lst false (ml eGReach a.Links), .lst false (ml eGClaim a.Claims)]), (99004, .cells 159 [.lst false (ml (eK .u8) m_1), .int .i64 m_2])]) ?_ ?_ ?_
  · exact Weak.go [] [] (by kernel_rfl)
  · skip
    rintro j1 e1 Z1 ⟨m_1, m_2⟩ hj1 hx1 hm
    rw [hB1] at hm
    refine A.RS W0 [] [] [(1, .ptr 99001 0), (4, .ptr 99004 0), (31, .lst false (ml eGReach a.Links)), (32, .int .i64 (a.Links.length:Int)), (33, .int .i64 (j1 : Int)), (34, .bool (decide ((j1 : Int) < (a.Links.length:Int))))] [(99001, .cells 29 [.int .i64 a.Router, .int .i64 a.Seq, .bool a.Capable, .lst false (ml eGReach a.Links), .lst false (ml eGClaim a.Claims)]), (99004, .cells 159 [.lst false (ml (eK .u8) m_1), .int .i64 m_2])] (by kernel_rfl) ?_
    refine A.seq ?_
    refine A.cT rfl (ltT hx1) ?_
    refine A.skip ?_
    show acode _ _ _ _ _
    refine A.seq ?_
    refine A.block ?_
    refine A.RS W0 [] [(0, hix (ix eGReach (elO_nat hx1))), (2, .al 99007)] [(1, .ptr 99001 0), (4, .ptr 99004 0), (31, .lst false (ml eGReach a.Links)), (32, .int .i64 (a.Links.length:Int)), (33, .int .i64 (j1 : Int)), (7, .ptr 99007 0)] [(99001, .cells 29 [.int .i64 a.Router, .int .i64 a.Seq, .bool a.Capable, .lst false (ml eGReach a.Links), .lst false (ml eGClaim a.Claims)]), (99004, .cells 159 [.lst false (ml (eK .u8) m_1), .int .i64 m_2]), (99007, .cells 74 [.int .i64 e1.Neighbour, .int .i64 e1.Cost, .int .i64 e1.Capacity])] (by kernel_rfl) ?_
    obtain ⟨vx_6, h6, hm⟩ := bnd_some hm
    refine A.RS W0 [] [(2, hdc [] (SC.at [(900000159, 99004)] (m_advert_writer_put_ok h6)) ck127)] [(1, .ptr 99001 0), (4, .ptr 99004 0), (31, .lst false (ml eGReach a.Links)), (32, .int .i64 (a.Links.length:Int)), (33, .int .i64 (j1 : Int)), (7, .ptr 99007 0)] [(99001, .cells 29 [.int .i64 a.Router, .int .i64 a.Seq, .bool a.Capable, .lst false (ml eGReach a.Links), .lst false (ml eGClaim a.Claims)]), (99004, .cells 159 [.lst false (ml (eK .u8) vx_6.s_.Data), .int .i64 vx_6.s_.Bits]), (99007, .cells 74 [.int .i64 e1.Neighbour, .int .i64 e1.Cost, .int .i64 e1.Capacity])] (by kernel_rfl) ?_
    obtain ⟨vx_7, h7, hm⟩ := bnd_some hm
    refine A.RS W0 [] [(2, hdc [] (SC.at [(900000159, 99004)] (m_advert_writer_put_ok h7)) ck127)] [(1, .ptr 99001 0), (4, .ptr 99004 0), (31, .lst false (ml eGReach a.Links)), (32, .int .i64 (a.Links.length:Int)), (33, .int .i64 (j1 : Int)), (7, .ptr 99007 0)] [(99001, .cells 29 [.int .i64 a.Router, .int .i64 a.Seq, .bool a.Capable, .lst false (ml eGReach a.Links), .lst false (ml eGClaim a.Claims)]), (99004, .cells 159 [.lst false (ml (eK .u8) vx_7.s_.Data), .int .i64 vx_7.s_.Bits]), (99007, .cells 74 [.int .i64 e1.Neighbour, .int .i64 e1.Cost, .int .i64 e1.Capacity])] (by kernel_rfl) ?_
    obtain ⟨vx_8, h8, hm⟩ := bnd_some hm
    refine A.R W0 [] [(2, hdc [] (SC.at [(900000159, 99004)] (m_advert_writer_put_ok h8)) ck127)] [(1, .ptr 99001 0), (4, .ptr 99004 0), (31, .lst false (ml eGReach a.Links)), (32, .int .i64 (a.Links.length:Int)), (33, .int .i64 (j1 : Int))] [(99001, .cells 29 [.int .i64 a.Router, .int .i64 a.Seq, .bool a.Capable, .lst false (ml eGReach a.Links), .lst false (ml eGClaim a.Claims)]), (99004, .cells 159 [.lst false (ml (eK .u8) vx_8.s_.Data), .int .i64 vx_8.s_.Bits])] (by kernel_rfl) ?_
    show acode _ _ _ _ _
    refine A.R W0 [] [(0, hto (inc hx1 hb1))] [(1, .ptr 99001 0), (4, .ptr 99004 0), (31, .lst false (ml eGReach a.Links)), (32, .int .i64 (a.Links.length:Int)), (33, .int .i64 ((j1 + 1 : Nat) : Int))] [(99001, .cells 29 [.int .i64 a.Router, .int .i64 a.Seq, .bool a.Capable, .lst false (ml eGReach a.Links), .lst false (ml eGClaim a.Claims)]), (99004, .cells 159 [.lst false (ml (eK .u8) vx_8.s_.Data), .int .i64 vx_8.s_.Bits])] (by kernel_rfl) ?_
    exact Exists.intro (vx_8.s_.Data, vx_8.s_.Bits) (And.intro hm (Weak.go [] [] (by kernel_rfl)))
  rintro j1 ⟨m_1, m_2⟩ hj1 hl1 hm
  rw [hK1] at hm
  refine A.RS W0 [] [] [(1, .ptr 99001 0), (4, .ptr 99004 0), (31, .lst false (ml eGReach a.Links)), (32, .int .i64 (a.Links.length:Int)), (33, .int .i64 (j1 : Int)), (34, .bool (decide ((j1 : Int) < (a.Links.length:Int))))] [(99001, .cells 29 [.int .i64 a.Router, .int .i64 a.Seq, .bool a.Capable, .lst false (ml eGReach a.Links), .lst false (ml eGClaim a.Claims)]), (99004, .cells 159 [.lst false (ml (eK .u8) m_1), .int .i64 m_2])] (by kernel_rfl) ?_
  refine A.seq ?_
  refine A.cF rfl (ltF hl1) ?_
  refine A.exit ?_
  show acode _ _ _ _ _
  obtain ⟨vx_9, h9, hm⟩ := bnd_some hm
  refine A.RS W0 [] [(2, hto (lnE eGClaim a.Claims)), (3, hdc [] (SC.at [(900000159, 99004)] (m_advert_writer_put_ok h9)) ck127)] [(1, .ptr 99001 0), (4, .ptr 99004 0)] [(99001, .cells 29 [.int .i64 a.Router, .int .i64 a.Seq, .bool a.Capable, .lst false (ml eGReach a.Links), .lst false (ml eGClaim a.Claims)]), (99004, .cells 159 [.lst false (ml (eK .u8) vx_9.s_.Data), .int .i64 vx_9.s_.Bits])] (by kernel_rfl) ?_
  refine A.seq ?_
  refine A.RS W0 [] [(2, hto (lnE eGClaim a.Claims))] [(4, .ptr 99004 0), (52, .lst false (ml eGClaim a.Claims)), (53, .int .i64 (a.Claims.length:Int)), (54, .int .i64 (0:Int))] [(99004, .cells 159 [.lst false (ml (eK .u8) vx_9.s_.Data), .int .i64 vx_9.s_.Bits])] (by kernel_rfl) ?_
  refine A.block ?_
  refine A.bS 52 rfl fun hb2 => ?_
  obtain ⟨B2, K2, hB2, hK2, hm⟩ := forI_some hm
  refine A.lpI (l := a.Claims) (j0 := 0) (B := B2) (K := K2) hm (fun j2 => fun sg => match sg with | (m_3, m_4) => [(4, .ptr 99004 0), (52, .lst false (ml eGClaim a.Claims)), (53, .int .i64 (a.Claims.length:Int)), (54, .int .i64 (j2 : Int))]) (fun j2 => fun sg => match sg with | (m_3, m_4) => [(99004, .cells 159 [.lst false (ml (eK .u8) m_3), .int .i64 m_4])]) ?_ ?_ ?_
  · exact Weak.go [] [] (by kernel_rfl)
  · skip
    rintro j2 e2 Z2 ⟨m_3, m_4⟩ hj2 hx2 hm
    rw [hB2] at hm
    refine A.RS W0 [] [] [(4, .ptr 99004 0), (52, .lst false (ml eGClaim a.Claims)), (53, .int .i64 (a.Claims.length:Int)), (54, .int .i64 (j2 : Int)), (55, .bool (decide ((j2 : Int) < (a.Claims.length:Int))))] [(99004, .cells 159 [.lst false (ml (eK .u8) m_3), .int .i64 m_4])] (by kernel_rfl) ?_
    refine A.seq ?_
    refine A.cT rfl (ltT hx2) ?_
    refine A.skip ?_
    show acode _ _ _ _ _
    refine A.seq ?_
    refine A.block ?_
    refine A.RS W0 [] [(0, hix (ix eGClaim (elO_nat hx2))), (2, .al 99009)] [(4, .ptr 99004 0), (52, .lst false (ml eGClaim a.Claims)), (53, .int .i64 (a.Claims.length:Int)), (54, .int .i64 (j2 : Int)), (9, .ptr 99009 0)] [(99004, .cells 159 [.lst false (ml (eK .u8) m_3), .int .i64 m_4]), (99009, .cells 77 [.int .i64 e2.Subdomain, .int .i64 e2.ID, .int .i64 e2.Length])] (by kernel_rfl) ?_
    refine A.RS W0 [] [] [(4, .ptr 99004 0), (52, .lst false (ml eGClaim a.Claims)), (53, .int .i64 (a.Claims.length:Int)), (54, .int .i64 (j2 : Int)), (9, .ptr 99009 0), (10, .int .i64 (0:Int))] [(99004, .cells 159 [.lst false (ml (eK .u8) m_3), .int .i64 m_4]), (99009, .cells 77 [.int .i64 e2.Subdomain, .int .i64 e2.ID, .int .i64 e2.Length])] (by kernel_rfl) ?_
    refine A.seq ?_
    refine A.block ?_
    obtain ⟨F3, n3, hF3, hm⟩ := whl_some hm
    refine A.lpW (F := F3) hm (fun code_1 => [(4, .ptr 99004 0), (9, .ptr 99009 0), (10, .int .i64 code_1), (52, .lst false (ml eGClaim a.Claims)), (53, .int .i64 (a.Claims.length:Int)), (54, .int .i64 (j2 : Int))]) (fun code_1 => [(99004, .cells 159 [.lst false (ml (eK .u8) m_3), .int .i64 m_4]), (99009, .cells 77 [.int .i64 e2.Subdomain, .int .i64 e2.ID, .int .i64 e2.Length])]) ?_ ?_
    · exact Weak.go [] [] (by kernel_rfl)
    rintro Z3 code_1 hm
    rw [hF3] at hm
    refine A.seq ?_
    obtain ⟨h10, hm⟩ := chk_some hm
    refine A.RS W0 [] [(1, .sh code_1 (of_decide_eq_true h10))] [(4, .ptr 99004 0), (9, .ptr 99009 0), (10, .int .i64 code_1), (52, .lst false (ml eGClaim a.Claims)), (53, .int .i64 (a.Claims.length:Int)), (54, .int .i64 (j2 : Int)), (62, .bool (decide (IntKind.wrap .i64 ((8:Int) * 2 ^ min code_1.toNat 64) < e2.Length)))] [(99004, .cells 159 [.lst false (ml (eK .u8) m_3), .int .i64 m_4]), (99009, .cells 77 [.int .i64 e2.Subdomain, .int .i64 e2.ID, .int .i64 e2.Length])] (by kernel_rfl) ?_
    rcases cs_some hm with ⟨c3, hm⟩ | ⟨c3, hm⟩
    · skip
      refine A.cT rfl c3 ?_
      refine A.skip ?_
      show acode _ _ _ _ _
      refine A.block ?_
      refine A.R W0 [] [] [(4, .ptr 99004 0), (9, .ptr 99009 0), (10, .int .i64 (w64 (code_1 + (1:Int)))), (52, .lst false (ml eGClaim a.Claims)), (53, .int .i64 (a.Claims.length:Int)), (54, .int .i64 (j2 : Int))] [(99004, .cells 159 [.lst false (ml (eK .u8) m_3), .int .i64 m_4]), (99009, .cells 77 [.int .i64 e2.Subdomain, .int .i64 e2.ID, .int .i64 e2.Length])] (by kernel_rfl) ?_
      exact Exists.intro (w64 (code_1 + (1:Int))) (And.intro hm (Weak.go [] [] (by kernel_rfl)))
    refine A.cF rfl c3 ?_
    refine A.exit ?_
    show acode _ _ _ _ _
    obtain ⟨vx_10, h11, hm⟩ := bnd_some hm
    refine A.RS W0 [] [(2, hdc [] (SC.at [(900000159, 99004)] (m_advert_writer_put_ok h11)) ck127)] [(4, .ptr 99004 0), (9, .ptr 99009 0), (10, .int .i64 code_1), (52, .lst false (ml eGClaim a.Claims)), (53, .int .i64 (a.Claims.length:Int)), (54, .int .i64 (j2 : Int))] [(99004, .cells 159 [.lst false (ml (eK .u8) vx_10.s_.Data), .int .i64 vx_10.s_.Bits]), (99009, .cells 77 [.int .i64 e2.Subdomain, .int .i64 e2.ID, .int .i64 e2.Length])] (by kernel_rfl) ?_
    obtain ⟨vx_11, h12, hm⟩ := bnd_some hm
    refine A.RS W0 [] [(2, hdc [] (SC.at [(900000159, 99004)] (m_advert_writer_put_ok h12)) ck127)] [(4, .ptr 99004 0), (10, .int .i64 code_1), (52, .lst false (ml eGClaim a.Claims)), (53, .int .i64 (a.Claims.length:Int)), (54, .int .i64 (j2 : Int))] [(99004, .cells 159 [.lst false (ml (eK .u8) vx_11.s_.Data), .int .i64 vx_11.s_.Bits])] (by kernel_rfl) ?_
    obtain ⟨vx_12, h13, hm⟩ := bnd_some hm
    refine A.R W0 [] [(1, hdc [] (SC.at [(900000159, 99004)] (m_advert_writer_put_ok h13)) ck127)] [(4, .ptr 99004 0), (52, .lst false (ml eGClaim a.Claims)), (53, .int .i64 (a.Claims.length:Int)), (54, .int .i64 (j2 : Int))] [(99004, .cells 159 [.lst false (ml (eK .u8) vx_12.s_.Data), .int .i64 vx_12.s_.Bits])] (by kernel_rfl) ?_
    show acode _ _ _ _ _
    refine A.R W0 [] [(0, hto (inc hx2 hb2))] [(4, .ptr 99004 0), (52, .lst false (ml eGClaim a.Claims)), (53, .int .i64 (a.Claims.length:Int)), (54, .int .i64 ((j2 + 1 : Nat) : Int))] [(99004, .cells 159 [.lst false (ml (eK .u8) vx_12.s_.Data), .int .i64 vx_12.s_.Bits])] (by kernel_rfl) ?_
    exact Exists.intro (vx_12.s_.Data, vx_12.s_.Bits) (And.intro hm (Weak.go [] [] (by kernel_rfl)))
  rintro j2 ⟨m_3, m_4⟩ hj2 hl2 hm
  rw [hK2] at hm
  refine A.RS W0 [] [] [(4, .ptr 99004 0), (52, .lst false (ml eGClaim a.Claims)), (53, .int .i64 (a.Claims.length:Int)), (54, .int .i64 (j2 : Int)), (55, .bool (decide ((j2 : Int) < (a.Claims.length:Int))))] [(99004, .cells 159 [.lst false (ml (eK .u8) m_3), .int .i64 m_4])] (by kernel_rfl) ?_
  refine A.seq ?_
  refine A.cF rfl (ltF hl2) ?_
  refine A.exit ?_
  show acode _ _ _ _ _
  obtain ⟨vx_13, h14, hm⟩ := bnd_some hm
  refine A.RS W0 [] [(2, hro (m_bitio_Check_ok h14) ck128)] [(4, .ptr 99004 0), (11, .int .u64 vx_13.1)] [(99004, .cells 159 [.lst false (ml (eK .u8) m_3), .int .i64 m_4])] (by kernel_rfl) ?_
  obtain ⟨vx_14, h15, hm⟩ := bnd_some hm
  refine A.RS W0 [] [(2, hdc [] (SC.at [(900000159, 99004)] (m_advert_writer_put_ok h15)) ck127)] [(4, .ptr 99004 0)] [(99004, .cells 159 [.lst false (ml (eK .u8) vx_14.s_.Data), .int .i64 vx_14.s_.Bits])] (by kernel_rfl) ?_
  refine A.RS W0 [] [] [(2, .lst false (ml (eK .u8) vx_14.s_.Data)), (3, .int .i64 (0:Int))] [] (by kernel_rfl) ?_
  refine A.ret ?_
  obtain rfl := some_inj hm
  exact A.fin W0 [] rfl (by kernel_rfl)
theorem m_advert_Newer_ok {a : GAdvert} {b : GAdvert} {r : Bool} (hm : m_advert_Newer a b = some r) : RO Tryz.prog 69 [] [.agg [.int .i64 a.Router, .int .i64 a.Seq, .bool a.Capable, .lst false (ml eGReach a.Links), .lst false (ml eGClaim a.Claims)], .agg [.int .i64 b.Router, .int .i64 b.Seq, .bool b.Capable, .lst false (ml eGReach b.Links), .lst false (ml eGClaim b.Claims)]] (.bool r) := by
  refine enterA Tryz.func69 rfl rfl ?_
  unfold m_advert_Newer at hm
  refine A.RS W0 [] [(0, .al 69002), (1, .al 69003)] [(2, .ptr 69002 0), (3, .ptr 69003 0)] [(69002, .cells 29 [.int .i64 a.Router, .int .i64 a.Seq, .bool a.Capable, .lst false (ml eGReach a.Links), .lst false (ml eGClaim a.Claims)]), (69003, .cells 29 [.int .i64 b.Router, .int .i64 b.Seq, .bool b.Capable, .lst false (ml eGReach b.Links), .lst false (ml eGClaim b.Claims)])] (by kernel_rfl) ?_
  obtain ⟨vx_1, h1, hm⟩ := bnd_some hm
  refine A.RS W0 [] [(1, hro (m_advert_Encode_ok h1) ck99)] [(2, .ptr 69002 0), (3, .ptr 69003 0), (5, .lst false (ml (eK .u8) vx_1.1)), (6, .int .i64 vx_1.2)] [(69002, .cells 29 [.int .i64 a.Router, .int .i64 a.Seq, .bool a.Capable, .lst false (ml eGReach a.Links), .lst false (ml eGClaim a.Claims)]), (69003, .cells 29 [.int .i64 b.Router, .int .i64 b.Seq, .bool b.Capable, .lst false (ml eGReach b.Links), .lst false (ml eGClaim b.Claims)])] (by kernel_rfl) ?_
  obtain ⟨vx_2, h2, hm⟩ := bnd_some hm
  refine A.RS W0 [] [(1, hro (m_advert_Encode_ok h2) ck99)] [(2, .ptr 69002 0), (3, .ptr 69003 0), (5, .lst false (ml (eK .u8) vx_1.1)), (6, .int .i64 vx_1.2), (7, .lst false (ml (eK .u8) vx_2.1)), (8, .int .i64 vx_2.2)] [(69002, .cells 29 [.int .i64 a.Router, .int .i64 a.Seq, .bool a.Capable, .lst false (ml eGReach a.Links), .lst false (ml eGClaim a.Claims)]), (69003, .cells 29 [.int .i64 b.Router, .int .i64 b.Seq, .bool b.Capable, .lst false (ml eGReach b.Links), .lst false (ml eGClaim b.Claims)])] (by kernel_rfl) ?_
  refine A.seq ?_
  refine A.mid [(2, .ptr 69002 0), (3, .ptr 69003 0), (5, .lst false (ml (eK .u8) vx_1.1)), (7, .lst false (ml (eK .u8) vx_2.1)), (31, .bool ((!decide (vx_1.2 = (0:Int))) || ((!decide (vx_2.2 = (0:Int))) || (!decide (a.Router = b.Router)))))] [(69002, .cells 29 [.int .i64 a.Router, .int .i64 a.Seq, .bool a.Capable, .lst false (ml eGReach a.Links), .lst false (ml eGClaim a.Claims)]), (69003, .cells 29 [.int .i64 b.Router, .int .i64 b.Seq, .bool b.Capable, .lst false (ml eGReach b.Links), .lst false (ml eGClaim b.Claims)])] (fun hk => ?_) ?_
  · skip
    rcases tf (!decide (vx_1.2 = (0:Int))) with c1 | c1
    · skip
      exact A.RS W0 [] [(2, hto (bE c1)), (12, hto (orT (q := ((!decide (vx_2.2 = (0:Int))) || (!decide (a.Router = b.Router)))) c1))] _ _ (by kernel_rfl) hk
    rcases tf (!decide (vx_2.2 = (0:Int))) with c2 | c2
    · skip
      exact A.RS W0 [] [(2, hto (bE c1)), (6, hto (bE c2)), (12, hto ((orT (q := !decide (a.Router = b.Router)) c2).trans (orF (q := ((!decide (vx_2.2 = (0:Int))) || (!decide (a.Router = b.Router)))) c1)))] _ _ (by kernel_rfl) hk
    exact A.RS W0 [] [(2, hto (bE c1)), (6, hto (bE c2)), (12, hto ((orF (q := !decide (a.Router = b.Router)) c2).trans (orF (q := ((!decide (vx_2.2 = (0:Int))) || (!decide (a.Router = b.Router)))) c1)))] _ _ (by kernel_rfl) hk
  rcases cs_some hm with ⟨c3, hm⟩ | ⟨c3, hm⟩
  · skip
    refine A.cT rfl c3 ?_
    refine A.RS W0 [] [] [(4, .bool false)] [] (by kernel_rfl) ?_
    refine A.ret ?_
    obtain rfl := some_inj hm
    exact A.fin W0 [] rfl (by kernel_rfl)
  refine A.cF rfl c3 ?_
  refine A.skip ?_
  show acode _ _ _ _ _
  rcases cs_some hm with ⟨c4, hm⟩ | ⟨c4, hm⟩
  · skip
    refine A.RS W0 [] [(5, hto (bE c4))] [(4, .bool true)] [] (by kernel_rfl) ?_
    refine A.ret ?_
    obtain rfl := some_inj hm
    exact A.fin W0 [] rfl (by kernel_rfl)
  rcases cs_some hm with ⟨c5, hm⟩ | ⟨c5, hm⟩
  · skip
    obtain ⟨vx_3, h3, hm⟩ := bnd_some hm
    refine A.RS W0 [] [(5, hto (bE c4)), (11, hto (bE c5)), (14, hro (m_bytes_Compare_ok h3) ck100)] [(4, .bool (decide ((0:Int) < vx_3)))] [] (by kernel_rfl) ?_
    refine A.ret ?_
    obtain rfl := some_inj hm
    exact A.fin W0 [] rfl (by kernel_rfl)
  refine A.RS W0 [] [(5, hto (bE c4)), (11, hto (bE c5))] [(4, .bool false)] [] (by kernel_rfl) ?_
  refine A.ret ?_
  obtain rfl := some_inj hm
  exact A.fin W0 [] rfl (by kernel_rfl)
end Go.Proofs.YtmcjffllahcclaaGreat
