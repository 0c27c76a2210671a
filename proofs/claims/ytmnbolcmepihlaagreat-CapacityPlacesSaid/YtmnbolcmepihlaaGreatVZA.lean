/- The walks of cE of the program. No condition but bf aM stand in each. -/
import Derived.Test.YtmnbolcmepihlaaGreatVZ
import Derived.Test.YtmnbolcmepihlaaGreatWG
import Derived.Test.YtmnbolcmepihlaaGreatWH
import Derived.OrdersHeld
namespace Go.Proofs.YtmnbolcmepihlaaGreat
open Go Go.Proofs.Tryz
set_option maxRecDepth 100000
set_option linter.all false
theorem xg{ay:List ah}{root:Int}{r:(List Int)}(hm:kL ay root=some r):RO prog 156 [] [lf aH ay,i6 root] (lf ak r):=by
 refine aZ func156 rfl rfl ?_;unfold kL at hm;refine qS [] [(0,lf aH ay),(1,i6 root)] []<|qD [(0,.al 156010),(2,hmu (mu (k:=.i64) (enc:=vB) [] root true rfl))] [] [(5,.bX 156010)] [] [(156010,.map 3 4 (bU .i64 vB (bN [] root true)))]<|qD [(1,.al 156014)] [1] [(6,.own 156014)] [] [(156014,.slice 3 1 (ml ak ([root]:List Int)) 0 false)]<|A.seq<|qDs [] [] [(7,i6 0)]<|A.block ?_
 obtain⟨F1,n1,hF1,hm⟩:=fW hm;refine A.lpW (F:=F1) hm (λ(bK,i_1,m_1)=>[(0,lf aH ay),(5,.bX 156010),(6,.own 600156006),(7,i6 i_1)]) (λ(bK,i_1,m_1)=>[(156010,.map 3 4 (bU .i64 vB m_1)),(600156006,.slice 3 1 (ml ak bK) 0 false)]) ?_ ?_
 ·exact aU.go [.sw 156014 600156006] [] (by kernel_rfl)
 rintro Z1 ⟨bK,i_1,m_1⟩ hm;rw[hF1]at hm;refine A.seq<|qDs [(2,hto (lnE ak bK))] [] [(18,.bool (decide (i_1<(bK.length:Int))))] ?_
 rcases aA hm with⟨c1,hm⟩|⟨c1,hm⟩
 ·refine qT c1<|A.skip<|A.seq<|A.block<|qDs [(1,hto (lnE aH ay))] [18] [(21,lf aH ay),(22,i6 (ay.length:Int)),(23,i6 0)]<|A.block<|A.bS 0 rfl λhb2=>?_
  obtain⟨B2,K2,hB2,hK2,hm⟩:=bh hm;refine A.lpI (l:=ay) (j0:=0) (B:=B2) (K:=K2) hm (λj2=>λ(eR,m_2)=>[(0,lf aH ay),(5,.bX 156010),(6,.own 600156006),(7,i6 i_1),(21,lf aH ay),(22,i6 (ay.length:Int)),(23,i6 (j2:Int))]) (λj2=>λ(eR,m_2)=>[(156010,.map 3 4 (bU .i64 vB m_2)),(600156006,.slice 3 1 (ml ak eR) 0 false)]) ?_ ?_ ?_
  ·exact qW
  ·rintro j2 e2 Z2 ⟨eR,m_2⟩ hj2 hx2 hm;rw[hB2]at hm;refine qDs [] [] [(24,.bool (decide ((j2:Int)<(ay.length:Int))))]<|A.seq<|qT (ltT hx2)<|A.skip ?_
   obtain⟨J1,hJ1,hm⟩:=cO hm;refine A.J (J:=J1) (r:=r) (λ(nS,m_3)=>[(0,lf aH ay),(5,.bX 156010),(6,.own 600156006),(7,i6 i_1),(21,lf aH ay),(22,i6 (ay.length:Int)),(23,i6 (j2:Int))]) (λ(nS,m_3)=>[(156010,.map 3 4 (bU .i64 vB m_3)),(600156006,.slice 3 1 (ml ak nS) 0 false)]) ?_ ?_
   ·refine A.block<|qD [(0,hix (ix aH (bu hx2))),(2,.al 156009)] [24] [(9,.ptr 156009 0)] [] [(156009,.cells 175 (k4 e2))] ?_
    obtain⟨J2,hJ2,hm⟩:=cO hm;refine A.J (J:=J2) (r:=r) (λv_1=>[(0,lf aH ay),(5,.bX 156010),(6,.own 600156006),(7,i6 i_1),(9,.ptr 156009 0),(21,lf aH ay),(22,i6 (ay.length:Int)),(23,i6 (j2:Int)),(42,.bool v_1)]) (λv_1=>[(156010,.map 3 4 (bU .i64 vB m_2)),(600156006,.slice 3 1 (ml ak eR) 0 false),(156009,.cells 175 (k4 e2))]) ?_ ?_
    ·obtain⟨e_1,h1,hm⟩:=aa hm;rcases aA hm with⟨c2,hm⟩|⟨c2,hm⟩
     ·exact qGs [(5,hix (ix ak h1)),(6,hlo 600156006 0 (ix ak h1)),(8,hto (bE c2)),(13,hlk (lk (E:=4) (k:=.i64) (enc:=vB) m_2 e2.Hop.To false (λw=>⟨_,zeroValue4 w,λI=>by simp[aB,vI,vB]⟩)))] [] [(42,.bool (!((aY m_2 e2.Hop.To).getD false)))]<|qX (!((aY m_2 e2.Hop.To).getD false)) hm
     exact qGs [(5,hix (ix ak h1)),(6,hlo 600156006 0 (ix ak h1)),(8,hto (bE c2))] [] [(42,.bool false)]<|qX false hm
    rintro v_1 hm;rw[hJ2]at hm;rcases aA hm with⟨c3,hm⟩|⟨c3,hm⟩
    ·refine qT c3<|qD [(4,hmu (mu (k:=.i64) (enc:=vB) m_2 e2.Hop.To true rfl))] [42] [] [156010] [(156010,.map 3 4 (bU .i64 vB (bN m_2 e2.Hop.To true)))] ?_
     obtain⟨l_1,h2,hm⟩:=aa hm;exact qG [(5,hap 156552 (ap ak (bytes:=8) (by decide) h2))] [6,9] [(6,.own 156552)] [600156006,156009] [(156552,.slice 3 1 (ml ak l_1) 0 false)]<|Exists.intro (l_1,bN m_2 e2.Hop.To true) (And.intro hm (aU.go [.sw 156552 600156006] [] (by kernel_rfl)))
    exact qF c3<|A.skip<|qX (eR,m_2) hm
   rintro⟨nS,m_3⟩ hm;rw[hJ1]at hm;exact qGs [(0,hto (inc hx2 hb2))] [23] [(23,i6 ((j2+1:Nat):Int))]<|qX (nS,m_3) hm
  rintro j2 ⟨eR,m_2⟩ hj2 hl2 hm;rw[hK2]at hm;exact qDs [] [] [(24,.bool (decide ((j2:Int)<(ay.length:Int))))]<|A.seq<|qF (ltF hl2)<|A.exit<|qGs [] [7,21,22,23,24] [(7,i6 (w64 (i_1+1)))]<|qX (eR,w64 (i_1+1),m_2) hm
 refine qF c1<|A.exit ?_
 obtain⟨h3,hm⟩:=eE hm;refine qS [(1,hdc [] (acU (d:=600156006) (T:=3) bK (of_decide_eq_true h3)) aj0)] [(6,.own 600156006)] [(600156006,.slice 3 1 (ml ak (gP bK)) 0 false)]<|qDs [] [6] [(4,.own 600156006)]<|A.ret ?_
 obtain rfl:=some_inj hm;exact A.fin W0 [.fz [600156006]] rfl (by kernel_rfl)
variable {d:aN}{t:ai}
theorem wo{ra1:List (az×Int)}{r:(List Int)×Bool}(hm:jK t ra1 d=some r):RO prog 89 [] [.agg (k2 t),.mpf (bG (kv aJ) (vI .i64) ra1),.agg (k8 d)] (.tup [lf ak r.1,.bool r.2]):=by
 refine aZ func89 rfl rfl ?_;unfold jK at hm;refine qS [(0,.al 89003),(1,.al 89005)] [(1,.mpf (bG (kv aJ) (vI .i64) ra1)),(3,.ptr 89003 0),(5,.ptr 89005 0)] [(89003,.cells 28 (k2 t)),(89005,.cells 52 (k8 d))] ?_;obtain⟨aq,h1,hm⟩:=aa hm;obtain⟨aF,h2,hm⟩:=aa hm;refine qD [(4,hro (SC.zF (r':=lf aH aq) (σ3:=[]) [500008500] (jI h1) (by kernel_rfl) (by kernel_rfl)) aii),(7,hro (xg h2) aso)] [1,3] [(8,lf ak aF)] [89003] []<|A.seq<|qD [(2,hto (lnE ak d.aV))] [5] [(22,lf ak d.aV),(23,i6 (d.aV.length:Int)),(24,i6 0)] [89005] []<|A.block<|A.bS 22 rfl λhb1=>?_
 obtain⟨B1,K1,hB1,hK1,hm⟩:=bh hm;refine A.lpI (l:=d.aV) (j0:=0) (B:=B1) (K:=K1) hm (λj1=>λ()=>[(8,lf ak aF),(22,lf ak d.aV),(23,i6 (d.aV.length:Int)),(24,i6 (j1:Int))]) (λj1=>λ()=>[]) ?_ ?_ ?_
 ·exact qW
 ·rintro j1 e1 Z1 ⟨⟩ hj1 hx1 hm;rw[hB1]at hm;refine qDs [] [] [(25,.bool (decide ((j1:Int)<(d.aV.length:Int))))]<|A.seq<|qT (ltT hx1)<|A.skip<|A.seq<|A.block<|qDs [(0,hix (ix ak (bu hx1)))] [25] [(10,i6 e1)] ?_
  obtain⟨bx,h3,hm⟩:=aa hm;refine qDs [(2,hro (og h3) asp)] [10] [(12,.bool bx.2)]<|qDs [] [12] [(35,.bool (!bx.2))] ?_
  rcases aA hm with⟨c1,hm⟩|⟨c1,hm⟩
  ·refine qT c1<|qS [] [(6,lf ak aF),(7,.bool false)] [] ?_
   cases hm;exact A.ret qE
  exact qF c1<|A.skip<|qGs [(0,hto (inc hx1 hb1))] [24,35] [(24,i6 ((j1+1:Nat):Int))]<|qX () hm
 rintro j1 ⟨⟩ hj1 hl1 hm;rw[hK1]at hm;refine qDs [] [] [(25,.bool (decide ((j1:Int)<(d.aV.length:Int))))]<|A.seq<|qF (ltF hl1)<|A.exit<|qS [] [(6,lf ak aF),(7,.bool true)] [] ?_
 cases hm;exact A.ret qE
theorem uw{rest:List aR}{r:(List Int)×Int}(hm:gI t rest d=some r):RO prog 25 [] [.agg (k2 t),lf bn rest,.agg (k8 d)] (.tup [lf ak r.1,i6 r.2]):=by
 refine aZ func25 rfl rfl ?_;unfold gI at hm;refine qS [(0,.al 25003),(1,.al 25005)] [(1,lf bn rest),(3,.ptr 25003 0),(5,.ptr 25005 0)] [(25003,.cells 28 (k2 t)),(25005,.cells 52 (k8 d))]<|A.seq ?_
 obtain⟨aq,h1,hm⟩:=aa hm;refine qDs [(3,hro (jP h1) ae7)] [] [(8,i6 aq)]<|qDs [] [] [(16,.bool (!decide (aq=0)))] ?_
 rcases aA hm with⟨c1,hm⟩|⟨c1,hm⟩
 ·refine qT c1<|qS [] [(6,.bI),(7,i6 aq)] [] ?_
  cases hm;exact A.ret qE
 refine qF c1<|A.skip ?_
 obtain⟨aF,h2,hm⟩:=aa hm;obtain⟨bx,h3,hm⟩:=aa hm;refine qS [(2,hro (wm h2) ck90),(4,hro (wo h3) ck89)] [(9,lf ak bx.1),(10,.bool bx.2)] []<|A.seq<|qDs [] [10] [(26,.bool bx.2)] ?_
 rcases aA hm with⟨c2,hm⟩|⟨c2,hm⟩
 ·refine qT c2<|qS [] [(6,.bI),(7,i6 9)] [] ?_
  cases hm;exact A.ret qE
 refine qF c2<|A.skip<|qS [] [(6,lf ak bx.1),(7,i6 0)] [] ?_
 cases hm;exact A.ret qE
theorem xh{aP:List aN}{l:List aT}{r:(List aR)×Int}(hm:gV t aP l=some r):RO prog 24 [] [.agg (k2 t),lf bH aP,lf cr l] (.tup [lf bn r.1,i6 r.2]):=by
 refine aZ func24 rfl rfl ?_;unfold gV at hm;refine qS [(0,.al 24003)] [(1,lf bH aP),(2,lf cr l),(3,.ptr 24003 0)] [(24003,.cells 28 (k2 t))]<|A.seq ?_
 obtain⟨aq,h1,hm⟩:=aa hm;refine qDs [(2,hro (jP h1) ae7)] [] [(8,i6 aq)]<|qDs [] [] [(16,.bool (!decide (aq=0)))] ?_
 rcases aA hm with⟨c1,hm⟩|⟨c1,hm⟩
 ·refine qT c1<|qS [] [(6,.bI),(7,i6 aq)] [] ?_
  cases hm;exact A.ret qE
 refine qF c1<|A.skip<|A.seq<|qDs [(1,hto (lnE cr l)),(3,hto (lnE bH aP))] [8,16] [(22,.bool (decide ((aP.length:Int)<(l.length:Int))))] ?_
 rcases aA hm with⟨c2,hm⟩|⟨c2,hm⟩
 ·refine qT c2<|qS [] [(6,.bI),(7,i6 8)] [] ?_
  cases hm;exact A.ret qE
 refine qF c2<|A.skip ?_
 obtain⟨aF,h2,hm⟩:=aa hm;refine qD [(1,hdc [500008400] (mX h2) aih)] [22] [(9,.bX 500008400)] [] [(500008400,.map 84 3 (bG (kv aJ) (vI .i64) aF))]<|A.seq<|qDs [(1,hto (lnE cr l))] [2] [(25,lf cr l),(26,i6 (l.length:Int)),(27,i6 0)]<|A.block<|A.bS 25 rfl λhb1=>?_
 obtain⟨B1,K1,hB1,hK1,hm⟩:=bh hm;refine A.lpI (l:=l) (j0:=0) (B:=B1) (K:=K1) hm (λj1=>λm_1=>[(1,lf bH aP),(3,.ptr 24003 0),(9,.bX 500008400),(25,lf cr l),(26,i6 (l.length:Int)),(27,i6 (j1:Int))]) (λj1=>λm_1=>[(24003,.cells 28 (k2 t)),(500008400,.map 84 3 (bG (kv aJ) (vI .i64) m_1))]) ?_ ?_ ?_
 ·exact qW
 ·rintro j1 e1 Z1 m_1 hj1 hx1 hm;rw[hB1]at hm;refine qDs [] [] [(28,.bool (decide ((j1:Int)<(l.length:Int))))]<|A.seq<|qT (ltT hx1)<|A.skip<|A.seq<|A.block<|qD [(1,hix (ix cr (bu hx1))),(3,.al 24011)] [28] [(11,.ptr 24011 0),(10,i6 (j1:Int))] [] [(24011,.cells 36 (k6 e1))] ?_
  obtain⟨J1,hJ1,hm⟩:=cO hm;refine A.J (J:=J1) (r:=r) (λ(v_1,m_2)=>[(1,lf bH aP),(3,.ptr 24003 0),(9,.bX 500008400),(25,lf cr l),(26,i6 (l.length:Int)),(27,i6 (j1:Int)),(51,.bool v_1)]) (λ(v_1,m_2)=>[(24003,.cells 28 (k2 t)),(500008400,.map 84 3 (bG (kv aJ) (vI .i64) m_2))]) ?_ ?_
  ·obtain⟨bx,h3,hm⟩:=aa hm;rcases aA hm with⟨c3,hm⟩|⟨c3,hm⟩
   ·obtain⟨bV,h4,hm⟩:=aa hm;rcases aA hm with⟨c4,hm⟩|⟨c4,hm⟩
    ·exact qG [(1,hro (kK h3) ae9),(3,hto (bE c3)),(6,hro (iL h4) ae5),(9,hto (bE c4))] [11,10] [(51,.bool true)] [24011] []<|qX (true,m_1) hm
    obtain⟨e_1,h5,hm⟩:=aa hm;obtain⟨cK,h6,hm⟩:=aa hm;exact qG [(1,hro (kK h3) ae9),(3,hto (bE c3)),(6,hro (iL h4) ae5),(9,hto (bE c4)),(14,hix (ix bH h5)),(17,hdc [] (SC.at [(540000860,500008400)] (gU h6)) ae8)] [11,10] [(51,.bool (!cK.1))] [500008400,24011] [(500008400,.map 84 3 (bG (kv aJ) (vI .i64) cK.2))]<|qX (!cK.1,cK.2) hm
   obtain⟨e_2,h7,hm⟩:=aa hm;obtain⟨cQ,h8,hm⟩:=aa hm;exact qG [(1,hro (kK h3) ae9),(3,hto (bE c3)),(14,hix (ix bH h7)),(17,hdc [] (SC.at [(540000860,500008400)] (gU h8)) ae8)] [11,10] [(51,.bool (!cQ.1))] [500008400,24011] [(500008400,.map 84 3 (bG (kv aJ) (vI .i64) cQ.2))]<|qX (!cQ.1,cQ.2) hm
  rintro⟨v_1,m_2⟩ hm;rw[hJ1]at hm;rcases aA hm with⟨c5,hm⟩|⟨c5,hm⟩
  ·refine qT c5<|qS [] [(6,.bI),(7,i6 1)] [] ?_
   cases hm;exact A.ret qE
  exact qF c5<|A.skip<|qGs [(0,hto (inc hx1 hb1))] [27,51] [(27,i6 ((j1+1:Nat):Int))]<|qX m_2 hm
 rintro j1 m_1 hj1 hl1 hm;rw[hK1]at hm;refine qDs [] [] [(28,.bool (decide ((j1:Int)<(l.length:Int))))]<|A.seq<|qF (ltF hl1)<|A.exit ?_
 obtain⟨dy,h9,hm⟩:=aa hm;refine A.RS W0 [.fz [500008400]] [(1,hrm [500008400] (wk h9) ck88)] [(6,lf bn dy),(7,i6 0)] [] (by kernel_rfl) ?_;cases hm;exact A.ret qE
end Go.Proofs.YtmnbolcmepihlaaGreat
