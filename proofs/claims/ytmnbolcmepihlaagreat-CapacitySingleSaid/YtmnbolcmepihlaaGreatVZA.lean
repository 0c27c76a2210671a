/- The walks of cz of the program. No condition but aX aL stand in each. -/
import Derived.Test.YtmnbolcmepihlaaGreatVZ
import Derived.Test.YtmnbolcmepihlaaGreatWG
import Derived.Test.YtmnbolcmepihlaaGreatWH
namespace Go.Proofs.YtmnbolcmepihlaaGreat
open Go Go.Proofs.Tryz
set_option maxRecDepth 100000
set_option linter.all false
theorem xb{aq:List ai}{root:Int}{r:(List Int)}(hm:kR aq root=some r):RO prog 156 [] [lf aG aq,i6 root] (lf aj r):=by
 refine aY func156 rfl rfl ?_;unfold kR at hm;refine qS [] [(0,lf aG aq),(1,i6 root)] []<|qD [(0,.al 156010),(2,hmu (mu (k:=.i64) (enc:=vB) [] root true rfl))] [] [(5,.bN 156010)] [] [(156010,.map 3 4 (bK .i64 vB (bG [] root true)))]<|qD [(1,.al 156014)] [1] [(6,.own 156014)] [] [(156014,.slice 3 1 (ml aj ([root]:List Int)) 0 false)]<|A.seq<|qDs [] [] [(7,i6 0)]<|A.block ?_
 obtain⟨F1,n1,hF1,hm⟩:=fP hm;refine A.lpW (F:=F1) hm (λ(b9,i_1,m_1)=>[(0,lf aG aq),(5,.bN 156010),(6,.own 600156006),(7,i6 i_1)]) (λ(b9,i_1,m_1)=>[(156010,.map 3 4 (bK .i64 vB m_1)),(600156006,.slice 3 1 (ml aj b9) 0 false)]) ?_ ?_
 ·exact aZ.go [.sw 156014 600156006] [] (by kernel_rfl)
 rintro Z1 ⟨b9,i_1,m_1⟩ hm;rw[hF1]at hm;refine A.seq<|qDs [(2,hto (lnE aj b9))] [] [(18,.bool (decide (i_1<(b9.length:Int))))] ?_
 rcases aB hm with⟨c1,hm⟩|⟨c1,hm⟩
 ·refine qT c1<|A.skip<|A.seq<|A.block<|qDs [(1,hto (lnE aG aq))] [18] [(21,lf aG aq),(22,i6 (aq.length:Int)),(23,i6 0)]<|A.block<|A.bS 0 rfl λhb2=>?_
  obtain⟨B2,K2,hB2,hK2,hm⟩:=bh hm;refine A.lpI (l:=aq) (j0:=0) (B:=B2) (K:=K2) hm (λj2=>λ(jd,m_2)=>[(0,lf aG aq),(5,.bN 156010),(6,.own 600156006),(7,i6 i_1),(21,lf aG aq),(22,i6 (aq.length:Int)),(23,i6 (j2:Int))]) (λj2=>λ(jd,m_2)=>[(156010,.map 3 4 (bK .i64 vB m_2)),(600156006,.slice 3 1 (ml aj jd) 0 false)]) ?_ ?_ ?_
  ·exact qW
  ·rintro j2 e2 Z2 ⟨jd,m_2⟩ hj2 hx2 hm;rw[hB2]at hm;refine qDs [] [] [(24,.bool (decide ((j2:Int)<(aq.length:Int))))]<|A.seq<|qT (ltT hx2)<|A.skip ?_
   obtain⟨J1,hJ1,hm⟩:=dF hm;refine A.J (J:=J1) (r:=r) (λ(xR,m_3)=>[(0,lf aG aq),(5,.bN 156010),(6,.own 600156006),(7,i6 i_1),(21,lf aG aq),(22,i6 (aq.length:Int)),(23,i6 (j2:Int))]) (λ(xR,m_3)=>[(156010,.map 3 4 (bK .i64 vB m_3)),(600156006,.slice 3 1 (ml aj xR) 0 false)]) ?_ ?_
   ·refine A.block<|qD [(0,hix (ix aG (bn hx2))),(2,.al 156009)] [24] [(9,.ptr 156009 0)] [] [(156009,.cells 175 (k4 e2))] ?_
    obtain⟨J2,hJ2,hm⟩:=dF hm;refine A.J (J:=J2) (r:=r) (λv_1=>[(0,lf aG aq),(5,.bN 156010),(6,.own 600156006),(7,i6 i_1),(9,.ptr 156009 0),(21,lf aG aq),(22,i6 (aq.length:Int)),(23,i6 (j2:Int)),(42,.bool v_1)]) (λv_1=>[(156010,.map 3 4 (bK .i64 vB m_2)),(600156006,.slice 3 1 (ml aj jd) 0 false),(156009,.cells 175 (k4 e2))]) ?_ ?_
    ·obtain⟨e_1,h1,hm⟩:=aa hm;rcases aB hm with⟨c2,hm⟩|⟨c2,hm⟩
     ·exact qGs [(5,hix (ix aj h1)),(6,hlo 600156006 0 (ix aj h1)),(8,hto (bE c2)),(13,hlk (lk (E:=4) (k:=.i64) (enc:=vB) m_2 e2.Hop.To false (λw=>⟨_,zeroValue4 w,λI=>by simp[aA,vI,vB]⟩)))] [] [(42,.bool (!((aT m_2 e2.Hop.To).getD false)))]<|qX (!((aT m_2 e2.Hop.To).getD false)) hm
     exact qGs [(5,hix (ix aj h1)),(6,hlo 600156006 0 (ix aj h1)),(8,hto (bE c2))] [] [(42,.bool false)]<|qX false hm
    rintro v_1 hm;rw[hJ2]at hm;rcases aB hm with⟨c3,hm⟩|⟨c3,hm⟩
    ·refine qT c3<|qD [(4,hmu (mu (k:=.i64) (enc:=vB) m_2 e2.Hop.To true rfl))] [42] [] [156010] [(156010,.map 3 4 (bK .i64 vB (bG m_2 e2.Hop.To true)))] ?_
     obtain⟨l_1,h2,hm⟩:=aa hm;exact qG [(5,hap 156552 (ap aj (bytes:=8) (by decide) h2))] [6,9] [(6,.own 156552)] [600156006,156009] [(156552,.slice 3 1 (ml aj l_1) 0 false)]<|Exists.intro (l_1,bG m_2 e2.Hop.To true) (And.intro hm (aZ.go [.sw 156552 600156006] [] (by kernel_rfl)))
    exact qF c3<|A.skip<|qX (jd,m_2) hm
   rintro⟨xR,m_3⟩ hm;rw[hJ1]at hm;exact qGs [(0,hto (inc hx2 hb2))] [23] [(23,i6 ((j2+1:Nat):Int))]<|qX (xR,m_3) hm
  rintro j2 ⟨jd,m_2⟩ hj2 hl2 hm;rw[hK2]at hm;exact qDs [] [] [(24,.bool (decide ((j2:Int)<(aq.length:Int))))]<|A.seq<|qF (ltF hl2)<|A.exit<|qGs [] [7,21,22,23,24] [(7,i6 (w64 (i_1+1)))]<|qX (jd,w64 (i_1+1),m_2) hm
 refine qF c1<|A.exit ?_
 obtain⟨h3,hm⟩:=en hm;refine qS [(1,hdc [] (acR (d:=600156006) (T:=3) b9 (of_decide_eq_true h3)) ajN)] [(6,.own 600156006)] [(600156006,.slice 3 1 (ml aj (gL b9)) 0 false)]<|qDs [] [6] [(4,.own 600156006)]<|A.ret ?_
 obtain rfl:=some_inj hm;exact A.fin W0 [.fz [600156006]] rfl (by kernel_rfl)
variable {d:bf}{t:af}
theorem we{ra1:List (aC×Int)}{r:(List Int)×Bool}(hm:jM t ra1 d=some r):RO prog 89 [] [.agg (k2 t),.mpf (bB (kv aK) (vI .i64) ra1),.agg (k8 d)] (.tup [lf aj r.1,.bool r.2]):=by
 refine aY func89 rfl rfl ?_;unfold jM at hm;refine qS [(0,.al 89003),(1,.al 89005)] [(1,.mpf (bB (kv aK) (vI .i64) ra1)),(3,.ptr 89003 0),(5,.ptr 89005 0)] [(89003,.cells 28 (k2 t)),(89005,.cells 52 (k8 d))] ?_;obtain⟨az,h1,hm⟩:=aa hm;obtain⟨aH,h2,hm⟩:=aa hm;refine qD [(4,hro (SC.abU (r':=lf aG az) (σ3:=[]) [500008500] (nq h1) (by kernel_rfl) (by kernel_rfl)) apq),(7,hro (xb h2) asq)] [1,3] [(8,lf aj aH)] [89003] []<|A.seq<|qD [(2,hto (lnE aj d.bY))] [5] [(22,lf aj d.bY),(23,i6 (d.bY.length:Int)),(24,i6 0)] [89005] []<|A.block<|A.bS 22 rfl λhb1=>?_
 obtain⟨B1,K1,hB1,hK1,hm⟩:=bh hm;refine A.lpI (l:=d.bY) (j0:=0) (B:=B1) (K:=K1) hm (λj1=>λ()=>[(8,lf aj aH),(22,lf aj d.bY),(23,i6 (d.bY.length:Int)),(24,i6 (j1:Int))]) (λj1=>λ()=>[]) ?_ ?_ ?_
 ·exact qW
 ·rintro j1 e1 Z1 ⟨⟩ hj1 hx1 hm;rw[hB1]at hm;refine qDs [] [] [(25,.bool (decide ((j1:Int)<(d.bY.length:Int))))]<|A.seq<|qT (ltT hx1)<|A.skip<|A.seq<|A.block<|qDs [(0,hix (ix aj (bn hx1)))] [25] [(10,i6 e1)] ?_
  obtain⟨bA,h3,hm⟩:=aa hm;refine qDs [(2,hro (nX h3) asr)] [10] [(12,.bool bA.2)]<|qDs [] [12] [(35,.bool (!bA.2))] ?_
  rcases aB hm with⟨c1,hm⟩|⟨c1,hm⟩
  ·refine qT c1<|qS [] [(6,lf aj aH),(7,.bool false)] [] ?_
   cases hm;exact A.ret qE
  exact qF c1<|A.skip<|qGs [(0,hto (inc hx1 hb1))] [24,35] [(24,i6 ((j1+1:Nat):Int))]<|qX () hm
 rintro j1 ⟨⟩ hj1 hl1 hm;rw[hK1]at hm;refine qDs [] [] [(25,.bool (decide ((j1:Int)<(d.bY.length:Int))))]<|A.seq<|qF (ltF hl1)<|A.exit<|qS [] [(6,lf aj aH),(7,.bool true)] [] ?_
 cases hm;exact A.ret qE
theorem uc{rest:List bQ}{r:(List Int)×Int}(hm:gE t rest d=some r):RO prog 25 [] [.agg (k2 t),lf fQ rest,.agg (k8 d)] (.tup [lf aj r.1,i6 r.2]):=by
 refine aY func25 rfl rfl ?_;unfold gE at hm;refine qS [(0,.al 25003),(1,.al 25005)] [(1,lf fQ rest),(3,.ptr 25003 0),(5,.ptr 25005 0)] [(25003,.cells 28 (k2 t)),(25005,.cells 52 (k8 d))]<|A.seq ?_
 obtain⟨az,h1,hm⟩:=aa hm;refine qDs [(3,hro (mM h1) ah1)] [] [(8,i6 az)]<|qDs [] [] [(16,.bool (!decide (az=0)))] ?_
 rcases aB hm with⟨c1,hm⟩|⟨c1,hm⟩
 ·refine qT c1<|qS [] [(6,.bF),(7,i6 az)] [] ?_
  cases hm;exact A.ret qE
 refine qF c1<|A.skip ?_
 obtain⟨aH,h2,hm⟩:=aa hm;obtain⟨bA,h3,hm⟩:=aa hm;refine qS [(2,hro (v8 h2) ck90),(4,hro (we h3) ck89)] [(9,lf aj bA.1),(10,.bool bA.2)] []<|A.seq<|qDs [] [10] [(26,.bool bA.2)] ?_
 rcases aB hm with⟨c2,hm⟩|⟨c2,hm⟩
 ·refine qT c2<|qS [] [(6,.bF),(7,i6 9)] [] ?_
  cases hm;exact A.ret qE
 refine qF c2<|A.skip<|qS [] [(6,lf aj bA.1),(7,i6 0)] [] ?_
 cases hm;exact A.ret qE
theorem xd{bO:List bf}{l:List aQ}{r:(List bQ)×Int}(hm:gQ t bO l=some r):RO prog 24 [] [.agg (k2 t),lf dB bO,lf cu l] (.tup [lf fQ r.1,i6 r.2]):=by
 refine aY func24 rfl rfl ?_;unfold gQ at hm;refine qS [(0,.al 24003)] [(1,lf dB bO),(2,lf cu l),(3,.ptr 24003 0)] [(24003,.cells 28 (k2 t))]<|A.seq ?_
 obtain⟨az,h1,hm⟩:=aa hm;refine qDs [(2,hro (mM h1) ah1)] [] [(8,i6 az)]<|qDs [] [] [(16,.bool (!decide (az=0)))] ?_
 rcases aB hm with⟨c1,hm⟩|⟨c1,hm⟩
 ·refine qT c1<|qS [] [(6,.bF),(7,i6 az)] [] ?_
  cases hm;exact A.ret qE
 refine qF c1<|A.skip<|A.seq<|qDs [(1,hto (lnE cu l)),(3,hto (lnE dB bO))] [8,16] [(22,.bool (decide ((bO.length:Int)<(l.length:Int))))] ?_
 rcases aB hm with⟨c2,hm⟩|⟨c2,hm⟩
 ·refine qT c2<|qS [] [(6,.bF),(7,i6 8)] [] ?_
  cases hm;exact A.ret qE
 refine qF c2<|A.skip ?_
 obtain⟨aH,h2,hm⟩:=aa hm;refine qD [(1,hdc [500008400] (pX h2) apo)] [22] [(9,.bN 500008400)] [] [(500008400,.map 84 3 (bB (kv aK) (vI .i64) aH))]<|A.seq<|qDs [(1,hto (lnE cu l))] [2] [(25,lf cu l),(26,i6 (l.length:Int)),(27,i6 0)]<|A.block<|A.bS 25 rfl λhb1=>?_
 obtain⟨B1,K1,hB1,hK1,hm⟩:=bh hm;refine A.lpI (l:=l) (j0:=0) (B:=B1) (K:=K1) hm (λj1=>λm_1=>[(1,lf dB bO),(3,.ptr 24003 0),(9,.bN 500008400),(25,lf cu l),(26,i6 (l.length:Int)),(27,i6 (j1:Int))]) (λj1=>λm_1=>[(24003,.cells 28 (k2 t)),(500008400,.map 84 3 (bB (kv aK) (vI .i64) m_1))]) ?_ ?_ ?_
 ·exact qW
 ·rintro j1 e1 Z1 m_1 hj1 hx1 hm;rw[hB1]at hm;refine qDs [] [] [(28,.bool (decide ((j1:Int)<(l.length:Int))))]<|A.seq<|qT (ltT hx1)<|A.skip<|A.seq<|A.block<|qD [(1,hix (ix cu (bn hx1))),(3,.al 24011)] [28] [(11,.ptr 24011 0),(10,i6 (j1:Int))] [] [(24011,.cells 36 (k6 e1))] ?_
  obtain⟨J1,hJ1,hm⟩:=dF hm;refine A.J (J:=J1) (r:=r) (λ(v_1,m_2)=>[(1,lf dB bO),(3,.ptr 24003 0),(9,.bN 500008400),(25,lf cu l),(26,i6 (l.length:Int)),(27,i6 (j1:Int)),(51,.bool v_1)]) (λ(v_1,m_2)=>[(24003,.cells 28 (k2 t)),(500008400,.map 84 3 (bB (kv aK) (vI .i64) m_2))]) ?_ ?_
  ·obtain⟨bA,h3,hm⟩:=aa hm;rcases aB hm with⟨c3,hm⟩|⟨c3,hm⟩
   ·obtain⟨bU,h4,hm⟩:=aa hm;rcases aB hm with⟨c4,hm⟩|⟨c4,hm⟩
    ·exact qG [(1,hro (nt h3) ah3),(3,hto (bE c3)),(6,hro (nY h4) ape),(9,hto (bE c4))] [11,10] [(51,.bool true)] [24011] []<|qX (true,m_1) hm
    obtain⟨e_1,h5,hm⟩:=aa hm;obtain⟨dP,h6,hm⟩:=aa hm;exact qG [(1,hro (nt h3) ah3),(3,hto (bE c3)),(6,hro (nY h4) ape),(9,hto (bE c4)),(14,hix (ix dB h5)),(17,hdc [] (SC.at [(540000860,500008400)] (jK h6)) ah2)] [11,10] [(51,.bool (!dP.1))] [500008400,24011] [(500008400,.map 84 3 (bB (kv aK) (vI .i64) dP.2))]<|qX (!dP.1,dP.2) hm
   obtain⟨e_2,h7,hm⟩:=aa hm;obtain⟨cV,h8,hm⟩:=aa hm;exact qG [(1,hro (nt h3) ah3),(3,hto (bE c3)),(14,hix (ix dB h7)),(17,hdc [] (SC.at [(540000860,500008400)] (jK h8)) ah2)] [11,10] [(51,.bool (!cV.1))] [500008400,24011] [(500008400,.map 84 3 (bB (kv aK) (vI .i64) cV.2))]<|qX (!cV.1,cV.2) hm
  rintro⟨v_1,m_2⟩ hm;rw[hJ1]at hm;rcases aB hm with⟨c5,hm⟩|⟨c5,hm⟩
  ·refine qT c5<|qS [] [(6,.bF),(7,i6 1)] [] ?_
   cases hm;exact A.ret qE
  exact qF c5<|A.skip<|qGs [(0,hto (inc hx1 hb1))] [27,51] [(27,i6 ((j1+1:Nat):Int))]<|qX m_2 hm
 rintro j1 m_1 hj1 hl1 hm;rw[hK1]at hm;refine qDs [] [] [(28,.bool (decide ((j1:Int)<(l.length:Int))))]<|A.seq<|qF (ltF hl1)<|A.exit ?_
 obtain⟨cB,h9,hm⟩:=aa hm;refine A.RS W0 [.fz [500008400]] [(1,hrm [500008400] (v7 h9) ck88)] [(6,lf fQ cB),(7,i6 0)] [] (by kernel_rfl) ?_;cases hm;exact A.ret qE
end Go.Proofs.YtmnbolcmepihlaaGreat
