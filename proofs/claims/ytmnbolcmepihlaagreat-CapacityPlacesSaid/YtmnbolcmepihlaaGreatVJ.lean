/- The walks of cE of the program. No condition but bf aM stand in each. -/
import Derived.Test.YtmnbolcmepihlaaGreatV4
import Derived.Test.YtmnbolcmepihlaaGreatSO
namespace Go.Proofs.YtmnbolcmepihlaaGreat
open Go Go.Proofs.Tryz
set_option maxRecDepth 100000
set_option linter.all false
variable {r:Bool}{xa0:Int}
theorem lU(hm:iV xa0=some r):RO prog 186 [] [i6 xa0] (.bool r):=by
 refine aZ func186 rfl rfl ?_;unfold iV at hm;refine qS [] [(0,i6 xa0)] []<|qS [] [(2,.bool (!decide (xa0=xa0)))] [] ?_
 cases hm;exact A.ret qE
theorem x7{y:Int}(hm:lS xa0 y=some r):RO prog 185 [] [i6 xa0,i6 y] (.bool r):=by
 refine aZ func185 rfl rfl ?_;unfold lS at hm;refine qS [] [(0,i6 xa0),(1,i6 y)] [] ?_;obtain⟨aq,h1,hm⟩:=aa hm;rcases aA hm with⟨c1,hm⟩|⟨c1,hm⟩
 ·obtain⟨aF,h2,hm⟩:=aa hm;rcases aA hm with⟨c2,hm⟩|⟨c2,hm⟩
  ·refine qS [(1,hro (fZ h1) vq),(2,hto (bE c1)),(4,hro (fZ h2) vq),(7,hto (bE c2))] [(4,.bool true)] [] ?_;cases hm;exact A.ret qE
  refine qS [(1,hro (fZ h1) vq),(2,hto (bE c1)),(4,hro (fZ h2) vq),(7,hto (bE c2))] [(4,.bool (decide (xa0<y)))] [] ?_;cases hm;exact A.ret qE
 refine qS [(1,hro (fZ h1) vq),(2,hto (bE c1))] [(4,.bool (decide (xa0<y)))] [] ?_;cases hm;exact A.ret qE
theorem og{xa0:List Int}{target:Int}{r:Int×Bool}(hm:eG xa0 target=some r):RO prog 157 [] [lf ak xa0,i6 target] (.tup [i6 r.1,.bool r.2]):=by
 refine aZ func157 rfl rfl ?_;unfold eG at hm;refine qS [] [(0,lf ak xa0),(1,i6 target)] []<|qDs [(1,hto (lnE ak xa0))] [] [(6,i6 (xa0.length:Int))]<|qDs [] [] [(7,i6 0),(8,i6 (xa0.length:Int))]<|A.seq<|A.block ?_
 obtain⟨F1,n1,hF1,hm⟩:=fW hm;refine A.lpW (F:=F1) hm (λ(i_1,j_1)=>[(0,lf ak xa0),(1,i6 target),(6,i6 (xa0.length:Int)),(7,i6 i_1),(8,i6 j_1)]) (λ(i_1,j_1)=>[]) ?_ ?_
 ·exact qW
 rintro Z1 ⟨i_1,j_1⟩ hm;rw[hF1]at hm;refine A.seq<|qDs [] [] [(15,.bool (decide (i_1<j_1)))] ?_
 rcases aA hm with⟨c1,hm⟩|⟨c1,hm⟩
 ·refine qT c1<|A.skip<|A.block<|qDs [(4,.sh (1:Int) (by decide))] [15] [(9,i6 (w64 (Int.fdiv (IntKind.wrap .u64 (w64 (i_1+j_1))) (2 ^ min (1:Int).toNat 64))))] ?_
  obtain⟨e_1,h1,hm⟩:=aa hm;obtain⟨aq,h2,hm⟩:=aa hm;refine qDs [(2,hix (ix ak h1)),(5,hro (x7 h2) asv)] [] [(27,.bool aq)] ?_;rcases aA hm with⟨c2,hm⟩|⟨c2,hm⟩
  ·exact qT c2<|qGs [] [7,9,27] [(7,i6 (w64 ((w64 (Int.fdiv (IntKind.wrap .u64 (w64 (i_1+j_1))) (2 ^ min (1:Int).toNat 64)))+(1:Int))))]<|qX (w64 ((w64 (Int.fdiv (IntKind.wrap .u64 (w64 (i_1+j_1))) (2 ^ min (1:Int).toNat 64)))+(1:Int)),j_1) hm
  exact qF c2<|qGs [] [8,9,27] [(8,i6 (w64 (Int.fdiv (IntKind.wrap .u64 (w64 (i_1+j_1))) (2 ^ min (1:Int).toNat 64))))]<|qX (i_1,w64 (Int.fdiv (IntKind.wrap .u64 (w64 (i_1+j_1))) (2 ^ min (1:Int).toNat 64))) hm
 refine qF c1<|A.exit ?_
 rcases aA hm with⟨c3,hm⟩|⟨c3,hm⟩
 ·obtain⟨e_2,h3,hm⟩:=aa hm;rcases aA hm with⟨c4,hm⟩|⟨c4,hm⟩
  ·refine qS [(4,hto (bE c3)),(7,hix (ix ak h3)),(11,hto (bE c4))] [(4,i6 i_1),(5,.bool true)] [] ?_;cases hm;exact A.ret qE
  obtain⟨aF,h4,hm⟩:=aa hm;rcases aA hm with⟨c5,hm⟩|⟨c5,hm⟩
  ·obtain⟨bx,h5,hm⟩:=aa hm;refine qS [(4,hto (bE c3)),(7,hix (ix ak h3)),(11,hto (bE c4)),(14,hix (ix ak h3)),(16,hro (lU h4) afd),(17,hto (bE c5)),(19,hro (lU h5) afd)] [(4,i6 i_1),(5,.bool bx)] [] ?_;cases hm;exact A.ret qE
  refine qS [(4,hto (bE c3)),(7,hix (ix ak h3)),(11,hto (bE c4)),(14,hix (ix ak h3)),(16,hro (lU h4) afd),(17,hto (bE c5))] [(4,i6 i_1),(5,.bool false)] [] ?_;cases hm;exact A.ret qE
 refine qS [(4,hto (bE c3))] [(4,i6 i_1),(5,.bool false)] [] ?_;cases hm;exact A.ret qE
theorem iZ{n:Int}(hm:gH n=some r):RO prog 142 [] [i6 n] (.bool r):=by
 refine aZ func142 rfl rfl ?_;unfold gH at hm;refine qS [] [(0,i6 n)] []<|A.mid [(2,.bool ((decide (1≤n))&&(decide (n≤99))))] [] (λhk=>?_) ?_
 ·rcases tf (decide (1≤n))with c1|c1
  ·exact qS [(2,hto (bE c1)),(6,hto (oF (q:=decide (n≤99)) c1))] _ _ hk
  exact qS [(2,hto (bE c1)),(6,hto (oG (q:=decide (n≤99)) c1))] _ _ hk
 cases hm;exact A.ret qE
variable {t:aT}
theorem tO{r:(List (Int×Bool))}(hm:ir t=some r):RO prog 143 [] [.agg (k6 t)] (.mpf (bU .i64 vB r)):=by
 refine aZ func143 rfl rfl ?_;unfold ir at hm;refine qS [(0,.al 143001)] [(1,.ptr 143001 0)] [(143001,.cells 36 (k6 t))]<|qD [(0,.al 143007),(3,hmu (mu (k:=.i64) (enc:=vB) [] t.bw true rfl))] [] [(3,.bX 143007)] [] [(143007,.map 3 4 (bU .i64 vB (bN [] t.bw true)))]<|A.seq<|qDs [] [] [(4,.bool true)]<|A.block ?_
 obtain⟨F1,n1,hF1,hm⟩:=fW hm;refine A.lpW (F:=F1) hm (λ(sk,m_1)=>[(1,.ptr 143001 0),(3,.bX 143007),(4,.bool sk)]) (λ(sk,m_1)=>[(143001,.cells 36 (k6 t)),(143007,.map 3 4 (bU .i64 vB m_1))]) ?_ ?_
 ·exact qW
 rintro Z1 ⟨sk,m_1⟩ hm;rw[hF1]at hm;refine A.seq<|qDs [] [] [(11,.bool sk)] ?_
 rcases aA hm with⟨c1,hm⟩|⟨c1,hm⟩
 ·refine qT c1<|A.skip<|A.block<|qDs [] [4,11] [(4,.bool false)]<|qDs [(2,hto (lnE aJ t.Links))] [] [(13,lf aJ t.Links),(14,i6 (t.Links.length:Int)),(15,i6 0)]<|A.block<|A.bS 13 rfl λhb2=>?_
  obtain⟨B2,K2,hB2,hK2,hm⟩:=bh hm;refine A.lpI (l:=t.Links) (j0:=0) (B:=B2) (K:=K2) hm (λj2=>λ(lT,m_2)=>[(1,.ptr 143001 0),(3,.bX 143007),(4,.bool lT),(13,lf aJ t.Links),(14,i6 (t.Links.length:Int)),(15,i6 (j2:Int))]) (λj2=>λ(lT,m_2)=>[(143001,.cells 36 (k6 t)),(143007,.map 3 4 (bU .i64 vB m_2))]) ?_ ?_ ?_
  ·exact qW
  ·rintro j2 e2 Z2 ⟨lT,m_2⟩ hj2 hx2 hm;rw[hB2]at hm;refine qDs [] [] [(16,.bool (decide ((j2:Int)<(t.Links.length:Int))))]<|A.seq<|qT (ltT hx2)<|A.skip ?_
   obtain⟨J1,hJ1,hm⟩:=cO hm;refine A.J (J:=J1) (r:=r) (λ(sr,m_3)=>[(1,.ptr 143001 0),(3,.bX 143007),(4,.bool sr),(13,lf aJ t.Links),(14,i6 (t.Links.length:Int)),(15,i6 (j2:Int))]) (λ(sr,m_3)=>[(143001,.cells 36 (k6 t)),(143007,.map 3 4 (bU .i64 vB m_3))]) ?_ ?_
   ·refine A.block<|qD [(0,hix (ix aJ (bu hx2))),(2,.al 143006)] [16] [(6,.ptr 143006 0)] [] [(143006,.cells 84 (k3 e2))] ?_
    refine A.mid [(1,.ptr 143001 0),(3,.bX 143007),(4,.bool lT),(13,lf aJ t.Links),(14,i6 (t.Links.length:Int)),(15,i6 (j2:Int)),(6,.ptr 143006 0),(29,.bool (((aY m_2 e2.aD).getD false)&&(!((aY m_2 e2.To).getD false))))] [(143001,.cells 36 (k6 t)),(143007,.map 3 4 (bU .i64 vB m_2)),(143006,.cells 84 (k3 e2))] (λhk=>?_) ?_
    ·rcases tf ((aY m_2 e2.aD).getD false)with c2|c2
     ·exact qS [(3,hlk (lk (E:=4) (k:=.i64) (enc:=vB) m_2 e2.aD false (λw=>⟨_,zeroValue4 w,λI=>by simp[aB,vI,vB]⟩))),(4,hto (bE c2)),(8,hlk (lk (E:=4) (k:=.i64) (enc:=vB) m_2 e2.To false (λw=>⟨_,zeroValue4 w,λI=>by simp[aB,vI,vB]⟩))),(10,hto (oF (q:=!((aY m_2 e2.To).getD false)) c2))] _ _ hk
     exact qS [(3,hlk (lk (E:=4) (k:=.i64) (enc:=vB) m_2 e2.aD false (λw=>⟨_,zeroValue4 w,λI=>by simp[aB,vI,vB]⟩))),(4,hto (bE c2)),(10,hto (oG (q:=!((aY m_2 e2.To).getD false)) c2))] _ _ hk
    rcases aA hm with⟨c3,hm⟩|⟨c3,hm⟩
    ·exact qT c3<|qG [(3,hmu (mu (k:=.i64) (enc:=vB) m_2 e2.To true rfl))] [4,6,29] [(4,.bool true)] [143007,143006] [(143007,.map 3 4 (bU .i64 vB (bN m_2 e2.To true)))]<|qX (true,bN m_2 e2.To true) hm
    exact qF c3<|A.skip<|qX (lT,m_2) hm
   rintro⟨sr,m_3⟩ hm;rw[hJ1]at hm;exact qGs [(0,hto (inc hx2 hb2))] [15] [(15,i6 ((j2+1:Nat):Int))]<|qX (sr,m_3) hm
  rintro j2 ⟨lT,m_2⟩ hj2 hl2 hm;rw[hK2]at hm;exact qDs [] [] [(16,.bool (decide ((j2:Int)<(t.Links.length:Int))))]<|A.seq<|qF (ltF hl2)<|A.exit<|qX (lT,m_2) hm
 refine qF c1<|A.exit<|qD [] [1,3,4,11] [(2,.bX 143007)] [143001] []<|A.ret ?_
 obtain rfl:=some_inj hm;exact A.fin W0 [.fz [143007]] rfl (by kernel_rfl)
theorem nA{r:Int}(hm:fT t=some r):RO prog 72 [] [.agg (k6 t)] (i6 r):=by
 refine aZ func72 rfl rfl ?_;unfold fT at hm;refine qS [(0,.al 72001)] [(1,.ptr 72001 0)] [(72001,.cells 36 (k6 t))]<|A.seq ?_
 obtain⟨aq,h1,hm⟩:=aa hm;refine qDs [(2,hro (iZ h1) ab4)] [] [(17,.bool (!aq))] ?_;rcases aA hm with⟨c1,hm⟩|⟨c1,hm⟩
 ·refine qT c1<|qS [] [(2,i6 2)] [] ?_
  cases hm;exact A.ret qE
 refine qF c1<|A.skip<|A.seq<|qDs [(2,hto (lnE aJ t.Links))] [17] [(19,lf aJ t.Links),(20,i6 (t.Links.length:Int)),(21,i6 0)]<|A.block<|A.bS 19 rfl λhb1=>?_
 obtain⟨B1,K1,hB1,hK1,hm⟩:=bh hm;refine A.lpI (l:=t.Links) (j0:=0) (B:=B1) (K:=K1) hm (λj1=>λ()=>[(1,.ptr 72001 0),(19,lf aJ t.Links),(20,i6 (t.Links.length:Int)),(21,i6 (j1:Int))]) (λj1=>λ()=>[(72001,.cells 36 (k6 t))]) ?_ ?_ ?_
 ·exact qW
 ·rintro j1 e1 Z1 ⟨⟩ hj1 hx1 hm;rw[hB1]at hm;refine qDs [] [] [(22,.bool (decide ((j1:Int)<(t.Links.length:Int))))]<|A.seq<|qT (ltT hx1)<|A.skip<|A.seq<|A.block<|qD [(0,hix (ix aJ (bu hx1))),(2,.al 72004)] [22] [(4,.ptr 72004 0)] [] [(72004,.cells 84 (k3 e1))] ?_
  obtain⟨J1,hJ1,hm⟩:=cO hm;refine A.J (J:=J1) (r:=r) (λv_1=>[(1,.ptr 72001 0),(19,lf aJ t.Links),(20,i6 (t.Links.length:Int)),(21,i6 (j1:Int)),(34,.bool v_1)]) (λv_1=>[(72001,.cells 36 (k6 t))]) ?_ ?_
  ·obtain⟨aF,h2,hm⟩:=aa hm;rcases aA hm with⟨c2,hm⟩|⟨c2,hm⟩
   ·exact qG [(2,hro (iZ h2) ab4),(4,hto (bE c2))] [4] [(34,.bool true)] [72004] []<|qX true hm
   obtain⟨bx,h3,hm⟩:=aa hm;exact qG [(2,hro (iZ h2) ab4),(4,hto (bE c2)),(7,hro (iZ h3) ab4)] [4] [(34,.bool (!bx))] [72004] []<|qX (!bx) hm
  rintro v_1 hm;rw[hJ1]at hm;rcases aA hm with⟨c3,hm⟩|⟨c3,hm⟩
  ·refine qT c3<|qS [] [(2,i6 2)] [] ?_
   cases hm;exact A.ret qE
  exact qF c3<|A.skip<|qGs [(0,hto (inc hx1 hb1))] [21,34] [(21,i6 ((j1+1:Nat):Int))]<|qX () hm
 rintro j1 ⟨⟩ hj1 hl1 hm;rw[hK1]at hm;refine qDs [] [] [(22,.bool (decide ((j1:Int)<(t.Links.length:Int))))]<|A.seq<|qF (ltF hl1)<|A.exit<|A.seq<|qDs [] [19,20,21,22] [(5,i6 1)]<|A.block<|A.bC 1 1 rfl rfl rfl λhb2=>?_
 obtain⟨B2,K2,hB2,hK2,hm⟩:=bh hm;refine A.lpI (l:=t.Links) (j0:=1) (B:=B2) (K:=K2) hm (λj2=>λ()=>[(1,.ptr 72001 0),(5,i6 (j2:Int))]) (λj2=>λ()=>[(72001,.cells 36 (k6 t))]) ?_ ?_ ?_
 ·exact qW
 ·rintro j2 e2 Z2 ⟨⟩ hj2 hx2 hm;rw[hB2]at hm;refine A.seq<|qDs [(3,hto (lnE aJ t.Links))] [] [(40,.bool (decide ((j2:Int)<(t.Links.length:Int))))] ?_
  refine qT (ltT hx2)<|A.skip<|A.seq<|A.block ?_
  obtain⟨e_1,h4,hm⟩:=aa hm;refine qD [(4,hix (ix aJ h4)),(9,hix (ix aJ (bu hx2))),(11,.al 72006),(12,.al 72007)] [40] [(6,.ptr 72006 0),(7,.ptr 72007 0)] [] [(72006,.cells 84 (k3 e_1)),(72007,.cells 84 (k3 e2))] ?_;obtain⟨bV,h5,hm⟩:=aa hm;obtain⟨cK,h6,hm⟩:=aa hm;obtain⟨cQ,h7,hm⟩:=aa hm;refine qD [(4,hro (dD h5) pO),(9,hro (dD h6) pO),(11,hro (ku h7) zX)] [6,7] [(66,.bool (decide (0≤cQ)))] [72006,72007] [] ?_;rcases aA hm with⟨c4,hm⟩|⟨c4,hm⟩
  ·refine qT c4<|qS [] [(2,i6 25)] [] ?_
   cases hm;exact A.ret qE
  exact qF c4<|A.skip<|qGs [(1,hto (inc hx2 hb2))] [5,66] [(5,i6 ((j2+1:Nat):Int))]<|qX () hm
 rintro j2 ⟨⟩ hj2 hl2 hm;rw[hK2]at hm;refine A.seq<|qDs [(3,hto (lnE aJ t.Links))] [] [(40,.bool (decide ((j2:Int)<(t.Links.length:Int))))] ?_
 refine qF (ltF hl2)<|A.exit<|qD [(0,.al 72067),(3,hmu (mu (k:=.i64) (enc:=vB) [] t.bw true rfl))] [5,40] [(8,.bX 72067)] [] [(72067,.map 3 4 (bU .i64 vB (bN [] t.bw true)))]<|A.seq<|qDs [(2,hto (lnE aJ t.Links))] [] [(72,lf aJ t.Links),(73,i6 (t.Links.length:Int)),(74,i6 0)]<|A.block<|A.bS 72 rfl λhb3=>?_
 obtain⟨B3,K3,hB3,hK3,hm⟩:=bh hm;refine A.lpI (l:=t.Links) (j0:=0) (B:=B3) (K:=K3) hm (λj3=>λm_1=>[(1,.ptr 72001 0),(8,.bX 72067),(72,lf aJ t.Links),(73,i6 (t.Links.length:Int)),(74,i6 (j3:Int))]) (λj3=>λm_1=>[(72001,.cells 36 (k6 t)),(72067,.map 3 4 (bU .i64 vB m_1))]) ?_ ?_ ?_
 ·exact qW
 ·rintro j3 e3 Z3 m_1 hj3 hx3 hm;rw[hB3]at hm;refine qDs [] [] [(75,.bool (decide ((j3:Int)<(t.Links.length:Int))))]<|A.seq<|qT (ltT hx3)<|A.skip<|A.seq<|A.block<|qD [(0,hix (ix aJ (bu hx3))),(2,.al 72010)] [75] [(10,.ptr 72010 0)] [] [(72010,.cells 84 (k3 e3))]<|A.seq<|qDs [(3,hlk (lk (E:=4) (k:=.i64) (enc:=vB) m_1 e3.To false (λw=>⟨_,zeroValue4 w,λI=>by simp[aB,vI,vB]⟩)))] [] [(81,.bool ((aY m_1 e3.To).getD false))] ?_
  rcases aA hm with⟨c5,hm⟩|⟨c5,hm⟩
  ·refine qT c5<|qS [] [(2,i6 8)] [] ?_
   cases hm;exact A.ret qE
  exact qF c5<|A.skip<|qG [(3,hmu (mu (k:=.i64) (enc:=vB) m_1 e3.To true rfl))] [10,81] [] [72067,72010] [(72067,.map 3 4 (bU .i64 vB (bN m_1 e3.To true)))]<|qGs [(0,hto (inc hx3 hb3))] [74] [(74,i6 ((j3+1:Nat):Int))]<|qX (bN m_1 e3.To true) hm
 rintro j3 m_1 hj3 hl3 hm;rw[hK3]at hm;refine qDs [] [] [(75,.bool (decide ((j3:Int)<(t.Links.length:Int))))]<|A.seq<|qF (ltF hl3)<|A.exit ?_
 obtain⟨dy,h8,hm⟩:=aa hm;refine qD [(1,hro (tO h8) asf)] [8,72,73,74,75] [(11,.mpf (bU .i64 vB dy))] [72067] []<|A.seq<|qD [(2,hto (lnE aJ t.Links))] [1] [(89,lf aJ t.Links),(90,i6 (t.Links.length:Int)),(91,i6 0)] [72001] []<|A.block<|A.bS 89 rfl λhb4=>?_
 obtain⟨B4,K4,hB4,hK4,hm⟩:=bh hm;refine A.lpI (l:=t.Links) (j0:=0) (B:=B4) (K:=K4) hm (λj4=>λ()=>[(11,.mpf (bU .i64 vB dy)),(89,lf aJ t.Links),(90,i6 (t.Links.length:Int)),(91,i6 (j4:Int))]) (λj4=>λ()=>[]) ?_ ?_ ?_
 ·exact qW
 ·rintro j4 e4 Z4 ⟨⟩ hj4 hx4 hm;rw[hB4]at hm;refine qDs [] [] [(92,.bool (decide ((j4:Int)<(t.Links.length:Int))))]<|A.seq<|qT (ltT hx4)<|A.skip<|A.seq<|A.block<|qD [(0,hix (ix aJ (bu hx4))),(2,.al 72013)] [92] [(13,.ptr 72013 0)] [] [(72013,.cells 84 (k3 e4))]<|qD [(3,hlf dy e4.aD vB false af0 (zB zeroValue4))] [13] [(99,.bool (!((aY dy e4.aD).getD false)))] [72013] [] ?_
  rcases aA hm with⟨c6,hm⟩|⟨c6,hm⟩
  ·refine qT c6<|qS [] [(2,i6 10)] [] ?_
   cases hm;exact A.ret qE
  exact qF c6<|A.skip<|qGs [(0,hto (inc hx4 hb4))] [91,99] [(91,i6 ((j4+1:Nat):Int))]<|qX () hm
 rintro j4 ⟨⟩ hj4 hl4 hm;rw[hK4]at hm;refine qDs [] [] [(92,.bool (decide ((j4:Int)<(t.Links.length:Int))))]<|A.seq<|qF (ltF hl4)<|A.exit<|qS [] [(2,i6 0)] [] ?_
 cases hm;exact A.ret qE
theorem tP{r:(List Int)}(hm:iu t=some r):RO prog 75 [] [.agg (k6 t)] (lf ak r):=by
 refine aZ func75 rfl rfl ?_;unfold iu at hm;refine qS [(0,.al 75001)] [(1,.ptr 75001 0)] [(75001,.cells 36 (k6 t))]<|A.seq ?_
 obtain⟨aq,h1,hm⟩:=aa hm;refine qDs [(1,hro (nA h1) apn)] [] [(8,.bool (!decide (aq=0)))] ?_;rcases aA hm with⟨c1,hm⟩|⟨c1,hm⟩
 ·refine qT c1<|qS [] [(2,.bI)] [] ?_
  cases hm;exact A.ret qE
 refine qF c1<|A.skip<|qD [(2,.al 75011)] [8] [(3,.own 75011)] [] [(75011,.slice 3 1 (ml ak ([t.bw]:List Int)) 0 false)]<|A.seq<|qD [(2,hto (lnE aJ t.Links))] [1] [(13,lf aJ t.Links),(14,i6 (t.Links.length:Int)),(15,i6 0)] [75001] []<|A.block<|A.bS 13 rfl λhb1=>?_
 obtain⟨B1,K1,hB1,hK1,hm⟩:=bh hm;refine A.lpI (l:=t.Links) (j0:=0) (B:=B1) (K:=K1) hm (λj1=>λbK=>[(3,.own 600075003),(13,lf aJ t.Links),(14,i6 (t.Links.length:Int)),(15,i6 (j1:Int))]) (λj1=>λbK=>[(600075003,.slice 3 1 (ml ak bK) 0 false)]) ?_ ?_ ?_
 ·exact aU.go [.sw 75011 600075003] [] (by kernel_rfl)
 ·rintro j1 e1 Z1 bK hj1 hx1 hm;rw[hB1]at hm;refine qDs [] [] [(16,.bool (decide ((j1:Int)<(t.Links.length:Int))))]<|A.seq<|qT (ltT hx1)<|A.skip<|A.seq<|A.block<|qD [(0,hix (ix aJ (bu hx1))),(2,.al 75005)] [16] [(5,.ptr 75005 0)] [] [(75005,.cells 84 (k3 e1))] ?_
  obtain⟨l_1,h2,hm⟩:=aa hm;exact qG [(4,hap 75523 (ap ak (bytes:=8) (by decide) h2))] [3,5] [(3,.own 75523)] [600075003,75005] [(75523,.slice 3 1 (ml ak l_1) 0 false)]<|qGs [(0,hto (inc hx1 hb1))] [15] [(15,i6 ((j1+1:Nat):Int))]<|Exists.intro l_1 (And.intro hm (aU.go [.sw 75523 600075003] [] (by kernel_rfl)))
 rintro j1 bK hj1 hl1 hm;rw[hK1]at hm;refine qDs [] [] [(16,.bool (decide ((j1:Int)<(t.Links.length:Int))))]<|A.seq<|qF (ltF hl1)<|A.exit ?_
 obtain⟨h3,hm⟩:=eE hm;refine qS [(1,hdc [] (acU (d:=600075003) (T:=3) bK (of_decide_eq_true h3)) aj0)] [(3,.own 600075003)] [(600075003,.slice 3 1 (ml ak (gP bK)) 0 false)]<|qDs [] [3] [(2,.own 600075003)]<|A.ret ?_
 obtain rfl:=some_inj hm;exact A.fin W0 [.fz [600075003]] rfl (by kernel_rfl)
end Go.Proofs.YtmnbolcmepihlaaGreat
