/- The gq of dx of the program. No condition but br aM stand in each. -/
import Derived.Test.YtdjeacigeegklaaGreatSO
import Derived.Test.YtdjeacigeegklaaGreatSF
namespace Go.Proofs.YtdjeacigeegklaaGreat
open Go Go.Proofs.Tryz
set_option maxRecDepth 100000
set_option linter.all false
variable {t:af}
theorem pN{r:Bool}(hm:iG t=some r):RO prog 141 [] [.agg (k2 t)] (.bool r):=by
 refine bu func141 rfl rfl ?_
 unfold iG at hm
 refine qS [(0,.al 141001)] [(1,.ptr 141001 0)] [(141001,.cells 28 (k2 t))] ?_
 obtain⟨ak,h1,hm⟩:=aa hm
 refine qS [(1,hro (jY h1) adG)] [(2,.bool (decide (ak=0)))] [] ?_
 cases hm
 exact A.ret qE
theorem wk{r:eE}(hm:kT t=some r):RO prog 142 [] [.agg (k2 t)] (.agg [.mpf (bx .i64 (vL aj) r.kZ),.mpf (bx .i64 (vL aj) r.in_)]):=by
 refine bu func142 rfl rfl ?_
 unfold kT at hm
 refine qS [(0,.al 142001),(1,.al 142002)] [(1,.ptr 142001 0),(2,.ptr 142002 0)] [(142001,.cells 28 (k2 t)),(142002,.cells 202 [.dD,.dD])]<|qD [(0,.al 142009),(1,.al 142010),(3,.al 142003)] [] [(3,.ptr 142003 0)] [] [(142009,.map 3 216 (bx .i64 (vL aj) [])),(142010,.map 3 216 (bx .i64 (vL aj) [])),(142003,.cells 202 [.bN 142009,.bN 142010])]<|A.weak ((bp.aeH (d:=142009) (e:=450142009) rfl rfl rfl rfl rfl))<|A.weak ((bp.aeH (d:=142010) (e:=450142010) rfl rfl rfl rfl rfl))<|A.seq<|qS [(2,hto (lnE bg t.aF))] [(1,.ptr 142001 0),(2,.ptr 142002 0),(3,.ptr 142003 0),(13,lf bg t.aF),(14,i6 (t.aF.length:Int)),(15,i6 0)] [(142001,.cells 28 (k2 t)),(142002,.cells 202 [.dD,.dD]),(142009,.cQ 3 216 450142009 (cN .i64 ([]:List (Int×List ay))) none none),(450142009,.bun (ec 218 2 aj.enc ([]:List (Int×List ay)))),(142010,.cQ 3 216 450142010 (cN .i64 ([]:List (Int×List ay))) none none),(450142010,.bun (ec 218 2 aj.enc ([]:List (Int×List ay)))),(142003,.cells 202 [.bN 142009,.bN 142010])]<|A.block<|A.bS 13 rfl λhb1=>?_
 obtain⟨B1,K1,hB1,hK1,hm⟩:=bA hm
 refine A.lpI (l:=t.aF) (j0:=0) (B:=B1) (K:=K1) hm (λj1=>λ(m_1,m_2)=>[(1,.ptr 142001 0),(2,.ptr 142002 0),(3,.ptr 142003 0),(13,lf bg t.aF),(14,i6 (t.aF.length:Int)),(15,i6 (j1:Int))]) (λj1=>λ(m_1,m_2)=>[(142001,.cells 28 (k2 t)),(142002,.cells 202 [.dD,.dD]),(142009,.cQ 3 216 450142009 (cN .i64 m_1) none none),(450142009,.bun (ec 218 2 aj.enc m_1)),(142010,.cQ 3 216 450142010 (cN .i64 m_2) none none),(450142010,.bun (ec 218 2 aj.enc m_2)),(142003,.cells 202 [.bN 142009,.bN 142010])]) ?_ ?_ ?_
 ·exact qW
 ·rintro j1 e1 Z1 ⟨m_1,m_2⟩ hj1 hx1 hm
  rw[hB1]at hm
  exact qDs [] [] [(16,.bool (decide ((j1:Int)<(t.aF.length:Int))))]<|A.seq<|qT (ltT hx1)<|A.skip<|A.seq<|A.block<|qD [(0,hix (ix bg (bK hx1))),(2,.al 142005)] [16] [(5,.ptr 142005 0)] [] [(142005,.cells 42 (k0 e1))]<|qG [(8,hpm 218 2 530142001 m_1 e1.ID aj.enc [] iT),(9,hpm 218 2 530142002 m_2 e1.ID aj.enc [] iT)] [5] [] [142009,450142009,142010,450142010,142005] [(142009,.cQ 3 216 530142001 (cN .i64 (bq m_1 e1.ID [])) none none),(530142001,.bun (ec 218 2 aj.enc (bq m_1 e1.ID []))),(142010,.cQ 3 216 530142002 (cN .i64 (bq m_2 e1.ID [])) none none),(530142002,.bun (ec 218 2 aj.enc (bq m_2 e1.ID [])))]<|qGs [(0,hto (inc hx1 hb1))] [15] [(15,i6 ((j1+1:Nat):Int))]<|Exists.intro (bq m_1 e1.ID [],bq m_2 e1.ID []) (And.intro hm (bp.go [.rn 530142001 450142009,.rn 530142002 450142010] [] (by kernel_rfl)))
 rintro j1 ⟨m_1,m_2⟩ hj1 hl1 hm
 rw[hK1]at hm
 refine qDs [] [] [(16,.bool (decide ((j1:Int)<(t.aF.length:Int))))]<|A.seq<|qF (ltF hl1)<|A.exit<|A.seq<|qD [(2,hto (lnE cq t.Links))] [1,13,14,15,16] [(29,lf cq t.Links),(30,i6 (t.Links.length:Int)),(31,i6 0)] [142001] []<|A.block<|A.bS 29 rfl λhb2=>?_
 obtain⟨B2,K2,hB2,hK2,hm⟩:=bA hm
 refine A.lpI (l:=t.Links) (j0:=0) (B:=B2) (K:=K2) hm (λj2=>λ(m_3,m_4)=>[(2,.ptr 142002 0),(3,.ptr 142003 0),(29,lf cq t.Links),(30,i6 (t.Links.length:Int)),(31,i6 (j2:Int))]) (λj2=>λ(m_3,m_4)=>[(142002,.cells 202 [.dD,.dD]),(142009,.cQ 3 216 450142009 (cN .i64 m_3) none none),(450142009,.bun (ec 218 2 aj.enc m_3)),(142010,.cQ 3 216 450142010 (cN .i64 m_4) none none),(450142010,.bun (ec 218 2 aj.enc m_4)),(142003,.cells 202 [.bN 142009,.bN 142010])]) ?_ ?_ ?_
 ·exact qW
 ·rintro j2 e2 Z2 ⟨m_3,m_4⟩ hj2 hx2 hm
  rw[hB2]at hm
  refine qDs [] [] [(32,.bool (decide ((j2:Int)<(t.Links.length:Int))))]<|A.seq<|qT (ltT hx2)<|A.skip<|A.seq<|A.block<|qD [(0,hix (ix cq (bK hx2))),(2,.al 142007)] [32] [(7,.ptr 142007 0)] [] [(142007,.cells 89 (k1 e2))] ?_
  obtain⟨l_1,h1,hm⟩:=aa hm
  refine qD [(8,htk 218 2 530142004 530142003 m_3 e2.A aj.enc iT zeroValue216),(15,hap 142550 (ap aj (bytes:=16) (by decide) h1)),(16,adA 218 2 530142005 m_3 e2.A aj.enc l_1 530142003 iT)] [] [] [142009,450142009] [(142009,.cQ 3 216 530142005 (cN .i64 (bq m_3 e2.A l_1)) none none),(530142005,.bun (ec 218 2 aj.enc (bq m_3 e2.A l_1)))] ?_
  obtain⟨l_2,h2,hm⟩:=aa hm
  refine qD [(8,htk 218 2 530142007 530142006 (bq m_3 e2.A l_1) e2.B aj.enc iT zeroValue216),(15,hap 142566 (ap aj (bytes:=16) (by decide) h2)),(16,adA 218 2 530142008 (bq m_3 e2.A l_1) e2.B aj.enc l_2 530142006 iT)] [] [] [142009,530142005] [(142009,.cQ 3 216 530142008 (cN .i64 (bq (bq m_3 e2.A l_1) e2.B l_2)) none none),(530142008,.bun (ec 218 2 aj.enc (bq (bq m_3 e2.A l_1) e2.B l_2)))] ?_
  obtain⟨l_3,h3,hm⟩:=aa hm
  refine qD [(8,htk 218 2 530142010 530142009 m_4 e2.B aj.enc iT zeroValue216),(15,hap 142582 (ap aj (bytes:=16) (by decide) h3)),(16,adA 218 2 530142011 m_4 e2.B aj.enc l_3 530142009 iT)] [] [] [142010,450142010] [(142010,.cQ 3 216 530142011 (cN .i64 (bq m_4 e2.B l_3)) none none),(530142011,.bun (ec 218 2 aj.enc (bq m_4 e2.B l_3)))] ?_
  obtain⟨l_4,h4,hm⟩:=aa hm
  exact qG [(8,htk 218 2 530142013 530142012 (bq m_4 e2.B l_3) e2.A aj.enc iT zeroValue216),(15,hap 142598 (ap aj (bytes:=16) (by decide) h4)),(16,adA 218 2 530142014 (bq m_4 e2.B l_3) e2.A aj.enc l_4 530142012 iT)] [7] [] [142010,530142011,142007] [(142010,.cQ 3 216 530142014 (cN .i64 (bq (bq m_4 e2.B l_3) e2.A l_4)) none none),(530142014,.bun (ec 218 2 aj.enc (bq (bq m_4 e2.B l_3) e2.A l_4)))]<|qGs [(0,hto (inc hx2 hb2))] [31] [(31,i6 ((j2+1:Nat):Int))]<|Exists.intro (bq (bq m_3 e2.A l_1) e2.B l_2,bq (bq m_4 e2.B l_3) e2.A l_4) (And.intro hm (bp.go [.rn 530142008 450142009,.rn 530142014 450142010] [] (by kernel_rfl)))
 rintro j2 ⟨m_3,m_4⟩ hj2 hl2 hm
 rw[hK2]at hm
 refine qDs [] [] [(32,.bool (decide ((j2:Int)<(t.Links.length:Int))))]<|A.seq<|qF (ltF hl2)<|A.exit<|A.seq<|A.fixO (d:=142009) rfl λes1 ck1=>?_
 refine qS [(2,hrg 142102 es1 ck1 iT)] [(2,.ptr 142002 0),(3,.ptr 142003 0),(102,.ptr 142102 0)] [(142002,.cells 202 [.dD,.dD]),(142009,.cQ 3 216 450142009 (cN .i64 m_3) none (some (es1,ck1))),(450142009,.bun (ec 218 2 aj.enc m_3)),(142010,.cQ 3 216 450142010 (cN .i64 m_4) none none),(450142010,.bun (ec 218 2 aj.enc m_4)),(142003,.cells 202 [.bN 142009,.bN 142010]),(142102,.iter 142009 ck1 ck1 (#[]))]<|A.block ?_
 obtain⟨R1,hR1,hm⟩:=aa hm
 refine A.rng (dm:=142009) (di:=142102) (it:=102) (clock:=ck1) (es:=es1) hR1 (λsg=>sg.map (·.1)=m_3.map (·.1)) (λm_5=>[(2,.ptr 142002 0),(3,.ptr 142003 0),(102,.ptr 142102 0)]) (λsn1=>λm_5=>[(142002,.cells 202 [.dD,.dD]),(142009,.cQ 3 216 450142009 (cN .i64 m_5) none (some (es1,ck1))),(450142009,.bun (ec 218 2 aj.enc m_5)),(142010,.cQ 3 216 450142010 (cN .i64 m_4) none none),(450142010,.bun (ec 218 2 aj.enc m_4)),(142003,.cells 202 [.bN 142009,.bN 142010]),(142102,.iter 142009 ck1 ck1 sn1)]) ⟨rfl,rfl,rfl⟩ ⟨rfl,rfl,rfl⟩ (by kernel_rfl) rfl (by intro n v g g1 hB hi;obtain⟨c,hB⟩:=fF hB;obtain⟨x,hx,hB⟩:=aa hB;obtain rfl:=some_inj hB;exact(vR x c).trans hi) (λ_=>rfl) (λ_ _=>rfl) (λ_ _=>⟨_,rfl,rfl⟩) (λ_ _ _=>rfl) (λ_ _ hi _ _ _ _ hW hn=>afm hW rfl hn hi) ?_ ?_ ?_
 ·exact qW
 ·rintro sn1 me1 mi1 n_1 v_1 m_5 gz1 hE1 hl1 hv1 hm
  refine A.block<|qS [(0,heo 142102 142009 ck1 .i64 sn1 hE1 (ann hv1 hl1))] [(2,.ptr 142002 0),(3,.ptr 142003 0),(102,.ptr 142102 0),(8,i6 n_1)] [(142002,.cells 202 [.dD,.dD]),(142009,.cQ 3 216 450142009 (cN .i64 m_5) none (some (es1,ck1))),(450142009,.bun (ec 218 2 aj.enc m_5)),(142010,.cQ 3 216 450142010 (cN .i64 m_4) none none),(450142010,.bun (ec 218 2 aj.enc m_4)),(142003,.cells 202 [.bN 142009,.bN 142010]),(142102,.iter 142009 ck1 ck1 (sn1.push me1.born))] ?_
  obtain⟨h5,hm⟩:=fF hm
  obtain⟨l_5,h6,hm⟩:=aa hm
  refine qG [(3,htk 218 2 530142016 530142015 m_5 n_1 aj.enc iT zeroValue216),(4,hdc [] (agv (d:=530142015) (T:=218) h6) arG)] [8] [] [142009,450142009] [(142009,.cQ 3 216 530142016 (cN .i64 m_5) (jA m_5 n_1 530142015) (some (es1,ck1))),(530142016,.bun (ec 218 2 aj.enc (jj m_5 n_1))),(530142015,.slice 218 2 (ml aj l_5) 0 false)] ?_
  obtain rfl:=some_inj hm
  exact((bp.aqL (d:=142009) (e:=530142016) (e2:=530142017) (t:=530142015) m_5 n_1 aj.enc l_5 h5 rfl rfl rfl rfl rfl rfl rfl).trans (bp.go [.rn 530142017 450142009] [] (by kernel_rfl)))
 intro sn1
 refine A.weak (bp.am7 (d:=142009) (e:=450142009) R1 aj.enc rfl rfl)<|A.weak (bp.am7 (d:=142010) (e:=450142010) m_4 aj.enc rfl rfl)<|qS [] [(2,.ptr 142002 0)] [(142002,.cells 202 [.bN 142009,.bN 142010]),(142009,.iP 3 216 (bx .i64 (vL aj) R1)),(142010,.iP 3 216 (bx .i64 (vL aj) m_4))] ?_
 cases hm
 exact A.ret qE
variable {cM:Int}
theorem sH{links:List (Int×List ay)}{r:(List (Int×Int))}(hm:eN links cM=some r):RO prog 143 [] [.mpf (bx .i64 (vL aj) links),i6 cM] (.mpf (bx .i64 (vI .i64) r)):=by
 refine bu func143 rfl rfl ?_
 unfold eN at hm
 refine qS [] [(0,.mpf (bx .i64 (vL aj) links)),(1,i6 cM)] []<|A.scope<|qS [(0,.al 143019)] [(0,.mpf (bx .i64 (vL aj) links)),(1,i6 cM),(5,.bN 143019)] [(143019,.map 3 3 (bx .i64 (vI .i64) []))]<|A.seq<|qDs [(2,hlf links cM (vL aj) [] iT (zSl aj zeroValue216))] [] [(7,.bool ((aA links cM).isSome))]<|qDs [] [7] [(27,.bool (!((aA links cM).isSome)))] ?_
 rcases aq hm with⟨c1,hm⟩|⟨c1,hm⟩
 ·refine qT c1<|qDs [] [0,1,5,27] [(4,.bN 143019)]<|A.ret ?_
  obtain rfl:=some_inj hm
  exact A.fin W0 [.fz [143019]] rfl (by kernel_rfl)
 refine qF c1<|A.skip<|qD [(0,.al 143029),(2,hmu (mu (k:=.i64) (enc:=(vI .i64)) [] cM (0:Int) rfl))] [1,27] [(8,.bN 143029)] [] [(143029,.map 3 3 (bx .i64 (vI .i64) (bq [] cM (0:Int))))]<|A.seq<|A.label ?_
 obtain⟨J1,hJ1,hm⟩:=cR hm
 refine A.J (J:=J1) (r:=r) (λ(m_1,m_2)=>[(5,.bN 143019)]) (λ(m_1,m_2)=>[(143019,.map 3 3 (bx .i64 (vI .i64) m_1))]) ?_ ?_
 ·refine A.block ?_
  obtain⟨F1,n1,hF1,hm⟩:=gU hm
  refine A.lpW (F:=F1) hm (λ(m_3,m_4)=>[(0,.mpf (bx .i64 (vL aj) links)),(5,.bN 143019),(8,.bN 143029)]) (λ(m_3,m_4)=>[(143019,.map 3 3 (bx .i64 (vI .i64) m_3)),(143029,.map 3 3 (bx .i64 (vI .i64) m_4))]) ?_ ?_
  ·exact qW
  rintro Z1 ⟨m_3,m_4⟩ hm
  rw[hF1]at hm
  refine A.seq<|qDs [(1,hlm (lm (k:=.i64) (enc:=(vI .i64)) m_4))] [] [(34,.bool (decide (0<(m_4.length:Int))))] ?_
  rcases aq hm with⟨c2,hm⟩|⟨c2,hm⟩
  ·refine qT c2<|A.skip<|A.block<|qDs [] [34] [(9,i6 0)]<|A.seq<|A.fixM (d:=143029) rfl λes1 ck1=>?_
   refine qS [(1,hrg 143036 es1 ck1 nQ)] [(0,.mpf (bx .i64 (vL aj) links)),(5,.bN 143019),(8,.bN 143029),(9,i6 0),(36,.ptr 143036 0)] [(143019,.map 3 3 (bx .i64 (vI .i64) m_3)),(143029,.eZ es1 ck1 3 3 (bx .i64 (vI .i64) m_4)),(143036,.iter 143029 ck1 ck1 (#[]))]<|A.block ?_
   obtain⟨R1,hR1,hm⟩:=aa hm
   refine A.rng (dm:=143029) (di:=143036) (it:=36) (clock:=ck1) (es:=es1) hR1 (λ_=>True) (λdg=>[(0,.mpf (bx .i64 (vL aj) links)),(5,.bN 143019),(8,.bN 143029),(9,i6 dg),(36,.ptr 143036 0)]) (λsn1=>λdg=>[(143019,.map 3 3 (bx .i64 (vI .i64) m_3)),(143029,.eZ es1 ck1 3 3 (bx .i64 (vI .i64) m_4)),(143036,.iter 143029 ck1 ck1 sn1)]) ⟨rfl,rfl,rfl⟩ ⟨rfl,rfl,rfl⟩ (by kernel_rfl) trivial (λ_ _ _ _ _ _=>trivial) (λ_=>rfl) (λ_ _=>rfl) (λ_ _=>⟨_,rfl,rfl⟩) (λ_ _ _=>rfl) (λ_ _ _ _ _ _ _ hW hn=>lenX hW rfl hn) ?_ ?_ ?_
   ·exact qW
   ·rintro sn1 me1 mi1 n_1 v_1 dg gz1 hE1 hl1 hv1 hm
    refine A.block<|qS [(0,hex 143036 143029 ck1 .i64 sn1 (vI .i64) hE1 hl1)] [(0,.mpf (bx .i64 (vL aj) links)),(5,.bN 143019),(8,.bN 143029),(9,i6 dg),(36,.ptr 143036 0),(10,i6 n_1),(11,i6 v_1)] [(143019,.map 3 3 (bx .i64 (vI .i64) m_3)),(143029,.eZ es1 ck1 3 3 (bx .i64 (vI .i64) m_4)),(143036,.iter 143029 ck1 ck1 (sn1.push me1.born))] ?_
    refine A.mid [(0,.mpf (bx .i64 (vL aj) links)),(5,.bN 143019),(8,.bN 143029),(9,i6 dg),(36,.ptr 143036 0),(10,i6 n_1),(62,.bool ((decide (dg=0))||((decide (v_1<((aA m_4 dg).getD (0:Int))))||((decide (v_1=((aA m_4 dg).getD (0:Int))))&&(decide (n_1<dg))))))] [(143019,.map 3 3 (bx .i64 (vI .i64) m_3)),(143029,.eZ es1 ck1 3 3 (bx .i64 (vI .i64) m_4)),(143036,.iter 143029 ck1 ck1 (sn1.push me1.born))] (λhk=>?_) ?_
    ·rcases tf (decide (dg=0))with c3|c3
     ·exact qS [(2,hto (bE c3)),(20,hto (orT (q:=((decide (v_1<((aA m_4 dg).getD (0:Int))))||((decide (v_1=((aA m_4 dg).getD (0:Int))))&&(decide (n_1<dg))))) c3))] _ _ hk
     rcases tf (decide (v_1<((aA m_4 dg).getD (0:Int))))with c4|c4
     ·exact qS [(2,hto (bE c3)),(6,hlf m_4 dg (vI .i64) (0:Int) nQ (zI (k:=.i64) zeroValue3)),(9,hto (bE c4)),(20,hto ((orT (q:=((decide (v_1=((aA m_4 dg).getD (0:Int))))&&(decide (n_1<dg)))) c4).trans (orF (q:=((decide (v_1<((aA m_4 dg).getD (0:Int))))||((decide (v_1=((aA m_4 dg).getD (0:Int))))&&(decide (n_1<dg))))) c3)))] _ _ hk
     rcases tf (decide (v_1=((aA m_4 dg).getD (0:Int))))with c5|c5
     ·exact qS [(2,hto (bE c3)),(6,hlf m_4 dg (vI .i64) (0:Int) nQ (zI (k:=.i64) zeroValue3)),(9,hto (bE c4)),(13,hlf m_4 dg (vI .i64) (0:Int) nQ (zI (k:=.i64) zeroValue3)),(15,hto (bE c5)),(20,hto (((qz (q:=decide (n_1<dg)) c5).trans (orF (q:=((decide (v_1=((aA m_4 dg).getD (0:Int))))&&(decide (n_1<dg)))) c4)).trans (orF (q:=((decide (v_1<((aA m_4 dg).getD (0:Int))))||((decide (v_1=((aA m_4 dg).getD (0:Int))))&&(decide (n_1<dg))))) c3)))] _ _ hk
     exact qS [(2,hto (bE c3)),(6,hlf m_4 dg (vI .i64) (0:Int) nQ (zI (k:=.i64) zeroValue3)),(9,hto (bE c4)),(13,hlf m_4 dg (vI .i64) (0:Int) nQ (zI (k:=.i64) zeroValue3)),(15,hto (bE c5)),(20,hto (((qA (q:=decide (n_1<dg)) c5).trans (orF (q:=((decide (v_1=((aA m_4 dg).getD (0:Int))))&&(decide (n_1<dg)))) c4)).trans (orF (q:=((decide (v_1<((aA m_4 dg).getD (0:Int))))||((decide (v_1=((aA m_4 dg).getD (0:Int))))&&(decide (n_1<dg))))) c3)))] _ _ hk
    rcases aq hm with⟨c6,hm⟩|⟨c6,hm⟩
    ·refine qT c6<|qGs [] [9,10,62] [(9,i6 n_1)] ?_
     obtain rfl:=some_inj hm
     exact(qW)
    refine qF c6<|A.skip ?_
    obtain rfl:=some_inj hm
    exact(qW)
   intro sn1
   refine A.weak (bp.aqM (d:=143029) rfl)<|qS [(2,hlk (lk (E:=3) (k:=.i64) (enc:=(vI .i64)) m_4 R1 (0:Int) (λw=>⟨_,zeroValue3 w,λI=>by simp[aB,vI,vB]⟩)))] [(0,.mpf (bx .i64 (vL aj) links)),(5,.bN 143019),(8,.bN 143029),(9,i6 R1),(12,i6 ((aA m_4 R1).getD (0:Int)))] [(143019,.map 3 3 (bx .i64 (vI .i64) m_3)),(143029,.map 3 3 (bx .i64 (vI .i64) m_4))]<|qD [(2,hde m_4 R1 (vI .i64) nQ)] [] [] [143029] [(143029,.map 3 3 (bx .i64 (vI .i64) (mH m_4 R1)))]<|qD [(3,hmu (mu (k:=.i64) (enc:=(vI .i64)) m_3 R1 ((aA m_4 R1).getD (0:Int)) rfl))] [] [] [143019] [(143019,.map 3 3 (bx .i64 (vI .i64) (bq m_3 R1 ((aA m_4 R1).getD (0:Int)))))]<|A.seq<|qDs [(1,hlm (lm (k:=.i64) (enc:=(vI .i64)) (bq m_3 R1 ((aA m_4 R1).getD (0:Int))))),(3,hnf links (vL aj) iT)] [] [(76,.bool (decide (((bq m_3 R1 ((aA m_4 R1).getD (0:Int))).length:Int)=(links.length:Int))))] ?_
   rcases aq hm with⟨c7,hm⟩|⟨c7,hm⟩
   ·exact qT c7<|A.exit<|qX (bq m_3 R1 ((aA m_4 R1).getD (0:Int)),mH m_4 R1) hm
   refine qF c7<|A.skip<|qDs [(2,hlf links R1 (vL aj) [] iT (zSl aj zeroValue216)),(3,hto (lnE aj ((aA links R1).getD [])))] [9,76] [(79,lf aj ((aA links R1).getD [])),(80,i6 (((aA links R1).getD []).length:Int)),(81,i6 0)]<|A.block<|A.bS 79 rfl λhb2=>?_
   obtain⟨B2,K2,hB2,hK2,hm⟩:=bA hm
   refine A.lpI (l:=((aA links R1).getD [])) (j0:=0) (B:=B2) (K:=K2) hm (λj2=>λm_5=>[(0,.mpf (bx .i64 (vL aj) links)),(5,.bN 143019),(8,.bN 143029),(12,i6 ((aA m_4 R1).getD (0:Int))),(79,lf aj ((aA links R1).getD [])),(80,i6 (((aA links R1).getD []).length:Int)),(81,i6 (j2:Int))]) (λj2=>λm_5=>[(143019,.map 3 3 (bx .i64 (vI .i64) (bq m_3 R1 ((aA m_4 R1).getD (0:Int))))),(143029,.map 3 3 (bx .i64 (vI .i64) m_5))]) ?_ ?_ ?_
   ·exact qW
   ·rintro j2 e2 Z2 m_5 hj2 hx2 hm
    rw[hB2]at hm
    refine qDs [] [] [(82,.bool (decide ((j2:Int)<(((aA links R1).getD []).length:Int))))]<|A.seq<|qT (ltT hx2)<|A.skip ?_
    obtain⟨J2,hJ2,hm⟩:=cR hm
    refine A.J (J:=J2) (r:=r) (λm_6=>[(0,.mpf (bx .i64 (vL aj) links)),(5,.bN 143019),(8,.bN 143029),(12,i6 ((aA m_4 R1).getD (0:Int))),(79,lf aj ((aA links R1).getD [])),(80,i6 (((aA links R1).getD []).length:Int)),(81,i6 (j2:Int))]) (λm_6=>[(143019,.map 3 3 (bx .i64 (vI .i64) (bq m_3 R1 ((aA m_4 R1).getD (0:Int))))),(143029,.map 3 3 (bx .i64 (vI .i64) m_6))]) ?_ ?_
    ·refine A.block<|qD [(0,hix (ix aj (bK hx2))),(2,.al 143014)] [82] [(14,.ptr 143014 0)] [] [(143014,.cells 218 (k9 e2))] ?_
     refine A.seq<|qDs [(3,hlk (lk (E:=3) (k:=.i64) (enc:=(vI .i64)) (bq m_3 R1 ((aA m_4 R1).getD (0:Int))) e2.to_ (0:Int) (λw=>⟨_,zeroValue3 w,λI=>by simp[aB,vI,vB]⟩)))] [] [(16,.bool ((aA (bq m_3 R1 ((aA m_4 R1).getD (0:Int))) e2.to_).isSome))] ?_
     refine qDs [] [16] [(92,.bool ((aA (bq m_3 R1 ((aA m_4 R1).getD (0:Int))) e2.to_).isSome))] ?_
     rcases aq hm with⟨c8,hm⟩|⟨c8,hm⟩
     ·exact qT c8<|A.exit<|qX m_5 hm
     refine qF c8<|A.skip<|qDs [(3,hlk (lk (E:=3) (k:=.i64) (enc:=(vI .i64)) m_5 e2.to_ (0:Int) (λw=>⟨_,zeroValue3 w,λI=>by simp[aB,vI,vB]⟩)))] [92] [(17,i6 ((aA m_5 e2.to_).getD (0:Int))),(18,.bool ((aA m_5 e2.to_).isSome))]<|A.mid [(0,.mpf (bx .i64 (vL aj) links)),(5,.bN 143019),(8,.bN 143029),(12,i6 ((aA m_4 R1).getD (0:Int))),(79,lf aj ((aA links R1).getD [])),(80,i6 (((aA links R1).getD []).length:Int)),(81,i6 (j2:Int)),(14,.ptr 143014 0),(109,.bool ((!((aA m_5 e2.to_).isSome))||(decide (w64 (((aA m_4 R1).getD (0:Int))+e2.fh)<((aA m_5 e2.to_).getD (0:Int))))))] [(143019,.map 3 3 (bx .i64 (vI .i64) (bq m_3 R1 ((aA m_4 R1).getD (0:Int))))),(143029,.map 3 3 (bx .i64 (vI .i64) m_5)),(143014,.cells 218 (k9 e2))] (λhk=>?_) ?_
     ·rcases tf (!((aA m_5 e2.to_).isSome))with c9|c9
      ·exact qS [(2,hto (bE c9)),(9,hto (orT (q:=decide (w64 (((aA m_4 R1).getD (0:Int))+e2.fh)<((aA m_5 e2.to_).getD (0:Int)))) c9))] _ _ hk
      exact qS [(2,hto (bE c9)),(9,hto (orF (q:=decide (w64 (((aA m_4 R1).getD (0:Int))+e2.fh)<((aA m_5 e2.to_).getD (0:Int)))) c9))] _ _ hk
     rcases aq hm with⟨c10,hm⟩|⟨c10,hm⟩
     ·exact qT c10<|qG [(7,hmu (mu (k:=.i64) (enc:=(vI .i64)) m_5 e2.to_ (w64 (((aA m_4 R1).getD (0:Int))+e2.fh)) rfl))] [14,109] [] [143029,143014] [(143029,.map 3 3 (bx .i64 (vI .i64) (bq m_5 e2.to_ (w64 (((aA m_4 R1).getD (0:Int))+e2.fh)))))]<|qX (bq m_5 e2.to_ (w64 (((aA m_4 R1).getD (0:Int))+e2.fh))) hm
     exact qF c10<|A.skip<|qX m_5 hm
    rintro m_6 hm
    rw[hJ2]at hm
    exact qGs [(0,hto (inc hx2 hb2))] [81] [(81,i6 ((j2+1:Nat):Int))]<|qX m_6 hm
   rintro j2 m_5 hj2 hl2 hm
   rw[hK2]at hm
   exact qDs [] [] [(82,.bool (decide ((j2:Int)<(((aA links R1).getD []).length:Int))))]<|A.seq<|qF (ltF hl2)<|A.exit<|qX (bq m_3 R1 ((aA m_4 R1).getD (0:Int)),m_5) hm
  exact qF c2<|A.exit<|qX (m_3,m_4) hm
 rintro⟨m_1,m_2⟩ hm
 rw[hJ1]at hm
 refine qDs [] [5] [(4,.bN 143019)]<|A.ret ?_
 obtain rfl:=some_inj hm
 exact A.fin W0 [.fz [143019]] rfl (by kernel_rfl)
variable {r:(List Int)}
theorem su{g:eE}{eO:List (Int×Int)}{ez:Int}(hm:gJ g eO ez=some r):RO prog 144 [] [.agg [.mpf (bx .i64 (vL aj) g.kZ),.mpf (bx .i64 (vL aj) g.in_)],.mpf (bx .i64 (vI .i64) eO),i6 ez] (lf aG r):=by
 refine bu func144 rfl rfl ?_
 unfold gJ at hm
 refine qS [(0,.al 144003)] [(1,.mpf (bx .i64 (vI .i64) eO)),(2,i6 ez),(3,.ptr 144003 0)] [(144003,.cells 202 [.mpf (bx .i64 (vL aj) g.kZ),.mpf (bx .i64 (vL aj) g.in_)])]<|qDs [] [] [(7,.aS)]<|qDs [(2,hlf eO ez (vI .i64) (0:Int) nQ (zI (k:=.i64) zeroValue3))] [] [(8,i6 ((aA eO ez).getD (0:Int))),(9,.bool ((aA eO ez).isSome))]<|A.seq<|qDs [] [9] [(21,.bool (!((aA eO ez).isSome)))] ?_
 rcases aq hm with⟨c1,hm⟩|⟨c1,hm⟩
 ·refine qT c1<|qS [] [(6,.aS)] [] ?_
  cases hm
  exact A.ret qE
 refine qF c1<|A.skip<|A.seq<|qD [(3,hlf g.kZ ez (vL aj) [] iT (zSl aj zeroValue216)),(4,hto (lnE aj ((aA g.kZ ez).getD [])))] [2,3,21] [(25,lf aj ((aA g.kZ ez).getD [])),(26,i6 (((aA g.kZ ez).getD []).length:Int)),(27,i6 0)] [144003] []<|A.block<|A.bS 25 rfl λhb1=>?_
 obtain⟨B1,K1,hB1,hK1,hm⟩:=bA hm
 refine A.lpI (l:=((aA g.kZ ez).getD [])) (j0:=0) (B:=B1) (K:=K1) hm (λj1=>λdw=>[(1,.mpf (bx .i64 (vI .i64) eO)),(7,.own 600144007),(8,i6 ((aA eO ez).getD (0:Int))),(25,lf aj ((aA g.kZ ez).getD [])),(26,i6 (((aA g.kZ ez).getD []).length:Int)),(27,i6 (j1:Int))]) (λj1=>λdw=>[(600144007,.slice 3 1 (ml aG dw) 0 false)]) ?_ ?_ ?_
 ·exact bp.go [.ad 7 600144007 3 1] [] (by kernel_rfl)
 ·rintro j1 e1 Z1 dw hj1 hx1 hm
  rw[hB1]at hm
  refine qDs [] [] [(28,.bool (decide ((j1:Int)<(((aA g.kZ ez).getD []).length:Int))))]<|A.seq<|qT (ltT hx1)<|A.skip ?_
  obtain⟨J1,hJ1,hm⟩:=cR hm
  refine A.J (J:=J1) (r:=r) (λny=>[(1,.mpf (bx .i64 (vI .i64) eO)),(7,.own 600144007),(8,i6 ((aA eO ez).getD (0:Int))),(25,lf aj ((aA g.kZ ez).getD [])),(26,i6 (((aA g.kZ ez).getD []).length:Int)),(27,i6 (j1:Int))]) (λny=>[(600144007,.slice 3 1 (ml aG ny) 0 false)]) ?_ ?_
  ·refine A.block<|qD [(0,hix (ix aj (bK hx1))),(2,.al 144011)] [28] [(11,.ptr 144011 0)] [] [(144011,.cells 218 (k9 e1))] ?_
   refine qDs [(3,hlf eO e1.to_ (vI .i64) (0:Int) nQ (zI (k:=.i64) zeroValue3))] [] [(12,i6 ((aA eO e1.to_).getD (0:Int))),(13,.bool ((aA eO e1.to_).isSome))]<|A.mid [(1,.mpf (bx .i64 (vI .i64) eO)),(7,.own 600144007),(8,i6 ((aA eO ez).getD (0:Int))),(25,lf aj ((aA g.kZ ez).getD [])),(26,i6 (((aA g.kZ ez).getD []).length:Int)),(27,i6 (j1:Int)),(11,.ptr 144011 0),(46,.bool (((aA eO e1.to_).isSome)&&(decide (w64 (e1.fh+((aA eO e1.to_).getD (0:Int)))=((aA eO ez).getD (0:Int))))))] [(600144007,.slice 3 1 (ml aG dw) 0 false),(144011,.cells 218 (k9 e1))] (λhk=>?_) ?_
   ·rcases tf ((aA eO e1.to_).isSome)with c2|c2
    ·exact qS [(1,hto (bE c2)),(8,hto (qz (q:=decide (w64 (e1.fh+((aA eO e1.to_).getD (0:Int)))=((aA eO ez).getD (0:Int)))) c2))] _ _ hk
    exact qS [(1,hto (bE c2)),(8,hto (qA (q:=decide (w64 (e1.fh+((aA eO e1.to_).getD (0:Int)))=((aA eO ez).getD (0:Int)))) c2))] _ _ hk
   rcases aq hm with⟨c3,hm⟩|⟨c3,hm⟩
   ·refine qT c3 ?_
    obtain⟨l_1,h1,hm⟩:=aa hm
    exact qG [(4,hap 144551 (ap aG (bytes:=8) (by decide) h1))] [7,11,46] [(7,.own 144551)] [600144007,144011] [(144551,.slice 3 1 (ml aG l_1) 0 false)]<|Exists.intro l_1 (And.intro hm (bp.go [.sw 144551 600144007] [] (by kernel_rfl)))
   exact qF c3<|A.skip<|qX dw hm
  rintro ny hm
  rw[hJ1]at hm
  exact qGs [(0,hto (inc hx1 hb1))] [27] [(27,i6 ((j1+1:Nat):Int))]<|qX ny hm
 rintro j1 dw hj1 hl1 hm
 rw[hK1]at hm
 refine qDs [] [] [(28,.bool (decide ((j1:Int)<(((aA g.kZ ez).getD []).length:Int))))]<|A.seq<|qF (ltF hl1)<|A.exit<|qDs [] [1,7,8,25,26,27,28] [(6,.own 600144007)]<|A.ret ?_
 obtain rfl:=some_inj hm
 exact A.fin W0 [.fz [600144007]] rfl (by kernel_rfl)
theorem vi{fK:Int}(hm:jS t cM fK=some r):RO prog 108 [] [.agg (k2 t),i6 cM,i6 fK] (lf aG r):=by
 refine bu func108 rfl rfl ?_
 unfold jS at hm
 refine qS [(0,.al 108003)] [(1,i6 cM),(2,i6 fK),(3,.ptr 108003 0)] [(108003,.cells 28 (k2 t))]<|A.seq ?_
 obtain⟨J1,hJ1,hm⟩:=cR hm
 refine A.J (J:=J1) (r:=r) (λv_1=>[(1,i6 cM),(2,i6 fK),(3,.ptr 108003 0),(19,.bool v_1)]) (λv_1=>[(108003,.cells 28 (k2 t))]) ?_ ?_
 ·obtain⟨ak,h1,hm⟩:=aa hm
  rcases aq hm with⟨c1,hm⟩|⟨c1,hm⟩
  ·exact qGs [(1,hro (pN h1) ahT),(3,hto (bE c1))] [] [(19,.bool true)]<|qX true hm
  exact qGs [(1,hro (pN h1) ahT),(3,hto (bE c1))] [] [(19,.bool (decide (cM=fK)))]<|qX (decide (cM=fK)) hm
 rintro v_1 hm
 rw[hJ1]at hm
 rcases aq hm with⟨c2,hm⟩|⟨c2,hm⟩
 ·refine qT c2<|qS [] [(6,.aS)] [] ?_
  cases hm
  exact A.ret qE
 refine qF c2<|A.skip ?_
 obtain⟨aO,h2,hm⟩:=aa hm
 refine qD [(1,hro (wk h2) arx),(2,.al 108007)] [3,19] [(7,.ptr 108007 0)] [108003] [(108007,.cells 202 [.mpf (bx .i64 (vL aj) aO.kZ),.mpf (bx .i64 (vL aj) aO.in_)])] ?_
 obtain⟨bT,h3,hm⟩:=aa hm
 refine qDs [(3,hro (sH h3) ary)] [] [(8,.mpf (bx .i64 (vI .i64) bT))]<|qDs [] [] [(9,.aS)]<|A.seq<|qDs [] [1] [(10,i6 cM)]<|A.block ?_
 obtain⟨F1,n1,hF1,hm⟩:=gU hm
 refine A.lpW (F:=F1) hm (λ(dw,uK)=>[(2,i6 fK),(7,.ptr 108007 0),(8,.mpf (bx .i64 (vI .i64) bT)),(9,.own 600108009),(10,i6 uK)]) (λ(dw,uK)=>[(108007,.cells 202 [.mpf (bx .i64 (vL aj) aO.kZ),.mpf (bx .i64 (vL aj) aO.in_)]),(600108009,.slice 3 1 (ml aG dw) 0 false)]) ?_ ?_
 ·exact bp.go [.ad 9 600108009 3 1] [] (by kernel_rfl)
 rintro Z1 ⟨dw,uK⟩ hm
 rw[hF1]at hm
 refine A.seq<|qDs [] [] [(29,.bool (!decide (uK=fK)))] ?_
 rcases aq hm with⟨c3,hm⟩|⟨c3,hm⟩
 ·refine qT c3<|A.skip<|A.seq<|A.block ?_
  obtain⟨cI,h4,hm⟩:=aa hm
  refine qDs [(3,hro (su h4) arz)] [10,29] [(11,lf aG cI)]<|A.seq<|qDs [(1,hto (lnE aG cI))] [] [(42,.bool (decide ((cI.length:Int)=(0:Int))))] ?_
  rcases aq hm with⟨c4,hm⟩|⟨c4,hm⟩
  ·refine qT c4<|qS [] [(6,.aS)] [] ?_
   cases hm
   exact A.ret qE
  refine qF c4<|A.skip ?_
  obtain⟨e_1,h5,hm⟩:=aa hm
  obtain⟨l_1,h6,hm⟩:=aa hm
  refine qG [(2,hix (ix aG h5)),(5,hap 108548 (ap aG (bytes:=8) (by decide) h6))] [9,11,42] [(9,.own 108548)] [600108009] [(108548,.slice 3 1 (ml aG l_1) 0 false)] ?_
  obtain⟨e_2,h7,hm⟩:=aa hm
  exact qGs [(2,hto (lnE aG l_1)),(4,hix (ix aG h7)),(5,hlo 108548 0 (ix aG h7))] [] [(10,i6 e_2)]<|Exists.intro (l_1,e_2) (And.intro hm (bp.go [.sw 108548 600108009] [] (by kernel_rfl)))
 refine qF c3<|A.exit<|qD [] [2,7,8,9,10,29] [(6,.own 600108009)] [108007] []<|A.ret ?_
 obtain rfl:=some_inj hm
 exact A.fin W0 [.fz [600108009]] rfl (by kernel_rfl)
end Go.Proofs.YtdjeacigeegklaaGreat
