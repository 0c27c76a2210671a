/- The iJ of ee of the program. No condition but bJ aY stand in each. -/
import Derived.Test.YtdjeacigeegklaaGreatV5
import Derived.Test.YtdjeacigeegklaaGreatSF
namespace Go.Proofs.YtdjeacigeegklaaGreat
open Go Go.Proofs.Tryz
set_option maxRecDepth 100000
set_option linter.all false
variable {t:aa}
theorem tv{r:Bool}(hm:kN t=some r):RO prog 141 [] [.agg (k2 t)] (.bool r):=by
 refine bh func141 rfl rfl ?_
 unfold kN at hm
 refine qS [(0,.al 141001)] [(1,.ptr 141001 0)] [(141001,.cells 28 (k2 t))] ?_
 obtain⟨ai,h1,hm⟩:=af hm
 refine qS [(1,hro (kr h1) af7)] [(2,.bool (decide (ai=0)))] [] ?_
 cases hm
 exact A.ret qE
theorem aam{r:fT}(hm:nG t=some r):RO prog 142 [] [.agg (k2 t)] (.agg [.mpf (b9 .i64 (vL aD) r.nP),.mpf (b9 .i64 (vL aD) r.in_)]):=by
 refine bh func142 rfl rfl ?_
 unfold nG at hm
 refine qS [(0,.al 142001),(1,.al 142002)] [(1,.ptr 142001 0),(2,.ptr 142002 0)] [(142001,.cells 28 (k2 t)),(142002,.cells 202 [.er,.er])]<|qD [(0,.al 142009),(1,.al 142010),(3,.al 142003)] [] [(3,.ptr 142003 0)] [] [(142009,.map 3 216 (b9 .i64 (vL aD) [])),(142010,.map 3 216 (b9 .i64 (vL aD) [])),(142003,.cells 202 [.cD 142009,.cD 142010])]<|A.weak ((bx.ajB (d:=142009) (e:=450142009) rfl rfl rfl rfl rfl))<|A.weak ((bx.ajB (d:=142010) (e:=450142010) rfl rfl rfl rfl rfl))<|A.seq<|qS [(2,hto (lnE aJ t.ah))] [(1,.ptr 142001 0),(2,.ptr 142002 0),(3,.ptr 142003 0),(13,lf aJ t.ah),(14,i6 (t.ah.length:Int)),(15,i6 0)] [(142001,.cells 28 (k2 t)),(142002,.cells 202 [.er,.er]),(142009,.dP 3 216 450142009 (dN .i64 ([]:List (Int×List aG))) none none),(450142009,.bun (fE 218 2 aD.enc ([]:List (Int×List aG)))),(142010,.dP 3 216 450142010 (dN .i64 ([]:List (Int×List aG))) none none),(450142010,.bun (fE 218 2 aD.enc ([]:List (Int×List aG)))),(142003,.cells 202 [.cD 142009,.cD 142010])]<|A.block<|A.bS 13 rfl λhb1=>?_
 obtain⟨B1,K1,hB1,hK1,hm⟩:=bu hm
 refine A.lpI (l:=t.ah) (j0:=0) (B:=B1) (K:=K1) hm (λj1=>λ(m_1,m_2)=>[(1,.ptr 142001 0),(2,.ptr 142002 0),(3,.ptr 142003 0),(13,lf aJ t.ah),(14,i6 (t.ah.length:Int)),(15,i6 (j1:Int))]) (λj1=>λ(m_1,m_2)=>[(142001,.cells 28 (k2 t)),(142002,.cells 202 [.er,.er]),(142009,.dP 3 216 450142009 (dN .i64 m_1) none none),(450142009,.bun (fE 218 2 aD.enc m_1)),(142010,.dP 3 216 450142010 (dN .i64 m_2) none none),(450142010,.bun (fE 218 2 aD.enc m_2)),(142003,.cells 202 [.cD 142009,.cD 142010])]) ?_ ?_ ?_
 ·exact qW
 ·rintro j1 e1 Z1 ⟨m_1,m_2⟩ hj1 hx1 hm
  rw[hB1]at hm
  exact qDs [] [] [(16,.bool (decide ((j1:Int)<(t.ah.length:Int))))]<|A.seq<|qT (ltT hx1)<|A.skip<|A.seq<|A.block<|qD [(0,hix (ix aJ (bt hx1))),(2,.al 142005)] [16] [(5,.ptr 142005 0)] [] [(142005,.cells 42 (k0 e1))]<|qG [(8,hpm 218 2 530142001 m_1 e1.ID aD.enc [] lg),(9,hpm 218 2 530142002 m_2 e1.ID aD.enc [] lg)] [5] [] [142009,450142009,142010,450142010,142005] [(142009,.dP 3 216 530142001 (dN .i64 (bU m_1 e1.ID [])) none none),(530142001,.bun (fE 218 2 aD.enc (bU m_1 e1.ID []))),(142010,.dP 3 216 530142002 (dN .i64 (bU m_2 e1.ID [])) none none),(530142002,.bun (fE 218 2 aD.enc (bU m_2 e1.ID [])))]<|qGs [(0,hto (inc hx1 hb1))] [15] [(15,i6 ((j1+1:Nat):Int))]<|Exists.intro (bU m_1 e1.ID [],bU m_2 e1.ID []) (And.intro hm (bx.go [.rn 530142001 450142009,.rn 530142002 450142010] [] (by kernel_rfl)))
 rintro j1 ⟨m_1,m_2⟩ hj1 hl1 hm
 rw[hK1]at hm
 refine qDs [] [] [(16,.bool (decide ((j1:Int)<(t.ah.length:Int))))]<|A.seq<|qF (ltF hl1)<|A.exit<|A.seq<|qD [(2,hto (lnE aV t.Links))] [1,13,14,15,16] [(29,lf aV t.Links),(30,i6 (t.Links.length:Int)),(31,i6 0)] [142001] []<|A.block<|A.bS 29 rfl λhb2=>?_
 obtain⟨B2,K2,hB2,hK2,hm⟩:=bu hm
 refine A.lpI (l:=t.Links) (j0:=0) (B:=B2) (K:=K2) hm (λj2=>λ(m_3,m_4)=>[(2,.ptr 142002 0),(3,.ptr 142003 0),(29,lf aV t.Links),(30,i6 (t.Links.length:Int)),(31,i6 (j2:Int))]) (λj2=>λ(m_3,m_4)=>[(142002,.cells 202 [.er,.er]),(142009,.dP 3 216 450142009 (dN .i64 m_3) none none),(450142009,.bun (fE 218 2 aD.enc m_3)),(142010,.dP 3 216 450142010 (dN .i64 m_4) none none),(450142010,.bun (fE 218 2 aD.enc m_4)),(142003,.cells 202 [.cD 142009,.cD 142010])]) ?_ ?_ ?_
 ·exact qW
 ·rintro j2 e2 Z2 ⟨m_3,m_4⟩ hj2 hx2 hm
  rw[hB2]at hm
  refine qDs [] [] [(32,.bool (decide ((j2:Int)<(t.Links.length:Int))))]<|A.seq<|qT (ltT hx2)<|A.skip<|A.seq<|A.block<|qD [(0,hix (ix aV (bt hx2))),(2,.al 142007)] [32] [(7,.ptr 142007 0)] [] [(142007,.cells 89 (k1 e2))] ?_
  obtain⟨l_1,h1,hm⟩:=af hm
  refine qD [(8,htk 218 2 530142004 530142003 m_3 e2.A aD.enc lg zeroValue216),(15,hap 142550 (ap aD (bytes:=16) (by decide) h1)),(16,aiw 218 2 530142005 m_3 e2.A aD.enc l_1 530142003 lg)] [] [] [142009,450142009] [(142009,.dP 3 216 530142005 (dN .i64 (bU m_3 e2.A l_1)) none none),(530142005,.bun (fE 218 2 aD.enc (bU m_3 e2.A l_1)))] ?_
  obtain⟨l_2,h2,hm⟩:=af hm
  refine qD [(8,htk 218 2 530142007 530142006 (bU m_3 e2.A l_1) e2.B aD.enc lg zeroValue216),(15,hap 142566 (ap aD (bytes:=16) (by decide) h2)),(16,aiw 218 2 530142008 (bU m_3 e2.A l_1) e2.B aD.enc l_2 530142006 lg)] [] [] [142009,530142005] [(142009,.dP 3 216 530142008 (dN .i64 (bU (bU m_3 e2.A l_1) e2.B l_2)) none none),(530142008,.bun (fE 218 2 aD.enc (bU (bU m_3 e2.A l_1) e2.B l_2)))] ?_
  obtain⟨l_3,h3,hm⟩:=af hm
  refine qD [(8,htk 218 2 530142010 530142009 m_4 e2.B aD.enc lg zeroValue216),(15,hap 142582 (ap aD (bytes:=16) (by decide) h3)),(16,aiw 218 2 530142011 m_4 e2.B aD.enc l_3 530142009 lg)] [] [] [142010,450142010] [(142010,.dP 3 216 530142011 (dN .i64 (bU m_4 e2.B l_3)) none none),(530142011,.bun (fE 218 2 aD.enc (bU m_4 e2.B l_3)))] ?_
  obtain⟨l_4,h4,hm⟩:=af hm
  exact qG [(8,htk 218 2 530142013 530142012 (bU m_4 e2.B l_3) e2.A aD.enc lg zeroValue216),(15,hap 142598 (ap aD (bytes:=16) (by decide) h4)),(16,aiw 218 2 530142014 (bU m_4 e2.B l_3) e2.A aD.enc l_4 530142012 lg)] [7] [] [142010,530142011,142007] [(142010,.dP 3 216 530142014 (dN .i64 (bU (bU m_4 e2.B l_3) e2.A l_4)) none none),(530142014,.bun (fE 218 2 aD.enc (bU (bU m_4 e2.B l_3) e2.A l_4)))]<|qGs [(0,hto (inc hx2 hb2))] [31] [(31,i6 ((j2+1:Nat):Int))]<|Exists.intro (bU (bU m_3 e2.A l_1) e2.B l_2,bU (bU m_4 e2.B l_3) e2.A l_4) (And.intro hm (bx.go [.rn 530142008 450142009,.rn 530142014 450142010] [] (by kernel_rfl)))
 rintro j2 ⟨m_3,m_4⟩ hj2 hl2 hm
 rw[hK2]at hm
 refine qDs [] [] [(32,.bool (decide ((j2:Int)<(t.Links.length:Int))))]<|A.seq<|qF (ltF hl2)<|A.exit<|A.seq<|A.fixO (d:=142009) rfl λes1 ck1=>?_
 refine qS [(2,hrg 142102 es1 ck1 lg)] [(2,.ptr 142002 0),(3,.ptr 142003 0),(102,.ptr 142102 0)] [(142002,.cells 202 [.er,.er]),(142009,.dP 3 216 450142009 (dN .i64 m_3) none (some (es1,ck1))),(450142009,.bun (fE 218 2 aD.enc m_3)),(142010,.dP 3 216 450142010 (dN .i64 m_4) none none),(450142010,.bun (fE 218 2 aD.enc m_4)),(142003,.cells 202 [.cD 142009,.cD 142010]),(142102,.iter 142009 ck1 ck1 (#[]))]<|A.block ?_
 obtain⟨R1,hR1,hm⟩:=af hm
 refine A.rng (dm:=142009) (di:=142102) (it:=102) (clock:=ck1) (es:=es1) hR1 (λsg=>sg.map (·.1)=m_3.map (·.1)) (λm_5=>[(2,.ptr 142002 0),(3,.ptr 142003 0),(102,.ptr 142102 0)]) (λsn1=>λm_5=>[(142002,.cells 202 [.er,.er]),(142009,.dP 3 216 450142009 (dN .i64 m_5) none (some (es1,ck1))),(450142009,.bun (fE 218 2 aD.enc m_5)),(142010,.dP 3 216 450142010 (dN .i64 m_4) none none),(450142010,.bun (fE 218 2 aD.enc m_4)),(142003,.cells 202 [.cD 142009,.cD 142010]),(142102,.iter 142009 ck1 ck1 sn1)]) ⟨rfl,rfl,rfl⟩ ⟨rfl,rfl,rfl⟩ (by kernel_rfl) rfl (by intro n v g g1 hB hi;obtain⟨c,hB⟩:=fI hB;obtain⟨x,hx,hB⟩:=af hB;obtain rfl:=some_inj hB;exact(z7 x c).trans hi) (λ_=>rfl) (λ_ _=>rfl) (λ_ _=>⟨_,rfl,rfl⟩) (λ_ _ _=>rfl) (λ_ _ hi _ _ _ _ hW hn=>akk hW rfl hn hi) ?_ ?_ ?_
 ·exact qW
 ·rintro sn1 me1 mi1 n_1 v_1 m_5 gz1 hE1 hl1 hv1 hm
  refine A.block<|qS [(0,heo 142102 142009 ck1 .i64 sn1 hE1 (ata hv1 hl1))] [(2,.ptr 142002 0),(3,.ptr 142003 0),(102,.ptr 142102 0),(8,i6 n_1)] [(142002,.cells 202 [.er,.er]),(142009,.dP 3 216 450142009 (dN .i64 m_5) none (some (es1,ck1))),(450142009,.bun (fE 218 2 aD.enc m_5)),(142010,.dP 3 216 450142010 (dN .i64 m_4) none none),(450142010,.bun (fE 218 2 aD.enc m_4)),(142003,.cells 202 [.cD 142009,.cD 142010]),(142102,.iter 142009 ck1 ck1 (sn1.push me1.born))] ?_
  obtain⟨h5,hm⟩:=fI hm
  obtain⟨l_5,h6,hm⟩:=af hm
  refine qG [(3,htk 218 2 530142016 530142015 m_5 n_1 aD.enc lg zeroValue216),(4,hdc [] (alR (d:=530142015) (T:=218) h6) axP)] [8] [] [142009,450142009] [(142009,.dP 3 216 530142016 (dN .i64 m_5) (mg m_5 n_1 530142015) (some (es1,ck1))),(530142016,.bun (fE 218 2 aD.enc (lW m_5 n_1))),(530142015,.slice 218 2 (ml aD l_5) 0 false)] ?_
  obtain rfl:=some_inj hm
  exact((bx.awQ (d:=142009) (e:=530142016) (e2:=530142017) (t:=530142015) m_5 n_1 aD.enc l_5 h5 rfl rfl rfl rfl rfl rfl rfl).trans (bx.go [.rn 530142017 450142009] [] (by kernel_rfl)))
 intro sn1
 refine A.weak (bx.asV (d:=142009) (e:=450142009) R1 aD.enc rfl rfl)<|A.weak (bx.asV (d:=142010) (e:=450142010) m_4 aD.enc rfl rfl)<|qS [] [(2,.ptr 142002 0)] [(142002,.cells 202 [.cD 142009,.cD 142010]),(142009,.kY 3 216 (b9 .i64 (vL aD) R1)),(142010,.kY 3 216 (b9 .i64 (vL aD) m_4))] ?_
 cases hm
 exact A.ret qE
variable {cI:Int}
theorem wK{links:List (Int×List aG)}{r:(List (Int×Int))}(hm:fW links cI=some r):RO prog 143 [] [.mpf (b9 .i64 (vL aD) links),i6 cI] (.mpf (b9 .i64 (vI .i64) r)):=by
 refine bh func143 rfl rfl ?_
 unfold fW at hm
 refine qS [] [(0,.mpf (b9 .i64 (vL aD) links)),(1,i6 cI)] []<|A.scope<|qS [(0,.al 143019)] [(0,.mpf (b9 .i64 (vL aD) links)),(1,i6 cI),(5,.cD 143019)] [(143019,.map 3 3 (b9 .i64 (vI .i64) []))]<|A.seq<|qDs [(2,hlf links cI (vL aD) [] lg (zSl aD zeroValue216))] [] [(7,.bool ((aK links cI).isSome))]<|qDs [] [7] [(27,.bool (!((aK links cI).isSome)))] ?_
 rcases ak hm with⟨c1,hm⟩|⟨c1,hm⟩
 ·refine qT c1<|qDs [] [0,1,5,27] [(4,.cD 143019)]<|A.ret ?_
  obtain rfl:=some_inj hm
  exact A.fin W0 [.fz [143019]] rfl (by kernel_rfl)
 refine qF c1<|A.skip<|qD [(0,.al 143029),(2,hmu (mu (k:=.i64) (enc:=(vI .i64)) [] cI (0:Int) rfl))] [1,27] [(8,.cD 143029)] [] [(143029,.map 3 3 (b9 .i64 (vI .i64) (bU [] cI (0:Int))))]<|A.seq<|A.label ?_
 obtain⟨J1,hJ1,hm⟩:=cw hm
 refine A.J (J:=J1) (r:=r) (λ(m_1,m_2)=>[(5,.cD 143019)]) (λ(m_1,m_2)=>[(143019,.map 3 3 (b9 .i64 (vI .i64) m_1))]) ?_ ?_
 ·refine A.block ?_
  obtain⟨F1,n1,hF1,hm⟩:=jA hm
  refine A.lpW (F:=F1) hm (λ(m_3,m_4)=>[(0,.mpf (b9 .i64 (vL aD) links)),(5,.cD 143019),(8,.cD 143029)]) (λ(m_3,m_4)=>[(143019,.map 3 3 (b9 .i64 (vI .i64) m_3)),(143029,.map 3 3 (b9 .i64 (vI .i64) m_4))]) ?_ ?_
  ·exact qW
  rintro Z1 ⟨m_3,m_4⟩ hm
  rw[hF1]at hm
  refine A.seq<|qDs [(1,hlm (lm (k:=.i64) (enc:=(vI .i64)) m_4))] [] [(34,.bool (decide (0<(m_4.length:Int))))] ?_
  rcases ak hm with⟨c2,hm⟩|⟨c2,hm⟩
  ·refine qT c2<|A.skip<|A.block<|qDs [] [34] [(9,i6 0)]<|A.seq<|A.fixM (d:=143029) rfl λes1 ck1=>?_
   refine qS [(1,hrg 143036 es1 ck1 qP)] [(0,.mpf (b9 .i64 (vL aD) links)),(5,.cD 143019),(8,.cD 143029),(9,i6 0),(36,.ptr 143036 0)] [(143019,.map 3 3 (b9 .i64 (vI .i64) m_3)),(143029,.gj es1 ck1 3 3 (b9 .i64 (vI .i64) m_4)),(143036,.iter 143029 ck1 ck1 (#[]))]<|A.block ?_
   obtain⟨R1,hR1,hm⟩:=af hm
   refine A.rng (dm:=143029) (di:=143036) (it:=36) (clock:=ck1) (es:=es1) hR1 (λ_=>True) (λdW=>[(0,.mpf (b9 .i64 (vL aD) links)),(5,.cD 143019),(8,.cD 143029),(9,i6 dW),(36,.ptr 143036 0)]) (λsn1=>λdW=>[(143019,.map 3 3 (b9 .i64 (vI .i64) m_3)),(143029,.gj es1 ck1 3 3 (b9 .i64 (vI .i64) m_4)),(143036,.iter 143029 ck1 ck1 sn1)]) ⟨rfl,rfl,rfl⟩ ⟨rfl,rfl,rfl⟩ (by kernel_rfl) trivial (λ_ _ _ _ _ _=>trivial) (λ_=>rfl) (λ_ _=>rfl) (λ_ _=>⟨_,rfl,rfl⟩) (λ_ _ _=>rfl) (λ_ _ _ _ _ _ _ hW hn=>lenX hW rfl hn) ?_ ?_ ?_
   ·exact qW
   ·rintro sn1 me1 mi1 n_1 v_1 dW gz1 hE1 hl1 hv1 hm
    refine A.block<|qS [(0,hex 143036 143029 ck1 .i64 sn1 (vI .i64) hE1 hl1)] [(0,.mpf (b9 .i64 (vL aD) links)),(5,.cD 143019),(8,.cD 143029),(9,i6 dW),(36,.ptr 143036 0),(10,i6 n_1),(11,i6 v_1)] [(143019,.map 3 3 (b9 .i64 (vI .i64) m_3)),(143029,.gj es1 ck1 3 3 (b9 .i64 (vI .i64) m_4)),(143036,.iter 143029 ck1 ck1 (sn1.push me1.born))] ?_
    refine A.mid [(0,.mpf (b9 .i64 (vL aD) links)),(5,.cD 143019),(8,.cD 143029),(9,i6 dW),(36,.ptr 143036 0),(10,i6 n_1),(62,.bool ((decide (dW=0))||((decide (v_1<((aK m_4 dW).getD (0:Int))))||((decide (v_1=((aK m_4 dW).getD (0:Int))))&&(decide (n_1<dW))))))] [(143019,.map 3 3 (b9 .i64 (vI .i64) m_3)),(143029,.gj es1 ck1 3 3 (b9 .i64 (vI .i64) m_4)),(143036,.iter 143029 ck1 ck1 (sn1.push me1.born))] (λhk=>?_) ?_
    ·rcases tf (decide (dW=0))with c3|c3
     ·exact qS [(2,hto (bE c3)),(20,hto (orT (q:=((decide (v_1<((aK m_4 dW).getD (0:Int))))||((decide (v_1=((aK m_4 dW).getD (0:Int))))&&(decide (n_1<dW))))) c3))] _ _ hk
     rcases tf (decide (v_1<((aK m_4 dW).getD (0:Int))))with c4|c4
     ·exact qS [(2,hto (bE c3)),(6,hlf m_4 dW (vI .i64) (0:Int) qP (zI (k:=.i64) zeroValue3)),(9,hto (bE c4)),(20,hto ((orT (q:=((decide (v_1=((aK m_4 dW).getD (0:Int))))&&(decide (n_1<dW)))) c4).trans (orF (q:=((decide (v_1<((aK m_4 dW).getD (0:Int))))||((decide (v_1=((aK m_4 dW).getD (0:Int))))&&(decide (n_1<dW))))) c3)))] _ _ hk
     rcases tf (decide (v_1=((aK m_4 dW).getD (0:Int))))with c5|c5
     ·exact qS [(2,hto (bE c3)),(6,hlf m_4 dW (vI .i64) (0:Int) qP (zI (k:=.i64) zeroValue3)),(9,hto (bE c4)),(13,hlf m_4 dW (vI .i64) (0:Int) qP (zI (k:=.i64) zeroValue3)),(15,hto (bE c5)),(20,hto (((nO (q:=decide (n_1<dW)) c5).trans (orF (q:=((decide (v_1=((aK m_4 dW).getD (0:Int))))&&(decide (n_1<dW)))) c4)).trans (orF (q:=((decide (v_1<((aK m_4 dW).getD (0:Int))))||((decide (v_1=((aK m_4 dW).getD (0:Int))))&&(decide (n_1<dW))))) c3)))] _ _ hk
     exact qS [(2,hto (bE c3)),(6,hlf m_4 dW (vI .i64) (0:Int) qP (zI (k:=.i64) zeroValue3)),(9,hto (bE c4)),(13,hlf m_4 dW (vI .i64) (0:Int) qP (zI (k:=.i64) zeroValue3)),(15,hto (bE c5)),(20,hto (((oK (q:=decide (n_1<dW)) c5).trans (orF (q:=((decide (v_1=((aK m_4 dW).getD (0:Int))))&&(decide (n_1<dW)))) c4)).trans (orF (q:=((decide (v_1<((aK m_4 dW).getD (0:Int))))||((decide (v_1=((aK m_4 dW).getD (0:Int))))&&(decide (n_1<dW))))) c3)))] _ _ hk
    rcases ak hm with⟨c6,hm⟩|⟨c6,hm⟩
    ·refine qT c6<|qGs [] [9,10,62] [(9,i6 n_1)] ?_
     obtain rfl:=some_inj hm
     exact(qW)
    refine qF c6<|A.skip ?_
    obtain rfl:=some_inj hm
    exact(qW)
   intro sn1
   refine A.weak (bx.awR (d:=143029) rfl)<|qS [(2,hlk (lk (E:=3) (k:=.i64) (enc:=(vI .i64)) m_4 R1 (0:Int) (λw=>⟨_,zeroValue3 w,λI=>by simp[aL,vI,vB]⟩)))] [(0,.mpf (b9 .i64 (vL aD) links)),(5,.cD 143019),(8,.cD 143029),(9,i6 R1),(12,i6 ((aK m_4 R1).getD (0:Int)))] [(143019,.map 3 3 (b9 .i64 (vI .i64) m_3)),(143029,.map 3 3 (b9 .i64 (vI .i64) m_4))]<|qD [(2,hde m_4 R1 (vI .i64) qP)] [] [] [143029] [(143029,.map 3 3 (b9 .i64 (vI .i64) (pg m_4 R1)))]<|qD [(3,hmu (mu (k:=.i64) (enc:=(vI .i64)) m_3 R1 ((aK m_4 R1).getD (0:Int)) rfl))] [] [] [143019] [(143019,.map 3 3 (b9 .i64 (vI .i64) (bU m_3 R1 ((aK m_4 R1).getD (0:Int)))))]<|A.seq<|qDs [(1,hlm (lm (k:=.i64) (enc:=(vI .i64)) (bU m_3 R1 ((aK m_4 R1).getD (0:Int))))),(3,hnf links (vL aD) lg)] [] [(76,.bool (decide (((bU m_3 R1 ((aK m_4 R1).getD (0:Int))).length:Int)=(links.length:Int))))] ?_
   rcases ak hm with⟨c7,hm⟩|⟨c7,hm⟩
   ·exact qT c7<|A.exit<|qX (bU m_3 R1 ((aK m_4 R1).getD (0:Int)),pg m_4 R1) hm
   refine qF c7<|A.skip<|qDs [(2,hlf links R1 (vL aD) [] lg (zSl aD zeroValue216)),(3,hto (lnE aD ((aK links R1).getD [])))] [9,76] [(79,lf aD ((aK links R1).getD [])),(80,i6 (((aK links R1).getD []).length:Int)),(81,i6 0)]<|A.block<|A.bS 79 rfl λhb2=>?_
   obtain⟨B2,K2,hB2,hK2,hm⟩:=bu hm
   refine A.lpI (l:=((aK links R1).getD [])) (j0:=0) (B:=B2) (K:=K2) hm (λj2=>λm_5=>[(0,.mpf (b9 .i64 (vL aD) links)),(5,.cD 143019),(8,.cD 143029),(12,i6 ((aK m_4 R1).getD (0:Int))),(79,lf aD ((aK links R1).getD [])),(80,i6 (((aK links R1).getD []).length:Int)),(81,i6 (j2:Int))]) (λj2=>λm_5=>[(143019,.map 3 3 (b9 .i64 (vI .i64) (bU m_3 R1 ((aK m_4 R1).getD (0:Int))))),(143029,.map 3 3 (b9 .i64 (vI .i64) m_5))]) ?_ ?_ ?_
   ·exact qW
   ·rintro j2 e2 Z2 m_5 hj2 hx2 hm
    rw[hB2]at hm
    refine qDs [] [] [(82,.bool (decide ((j2:Int)<(((aK links R1).getD []).length:Int))))]<|A.seq<|qT (ltT hx2)<|A.skip ?_
    obtain⟨J2,hJ2,hm⟩:=cw hm
    refine A.J (J:=J2) (r:=r) (λm_6=>[(0,.mpf (b9 .i64 (vL aD) links)),(5,.cD 143019),(8,.cD 143029),(12,i6 ((aK m_4 R1).getD (0:Int))),(79,lf aD ((aK links R1).getD [])),(80,i6 (((aK links R1).getD []).length:Int)),(81,i6 (j2:Int))]) (λm_6=>[(143019,.map 3 3 (b9 .i64 (vI .i64) (bU m_3 R1 ((aK m_4 R1).getD (0:Int))))),(143029,.map 3 3 (b9 .i64 (vI .i64) m_6))]) ?_ ?_
    ·refine A.block<|qD [(0,hix (ix aD (bt hx2))),(2,.al 143014)] [82] [(14,.ptr 143014 0)] [] [(143014,.cells 218 (k9 e2))] ?_
     refine A.seq<|qDs [(3,hlk (lk (E:=3) (k:=.i64) (enc:=(vI .i64)) (bU m_3 R1 ((aK m_4 R1).getD (0:Int))) e2.to_ (0:Int) (λw=>⟨_,zeroValue3 w,λI=>by simp[aL,vI,vB]⟩)))] [] [(16,.bool ((aK (bU m_3 R1 ((aK m_4 R1).getD (0:Int))) e2.to_).isSome))] ?_
     refine qDs [] [16] [(92,.bool ((aK (bU m_3 R1 ((aK m_4 R1).getD (0:Int))) e2.to_).isSome))] ?_
     rcases ak hm with⟨c8,hm⟩|⟨c8,hm⟩
     ·exact qT c8<|A.exit<|qX m_5 hm
     refine qF c8<|A.skip<|qDs [(3,hlk (lk (E:=3) (k:=.i64) (enc:=(vI .i64)) m_5 e2.to_ (0:Int) (λw=>⟨_,zeroValue3 w,λI=>by simp[aL,vI,vB]⟩)))] [92] [(17,i6 ((aK m_5 e2.to_).getD (0:Int))),(18,.bool ((aK m_5 e2.to_).isSome))]<|A.mid [(0,.mpf (b9 .i64 (vL aD) links)),(5,.cD 143019),(8,.cD 143029),(12,i6 ((aK m_4 R1).getD (0:Int))),(79,lf aD ((aK links R1).getD [])),(80,i6 (((aK links R1).getD []).length:Int)),(81,i6 (j2:Int)),(14,.ptr 143014 0),(109,.bool ((!((aK m_5 e2.to_).isSome))||(decide (w64 (((aK m_4 R1).getD (0:Int))+e2.gn)<((aK m_5 e2.to_).getD (0:Int))))))] [(143019,.map 3 3 (b9 .i64 (vI .i64) (bU m_3 R1 ((aK m_4 R1).getD (0:Int))))),(143029,.map 3 3 (b9 .i64 (vI .i64) m_5)),(143014,.cells 218 (k9 e2))] (λhk=>?_) ?_
     ·rcases tf (!((aK m_5 e2.to_).isSome))with c9|c9
      ·exact qS [(2,hto (bE c9)),(9,hto (orT (q:=decide (w64 (((aK m_4 R1).getD (0:Int))+e2.gn)<((aK m_5 e2.to_).getD (0:Int)))) c9))] _ _ hk
      exact qS [(2,hto (bE c9)),(9,hto (orF (q:=decide (w64 (((aK m_4 R1).getD (0:Int))+e2.gn)<((aK m_5 e2.to_).getD (0:Int)))) c9))] _ _ hk
     rcases ak hm with⟨c10,hm⟩|⟨c10,hm⟩
     ·exact qT c10<|qG [(7,hmu (mu (k:=.i64) (enc:=(vI .i64)) m_5 e2.to_ (w64 (((aK m_4 R1).getD (0:Int))+e2.gn)) rfl))] [14,109] [] [143029,143014] [(143029,.map 3 3 (b9 .i64 (vI .i64) (bU m_5 e2.to_ (w64 (((aK m_4 R1).getD (0:Int))+e2.gn)))))]<|qX (bU m_5 e2.to_ (w64 (((aK m_4 R1).getD (0:Int))+e2.gn))) hm
     exact qF c10<|A.skip<|qX m_5 hm
    rintro m_6 hm
    rw[hJ2]at hm
    exact qGs [(0,hto (inc hx2 hb2))] [81] [(81,i6 ((j2+1:Nat):Int))]<|qX m_6 hm
   rintro j2 m_5 hj2 hl2 hm
   rw[hK2]at hm
   exact qDs [] [] [(82,.bool (decide ((j2:Int)<(((aK links R1).getD []).length:Int))))]<|A.seq<|qF (ltF hl2)<|A.exit<|qX (bU m_3 R1 ((aK m_4 R1).getD (0:Int)),m_5) hm
  exact qF c2<|A.exit<|qX (m_3,m_4) hm
 rintro⟨m_1,m_2⟩ hm
 rw[hJ1]at hm
 refine qDs [] [5] [(4,.cD 143019)]<|A.ret ?_
 obtain rfl:=some_inj hm
 exact A.fin W0 [.fz [143019]] rfl (by kernel_rfl)
variable {r:(List Int)}
theorem vZ{g:fT}{fP:List (Int×Int)}{eX:Int}(hm:jd g fP eX=some r):RO prog 144 [] [.agg [.mpf (b9 .i64 (vL aD) g.nP),.mpf (b9 .i64 (vL aD) g.in_)],.mpf (b9 .i64 (vI .i64) fP),i6 eX] (lf aA r):=by
 refine bh func144 rfl rfl ?_
 unfold jd at hm
 refine qS [(0,.al 144003)] [(1,.mpf (b9 .i64 (vI .i64) fP)),(2,i6 eX),(3,.ptr 144003 0)] [(144003,.cells 202 [.mpf (b9 .i64 (vL aD) g.nP),.mpf (b9 .i64 (vL aD) g.in_)])]<|qDs [] [] [(7,.aQ)]<|qDs [(2,hlf fP eX (vI .i64) (0:Int) qP (zI (k:=.i64) zeroValue3))] [] [(8,i6 ((aK fP eX).getD (0:Int))),(9,.bool ((aK fP eX).isSome))]<|A.seq<|qDs [] [9] [(21,.bool (!((aK fP eX).isSome)))] ?_
 rcases ak hm with⟨c1,hm⟩|⟨c1,hm⟩
 ·refine qT c1<|qS [] [(6,.aQ)] [] ?_
  cases hm
  exact A.ret qE
 refine qF c1<|A.skip<|A.seq<|qD [(3,hlf g.nP eX (vL aD) [] lg (zSl aD zeroValue216)),(4,hto (lnE aD ((aK g.nP eX).getD [])))] [2,3,21] [(25,lf aD ((aK g.nP eX).getD [])),(26,i6 (((aK g.nP eX).getD []).length:Int)),(27,i6 0)] [144003] []<|A.block<|A.bS 25 rfl λhb1=>?_
 obtain⟨B1,K1,hB1,hK1,hm⟩:=bu hm
 refine A.lpI (l:=((aK g.nP eX).getD [])) (j0:=0) (B:=B1) (K:=K1) hm (λj1=>λbp=>[(1,.mpf (b9 .i64 (vI .i64) fP)),(7,.own 600144007),(8,i6 ((aK fP eX).getD (0:Int))),(25,lf aD ((aK g.nP eX).getD [])),(26,i6 (((aK g.nP eX).getD []).length:Int)),(27,i6 (j1:Int))]) (λj1=>λbp=>[(600144007,.slice 3 1 (ml aA bp) 0 false)]) ?_ ?_ ?_
 ·exact bx.go [.ad 7 600144007 3 1] [] (by kernel_rfl)
 ·rintro j1 e1 Z1 bp hj1 hx1 hm
  rw[hB1]at hm
  refine qDs [] [] [(28,.bool (decide ((j1:Int)<(((aK g.nP eX).getD []).length:Int))))]<|A.seq<|qT (ltT hx1)<|A.skip ?_
  obtain⟨J1,hJ1,hm⟩:=cw hm
  refine A.J (J:=J1) (r:=r) (λcZ=>[(1,.mpf (b9 .i64 (vI .i64) fP)),(7,.own 600144007),(8,i6 ((aK fP eX).getD (0:Int))),(25,lf aD ((aK g.nP eX).getD [])),(26,i6 (((aK g.nP eX).getD []).length:Int)),(27,i6 (j1:Int))]) (λcZ=>[(600144007,.slice 3 1 (ml aA cZ) 0 false)]) ?_ ?_
  ·refine A.block<|qD [(0,hix (ix aD (bt hx1))),(2,.al 144011)] [28] [(11,.ptr 144011 0)] [] [(144011,.cells 218 (k9 e1))] ?_
   refine qDs [(3,hlf fP e1.to_ (vI .i64) (0:Int) qP (zI (k:=.i64) zeroValue3))] [] [(12,i6 ((aK fP e1.to_).getD (0:Int))),(13,.bool ((aK fP e1.to_).isSome))]<|A.mid [(1,.mpf (b9 .i64 (vI .i64) fP)),(7,.own 600144007),(8,i6 ((aK fP eX).getD (0:Int))),(25,lf aD ((aK g.nP eX).getD [])),(26,i6 (((aK g.nP eX).getD []).length:Int)),(27,i6 (j1:Int)),(11,.ptr 144011 0),(46,.bool (((aK fP e1.to_).isSome)&&(decide (w64 (e1.gn+((aK fP e1.to_).getD (0:Int)))=((aK fP eX).getD (0:Int))))))] [(600144007,.slice 3 1 (ml aA bp) 0 false),(144011,.cells 218 (k9 e1))] (λhk=>?_) ?_
   ·rcases tf ((aK fP e1.to_).isSome)with c2|c2
    ·exact qS [(1,hto (bE c2)),(8,hto (nO (q:=decide (w64 (e1.gn+((aK fP e1.to_).getD (0:Int)))=((aK fP eX).getD (0:Int)))) c2))] _ _ hk
    exact qS [(1,hto (bE c2)),(8,hto (oK (q:=decide (w64 (e1.gn+((aK fP e1.to_).getD (0:Int)))=((aK fP eX).getD (0:Int)))) c2))] _ _ hk
   rcases ak hm with⟨c3,hm⟩|⟨c3,hm⟩
   ·refine qT c3 ?_
    obtain⟨l_1,h1,hm⟩:=af hm
    exact qG [(4,hap 144551 (ap aA (bytes:=8) (by decide) h1))] [7,11,46] [(7,.own 144551)] [600144007,144011] [(144551,.slice 3 1 (ml aA l_1) 0 false)]<|Exists.intro l_1 (And.intro hm (bx.go [.sw 144551 600144007] [] (by kernel_rfl)))
   exact qF c3<|A.skip<|qX bp hm
  rintro cZ hm
  rw[hJ1]at hm
  exact qGs [(0,hto (inc hx1 hb1))] [27] [(27,i6 ((j1+1:Nat):Int))]<|qX cZ hm
 rintro j1 bp hj1 hl1 hm
 rw[hK1]at hm
 refine qDs [] [] [(28,.bool (decide ((j1:Int)<(((aK g.nP eX).getD []).length:Int))))]<|A.seq<|qF (ltF hl1)<|A.exit<|qDs [] [1,7,8,25,26,27,28] [(6,.own 600144007)]<|A.ret ?_
 obtain rfl:=some_inj hm
 exact A.fin W0 [.fz [600144007]] rfl (by kernel_rfl)
theorem tw{fF:Int}(hm:kO t cI fF=some r):RO prog 108 [] [.agg (k2 t),i6 cI,i6 fF] (lf aA r):=by
 refine bh func108 rfl rfl ?_
 unfold kO at hm
 refine qS [(0,.al 108003)] [(1,i6 cI),(2,i6 fF),(3,.ptr 108003 0)] [(108003,.cells 28 (k2 t))]<|A.seq ?_
 obtain⟨J1,hJ1,hm⟩:=cw hm
 refine A.J (J:=J1) (r:=r) (λv_1=>[(1,i6 cI),(2,i6 fF),(3,.ptr 108003 0),(19,.bool v_1)]) (λv_1=>[(108003,.cells 28 (k2 t))]) ?_ ?_
 ·obtain⟨ai,h1,hm⟩:=af hm
  rcases ak hm with⟨c1,hm⟩|⟨c1,hm⟩
  ·exact qGs [(1,hro (tv h1) anx),(3,hto (bE c1))] [] [(19,.bool true)]<|qX true hm
  exact qGs [(1,hro (tv h1) anx),(3,hto (bE c1))] [] [(19,.bool (decide (cI=fF)))]<|qX (decide (cI=fF)) hm
 rintro v_1 hm
 rw[hJ1]at hm
 rcases ak hm with⟨c2,hm⟩|⟨c2,hm⟩
 ·refine qT c2<|qS [] [(6,.aQ)] [] ?_
  cases hm
  exact A.ret qE
 refine qF c2<|A.skip ?_
 obtain⟨aI,h2,hm⟩:=af hm
 refine qD [(1,hro (aam h2) axG),(2,.al 108007)] [3,19] [(7,.ptr 108007 0)] [108003] [(108007,.cells 202 [.mpf (b9 .i64 (vL aD) aI.nP),.mpf (b9 .i64 (vL aD) aI.in_)])] ?_
 obtain⟨bf,h3,hm⟩:=af hm
 refine qDs [(3,hro (wK h3) axH)] [] [(8,.mpf (b9 .i64 (vI .i64) bf))]<|qDs [] [] [(9,.aQ)]<|A.seq<|qDs [] [1] [(10,i6 cI)]<|A.block ?_
 obtain⟨F1,n1,hF1,hm⟩:=jA hm
 refine A.lpW (F:=F1) hm (λ(bp,jE)=>[(2,i6 fF),(7,.ptr 108007 0),(8,.mpf (b9 .i64 (vI .i64) bf)),(9,.own 600108009),(10,i6 jE)]) (λ(bp,jE)=>[(108007,.cells 202 [.mpf (b9 .i64 (vL aD) aI.nP),.mpf (b9 .i64 (vL aD) aI.in_)]),(600108009,.slice 3 1 (ml aA bp) 0 false)]) ?_ ?_
 ·exact bx.go [.ad 9 600108009 3 1] [] (by kernel_rfl)
 rintro Z1 ⟨bp,jE⟩ hm
 rw[hF1]at hm
 refine A.seq<|qDs [] [] [(29,.bool (!decide (jE=fF)))] ?_
 rcases ak hm with⟨c3,hm⟩|⟨c3,hm⟩
 ·refine qT c3<|A.skip<|A.seq<|A.block ?_
  obtain⟨bB,h4,hm⟩:=af hm
  refine qDs [(3,hro (vZ h4) axI)] [10,29] [(11,lf aA bB)]<|A.seq<|qDs [(1,hto (lnE aA bB))] [] [(42,.bool (decide ((bB.length:Int)=(0:Int))))] ?_
  rcases ak hm with⟨c4,hm⟩|⟨c4,hm⟩
  ·refine qT c4<|qS [] [(6,.aQ)] [] ?_
   cases hm
   exact A.ret qE
  refine qF c4<|A.skip ?_
  obtain⟨e_1,h5,hm⟩:=af hm
  obtain⟨l_1,h6,hm⟩:=af hm
  refine qG [(2,hix (ix aA h5)),(5,hap 108548 (ap aA (bytes:=8) (by decide) h6))] [9,11,42] [(9,.own 108548)] [600108009] [(108548,.slice 3 1 (ml aA l_1) 0 false)] ?_
  obtain⟨e_2,h7,hm⟩:=af hm
  exact qGs [(2,hto (lnE aA l_1)),(4,hix (ix aA h7)),(5,hlo 108548 0 (ix aA h7))] [] [(10,i6 e_2)]<|Exists.intro (l_1,e_2) (And.intro hm (bx.go [.sw 108548 600108009] [] (by kernel_rfl)))
 refine qF c3<|A.exit<|qD [] [2,7,8,9,10,29] [(6,.own 600108009)] [108007] []<|A.ret ?_
 obtain rfl:=some_inj hm
 exact A.fin W0 [.fz [600108009]] rfl (by kernel_rfl)
end Go.Proofs.YtdjeacigeegklaaGreat
