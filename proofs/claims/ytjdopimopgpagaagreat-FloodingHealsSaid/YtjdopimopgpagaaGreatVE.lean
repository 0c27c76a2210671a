/- The eN of cu of the program. No condition but bH bq stand in each. -/
import Derived.Test.YtjdopimopgpagaaGreatVB
import Derived.Test.YtjdopimopgpagaaGreatV9
import Derived.Test.YtjdopimopgpagaaGreatCB
namespace Go.Proofs.YtjdopimopgpagaaGreat
open Go Go.Proofs.Tryz
set_option maxRecDepth 100000
set_option linter.all false
theorem de{w:bP}{n:Int}{bits:Int}{r:bP}(hm:b9 w n bits=some r):bM prog 204 [(900000221,.cells 221 [lf (eK .u8) w.s_.Data,i6 w.s_.Bits])] [.ptr 900000221 0,i6 n,i6 bits] (λa σ'=>a=.tup []∧σ'=[(900000221,.cells 221 [lf (eK .u8) r.s_.Data,i6 r.s_.Bits])]):=by
 refine aZ func204 rfl rfl ?_
 unfold b9 at hm
 obtain⟨ah,h1,hm⟩:=aa hm
 refine qR [(8,hro (aao h1) atn)] [] [(900000221,.cells 221 [lf (eK .u8) ah.1.Data,i6 ah.1.Bits])] ?_
 obtain rfl:=some_inj hm
 exact A.fin W0 [] rfl (by kernel_rfl)
theorem apN(u v:Value)(n:Int)(w:World)(h:(Extern.BytealgCompare.compare #[u,v]).run prog w=.ok (.int .i64 n) w):Calls prog 193 #[u,v] w λe w'=>e=.returned (.int .i64 n)∧w'=w:=by
 have hd:(callFunc 206 #[u,v]).run prog w=.ok (.value (.int .i64 n)) w:=by
  rw[run_callFunc_extern func206 (by kernel_rfl) (by kernel_rfl) (by kernel_rfl) (e:=Extern.BytealgCompare.compare) (by kernel_rfl),h];rfl
 go_enter func193,Tryz.ntmps193
 go_wp2
 go_ret
 exact⟨rfl,rfl⟩
theorem zm{a b:List Int}{r:Int}(hm:sS a b=some r):RO prog 193 [] [.lst false (ml (eK .u8) a),.lst false (ml (eK .u8) b)] (.int .i64 r):=by
 cases hm
 exact amQ apN
theorem ux{a:ai}{r:(List Int)×Int}(hm:fe a=some r):RO prog 192 [] [.agg (k7 a)] (.tup [lf (eK .u8) r.1,i6 r.2]):=by
 refine aZ func192 rfl rfl ?_
 unfold fe at hm
 refine qS [(0,.al 192001)] [(1,.ptr 192001 0)] [(192001,.cells 66 (k7 a))]<|A.seq ?_
 obtain⟨ah,h1,hm⟩:=aa hm
 refine qDs [(1,hro (jx h1) acq)] [] [(15,.bool (!ah))] ?_
 rcases az hm with⟨c1,hm⟩|⟨c1,hm⟩
 ·refine qT c1<|qS [] [(2,.aH),(3,i6 1)] [] ?_
  cases hm
  exact A.ret qE
 refine qF c1<|A.skip<|qD [(0,.al 192004)] [15] [(4,.ptr 192004 0)] [] [(192004,.cells 221 [.aH,i6 0])] ?_
 obtain⟨aD,h2,hm⟩:=aa hm
 refine A.RS W0 [.sc 192004 [192001,192004]] [(2,hdc [] (SC.at [(900000221,192004)] (de h2)) rE)] [(1,.ptr 192001 0),(4,.ptr 192004 0)] [(192001,.cells 66 (k7 a)),(192004,.cells 221 [lf (eK .u8) aD.s_.Data,i6 aD.s_.Bits])] (by kernel_rfl) ?_
 obtain⟨aP,h3,hm⟩:=aa hm
 refine qS [(2,hdc [] (SC.at [(900000221,192004)] (de h3)) rE)] [(1,.ptr 192001 0),(4,.ptr 192004 0)] [(192001,.cells 66 (k7 a)),(192004,.cells 221 [lf (eK .u8) aP.s_.Data,i6 aP.s_.Bits])]<|qDs [] [] [(5,i6 0)] ?_
 obtain⟨J1,hJ1,hm⟩:=bQ hm
 refine A.J (J:=J1) (r:=r) (λqg=>[(1,.ptr 192001 0),(4,.ptr 192004 0),(5,i6 qg)]) (λqg=>[(192001,.cells 66 (k7 a)),(192004,.cells 221 [lf (eK .u8) aP.s_.Data,i6 aP.s_.Bits])]) ?_ ?_
 ·refine qDs [] [] [(23,.bool a.aY)] ?_
  rcases az hm with⟨c2,hm⟩|⟨c2,hm⟩
  ·exact qT c2<|qGs [] [5,23] [(5,i6 1)]<|qX (1:Int) hm
  exact qF c2<|A.skip<|qX (0:Int) hm
 rintro qg hm
 rw[hJ1]at hm
 obtain⟨bt,h4,hm⟩:=aa hm
 refine qD [(1,hdc [] (SC.at [(900000221,192004)] (de h4)) rE)] [5] [] [192004] [(192004,.cells 221 [lf (eK .u8) bt.s_.Data,i6 bt.s_.Bits])] ?_
 obtain⟨bL,h5,hm⟩:=aa hm
 refine qD [(2,hto (lnE bx a.Links)),(3,hdc [] (SC.at [(900000221,192004)] (de h5)) rE)] [] [] [192004] [(192004,.cells 221 [lf (eK .u8) bL.s_.Data,i6 bL.s_.Bits])]<|A.seq<|qDs [(2,hto (lnE bx a.Links))] [] [(31,lf bx a.Links),(32,i6 (a.Links.length:Int)),(33,i6 0)]<|A.block<|A.bS 31 rfl λhb1=>?_
 obtain⟨B1,K1,hB1,hK1,hm⟩:=bF hm
 refine A.lpI (l:=a.Links) (j0:=0) (B:=B1) (K:=K1) hm (λj1=>λ(m_1,m_2)=>[(1,.ptr 192001 0),(4,.ptr 192004 0),(31,lf bx a.Links),(32,i6 (a.Links.length:Int)),(33,i6 (j1:Int))]) (λj1=>λ(m_1,m_2)=>[(192001,.cells 66 (k7 a)),(192004,.cells 221 [lf (eK .u8) m_1,i6 m_2])]) ?_ ?_ ?_
 ·exact qW
 ·rintro j1 e1 Z1 ⟨m_1,m_2⟩ hj1 hx1 hm
  rw[hB1]at hm
  refine qDs [] [] [(34,.bool (decide ((j1:Int)<(a.Links.length:Int))))]<|A.seq<|qT (ltT hx1)<|A.skip<|A.seq<|A.block<|qD [(0,hix (ix bx (bh hx1))),(2,.al 192007)] [34] [(7,.ptr 192007 0)] [] [(192007,.cells 105 (k6 e1))] ?_
  obtain⟨cq,h6,hm⟩:=aa hm
  refine qD [(2,hdc [] (SC.at [(900000221,192004)] (de h6)) rE)] [] [] [192004] [(192004,.cells 221 [lf (eK .u8) cq.s_.Data,i6 cq.s_.Bits])] ?_
  obtain⟨cU,h7,hm⟩:=aa hm
  refine qD [(2,hdc [] (SC.at [(900000221,192004)] (de h7)) rE)] [] [] [192004] [(192004,.cells 221 [lf (eK .u8) cU.s_.Data,i6 cU.s_.Bits])] ?_
  obtain⟨dz,h8,hm⟩:=aa hm
  exact qG [(2,hdc [] (SC.at [(900000221,192004)] (de h8)) rE)] [7] [] [192004,192007] [(192004,.cells 221 [lf (eK .u8) dz.s_.Data,i6 dz.s_.Bits])]<|qGs [(0,hto (inc hx1 hb1))] [33] [(33,i6 ((j1+1:Nat):Int))]<|qX (dz.s_.Data,dz.s_.Bits) hm
 rintro j1 ⟨m_1,m_2⟩ hj1 hl1 hm
 rw[hK1]at hm
 refine qDs [] [] [(34,.bool (decide ((j1:Int)<(a.Links.length:Int))))]<|A.seq<|qF (ltF hl1)<|A.exit ?_
 obtain⟨dW,h9,hm⟩:=aa hm
 refine qD [(2,hto (lnE bn a.Claims)),(3,hdc [] (SC.at [(900000221,192004)] (de h9)) rE)] [31,32,33,34] [] [192004] [(192004,.cells 221 [lf (eK .u8) dW.s_.Data,i6 dW.s_.Bits])]<|A.seq<|qD [(2,hto (lnE bn a.Claims))] [1] [(52,lf bn a.Claims),(53,i6 (a.Claims.length:Int)),(54,i6 0)] [192001] []<|A.block<|A.bS 52 rfl λhb2=>?_
 obtain⟨B2,K2,hB2,hK2,hm⟩:=bF hm
 refine A.lpI (l:=a.Claims) (j0:=0) (B:=B2) (K:=K2) hm (λj2=>λ(m_3,m_4)=>[(4,.ptr 192004 0),(52,lf bn a.Claims),(53,i6 (a.Claims.length:Int)),(54,i6 (j2:Int))]) (λj2=>λ(m_3,m_4)=>[(192004,.cells 221 [lf (eK .u8) m_3,i6 m_4])]) ?_ ?_ ?_
 ·exact qW
 ·rintro j2 e2 Z2 ⟨m_3,m_4⟩ hj2 hx2 hm
  rw[hB2]at hm
  refine qDs [] [] [(55,.bool (decide ((j2:Int)<(a.Claims.length:Int))))]<|A.seq<|qT (ltT hx2)<|A.skip<|A.seq<|A.block<|qD [(0,hix (ix bn (bh hx2))),(2,.al 192009)] [55] [(9,.ptr 192009 0)] [] [(192009,.cells 91 (k5 e2))]<|qDs [] [] [(10,i6 0)]<|A.seq<|A.block ?_
  obtain⟨F3,n3,hF3,hm⟩:=ji hm
  refine A.lpW (F:=F3) hm (λkH=>[(4,.ptr 192004 0),(9,.ptr 192009 0),(10,i6 kH),(52,lf bn a.Claims),(53,i6 (a.Claims.length:Int)),(54,i6 (j2:Int))]) (λkH=>[(192004,.cells 221 [lf (eK .u8) m_3,i6 m_4]),(192009,.cells 91 (k5 e2))]) ?_ ?_
  ·exact qW
  rintro Z3 kH hm
  rw[hF3]at hm
  refine A.seq ?_
  obtain⟨h10,hm⟩:=iB hm
  refine qDs [(1,.sh kH (of_decide_eq_true h10))] [] [(62,.bool (decide (IntKind.wrap .i64 ((8:Int)*2 ^ min kH.toNat 64)<e2.Length)))] ?_
  rcases az hm with⟨c3,hm⟩|⟨c3,hm⟩
  ·exact qT c3<|A.skip<|A.block<|qGs [] [10,62] [(10,i6 (w64 (kH+1)))]<|qX (w64 (kH+1)) hm
  refine qF c3<|A.exit ?_
  obtain⟨bJ,h11,hm⟩:=aa hm
  refine qD [(2,hdc [] (SC.at [(900000221,192004)] (de h11)) rE)] [62] [] [192004] [(192004,.cells 221 [lf (eK .u8) bJ.s_.Data,i6 bJ.s_.Bits])] ?_
  obtain⟨dM,h12,hm⟩:=aa hm
  refine qD [(2,hdc [] (SC.at [(900000221,192004)] (de h12)) rE)] [9] [] [192004,192009] [(192004,.cells 221 [lf (eK .u8) dM.s_.Data,i6 dM.s_.Bits])] ?_
  obtain⟨ck,h13,hm⟩:=aa hm
  exact qG [(1,hdc [] (SC.at [(900000221,192004)] (de h13)) rE)] [10] [] [192004] [(192004,.cells 221 [lf (eK .u8) ck.s_.Data,i6 ck.s_.Bits])]<|qGs [(0,hto (inc hx2 hb2))] [54] [(54,i6 ((j2+1:Nat):Int))]<|qX (ck.s_.Data,ck.s_.Bits) hm
 rintro j2 ⟨m_3,m_4⟩ hj2 hl2 hm
 rw[hK2]at hm
 refine qDs [] [] [(55,.bool (decide ((j2:Int)<(a.Claims.length:Int))))]<|A.seq<|qF (ltF hl2)<|A.exit ?_
 obtain⟨fD,h14,hm⟩:=aa hm
 refine qDs [(2,hro (abd h14) atm)] [52,53,54,55] [(11,.int .u64 fD.1)] ?_
 obtain⟨jm,h15,hm⟩:=aa hm
 refine qD [(2,hdc [] (SC.at [(900000221,192004)] (de h15)) rE)] [11] [] [192004] [(192004,.cells 221 [lf (eK .u8) jm.s_.Data,i6 jm.s_.Bits])]<|qS [] [(2,lf (eK .u8) jm.s_.Data),(3,i6 0)] [] ?_
 cases hm
 exact A.ret qE
theorem aap{a:ai}{b:ai}{r:Bool}(hm:n5 a b=some r):RO prog 177 [] [.agg (k7 a),.agg (k7 b)] (.bool r):=by
 refine aZ func177 rfl rfl ?_
 unfold n5 at hm
 refine qS [(0,.al 177002),(1,.al 177003)] [(2,.ptr 177002 0),(3,.ptr 177003 0)] [(177002,.cells 66 (k7 a)),(177003,.cells 66 (k7 b))] ?_
 obtain⟨ah,h1,hm⟩:=aa hm
 refine qDs [(1,hro (ux h1) akK)] [] [(5,lf (eK .u8) ah.1),(6,i6 ah.2)] ?_
 obtain⟨aD,h2,hm⟩:=aa hm
 refine qDs [(1,hro (ux h2) akK)] [] [(7,lf (eK .u8) aD.1),(8,i6 aD.2)]<|A.seq<|A.mid [(2,.ptr 177002 0),(3,.ptr 177003 0),(5,lf (eK .u8) ah.1),(7,lf (eK .u8) aD.1),(31,.bool ((!decide (ah.2=0))||((!decide (aD.2=0))||(!decide (a.af=b.af)))))] [(177002,.cells 66 (k7 a)),(177003,.cells 66 (k7 b))] (λhk=>?_) ?_
 ·rcases tf (!decide (ah.2=0))with c1|c1
  ·exact qS [(2,hto (bE c1)),(12,hto (orT (q:=((!decide (aD.2=0))||(!decide (a.af=b.af)))) c1))] _ _ hk
  rcases tf (!decide (aD.2=0))with c2|c2
  ·exact qS [(2,hto (bE c1)),(6,hto (bE c2)),(12,hto ((orT (q:=!decide (a.af=b.af)) c2).trans (orF (q:=((!decide (aD.2=0))||(!decide (a.af=b.af)))) c1)))] _ _ hk
  exact qS [(2,hto (bE c1)),(6,hto (bE c2)),(12,hto ((orF (q:=!decide (a.af=b.af)) c2).trans (orF (q:=((!decide (aD.2=0))||(!decide (a.af=b.af)))) c1)))] _ _ hk
 rcases az hm with⟨c3,hm⟩|⟨c3,hm⟩
 ·refine qT c3<|qS [] [(4,.bool false)] [] ?_
  cases hm
  exact A.ret qE
 refine qF c3<|A.skip ?_
 rcases az hm with⟨c4,hm⟩|⟨c4,hm⟩
 ·refine qS [(5,hto (bE c4))] [(4,.bool true)] [] ?_
  cases hm
  exact A.ret qE
 rcases az hm with⟨c5,hm⟩|⟨c5,hm⟩
 ·obtain⟨aP,h3,hm⟩:=aa hm
  refine qS [(5,hto (bE c4)),(11,hto (bE c5)),(14,hro (zm h3) atl)] [(4,.bool (decide (0<aP)))] [] ?_
  cases hm
  exact A.ret qE
 refine qS [(5,hto (bE c4)),(11,hto (bE c5))] [(4,.bool false)] [] ?_
 cases hm
 exact A.ret qE
end Go.Proofs.YtjdopimopgpagaaGreat
