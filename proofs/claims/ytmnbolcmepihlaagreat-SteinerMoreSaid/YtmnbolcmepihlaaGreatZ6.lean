/- Several texts in one. No condition but those that stand in each. -/
import Derived.Test.YtmnbolcmepihlaaGreatZ5
import Derived.Test.YtmnbolcmepihlaaGreatZ4
import Derived.RangeFuncGives
import Derived.Maps.RangeRun
import Derived.Sort.MapsRangeIn
import Derived.Shelf.Abstract
import Derived.WalkKit
import Derived.OwnWalkIn
import Derived.TacticsInMore
import Derived.RegionIn
import Derived.LoopNIn
import Derived.LoopIn
import Derived.RangeFuncBox
import Derived.RangeFuncLeaves
import Derived.Laws.AppendOwn
import Derived.Shelf.Slices.CompactI
namespace Go.Proofs.YtmnbolcmepihlaaGreat
section
open Go Go.Proofs.Tryz List
set_option maxRecDepth 100000
set_option linter.all false
def DG{β:Type}{t:bA}{root:Int}{hd:cq}{fE:(hq×Int×Int)→Option β}{r:β}(hm:vK t root hd fE=some r):eP prog 16 [] [.agg (cK t),W root,bO aI hd] (λa az=>az=[]∧∃l4,fE l4=some r∧a=.cI [.agg (vY l4.1),W l4.2.1,W l4.2.2]):=by
 refine dY func16 rfl rfl ?_;unfold vK at hm;refine bp [(0,.al 76),(1,.al 53)] [(1,W root),(2,bO aI hd),(3,.ptr 76 0),(6,.ptr 53 0)] [(76,.cells 28 (cK t)),(53,.c 36 [W 0,.c4])]<|A.seq ?_
 obtain⟨aG,h1,hm⟩:=bw hm;refine bh [(3,cM (MD h1) KW)] [] [(9,W aG)]<|bh [] [] [(18,.bool (!decide (aG=0)))] ?_
 rcases cD hm with⟨bl,hm⟩|⟨bl,hm⟩
 ·refine cm bl<|fs [] [1,2,3,9,18] [(7,W 0),(8,W aG)] [76] []<|A.ret<|pW.mono (asy bS [] (R:=.cI [.agg [W ((hq.mk (0:Int) []).mH),bO jX ((hq.mk (0:Int) []).Links)],W 0,W aG]) (σ2:=[]) rfl (by kernel_rfl)) ?_
  rintro _ _ ⟨rfl,rfl⟩;exact⟨rfl,_,hm,rfl⟩
 refine ck bl<|A.skip<|A.seq<|bh [(1,aN (eG aI hd))] [9,18] [(23,.d (6<(hd.length:Int)))] ?_
 rcases cD hm with⟨b2,hm⟩|⟨b2,hm⟩
 ·refine cm b2<|fs [] [1,2,3,23] [(7,W 0),(8,W 3)] [76] []<|A.ret<|pW.mono (asy bS [] (R:=.cI [.agg [W ((hq.mk (0:Int) []).mH),bO jX ((hq.mk (0:Int) []).Links)],W 0,W 3]) (σ2:=[]) rfl (by kernel_rfl)) ?_
  rintro _ _ ⟨rfl,rfl⟩;exact⟨rfl,_,hm,rfl⟩
 refine ck b2<|A.skip ?_
 obtain⟨bt,D,hm⟩:=bw hm;refine ata bS 4 [5,6,7,8,9,10,11] [] [(1,cM (avc (r':=bO dN bt) (σ3:=[]) [29] (MZ D) (by kernel_rfl) (by kernel_rfl)) KX)] (anB hm) aiG (by kernel_rfl) (by kernel_rfl) (by kernel_rfl) (by rintro _ _ ⟨rfl,_,_,rfl⟩;exact⟨rfl,rfl⟩) ?_;rintro _ _ ⟨rfl,dy,hm,rfl⟩
 try dsimp only at hm
 refine⟨[],[(1,W root),(6,.ptr 53 0),(10,bO jX dy.1),(11,W dy.2.1),(12,.bool dy.2.2)],[(53,.c 36 [W 0,.c4])],by kernel_rfl,?_⟩;refine A.seq<|bp [] [(1,W root),(6,.ptr 53 0),(10,bO jX dy.1),(11,W dy.2.1),(35,.bool (!dy.2.2))] [(53,.c 36 [W 0,.c4])] ?_
 rcases cD hm with⟨c9,hm⟩|⟨c9,hm⟩
 ·refine cm c9<|bh [] [1,10,11,35] [(7,W 0),(8,W 9)]<|A.ret<|pW.mono (asy bS [] (R:=.cI [.agg [W ((hq.mk (0:Int) []).mH),bO jX ((hq.mk (0:Int) []).Links)],W 0,W 9]) (σ2:=[]) rfl (by kernel_rfl)) ?_
  rintro _ _ ⟨rfl,rfl⟩;exact⟨rfl,_,hm,rfl⟩
 refine ck c9<|A.skip<|bp [] [(6,.ptr 53 0),(7,W dy.2.1),(8,W 0)] [(53,.c 36 [W root,bO jX dy.1])]<|A.ret<|pW.mono (asy bS [] (R:=.cI [.agg [W ((hq.mk root dy.1).mH),bO jX ((hq.mk root dy.1).Links)],W dy.2.1,W 0]) (σ2:=[]) rfl (by kernel_rfl)) ?_
 rintro _ _ ⟨rfl,rfl⟩;exact⟨rfl,_,hm,rfl⟩
end
section
open Go Go.Proofs.Tryz List
set_option maxRecDepth 100000
set_option linter.all false
def anC{t:bA}{r:Bool}(hm:Hy t=some r):dT prog 160 [] [.agg (cK t)] (.bool r):=by
 refine dY func160 rfl rfl ?_;unfold Hy at hm;refine bp [(0,.al 126)] [(1,.ptr 126 0)] [(126,.cells 28 (cK t))] ?_;obtain⟨aG,h1,hm⟩:=bw hm;refine bp [(1,cM (Mz h1) KY)] [(2,.d (aG=0))] [] ?_;cases hm;exact A.ret de
def anN{t:bA}{r:xg}(hm:Eh t=some r):dT prog 162 [] [.agg (cK t)] (.agg [.dw (bQ .i64 (l3 e7) r.CN),.dw (bQ .i64 (l3 e7) r.VK)]):=by
 refine dY func162 rfl rfl ?_;unfold Eh at hm;refine bp [(0,.al 57),(1,.al 31)] [(1,.ptr 57 0),(2,.ptr 31 0)] [(57,.cells 28 (cK t)),(31,.c 210 [.e9,.e9])]<|fs [(0,.al 162009),(1,.al 162010),(3,.al 33)] [] [(3,.ptr 33 0)] [] [(162009,.map 3 234 (bQ .i64 (l3 e7) [])),(162010,.map 3 234 (bQ .i64 (l3 e7) [])),(33,.c 210 [.dr 162009,.dr 162010])]<|asD ((atJ (d:=162009) (e:=450162009) rfl rfl rfl rfl rfl))<|asD ((atJ (d:=162010) (e:=450162010) rfl rfl rfl rfl rfl))<|A.seq<|bp [(2,aN (eG ec t.bC))] [(1,.ptr 57 0),(2,.ptr 31 0),(3,.ptr 33 0),(13,bO ec t.bC),(14,W t.bC.length),(15,W 0)] [(57,.cells 28 (cK t)),(31,.c 210 [.e9,.e9]),(162009,.fc 3 234 450162009 (e8 .i64 ([]:List (Int×xQ))) none none),(450162009,.b9 (hh 237 2 e7.enc ([]:List (Int×xQ)))),(162010,.fc 3 234 450162010 (e8 .i64 ([]:List (Int×xQ))) none none),(450162010,.b9 (hh 237 2 e7.enc ([]:List (Int×xQ)))),(33,.c 210 [.dr 162009,.dr 162010])]<|A.block<|asH 13 rfl λfA=>?_
 obtain⟨hJ,hK,hv,hw,hm⟩:=iM hm;refine asz (l:=t.bC) (hj:=0) (B:=hJ) (K:=hK) hm (λbk=>λ(ct,eN)=>[(1,.ptr 57 0),(2,.ptr 31 0),(3,.ptr 33 0),(13,bO ec t.bC),(14,W t.bC.length),(15,W bk)]) (λbk=>λ(ct,eN)=>[(57,.cells 28 (cK t)),(31,.c 210 [.e9,.e9]),(162009,.fc 3 234 450162009 (e8 .i64 ct) none none),(450162009,.b9 (hh 237 2 e7.enc ct)),(162010,.fc 3 234 450162010 (e8 .i64 eN) none none),(450162010,.b9 (hh 237 2 e7.enc eN)),(33,.c 210 [.dr 162009,.dr 162010])]) ?_ ?_ ?_
 ·exact gw
 ·rintro bk aJ c1 ⟨ct,eN⟩ hP cH hm;rw[hv]at hm;exact bh [] [] [(16,.d ((bk:Int)<t.bC.length))]<|A.seq<|cm (iC cH)<|A.skip<|A.seq<|A.block<|fs [(0,ds (ix ec (gT cH))),(2,.al 127)] [16] [(5,.ptr 127 0)] [] [(127,.cells 31 (rR aJ))]<|jj [(8,GY 237 2 90 ct aJ.cu e7.enc [] pQ),(9,GY 237 2 91 eN aJ.cu e7.enc [] pQ)] [5] [] [162009,450162009,162010,450162010,127] [(162009,.fc 3 234 90 (e8 .i64 (bG ct aJ.cu [])) none none),(90,.b9 (hh 237 2 e7.enc (bG ct aJ.cu []))),(162010,.fc 3 234 91 (e8 .i64 (bG eN aJ.cu [])) none none),(91,.b9 (hh 237 2 e7.enc (bG eN aJ.cu [])))]<|dV [(0,aN (hY cH fA))] [15] [(15,W ((bk+1:Nat):Int))]<|Exists.intro (bG ct aJ.cu [],bG eN aJ.cu []) (And.intro hm (kK [.rn 90 450162009,.rn 91 450162010] []))
 rintro bk ⟨ct,eN⟩ hP gh hm;rw[hw]at hm;refine bh [] [] [(16,.d ((bk:Int)<t.bC.length))]<|A.seq<|ck (iB gh)<|A.exit<|A.seq<|fs [(2,aN (eG eT t.Links))] [1,13,14,15,16] [(29,bO eT t.Links),(30,W t.Links.length),(31,W 0)] [57] []<|A.block<|asH 29 rfl λeS=>?_
 obtain⟨nO,km,n0,n3,hm⟩:=iM hm;refine asz (l:=t.Links) (hj:=0) (B:=nO) (K:=km) hm (λdn=>λ(dU,cE)=>[(2,.ptr 31 0),(3,.ptr 33 0),(29,bO eT t.Links),(30,W t.Links.length),(31,W dn)]) (λdn=>λ(dU,cE)=>[(31,.c 210 [.e9,.e9]),(162009,.fc 3 234 450162009 (e8 .i64 dU) none none),(450162009,.b9 (hh 237 2 e7.enc dU)),(162010,.fc 3 234 450162010 (e8 .i64 cE) none none),(450162010,.b9 (hh 237 2 e7.enc cE)),(33,.c 210 [.dr 162009,.dr 162010])]) ?_ ?_ ?_
 ·exact gw
 ·rintro dn e2 hR ⟨dU,cE⟩ j2 gi hm;rw[n0]at hm;refine bh [] [] [(32,.d ((dn:Int)<t.Links.length))]<|A.seq<|cm (iC gi)<|A.skip<|A.seq<|A.block<|fs [(0,ds (ix eT (gT gi))),(2,.al 78)] [32] [(7,.ptr 78 0)] [] [(78,.cells 62 (gv e2))] ?_
  obtain⟨ew,h1,hm⟩:=bw hm;refine fs [(8,D2 237 2 530162004 530162003 dU e2.A e7.enc pQ zeroValue234),(15,oE 162550 (ap e7 (bytes:=16) (by decide) h1)),(16,Ga 237 2 131 dU e2.A e7.enc ew 530162003 pQ)] [] [] [162009,450162009] [(162009,.fc 3 234 131 (e8 .i64 (bG dU e2.A ew)) none none),(131,.b9 (hh 237 2 e7.enc (bG dU e2.A ew)))] ?_;obtain⟨gr,D,hm⟩:=bw hm;refine fs [(8,D2 237 2 530162007 530162006 (bG dU e2.A ew) e2.B e7.enc pQ zeroValue234),(15,oE 162566 (ap e7 (bytes:=16) (by decide) D)),(16,Ga 237 2 73 (bG dU e2.A ew) e2.B e7.enc gr 530162006 pQ)] [] [] [162009,131] [(162009,.fc 3 234 73 (e8 .i64 (bG (bG dU e2.A ew) e2.B gr)) none none),(73,.b9 (hh 237 2 e7.enc (bG (bG dU e2.A ew) e2.B gr)))] ?_;obtain⟨jy,aj,hm⟩:=bw hm;refine fs [(8,D2 237 2 530162010 530162009 cE e2.B e7.enc pQ zeroValue234),(15,oE 162582 (ap e7 (bytes:=16) (by decide) aj)),(16,Ga 237 2 132 cE e2.B e7.enc jy 530162009 pQ)] [] [] [162010,450162010] [(162010,.fc 3 234 132 (e8 .i64 (bG cE e2.B jy)) none none),(132,.b9 (hh 237 2 e7.enc (bG cE e2.B jy)))] ?_;obtain⟨lM,a1,hm⟩:=bw hm;exact jj [(8,D2 237 2 530162013 530162012 (bG cE e2.B jy) e2.A e7.enc pQ zeroValue234),(15,oE 162598 (ap e7 (bytes:=16) (by decide) a1)),(16,Ga 237 2 92 (bG cE e2.B jy) e2.A e7.enc lM 530162012 pQ)] [7] [] [162010,132,78] [(162010,.fc 3 234 92 (e8 .i64 (bG (bG cE e2.B jy) e2.A lM)) none none),(92,.b9 (hh 237 2 e7.enc (bG (bG cE e2.B jy) e2.A lM)))]<|dV [(0,aN (hY gi eS))] [31] [(31,W ((dn+1:Nat):Int))]<|Exists.intro (bG (bG dU e2.A ew) e2.B gr,bG (bG cE e2.B jy) e2.A lM) (And.intro hm (kK [.rn 73 450162009,.rn 92 450162010] []))
 rintro dn ⟨dU,cE⟩ j2 kU hm;rw[n3]at hm;refine bh [] [] [(32,.d ((dn:Int)<t.Links.length))]<|A.seq<|ck (iB kU)<|A.exit<|A.seq<|auL (d:=162009) rfl λpH kz=>?_
 refine bp [(2,Ma 162102 pH kz pQ)] [(2,.ptr 31 0),(3,.ptr 33 0),(102,.ptr 162102 0)] [(31,.c 210 [.e9,.e9]),(162009,.fc 3 234 450162009 (e8 .i64 dU) none (some (pH,kz))),(450162009,.b9 (hh 237 2 e7.enc dU)),(162010,.fc 3 234 450162010 (e8 .i64 cE) none none),(450162010,.b9 (hh 237 2 e7.enc cE)),(33,.c 210 [.dr 162009,.dr 162010]),(162102,.iter 162009 kz kz (#[]))]<|A.block ?_
 obtain⟨e5,LD,hm⟩:=bw hm;refine A.Im (cz:=162009) (b5:=162102) (it:=102) (clock:=kz) (es:=pH) LD (λav=>av.map (·.1)=dU.map (·.1)) (λgp=>[(2,.ptr 31 0),(3,.ptr 33 0),(102,.ptr 162102 0)]) (λs6=>λgp=>[(31,.c 210 [.e9,.e9]),(162009,.fc 3 234 450162009 (e8 .i64 gp) none (some (pH,kz))),(450162009,.b9 (hh 237 2 e7.enc gp)),(162010,.fc 3 234 450162010 (e8 .i64 cE) none none),(450162010,.b9 (hh 237 2 e7.enc cE)),(33,.c 210 [.dr 162009,.dr 162010]),(162102,.iter 162009 kz kz s6)]) ⟨rfl,rfl,rfl⟩ ⟨rfl,rfl,rfl⟩ (by kernel_rfl) rfl (by intro n v g cp dc hi;obtain⟨c,dc⟩:=qc dc;obtain⟨x,u,dc⟩:=bw dc;obtain rfl:=kL dc;exact(NR x c).trans hi) (λ_=>rfl) (λ_ _=>rfl) (λ_ _=>⟨_,rfl,rfl⟩) (λ_ _ _=>rfl) (λ_ _ hi _ _ _ _ kg aR=>KB kg rfl aR hi) ?_ ?_ ?_
 ·exact gw
 ·rintro s6 HI aln hZ fT gp ai6 Lr gh G2 hm;refine A.block<|bp [(0,ajT 162102 162009 kz .i64 s6 Lr (aes G2 gh))] [(2,.ptr 31 0),(3,.ptr 33 0),(102,.ptr 162102 0),(8,W hZ)] [(31,.c 210 [.e9,.e9]),(162009,.fc 3 234 450162009 (e8 .i64 gp) none (some (pH,kz))),(450162009,.b9 (hh 237 2 e7.enc gp)),(162010,.fc 3 234 450162010 (e8 .i64 cE) none none),(450162010,.b9 (hh 237 2 e7.enc cE)),(33,.c 210 [.dr 162009,.dr 162010]),(162102,.iter 162009 kz kz (s6.push HI.born))] ?_
  obtain⟨bU,hm⟩:=qc hm;obtain⟨xI,dP,hm⟩:=bw hm;refine jj [(3,D2 237 2 530162016 530162015 gp hZ e7.enc pQ zeroValue234),(4,fM [] (Z0 (d:=530162015) (T:=237) dP) ahy)] [8] [] [162009,450162009] [(162009,.fc 3 234 530162016 (e8 .i64 gp) (oe gp hZ 530162015) (some (pH,kz))),(530162016,.b9 (hh 237 2 e7.enc (lK gp hZ))),(530162015,.slice 237 2 (ax e7 xI) 0 false)] ?_;obtain rfl:=kL hm;exact((auv (d:=162009) (e:=530162016) (e2:=530162017) (t:=530162015) gp hZ e7.enc xI bU rfl rfl rfl rfl rfl rfl rfl).trans (kK [.rn 530162017 450162009] []))
 intro s6;refine asD (cr.refl _ _ _)<|asD (atL (d:=162009) (e:=450162009) e5 e7.enc rfl rfl)<|asD (atL (d:=162010) (e:=450162010) cE e7.enc rfl rfl)<|bp [] [(2,.ptr 31 0)] [(31,.c 210 [.dr 162009,.dr 162010]),(162009,.kf 3 234 (bQ .i64 (l3 e7) e5)),(162010,.kf 3 234 (bQ .i64 (l3 e7) cE))] ?_
 cases hm;exact A.ret de
def alU{gj:List (Int×xQ)}{k5:Int}{r:(List (Int×Int))}(hm:xa gj k5=some r):dT prog 161 [] [.dw (bQ .i64 (l3 e7) gj),W k5] (.dw (bQ .i64 (c0 .i64) r)):=by
 refine dY func161 rfl rfl ?_;unfold xa at hm;refine bp [] [(0,.dw (bQ .i64 (l3 e7) gj)),(1,W k5)] []<|A.scope<|bp [(0,.al 24)] [(0,.dw (bQ .i64 (l3 e7) gj)),(1,W k5),(5,.dr 24)] [(24,.map 3 3 (bQ .i64 (c0 .i64) []))]<|A.seq<|bh [(2,oF gj k5 (l3 e7) [] pQ (Xh e7 zeroValue234))] [] [(7,.bool ((aD gj k5).isSome))]<|bh [] [7] [(27,.bool (!((aD gj k5).isSome)))] ?_
 rcases cD hm with⟨bl,hm⟩|⟨bl,hm⟩
 ·refine cm bl<|bh [] [0,1,5,27] [(4,.dr 24)]<|A.ret ?_
  obtain rfl:=kL hm;exact asy bS [.c5 [24]] rfl (by kernel_rfl)
 refine ck bl<|A.skip<|fs [(0,.al 161029),(2,DV (va (k:=.i64) (enc:=(c0 .i64)) [] k5 (0:Int) rfl))] [1,27] [(8,.dr 161029)] [] [(161029,.map 3 3 (bQ .i64 (c0 .i64) (bG [] k5 (0:Int))))]<|A.seq<|A.label ?_
 obtain⟨eC,j0,hm⟩:=je hm;refine A.J (J:=eC) (r:=r) (λ(ct,eN)=>[(5,.dr 24)]) (λ(ct,eN)=>[(24,.map 3 3 (bQ .i64 (c0 .i64) ct))]) ?_ ?_
 ·refine A.block ?_;obtain⟨mO,hH,mW,hm⟩:=nv hm;refine asL (F:=mO) hm (λ(dU,cE)=>[(0,.dw (bQ .i64 (l3 e7) gj)),(5,.dr 24),(8,.dr 161029)]) (λ(dU,cE)=>[(24,.map 3 3 (bQ .i64 (c0 .i64) dU)),(161029,.map 3 3 (bQ .i64 (c0 .i64) cE))]) ?_ ?_
  ·exact gw
  rintro c1 ⟨dU,cE⟩ hm;rw[mW]at hm;refine A.seq<|bh [(1,Vi (lm (k:=.i64) (enc:=(c0 .i64)) cE))] [] [(34,.d (0<(cE.length:Int)))] ?_
  rcases cD hm with⟨b2,hm⟩|⟨b2,hm⟩
  ·refine cm b2<|A.skip<|A.block<|bh [] [34] [(9,W 0)]<|A.seq<|atv (d:=161029) rfl λpH kz=>?_
   refine bp [(1,Ma 161036 pH kz o5)] [(0,.dw (bQ .i64 (l3 e7) gj)),(5,.dr 24),(8,.dr 161029),(9,W 0),(36,.ptr 161036 0)] [(24,.map 3 3 (bQ .i64 (c0 .i64) dU)),(161029,.gz pH kz 3 3 (bQ .i64 (c0 .i64) cE)),(161036,.iter 161029 kz kz (#[]))]<|A.block ?_
   obtain⟨e5,LD,hm⟩:=bw hm;refine A.Im (cz:=161029) (b5:=161036) (it:=36) (clock:=kz) (es:=pH) LD (λ_=>True) (λh4=>[(0,.dw (bQ .i64 (l3 e7) gj)),(5,.dr 24),(8,.dr 161029),(9,W h4),(36,.ptr 161036 0)]) (λs6=>λh4=>[(24,.map 3 3 (bQ .i64 (c0 .i64) dU)),(161029,.gz pH kz 3 3 (bQ .i64 (c0 .i64) cE)),(161036,.iter 161029 kz kz s6)]) ⟨rfl,rfl,rfl⟩ ⟨rfl,rfl,rfl⟩ (by kernel_rfl) trivial (λ_ _ _ _ _ _=>trivial) (λ_=>rfl) (λ_ _=>rfl) (λ_ _=>⟨_,rfl,rfl⟩) (λ_ _ _=>rfl) (λ_ _ _ _ _ _ _ kg aR=>ale kg rfl aR) ?_ ?_ ?_
   ·exact gw
   ·rintro s6 HI aln hZ fT h4 ai6 Lr gh G2 hm;refine A.block<|bp [(0,A4 161036 161029 kz .i64 s6 (c0 .i64) Lr gh)] [(0,.dw (bQ .i64 (l3 e7) gj)),(5,.dr 24),(8,.dr 161029),(9,W h4),(36,.ptr 161036 0),(10,W hZ),(11,W fT)] [(24,.map 3 3 (bQ .i64 (c0 .i64) dU)),(161029,.gz pH kz 3 3 (bQ .i64 (c0 .i64) cE)),(161036,.iter 161029 kz kz (s6.push HI.born))] ?_
    refine asK [(0,.dw (bQ .i64 (l3 e7) gj)),(5,.dr 24),(8,.dr 161029),(9,W h4),(36,.ptr 161036 0),(10,W hZ),(62,.bool ((decide (h4=0))||((decide (fT<((aD cE h4).getD (0:Int))))||((decide (fT=((aD cE h4).getD (0:Int))))&&(decide (hZ<h4))))))] [(24,.map 3 3 (bQ .i64 (c0 .i64) dU)),(161029,.gz pH kz 3 3 (bQ .i64 (c0 .i64) cE)),(161036,.iter 161029 kz kz (s6.push HI.born))] (λhk=>?_) ?_
    ·rcases j5 (decide (h4=0))with c9|c9
     ·exact bp [(2,aN (cg c9)),(20,aN (p3 (q:=((decide (fT<((aD cE h4).getD (0:Int))))||((decide (fT=((aD cE h4).getD (0:Int))))&&(decide (hZ<h4))))) c9))] _ _ hk
     rcases j5 (decide (fT<((aD cE h4).getD (0:Int))))with e3|e3
     ·exact bp [(2,aN (cg c9)),(6,oF cE h4 (c0 .i64) (0:Int) o5 (ux (k:=.i64) zeroValue3)),(9,aN (cg e3)),(20,aN ((p3 (q:=((decide (fT=((aD cE h4).getD (0:Int))))&&(decide (hZ<h4)))) e3).trans (i5 (q:=((decide (fT<((aD cE h4).getD (0:Int))))||((decide (fT=((aD cE h4).getD (0:Int))))&&(decide (hZ<h4))))) c9)))] _ _ hk
     rcases j5 (decide (fT=((aD cE h4).getD (0:Int))))with gm|gm
     ·exact bp [(2,aN (cg c9)),(6,oF cE h4 (c0 .i64) (0:Int) o5 (ux (k:=.i64) zeroValue3)),(9,aN (cg e3)),(13,oF cE h4 (c0 .i64) (0:Int) o5 (ux (k:=.i64) zeroValue3)),(15,aN (cg gm)),(20,aN (((oh (q:=decide (hZ<h4)) gm).trans (i5 (q:=((decide (fT=((aD cE h4).getD (0:Int))))&&(decide (hZ<h4)))) e3)).trans (i5 (q:=((decide (fT<((aD cE h4).getD (0:Int))))||((decide (fT=((aD cE h4).getD (0:Int))))&&(decide (hZ<h4))))) c9)))] _ _ hk
     exact bp [(2,aN (cg c9)),(6,oF cE h4 (c0 .i64) (0:Int) o5 (ux (k:=.i64) zeroValue3)),(9,aN (cg e3)),(13,oF cE h4 (c0 .i64) (0:Int) o5 (ux (k:=.i64) zeroValue3)),(15,aN (cg gm)),(20,aN (((r6 (q:=decide (hZ<h4)) gm).trans (i5 (q:=((decide (fT=((aD cE h4).getD (0:Int))))&&(decide (hZ<h4)))) e3)).trans (i5 (q:=((decide (fT<((aD cE h4).getD (0:Int))))||((decide (fT=((aD cE h4).getD (0:Int))))&&(decide (hZ<h4))))) c9)))] _ _ hk
    rcases cD hm with⟨hT,hm⟩|⟨hT,hm⟩
    ·refine cm hT<|dV [] [9,10,62] [(9,W hZ)] ?_
     obtain rfl:=kL hm;exact(gw)
    refine ck hT<|A.skip ?_
    obtain rfl:=kL hm;exact(gw)
   intro s6;refine asD (auw (d:=161029) rfl)<|bp [(2,DU (lk (E:=3) (k:=.i64) (enc:=(c0 .i64)) cE e5 (0:Int) (λw=>⟨_,zeroValue3 w,λI=>by simp[bc,c0,IW]⟩)))] [(0,.dw (bQ .i64 (l3 e7) gj)),(5,.dr 24),(8,.dr 161029),(9,W e5),(12,W ((aD cE e5).getD (0:Int)))] [(24,.map 3 3 (bQ .i64 (c0 .i64) dU)),(161029,.map 3 3 (bQ .i64 (c0 .i64) cE))]<|fs [(2,js cE e5 (c0 .i64) o5)] [] [] [161029] [(161029,.map 3 3 (bQ .i64 (c0 .i64) (oK cE e5)))]<|fs [(3,DV (va (k:=.i64) (enc:=(c0 .i64)) dU e5 ((aD cE e5).getD (0:Int)) rfl))] [] [] [24] [(24,.map 3 3 (bQ .i64 (c0 .i64) (bG dU e5 ((aD cE e5).getD (0:Int)))))]<|A.seq<|bh [(1,Vi (lm (k:=.i64) (enc:=(c0 .i64)) (bG dU e5 ((aD cE e5).getD (0:Int))))),(3,akr gj (l3 e7) pQ)] [] [(76,.d (((bG dU e5 ((aD cE e5).getD (0:Int))).length:Int)=(gj.length:Int)))] ?_
   rcases cD hm with⟨jc,hm⟩|⟨jc,hm⟩
   ·exact cm jc<|A.exit<|cR (bG dU e5 ((aD cE e5).getD (0:Int)),oK cE e5) hm
   refine ck jc<|A.skip<|bh [(2,oF gj e5 (l3 e7) [] pQ (Xh e7 zeroValue234)),(3,aN (eG e7 ((aD gj e5).getD [])))] [9,76] [(79,bO e7 ((aD gj e5).getD [])),(80,W (((aD gj e5).getD []).length:Int)),(81,W 0)]<|A.block<|asH 79 rfl λeS=>?_
   obtain⟨nO,km,n0,n3,hm⟩:=iM hm;refine asz (l:=((aD gj e5).getD [])) (hj:=0) (B:=nO) (K:=km) hm (λdn=>λgp=>[(0,.dw (bQ .i64 (l3 e7) gj)),(5,.dr 24),(8,.dr 161029),(12,W ((aD cE e5).getD (0:Int))),(79,bO e7 ((aD gj e5).getD [])),(80,W (((aD gj e5).getD []).length:Int)),(81,W dn)]) (λdn=>λgp=>[(24,.map 3 3 (bQ .i64 (c0 .i64) (bG dU e5 ((aD cE e5).getD (0:Int))))),(161029,.map 3 3 (bQ .i64 (c0 .i64) gp))]) ?_ ?_ ?_
   ·exact gw
   ·rintro dn e2 hR gp j2 gi hm;rw[n0]at hm;refine bh [] [] [(82,.d ((dn:Int)<(((aD gj e5).getD []).length:Int)))]<|A.seq<|cm (iC gi)<|A.skip ?_
    obtain⟨fZ,j1,hm⟩:=je hm;refine A.J (J:=fZ) (r:=r) (λqt=>[(0,.dw (bQ .i64 (l3 e7) gj)),(5,.dr 24),(8,.dr 161029),(12,W ((aD cE e5).getD (0:Int))),(79,bO e7 ((aD gj e5).getD [])),(80,W (((aD gj e5).getD []).length:Int)),(81,W dn)]) (λqt=>[(24,.map 3 3 (bQ .i64 (c0 .i64) (bG dU e5 ((aD cE e5).getD (0:Int))))),(161029,.map 3 3 (bQ .i64 (c0 .i64) qt))]) ?_ ?_
    ·refine A.block<|fs [(0,ds (ix e7 (gT gi))),(2,.al 72)] [82] [(14,.ptr 72 0)] [] [(72,.cells 237 (Bn e2))] ?_
     refine A.seq<|bh [(3,DU (lk (E:=3) (k:=.i64) (enc:=(c0 .i64)) (bG dU e5 ((aD cE e5).getD (0:Int))) e2.gX (0:Int) (λw=>⟨_,zeroValue3 w,λI=>by simp[bc,c0,IW]⟩)))] [] [(16,.bool ((aD (bG dU e5 ((aD cE e5).getD (0:Int))) e2.gX).isSome))] ?_
     refine bh [] [16] [(92,.bool ((aD (bG dU e5 ((aD cE e5).getD (0:Int))) e2.gX).isSome))] ?_;rcases cD hm with⟨kN,hm⟩|⟨kN,hm⟩
     ·exact cm kN<|A.exit<|cR gp hm
     refine ck kN<|A.skip<|bh [(3,DU (lk (E:=3) (k:=.i64) (enc:=(c0 .i64)) gp e2.gX (0:Int) (λw=>⟨_,zeroValue3 w,λI=>by simp[bc,c0,IW]⟩)))] [92] [(17,W ((aD gp e2.gX).getD (0:Int))),(18,.bool ((aD gp e2.gX).isSome))]<|asK [(0,.dw (bQ .i64 (l3 e7) gj)),(5,.dr 24),(8,.dr 161029),(12,W ((aD cE e5).getD (0:Int))),(79,bO e7 ((aD gj e5).getD [])),(80,W (((aD gj e5).getD []).length:Int)),(81,W dn),(14,.ptr 72 0),(109,.bool ((!((aD gp e2.gX).isSome))||(decide (aF (((aD cE e5).getD (0:Int))+e2.lB)<((aD gp e2.gX).getD (0:Int))))))] [(24,.map 3 3 (bQ .i64 (c0 .i64) (bG dU e5 ((aD cE e5).getD (0:Int))))),(161029,.map 3 3 (bQ .i64 (c0 .i64) gp)),(72,.cells 237 (Bn e2))] (λhk=>?_) ?_
     ·rcases j5 (!((aD gp e2.gX).isSome))with kX|kX
      ·exact bp [(2,aN (cg kX)),(9,aN (p3 (q:=decide (aF (((aD cE e5).getD (0:Int))+e2.lB)<((aD gp e2.gX).getD (0:Int)))) kX))] _ _ hk
      exact bp [(2,aN (cg kX)),(9,aN (i5 (q:=decide (aF (((aD cE e5).getD (0:Int))+e2.lB)<((aD gp e2.gX).getD (0:Int)))) kX))] _ _ hk
     rcases cD hm with⟨l8,hm⟩|⟨l8,hm⟩
     ·exact cm l8<|jj [(7,DV (va (k:=.i64) (enc:=(c0 .i64)) gp e2.gX (aF (((aD cE e5).getD (0:Int))+e2.lB)) rfl))] [14,109] [] [161029,72] [(161029,.map 3 3 (bQ .i64 (c0 .i64) (bG gp e2.gX (aF (((aD cE e5).getD (0:Int))+e2.lB)))))]<|cR (bG gp e2.gX (aF (((aD cE e5).getD (0:Int))+e2.lB))) hm
     exact ck l8<|A.skip<|cR gp hm
    rintro qt hm;rw[j1]at hm;exact dV [(0,aN (hY gi eS))] [81] [(81,W ((dn+1:Nat):Int))]<|cR qt hm
   rintro dn gp j2 kU hm;rw[n3]at hm;exact bh [] [] [(82,.d ((dn:Int)<(((aD gj e5).getD []).length:Int)))]<|A.seq<|ck (iB kU)<|A.exit<|cR (bG dU e5 ((aD cE e5).getD (0:Int)),gp) hm
  exact ck b2<|A.exit<|cR (dU,cE) hm
 rintro⟨ct,eN⟩ hm;rw[j0]at hm;refine bh [] [5] [(4,.dr 24)]<|A.ret ?_
 obtain rfl:=kL hm;exact asy bS [.c5 [24]] rfl (by kernel_rfl)
def anO{t:bA}{k5:Int}{oi:Int}{r:Int×Bool}(hm:Bh t k5 oi=some r):dT prog 102 [] [.agg (cK t),W k5,W oi] (.cI [W r.1,.bool r.2]):=by
 refine dY func102 rfl rfl ?_;unfold Bh at hm;refine bp [(0,.al 102)] [(1,W k5),(2,W oi),(3,.ptr 102 0)] [(102,.cells 28 (cK t))]<|A.seq ?_
 obtain⟨aG,h1,hm⟩:=bw hm;refine bh [(1,cM (anC h1) ah5)] [] [(12,.bool (!aG))] ?_;rcases cD hm with⟨bl,hm⟩|⟨bl,hm⟩
 ·refine cm bl<|bp [] [(6,W 0),(7,.bool false)] [] ?_
  cases hm;exact A.ret de
 refine ck bl<|A.skip ?_
 obtain⟨bt,D,hm⟩:=bw hm;obtain⟨dy,aj,hm⟩:=bw hm;refine bp [(1,cM (anN D) ah7),(4,cM (alU aj) ah6),(6,oF dy oi (c0 .i64) (0:Int) o5 (ux (k:=.i64) zeroValue3))] [(8,W ((aD dy oi).getD (0:Int))),(9,.bool ((aD dy oi).isSome))] []<|bp [] [(6,W ((aD dy oi).getD (0:Int))),(7,.bool ((aD dy oi).isSome))] [] ?_
 cases hm;exact A.ret de
end
section
set_option linter.all false
open Go Go.Proofs.Tryz List
variable {o:Oper}{σ:Y}
def au2{G:ch}{ev:Operand→Q}{T E d t:Nat}{x:Operand}{zs:dZ}(h:o.op=.buildSlice T 1 #[(0,x)])(aQ:ml G.P T E 1 zs)(u:ev x=.dr t)(Vz:t≠d)(hi:G.ids.contains d=false):
  Yields G o ev ((d,.gP E [] t)::σ) [d] [d] (.own d):=by
 intro az cx I β w aZ cf an hm hop;have h1:au I β (ev x) (aZ x):=hop x (by simp only[h,Op.operands];simp);rw[u]at h1;simp only[au]at h1;obtain⟨cp,cG⟩:=h1;obtain⟨z,i4,h9⟩:=aQ.zero w
 let L:iY:=(Array.range (1*1)).map ((if 1*1=0 then #[]else z.cells)[·%(if 1*1=0 then #[]else z.cells:iY).size]!)
 have tE:L.size=1:=by simp[L]
 obtain⟨r,bI,gJ,gA,mM,pr,wE,vp⟩:=EF (I:=I) (β:=β) 1 [(0,ev x)] [(0,aZ x)] 0 L [[.dr t]]
  ⟨by simp,λj p q aT bV=>by
   cases j with
   |zero=>simp only[getElem?_cons_zero,Option.some.injEq]at aT bV;subst aT bV;exact⟨rfl,by simp only[u,au];exact⟨cp,cG⟩⟩
   |succ j=>simp at aT⟩ (by rw[u];rfl) (by simp[tE])
 have xB:r.toList=bI:=by
  rw[mM];have mT:L.toList.drop ((0+([(0,ev x)]:List (Nat×Q)).length)*1)=[]:=drop_of_length_le (by simp[tE]);rw[mT];simp
 have G1:bI=[β t]:=by
  simp only[flatten_cons,flatten_nil,append_nil,bW,au]at pr;obtain⟨aA,s7,aJ,⟨e2,dm⟩,gb⟩:=pr;subst gb;rw[aJ,e2]
 have Vu:r=#[β t]:=by
  apply Array.toList_inj.1;rw[xB,G1]
 have eY:(execOp aZ o).run G.P w=.ok (.value (.slice (some ⟨w.heap.size,0,none⟩) 1 1)) (w.alloc (.cells r E)):=by
  have y5:¬(1*1>2 ^ 24):=by decide
  have nF:Instr.fill (λi=>some (i*1,1)) L ((#[(0,x)]:Array (Nat×Operand)).map λ(i,x)=>(i,aZ x)).toList=some r:=by simpa using gJ
  simp only[execOp,h,Instr.buildSlice,Sem.run_bind,run_underlying aQ.gY,aQ.size,Result.andThen_ok,y5,if_false];have rG:L=(Array.range (1*1)).map (z.cells[·%z.cells.size]!):=by simp only[L,show ¬(1*1=0)by decide,if_false]
  rw[rG]at nF;simp only[show ¬(1*1=0)by decide,if_false,Sem.run_bind,i4,Sem.run_pure,Result.andThen_ok];simp only[nF];simp[newRow]
 rw[eY];have lF:=hm d (by simp);refine⟨I,g7 β d (.slice (some ⟨w.heap.size,0,none⟩) 1 1),by simp only[au,gL,iD,and_self],?_,cn.refl I,λx u=>g5 β _ (λe=>u (by simp[e]))⟩;refine an.real (by simpa using hi) lF rfl λaX cC=>?_;rw[cf d (by simp),asw,if_pos rfl]at cC;injection cC with cC
 subst cC;have uX:β t≠.nilFunc:=λe=>by rw[cp,e]at cG;simp[mJ]at cG
 simp only[aY,gL,g5 β _ Vz];refine .inr ⟨w.heap.size,1,r,rfl,Nat.le_refl _,by decide,heap_alloc_new w _,by rw[Vu];rfl,?_,λe he=>(by cases he),by rw[Vu];rfl,uX,λo=>an.iF (Nat.le_refl _) o,.inl an.size⟩;rfl
variable {P:Program}{bP:g4}
def K4(bP:g4)(d:Nat)(ids:dg)(op:Op)(env:ah):Option (c7×cZ):=match op with
 |.buildSlice T len parts=>match bP.get T with
  |some ⟨_,_,_,.slice E 1 _ _⟩=>(match parts.toList with
   |[(0,x)]=>(match env.cW x with
    |some (.dr t)=>bif Nat.beq len 1&&!Nat.beq t d&&!ids.contains d then some (.v d (.gP E [] t) (.own d),([],[]))else none
    |_=>none)
   |_=>none)
  |_=>none
 |_=>none
def afe(bb:jT P bP){d:Nat}{N:Nat}{ids:dg}{env:ah}{s:c7}{aX:cZ}(h:K4 bP d ids o.op env=some (s,aX)):fP ⟨P,N,ids⟩ o env σ s:=by
 unfold K4 at h;split at h
 ·rename_i T len parts ai;split at h
  ·rename_i aQ;have hk:=(jF.get bb.tys aQ).kd;simp only[mG]at hk;split at h
   ·rename_i x aC;have:parts=#[(0,x)]:=Array.toList_inj.1 (by simpa using aC);subst this;split at h
    ·rename_i t u;generalize U:(Nat.beq len 1&&_&&_)=eM at h;cases eM with
     |false=>cases h
     |true=>
      simp only[cond_true]at h;rw[Bool.and_eq_true,Bool.and_eq_true]at U;obtain⟨⟨dO,ep⟩,hg⟩:=U;have:=Nat.eq_of_beq_eq_true dO;subst this
      cases h;have hi:ids.contains d=false:=by simpa using hg
      exact⟨hi,au2 (G:=⟨P,N,ids⟩) ai hk.2.2 (asv u) (Nat.ne_of_beq_eq_false (by simpa using ep)) hi⟩
    ·cases h
   ·cases h
  ·cases h
 ·cases h
def T3(bb:jT P bP)(d:Nat):Hint P:=.gs false ([],[]) (λids op env _=>K4 bP d ids op env) λ_ _ _ _ _ _ _ h _=>afe bb h
def Di(m:List (Int×Int)):Prop:=∀x,0≤b0 m x∧b0 m x≤2305843009213693951
variable {aq:wX}
def W4{aA:List (Int×Int)}{v:List (Int×Int)}{kO:Bool}{j:Nat}{e:bB}(h:(aq.take j).foldl pX (aA,false)=(v,kO))(u:aq[j]?=some e):(aq.take (j+1)).foldl pX (aA,false)=pX (v,kO) e:=by
 rw[take_add_one,u,Option.toList_some,List.foldl_append,h];rfl
variable {r:List (Int×Int)}
def Y6{cF:List (List Q)}{m1:List (Int×Int)}{ei:List (List Q)}{m2:List (Int×(Int×Int))}(aH:ei.length=cF.length)(bM:Di m1)(ay:o8 aq)(aB:r2 aq m1 r):
  eP prog 121 (et aq cF m1 ei m2) [.ptr 910000000 0,.int .i64 (cF.length:Int)] (λa az=>a=.cI []∧∃g3,az=et aq cF r ei g3):=by
 refine dY func121 rfl rfl ?_;refine asx bS [] [] [(0,.ptr 910000000 0),(1,.int .i64 (cF.length:Int)),(4,.bool true)] (et aq cF m1 ei m2) (by kernel_rfl) ?_;refine A.block ?_;refine A.loop (α:=List (Int×Int)×List (Int×(Int×Int))×Bool) (λg=>[(0,.ptr 910000000 0),(1,.int .i64 (cF.length:Int)),(4,.bool g.2.2)]) (λg=>et aq cF g.1 ei g.2.1) (λg=>Di g.1∧(g.2.2=true→r2 aq g.1 r)∧(g.2.2=false→g.1=r)) (λg=>nj aq g.1+(bif g.2.2 then 1 else 0)) (m1,m2,true) ⟨bM,λ_=>aB,λh=>by cases h⟩ (cr.go [] [] (by kernel_rfl)) ?_;rintro⟨hy,jA,kO⟩ ⟨hu,eV,ef⟩;simp only at hu eV ef;refine A.seq ?_;refine asx bS [] [] [(0,.ptr 910000000 0),(1,.int .i64 (cF.length:Int)),(4,.bool kO),(7,.bool kO)] (et aq cF hy ei jA) (by kernel_rfl) ?_;cases kO with
 |false=>
  refine asA rfl rfl ?_;refine A.exit ?_;refine pW.mono (asy bS [] (R:=.cI []) (σ2:=et aq cF hy ei jA) rfl (by kernel_rfl)) ?_;rintro a s ⟨rfl,rfl⟩;exact⟨rfl,jA,by rw[←ef rfl]⟩
 |true=>
  refine asC rfl rfl ?_;refine A.skip ?_;show aS _ _ _ _ _;refine A.block ?_;refine asx bS [] [] [(0,.ptr 910000000 0),(1,.int .i64 (cF.length:Int)),(4,.bool false)] (et aq cF hy ei jA) (by kernel_rfl) ?_;refine asx bS [] [(4,aN (eG dN aq))] [(0,.ptr 910000000 0),(1,.int .i64 (cF.length:Int)),(4,.bool false),(11,.bf false (ax dN aq)),(12,.int .i64 (aq.length:Int)),(13,.int .i64 0)] (et aq cF hy ei jA) (by kernel_rfl) ?_;refine A.block ?_;refine asH 11 rfl λtI=>?_
  refine A.loop (α:=Nat×List (Int×Int)×List (Int×(Int×Int))×Bool) (λg=>[(0,.ptr 910000000 0),(1,.int .i64 (cF.length:Int)),(4,.bool g.2.2.2),(11,.bf false (ax dN aq)),(12,.int .i64 (aq.length:Int)),(13,.int .i64 (g.1:Int))]) (λg=>et aq cF g.2.1 ei g.2.2.1)
   (λg=>g.1≤aq.length∧Di g.2.1∧(aq.take g.1).foldl pX (hy,false)=(g.2.1,g.2.2.2)∧(g.2.2.2=false→g.2.1=hy)∧(g.2.2.2=true→nj aq g.2.1<nj aq hy)∧∀x,b0 g.2.1 x≤b0 hy x) (λg=>aq.length-g.1) (0,hy,jA,false) ⟨Nat.zero_le _,hu,rfl,λ_=>rfl,λh=>(by cases h),λx=>Int.le_refl _⟩ (cr.go [] [] (by kernel_rfl)) ?_
  rintro⟨j,dK,fS,kO⟩ ⟨aT,aa,bm,aR,ag,hle⟩;simp only at aT aa bm aR ag hle;refine asx bS [] [] [(0,.ptr 910000000 0),(1,.int .i64 (cF.length:Int)),(4,.bool kO),(11,.bf false (ax dN aq)),(12,.int .i64 (aq.length:Int)),(13,.int .i64 (j:Int)),(14,.bool (decide ((j:Int)<(aq.length:Int))))] (et aq cF dK ei fS) (by kernel_rfl) ?_;refine A.seq ?_;by_cases nB:j<aq.length
  ·have u:aq[j]?=some aq[j]:=List.getElem?_eq_getElem nB;generalize aq[j]=e at u;have A3:e∈aq:=List.mem_of_getElem? u;obtain⟨kW,bl⟩:=ay e A3;obtain⟨Dy,dO⟩:=aa e.Hop.br;obtain⟨ep,hg⟩:=aa e.Hop.bz;have an:aF (e.c6+b0 dK e.Hop.br)=e.c6+b0 dK e.Hop.br:=iU (by omega) (by omega);refine asC rfl (iC u) ?_;refine A.skip ?_;show aS _ _ _ _ _;refine A.seq ?_;refine A.block ?_;refine asx bS [] [(0,ds (ix dN (gT u))),(2,.al 100)] [(0,.ptr 910000000 0),(1,.int .i64 (cF.length:Int)),(4,.bool kO),(11,.bf false (ax dN aq)),(12,.int .i64 (aq.length:Int)),(13,.int .i64 (j:Int)),(6,.ptr 100 0)] (et aq cF dK ei fS++[(100,.cells 175 [.int .i64 e.Hop.bz,.int .i64 e.Hop.br,.int .i64 e.c6])]) (by kernel_rfl) ?_;by_cases bL:e.c6+b0 dK e.Hop.br<b0 dK e.Hop.bz
   ·refine asx bS [] [(12,cM (Cb (aq:=aq) (cF:=cF) (m1:=dK) (ei:=ei) (m2:=fS) e.Hop.br) wC),(13,aN (show Q.int .i64 (aF (e.c6+b0 dK e.Hop.br))=Q.int .i64 (e.c6+b0 dK e.Hop.br)by rw[an])),(18,fM [] (I1 (aq:=aq) (m1:=dK) (m2:=fS) e.Hop.bz (e.c6+b0 dK e.Hop.br) e.Hop.br 0 aH bL) x9)] [(0,.ptr 910000000 0),(1,.int .i64 (cF.length:Int)),(11,.bf false (ax dN aq)),(12,.int .i64 (aq.length:Int)),(13,.int .i64 (j:Int)),(35,.bool true)] (et aq cF (bG dK e.Hop.bz (e.c6+b0 dK e.Hop.br)) ei (bG fS e.Hop.bz (e.Hop.br,0))) (by kernel_rfl) ?_;refine asC rfl rfl ?_;refine A.R bS [] [] [(0,.ptr 910000000 0),(1,.int .i64 (cF.length:Int)),(4,.bool true),(11,.bf false (ax dN aq)),(12,.int .i64 (aq.length:Int)),(13,.int .i64 (j:Int))] (et aq cF (bG dK e.Hop.bz (e.c6+b0 dK e.Hop.br)) ei (bG fS e.Hop.bz (e.Hop.br,0))) (by kernel_rfl) ?_;show aS _ _ _ _ _;refine A.R bS [] [(0,aN (hY u tI))] [(0,.ptr 910000000 0),(1,.int .i64 (cF.length:Int)),(4,.bool true),(11,.bf false (ax dN aq)),(12,.int .i64 (aq.length:Int)),(13,.int .i64 ((j+1:Nat):Int))] (et aq cF (bG dK e.Hop.bz (e.c6+b0 dK e.Hop.br)) ei (bG fS e.Hop.bz (e.Hop.br,0))) (by kernel_rfl) ?_
    have DK:Di (bG dK e.Hop.bz (e.c6+b0 dK e.Hop.br)):=λx=>by
     rw[sK];split
     ·omega
     ·exact aa x
    have mZ:pX (dK,kO) e=(bG dK e.Hop.bz (e.c6+b0 dK e.Hop.br),true):=if_pos bL
    have DT:∀x,b0 (bG dK e.Hop.bz (e.c6+b0 dK e.Hop.br)) x≤b0 dK x:=λx=>by
     rw[sK];split
     ·rename_i h;subst h;omega
     ·omega
    have GX:nj aq (bG dK e.Hop.bz (e.c6+b0 dK e.Hop.br))<nj aq dK:=JP DT (DK _).1 (by rw[sK,if_pos rfl];exact bL) A3;have KK:nj aq dK≤nj aq hy:=Jg hle aq;refine⟨(j+1,bG dK e.Hop.bz (e.c6+b0 dK e.Hop.br),bG fS e.Hop.bz (e.Hop.br,0),true),⟨nB,DK,by simp only;rw[W4 bm u,mZ],λh=>(by cases h),λ_=>Nat.lt_of_lt_of_le GX KK,λx=>Int.le_trans (DT x) (hle x)⟩,by simp only;omega,cr.go [] [] (by kernel_rfl)⟩
   ·refine asx bS [] [(12,cM (Cb (aq:=aq) (cF:=cF) (m1:=dK) (ei:=ei) (m2:=fS) e.Hop.br) wC),(13,aN (show Q.int .i64 (aF (e.c6+b0 dK e.Hop.br))=Q.int .i64 (e.c6+b0 dK e.Hop.br)by rw[an])),(18,fM [] (IZ (aq:=aq) (cF:=cF) (m1:=dK) (ei:=ei) (m2:=fS) e.Hop.bz (e.c6+b0 dK e.Hop.br) e.Hop.br 0 (Int.not_lt.1 bL)) x9)] [(0,.ptr 910000000 0),(1,.int .i64 (cF.length:Int)),(4,.bool kO),(11,.bf false (ax dN aq)),(12,.int .i64 (aq.length:Int)),(13,.int .i64 (j:Int)),(35,.bool false)] (et aq cF dK ei fS) (by kernel_rfl) ?_;refine asA rfl rfl ?_;refine A.skip ?_;show aS _ _ _ _ _;refine A.R bS [] [(0,aN (hY u tI))] [(0,.ptr 910000000 0),(1,.int .i64 (cF.length:Int)),(4,.bool kO),(11,.bf false (ax dN aq)),(12,.int .i64 (aq.length:Int)),(13,.int .i64 ((j+1:Nat):Int))] (et aq cF dK ei fS) (by kernel_rfl) ?_;refine⟨(j+1,dK,fS,kO),⟨nB,aa,by simp only;rw[W4 bm u];exact if_neg bL,aR,ag,hle⟩,by simp only;omega,cr.go [] [] (by kernel_rfl)⟩
  ·refine asA rfl (iB (by omega)) ?_;refine A.exit ?_;have akd:j=aq.length:=by omega
   rw[akd,take_length]at bm;refine⟨(dK,fS,kO),⟨aa,λh=>?_,λh=>?_⟩,?_,cr.go [] [] (by kernel_rfl)⟩
   ·simp only at h ⊢;subst h;cases eV rfl with
    |done D=>unfold x4 at D;rw[bm]at D;cases D
    |more _ aj=>unfold x4 at aj;rw[bm]at aj;exact aj
   ·simp only at h ⊢;subst h;rw[aR rfl];cases eV rfl with
    |done _=>rfl
    |more D _=>unfold x4 at D;rw[bm]at D;cases D
   ·cases kO with
    |true=>have:=ag rfl;simp only[cond_true];omega
    |false=>
     have:=aR rfl;rw[this];simp only[cond_false,cond_true];omega
def abS{target:Int}(ay:o8 aq)(aB:r2 aq [(target,0)] r):
  eP prog 165 [] [.bf false (ax dN aq),.int .i64 target] (λa az=>a=.dr 910000002∧az=[(910000002,.map 3 3 (bQ .i64 (c0 .i64) r))]):=by
 have bM:Di [(target,0)]:=λx=>by
  unfold b0;rw[jN];split<;>simp[aD]
 refine dY func165 rfl rfl ?_;refine asx bS [] [] [(0,.bf false (ax dN aq)),(1,.int .i64 target)] [] (by kernel_rfl) ?_;refine asx bS [] [(1,.al 910000002),(3,DV (va (k:=.i64) (enc:=c0 .i64) [] target 0 rfl)),(5,T3 bS 74),(6,.al 910000004),(7,T3 bS 82),(9,.al 910000000)] [(5,.ptr 910000000 0)] (et aq [] [(target,0)] [] []) (by kernel_rfl) ?_;have GZ:eP prog 121 (et aq [] [(target,0)] [] []) [.ptr 910000000 0,.int .i64 0] (λa az=>a=.cI []∧∃g3,az=et aq [] r [] g3):=Y6 (aq:=aq) (cF:=[]) (m1:=[(target,0)]) (ei:=[]) (m2:=[]) rfl bM ay aB;refine A.seq ?_;refine as9 bS 1 [] [] [(15,.ptr 910000000 0),(5,.ptr 910000000 0)] (et aq [] [(target,0)] [] []) (by kernel_rfl) (by kernel_rfl) (by kernel_rfl) rfl rfl (atr (MU:=[.ptr 910000000 0,.int .i64 0]) [] rfl rfl rfl rfl rfl rfl ?_ GZ Sh) rfl rfl ?_
 ·rintro a σ2 ⟨rfl,cK,rfl⟩;exact⟨rfl,rfl⟩
 rintro bN az ⟨σ2,⟨rfl,cK,rfl⟩,rfl⟩;refine⟨[],_,_,rfl,?_⟩;show aS _ _ _ _ _;refine asx bS [] [(4,Be (xs:=[]) (i:=0) Cx ⟨by omega,by decide⟩),(5,o3 (xs:=[]) (p:=0) Cv rfl)] [(4,.dr 910000002)] (et aq [] r [] cK) (by kernel_rfl) ?_;refine A.ret ?_;exact asy bS [] (R:=.dr 910000002) (σ2:=[(910000002,.map 3 3 (bQ .i64 (c0 .i64) r))]) rfl (by kernel_rfl)
end
section
set_option linter.all false
open Go Go.Proofs.Tryz List
def m4(f:Nat)(m:List (Int×Int)):Q:=.eU f [.fO [.dw (bQ .i64 (c0 .i64) m)]]
def abT(m:List (Int×Int)):dT prog 169 [] [.dw (bQ .i64 (c0 .i64) m)] (m4 194 m):=by
 refine dY func169 rfl rfl ?_;refine asx bS [] [(0,.al 910000000)] [(1,.ptr 910000000 0)] [(910000000,.cells 144 [.dw (bQ .i64 (c0 .i64) m)])] (by kernel_rfl) ?_;refine asD (atd (T:=144) (cs:=[.dw (bQ .i64 (c0 .i64) m)]) 1 910000000 rfl rfl rfl) ?_;refine asx bS [] [(0,GN)] [(2,m4 194 m)] [] (by kernel_rfl) ?_;refine A.ret ?_;exact asy bS [] rfl (by kernel_rfl)
def abU(m:List (Int×Int)):dT prog 168 [] [.dw (bQ .i64 (c0 .i64) m)] (m4 193 m):=by
 refine dY func168 rfl rfl ?_;refine asx bS [] [(0,.al 910000000)] [(1,.ptr 910000000 0)] [(910000000,.cells 144 [.dw (bQ .i64 (c0 .i64) m)])] (by kernel_rfl) ?_;refine asD (atd (T:=144) (cs:=[.dw (bQ .i64 (c0 .i64) m)]) 1 910000000 rfl rfl rfl) ?_;refine asx bS [] [(0,GN)] [(2,m4 193 m)] [] (by kernel_rfl) ?_;refine A.ret ?_;exact asy bS [] rfl (by kernel_rfl)
def anK{aq:wX}{target:Int}{r:List (Int×Int)}(hm:yF aq target=some r):eP prog 165 [] [.bf false (ax dN aq),.int .i64 target] (λa az=>a=.dr 80∧az=[(80,.map 3 3 (bQ .i64 (c0 .i64) r))]):=by
 obtain⟨h1,D⟩:=aoc hm;exact oP.at [(910000002,80)] (abS h1 D)
end
section
set_option linter.all false
open Go Go.Proofs.Tryz Go.RowKit Go.Shelf List
open Go.ChangeMaps (setBlock)
attribute [local go_sem] Oper.semAt_some
set_option maxRecDepth 100000
def aod{w hn:World}(h:hn=w∨hn=w.drew)(r:Nat)(o:Obj):w.grownBy (setBlock hn r o) (some r):=by
 have cA:hn.heap=w.heap:=by rcases h with rfl|rfl<;>rfl
 have X:(setBlock hn r o).heap=w.heap.setIfInBounds r o:=by simp only[setBlock,cA]
 refine⟨by rcases h with rfl|rfl<;>rfl,by rcases h with rfl|rfl<;>rfl,by rcases h with rfl|rfl<;>rfl,by rw[X];simp,λk _ hk=>?_⟩;rw[X,Array.getElem?_setIfInBounds,if_neg λe=>hk (by rw[e])]
def CV{β:Type}(B:Nat)(J:β→World→Prop):Prop:=
 ∀s bb W' row,J s bb→bb.grownBy W' row→bb.drawn≤W'.drawn→(∀r,row=some r→B≤r∧∃o:Obj,bb.heap[r]?=some o∧o.isWalk=true)→J s W'
def aoe{w hn:World}(h:hn=w∨hn=w.drew)(r:Nat)(o:Obj):w.drawn≤(setBlock hn r o).drawn:=by
 rcases h with rfl|rfl
 ·exact Nat.le_refl _
 ·exact Nat.le_succ _
section
variable {P:Program}{F:Fence}{n:Nat}{ops:l7}{bq:Exit→Act→World→Prop}{o:Oper}{ij:List Oper}{a:Act}{w:World}
def V8(bu:o.guard=none)(m:Operand)(t k e:TypeId)(hop:o.op=Op.range t m)(bE:P.underlying t=some (.map k e))(b clock:Nat)(es:iT)(hm:a.eval m=.map (some b))(U:w.heap[b]?=some (.map es clock))
  (h8:wpListIn F n P ops bq ij (a.put o.dst (.pointer (some ⟨w.heap.size,0,none⟩))) (w.alloc (.mapIter (some b) clock #[] clock))):wpListIn F n P ops bq (o::ij) a w:=by
 refine wpListIn_plain bu λlQ AY=>?_;have eY:=run_range_map (P:=P) w t k e b es clock bE U;unfold Oper.wpIn;refine⟨by simp[Oper.about,hop],?_⟩;rw[Oper.semAt_plain F _ _ (by rw[hop];intro c gd;cases gd)];simp[execOp,hop,hm,eY,Result.andThen];exact AY _ _ h8
def Wb(bu:o.guard=none)(it:Operand)(hop:o.op=Op.next it false)(b r clock:Nat)(seen:oA)(es:iT)(hit:a.eval it=.pointer (some ⟨r,0,none⟩))
  (aB:w.heap[r]?=some (.mapIter (some b) clock seen clock)) (U:w.heap[b]?=some (.map es clock)) (dc:jZ es clock)
  (ajf:(leftOf es seen).size=0→wpListIn F n P ops bq ij (a.put o.dst (.tuple #[.bool false])) w)
  (ajj:∀e∈(leftOf es seen).toList,∀jl,w.grownBy jl (some r)→w.drawn≤jl.drawn→jl.heap.size=w.heap.size→jl.heap[r]?=some (.mapIter (some b) clock (seen.push e.born) clock)→jl.heap[b]?=some (.map es clock)→(Instr.entry (.pointer (some ⟨r,0,none⟩))).run P jl=.ok (.tuple #[e.key,e.val]) jl→
   wpListIn F n P ops bq ij (a.put o.dst (.tuple #[.bool true,e.key,e.val])) jl):wpListIn F n P ops bq (o::ij) a w:=by
 refine wpListIn_plain bu λlQ AY=>?_;unfold Oper.wpIn;refine⟨by simp[Oper.about,hop],?_⟩;rw[Oper.semAt_plain F _ _ (by rw[hop];intro c gd;cases gd)];rcases run_next_at (P:=P) w o.type r b clock clock seen es clock aB U dc.2 (Nat.le_refl _)with⟨dW,eg⟩|⟨e,dW,hn,eg,s3⟩
 ·simp[execOp,hop,hit,eg,Result.andThen];exact AY _ _ (ajf dW)
 ·simp[execOp,hop,hit,s3,Result.andThen];have bL:r<w.heap.size:=(Array.getElem?_eq_some_iff.1 aB).1;have yW:hn.heap=w.heap:=by rcases eg with rfl|rfl<;>rfl
  have jI:(setBlock hn r (.mapIter (some b) clock (seen.push e.born) clock)).heap[r]?=some (.mapIter (some b) clock (seen.push e.born) clock):=by
   simp[setBlock,yW,Array.getElem?_setIfInBounds,bL]
  have akD:r≠b:=λh=>by rw[h,U]at aB;cases aB
  have eS:(setBlock hn r (.mapIter (some b) clock (seen.push e.born) clock)).heap[b]?=some (.map es clock):=by
   simp[setBlock,yW,Array.getElem?_setIfInBounds,akD,U]
  have sC:e∈es.toList:=by
   unfold leftOf at dW;simp at dW ⊢;exact dW.1
  exact AY _ _ (ajj e dW _ (aod eg r _) (aoe eg r _) (by simp[setBlock,yW]) jI eS (run_entry_at (P:=P) _ r b clock seen es clock e jI eS sC dc.1))
end
structure Ab{ia α:Type}(es:Array MapEntry)(m:List (ia×α))(seen:Array Nat)(p:List Nat):Prop where
 nd:p.Nodup
 sz:seen.size=p.length
 lt:∀i∈p,i<m.length
 on:∀(i:Nat) (e:MapEntry),es[i]?=some e→(seen.contains e.born=true↔i∈p)
variable {I:bs}{es:iT}
def Qa{m:List (Int×Int)}(h:gq I (bQ .i64 (c0 .i64) m) es.toList):es.size=m.length∧∀(i:Nat) (e:MapEntry),es[i]?=some e→∃q,m[i]?=some q∧e.key=.int .i64 q.1∧e.val=.int .i64 q.2:=by
 have aH:∀(m:List (Int×Int)) (l:nM),gq I (bQ .i64 (c0 .i64) m) l→l.length=m.length:=by
  intro m;induction m with
  |nil=>intro l h;simp[bQ,gq]at h;simp[h]
  |cons p r bg=>
   intro l h;simp only[bQ,map_cons,gq]at h;obtain⟨e,gV,rfl,_,_,a1⟩:=h;simp[bg _ (by simpa [bQ]using a1)]
 have X:es.size=m.length:=by rw[←aH m es.toList h,Array.length_toList]
 refine⟨X,λi e he=>?_⟩;have bL:i<es.size:=(Array.getElem?_eq_some_iff.1 he).1;have hm:m[i]?=some m[i]:=List.getElem?_eq_getElem (by omega);obtain⟨ak,ar⟩:=IF h (i:=i) (a:=.int .i64 (m[i]'(by omega)).1) (c:=c0 .i64 (m[i]'(by omega)).2) (e:=e) (by simp[bQ,hm]) (by simpa using he);exact⟨_,hm,by simpa [bc]using ak,by simpa [bc,c0]using ar⟩
variable {ia α:Type}{p:dg}{seen:oA}
def Ab.step{m:List (ia×α)}(h:Ab es m seen p)(X:es.size=m.length)(dc:(es.toList.map (·.born)).Nodup){e:MapEntry}(he:e∈(leftOf es seen).toList):
  ∃i,es[i]?=some e∧i<m.length∧i∉p∧Ab es m (seen.push e.born) (p++[i])∧p.length<m.length:=by
 unfold leftOf at he;simp only[Array.mem_toList_iff,Array.mem_filter,Bool.not_eq_true']at he;obtain⟨h1,D⟩:=he;obtain⟨i,hi,aj9⟩:=Array.mem_iff_getElem.1 h1;have Gg:es[i]?=some e:=by rw[Array.getElem?_eq_getElem hi,aj9]
 have mX:i∉p:=λaf=>by
  have:=(h.on i e Gg).2 af;rw[this]at D;cases D
 have fR:(p++[i]).Nodup:=by
  rw[nodup_append];exact⟨h.nd,by simp,λa ay b U hW=>by simp at U;subst U;subst hW;exact mX ay⟩
 have bL:∀j∈p++[i],j<m.length:=λj aT=>by
  rcases List.mem_append.1 aT with aT|aT
  ·exact h.lt j aT
  ·simp at aT;omega
 refine⟨i,Gg,by omega,mX,⟨fR,by rw[Array.size_push,h.sz];simp,bL,λj cB qi=>?_⟩,?_⟩
 ·rw[Array.contains_push,Bool.or_eq_true,h.on j cB qi,List.mem_append,List.mem_singleton];constructor
  ·rintro(b3|b3)
   ·exact .inl b3
   ·right;have DQ:cB.born=e.born:=by simpa using b3
    have aT:j<es.size:=(Array.getElem?_eq_some_iff.1 qi).1;have bu:∀(x:Nat) (y:MapEntry),es[x]?=some y→(es.toList.map (·.born))[x]?=some y.born:=λx y m0=>by simp[m0]
    have cp:=bu j cB qi;have cG:=bu i e Gg;rw[DQ]at cp;obtain⟨o9,cp⟩:=List.getElem?_eq_some_iff.1 cp;obtain⟨ji,cG⟩:=List.getElem?_eq_some_iff.1 cG;exact(getElem_inj dc).1 (cp.trans cG.symm)
  ·rintro(b3|rfl)
   ·exact .inl b3
   ·right;rw[Gg]at qi;cases qi;simp
 ·have ki:(p++[i]).length≤(List.range m.length).length:=Nodup.length_le_of_subset fR (λj aT=>List.mem_range.2 (bL j aT));simp at ki;omega
def Ab.done{m:List (ia×α)}(h:Ab es m seen p)(X:es.size=m.length)(bM:(leftOf es seen).size=0):(jK m p).Perm m:=by
 have ny:∀i,i∈p↔i<m.length:=λi=>⟨h.lt i,λbL=>by
  have xx:i<es.size:=by omega
  refine(h.on i es[i] (Array.getElem?_eq_getElem xx)).1 ?_;by_cases af:seen.contains es[i].born=true
  ·exact af
  ·exfalso;have:es[i]∈leftOf es seen:=by
    unfold leftOf;rw[Array.mem_filter];exact⟨Array.getElem_mem xx,by simpa using af⟩
   have:=Array.size_pos_of_mem this;omega⟩
 have:=(Ib h.nd ny).filterMap (λi=>m[i]?);have e:=Iy m;unfold jK at e ⊢
 rwa [e]at this
def Qb{m:List (ia×α)}{i:Nat}{q:ia×α}(h:m[i]?=some q):jK m (p++[i])=jK m p++[q]:=by
 simp[jK,h]
def OE{ia α:Type}{m:List (ia×α)}:∀{p:dg},(∀i∈p,i<m.length)→(jK m p).length=p.length
 |[],_=>rfl
 |i::p,h=>by
  have:=OE (p:=p) λj aT=>h j (mem_cons_of_mem _ aT);simp only[jK]at this ⊢;rw[filterMap_cons,List.getElem?_eq_getElem (h i mem_cons_self)];simp[this]
set_option maxHeartbeats 2000000 in
def abV(F:Fence)(n:Nat)(fz:F.fn 194)(cM:F.round=none)(aR:1≤n)(l sq sr b clock:Nat)(es:iT)(m:List (Int×Int))(iP:gq I (bQ .i64 (c0 .i64) m) es.toList)(dc:jZ es clock)(J:cq→World→Prop)
  (hV:∀pre x bb,J pre bb→pre.length<m.length→YieldAt F (n-1) prog l #[.int .i64 x] bb λe W'=>e=.returned (.bool true)∧J (pre++[x]) W'∧KeepsWalks bb W')
  (bb:World) (iQ:CV bb.heap.size J) (hm:bb.cell? ⟨sq,sr,none⟩=some (.map (some b))) (U:bb.heap[b]?=some (.map es clock)) (bM:J [] bb) :
  CallsIn F n prog 194 #[.func (.yield l) #[] #[],.pointer (some ⟨sq,sr,none⟩)] bb λe W'=>(∃v,e=.returned v)∧∃gW:cq,gW.Perm (m.map Prod.fst)∧J gW W':=by
 obtain⟨lE,Dj⟩:=Qa iP;have vP:b<bb.heap.size:=(Array.getElem?_eq_some_iff.1 U).1;refine callsIn_of_wp func194 rfl fz ?_ cM;simp only[Tryz.ntmps194,size_toArray,length_cons,length_nil,Nat.reduceAdd,Nat.reduceSub,Array.replicate_succ,Array.replicate_zero,push_toArray,append_toArray,nil_append,cons_append]
 gi_wp2_with (first
  |(gi_at_range;refine V8 rfl _ 144 3 3 rfl underlying144 b clock es rfl U ?_)
  |gi_in)
 go_frame
 gi_loopw [3] (λ_ wr=>∃(seen:oA) (p:dg),wr.heap[bb.heap.size]?=some (.mapIter (some b) clock seen clock)∧wr.heap[b]?=some (.map es clock)∧Ab es m seen p∧J ((jK m p).map Prod.fst) wr)
  (λ_ wr=>match wr.heap[bb.heap.size]? with|some (.mapIter _ _ seen _)=>es.size-seen.size|_=>0)
 case atStart=>
  exact⟨#[],[],World.alloc_heap_new bb _,(Below.heap_alloc bb _ b vP).trans U,⟨nodup_nil,rfl,by simp,by simp⟩,iQ [] bb _ none bM (World.grownBy_alloc bb _ none) (Nat.le_refl _) (λr e=>by cases e)⟩
 case round=>
  obtain⟨seen,p,aB,LK,fq,DL⟩:=hrel
  gi_wp2_with (first
   |(gi_at_next;refine Wb rfl _ rfl b bb.heap.size clock seen es rfl aB LK dc ?_ ?_)
   |gi_in)
  ·intro GM
   gi_wp2
   go_end0
   exact⟨⟨_,rfl⟩,_,(fq.done lE (by rw[GM];rfl)).map _,DL⟩
  ·intro e he jl LW tK ef jI eS LR;obtain⟨i,cp,cG,gC,kB,uL⟩:=fq.step lE dc.1 (Array.mem_toList_iff.2 he);obtain⟨q,ak,ar,aM⟩:=Dj i e cp;have j1:J ((jK m p).map Prod.fst) jl:=iQ _ wr jl (some bb.heap.size) DL LW tK (λr e=>by cases e;exact⟨Nat.le_refl _,_,aB,rfl⟩);obtain⟨fn,tmps,assign,body,ag,cf⟩:=hV _ q.1 jl j1 (by rw[length_map,OE fq.lt];exact uL);rw[ar,aM]at LR ⊢;clear ef
   gi_wp2
   refine cf.mono ?_;rintro dm O8 ⟨rfl,oB,uQ⟩
   gi_wp2
   have D0:=uQ.same _ _ jI rfl
   go_roundw
   case rel=>exact⟨_,p++[i],D0,uQ.same _ _ eS rfl,kB,by rw[Qb ak,List.map_append];exact oB⟩
   case measure=>
    rw[D0,aB];have:=fq.sz;simp only[Array.size_push];omega
set_option maxHeartbeats 2000000 in
def abW(F:Fence)(n:Nat)(fz:F.fn 193)(cM:F.round=none)(aR:1≤n)(l sq sr b clock:Nat)(es:iT)(m:List (Int×Int))(iP:gq I (bQ .i64 (c0 .i64) m) es.toList)(dc:jZ es clock)(J:cq→World→Prop)
  (hV:∀pre x bb,J pre bb→pre.length<m.length→YieldAt F (n-1) prog l #[.int .i64 x] bb λe W'=>e=.returned (.bool true)∧J (pre++[x]) W'∧KeepsWalks bb W')
  (bb:World) (iQ:CV bb.heap.size J) (hm:bb.cell? ⟨sq,sr,none⟩=some (.map (some b))) (U:bb.heap[b]?=some (.map es clock)) (bM:J [] bb) :
  CallsIn F n prog 193 #[.func (.yield l) #[] #[],.pointer (some ⟨sq,sr,none⟩)] bb λe W'=>(∃v,e=.returned v)∧∃gW:cq,gW.Perm (m.map Prod.snd)∧J gW W':=by
 obtain⟨lE,Dj⟩:=Qa iP;have vP:b<bb.heap.size:=(Array.getElem?_eq_some_iff.1 U).1;refine callsIn_of_wp func193 rfl fz ?_ cM;simp only[Tryz.ntmps193,size_toArray,length_cons,length_nil,Nat.reduceAdd,Nat.reduceSub,Array.replicate_succ,Array.replicate_zero,push_toArray,append_toArray,nil_append,cons_append]
 gi_wp2_with (first
  |(gi_at_range;refine V8 rfl _ 144 3 3 rfl underlying144 b clock es rfl U ?_)
  |gi_in)
 go_frame
 gi_loopw [4] (λ_ wr=>∃(seen:oA) (p:dg),wr.heap[bb.heap.size]?=some (.mapIter (some b) clock seen clock)∧wr.heap[b]?=some (.map es clock)∧Ab es m seen p∧J ((jK m p).map Prod.snd) wr)
  (λ_ wr=>match wr.heap[bb.heap.size]? with|some (.mapIter _ _ seen _)=>es.size-seen.size|_=>0)
 case atStart=>
  exact⟨#[],[],World.alloc_heap_new bb _,(Below.heap_alloc bb _ b vP).trans U,⟨nodup_nil,rfl,by simp,by simp⟩,iQ [] bb _ none bM (World.grownBy_alloc bb _ none) (Nat.le_refl _) (λr e=>by cases e)⟩
 case round=>
  obtain⟨seen,p,aB,LK,fq,DL⟩:=hrel
  gi_wp2_with (first
   |(gi_at_next;refine Wb rfl _ rfl b bb.heap.size clock seen es rfl aB LK dc ?_ ?_)
   |gi_in)
  ·intro GM
   gi_wp2
   go_end0
   exact⟨⟨_,rfl⟩,_,(fq.done lE (by rw[GM];rfl)).map _,DL⟩
  ·intro e he jl LW tK ef jI eS LR;obtain⟨i,cp,cG,gC,kB,uL⟩:=fq.step lE dc.1 (Array.mem_toList_iff.2 he);obtain⟨q,ak,ar,aM⟩:=Dj i e cp;have j1:J ((jK m p).map Prod.snd) jl:=iQ _ wr jl (some bb.heap.size) DL LW tK (λr e=>by cases e;exact⟨Nat.le_refl _,_,aB,rfl⟩);obtain⟨fn,tmps,assign,body,ag,cf⟩:=hV _ q.2 jl j1 (by rw[length_map,OE fq.lt];exact uL);rw[ar,aM]at LR ⊢;clear ef
   gi_wp2
   refine cf.mono ?_;rintro dm O8 ⟨rfl,oB,uQ⟩
   gi_wp2
   have D0:=uQ.same _ _ jI rfl
   go_roundw
   case rel=>exact⟨_,p++[i],D0,uQ.same _ _ eS rfl,kB,by rw[Qb ak,List.map_append];exact oB⟩
   case measure=>
    rw[D0,aB];have:=fq.sz;simp only[Array.size_push];omega
end
section
set_option linter.all false
open Go Go.Proofs.Tryz Go.RowKit Go.Shelf List
attribute [local go_sem] Oper.semAt_some
set_option maxRecDepth 100000
variable {F:Fence}{P:Program}{a:Act}{bq:Exit→Act→World→Prop}{w:World}
def YF{n:Nat}{α:Type}{g:Operand}{ps:Array Tmp}{assign body:Code}
  (cM:F.round=none) (h1:1≤n) {gf:Nat} {lb:iY} (bu:a.eval g=.func (.func gf) #[] lb) (Lu:F.fn gf) (La:∀args w,(callFunc gf args).run P w=.ok (.enter gf args) w)
  {encs:α→iY} (N:Nat) (S:List α→Prop) (Bb:∀x,(encs x).size=ps.size) (I:List α→World→Prop)
  (hW:∀s bb W' row,I s bb→bb.grownBy W' row→bb.drawn≤W'.drawn→(∀r,row=some r→w.heap.size≤r∧∃o:Obj,bb.heap[r]?=some o∧o.isCells=false)→I s W') (bM:I [] w)
  (Mc:∀(l:Nat) (J:List α→World→Prop) (bb:World),Below w.heap.size w bb→CV bb.heap.size J→(∀pre x nP,J pre nP→pre.length<N→YieldAt F (n-1-1) P l (encs x) nP λe W'=>e=.returned (.bool true)∧J (pre++[x]) W'∧KeepsWalks nP W')→J [] bb→
   CallsIn F (n-1) P gf (#[.func (.yield l) #[] #[]]++lb) bb λe W'=>(∃v,e=.returned v)∧∃full,S full∧J full W')
  (A:List α→α→Act→World→Prop) (ahh:∀pre x gE bb l o hx,w.heap.size≤l→A pre x gE bb→bb.heap[l]?=some o→o.isCells=false→A pre x gE (bb.putObj l hx))
  (ajx:∀(l:Nat) (pre:List α) (x:α) (bb:World) (K:Act→World→Prop),I pre bb→(∀gE kr,A pre x gE kr→Below bb.heap.size bb kr→K gE kr)→
   assign.wpIn (F.inRound l) (n-1-1) P (Exit.then K (λ_ _ _=>False)) {tmps:=(ps.zip (encs x)).foldl (λt (p,v)=>t.setIfInBounds p v) a.tmps,defers:=[]} bb)
  (ajD:∀(l:Nat) (pre:List α) (x:α) (gE:Act) (bb:World),pre.length<N→A pre x gE bb→body.wpIn (F.inRound l) (n-1-1) P (λe _ W'=>match e with
   |.normal=>(∀k o,w.heap.size≤k→k<w.heap.size+2→bb.heap[k]?=some o→o.isCells=false→W'.heap[k]?=some o)∧I (pre++[x]) W'∧KeepsWalks bb W'|_=>False) gE bb)
  (ajP:∀(full:List α) (ej:Nat) (bb:World),S full→w.heap.size≤ej→I full bb→bb.heap[ej]?=some (.deferred (some []))→bq .normal {a with defers:={target:=.collected ej,args:=#[]}::a.defers} bb) :
  (Code.rangeFunc g ps assign body).wpIn F n P bq a w:=by
 refine wpIn_rangeFunc λfn ajY=>?_;rw[cM];obtain⟨yl,ym⟩:∃r:LoopState→Option Code→Loop,r=λst alJ=>{state:=st,pending:=alJ,fn,tmps:=a.tmps,params:=ps,assign,body,defers:=w.heap.size}:=⟨_,rfl⟩;obtain⟨nP,A0⟩:∃nP,(w.alloc (.deferred (some []))).alloc (.loop (yl .ready none))=nP:=⟨_,rfl⟩;have ajh:nP.heap[w.heap.size+1]?=some (.loop (yl .ready none)):=by
  rw[←A0];have:=World.alloc_heap_new (w.alloc (.deferred (some []))) (.loop (yl .ready none));rwa [World.size_alloc]at this
 have hw:nP.heap[w.heap.size]?=some (.deferred (some [])):=by
  rw[←A0];exact(Below.heap_alloc _ _ _ (by simp)).trans (World.alloc_heap_new w _)
 have hv:Below w.heap.size w nP:=by rw[←A0];exact((Below.refl _ w).alloc (Nat.le_refl _) _).alloc (by simp) _
 have tG:∀s bb o,I s bb→I s (bb.alloc o):=λs bb o h=>hW s bb _ none h (World.grownBy_alloc bb o none) (Nat.le_refl _) (λr e=>by cases e);have aj2:∀(bb:World) (l:Nat) (o:Obj),bb.grownBy (bb.putObj l o) (some l):=λbb l o=>⟨rfl,rfl,rfl,by rw[World.putObj_size];exact Nat.le_refl _,λk _ hk=>World.putObj_heap_other (λe=>hk (by rw[e]))⟩;have uV:∀s bb l o hx,w.heap.size≤l→I s bb→bb.heap[l]?=some o→o.isCells=false→I s (bb.putObj l hx):=λs bb l o hx aH h hb ai=>hW s bb _ (some l) h (aj2 bb l hx) (Nat.le_refl _) (λr e=>by cases e;exact⟨aH,o,hb,ai⟩);have Lw:I [] nP:=by rw[←A0];exact tG _ _ _ (tG _ _ _ bM)
 have eV:nP.heap.size=w.heap.size+2:=by rw[←A0];simp
 refine⟨w.heap.size+1,[{target:=.collected w.heap.size,args:=#[]}],nP,{target:=.fn (.func gf) lb,args:=#[.func (.yield (w.heap.size+1)) #[] #[]]},nP,gf,
  #[.func (.yield (w.heap.size+1)) #[] #[]]++lb,nP,?_,?_,?_,?_,λ_=>h1,?_⟩
 ·rw[←A0,ym];exact run_enterLoop_outer _ _ _ _ _
 ·simp only[resolve,bu];simp[go_sem]
 ·intro oS U6;simp[Target.leads]at U6;subst U6;exact Lu
 ·simp[invoke,go_sem,La]
 ·refine(Mc (w.heap.size+1) (λpre bb=>I pre bb∧bb.heap[w.heap.size+1]?=some (.loop (yl .ready none))∧bb.heap[w.heap.size]?=some (.deferred (some []))) nP hv ?_ ?_ ⟨Lw,ajh,hw⟩).mono ?_
  ·rintro s bb W' row ⟨hi,aH,hk⟩ bu Z aB;have nE:∀r,row=some r→∃o:Obj,bb.heap[r]?=some o∧o.isWalk=true:=λr e=>(aB r e).2;refine⟨hW s bb W' row hi bu Z λr e=>?_,(grownBy_keeps bu nE aH rfl).trans aH,(grownBy_keeps bu nE hk rfl).trans hk⟩;obtain⟨ak,o,ar,aM⟩:=aB r e;exact⟨by omega,o,ar,by cases o<;>simp[Obj.isWalk]at aM<;>rfl⟩
  ·rintro pre x bb ⟨hi,aH,hk⟩ eA;have bL:w.heap.size+1<bb.heap.size:=(Array.getElem?_eq_some_iff.1 aH).1;have ag:=run_yield (P:=P) (args:=encs x) aH (by rw[ym];exact Bb x);rw[ym]at ag;refine⟨fn,_,assign,body,ag,roundIn_of_wpIn ajY (ajx _ pre x bb _ hi λgE kr uP nA=>?_)⟩;have GR:=(nA.block _ bL).trans aH;have ake:=(nA.block _ (Array.getElem?_eq_some_iff.1 hk).1).trans hk;have akm:w.heap.size+1<kr.heap.size:=(Array.getElem?_eq_some_iff.1 GR).1;have aki:KeepsWalks bb kr:=⟨nA.size,λk o hk ai=>(nA.block _ (Array.getElem?_eq_some_iff.1 hk).1).trans hk⟩;refine⟨_,run_beginRound GR (by rw[ym]),?_⟩;have kU:(kr.putObj (w.heap.size+1) (.loop {yl .ready none with state:=.busy})).heap[w.heap.size+1]?=some (.loop {yl .ready none with state:=.busy}):=World.putObj_heap_same akm;have y1:(kr.putObj (w.heap.size+1) (.loop {yl .ready none with state:=.busy})).heap[w.heap.size]?=some (.deferred (some [])):=(World.putObj_heap_other (by omega)).trans ake;have akh:=aki.trans (KeepsWalks.putObj (.loop {yl .ready none with state:=.busy}) GR rfl);refine wpIn_mono (ajD _ pre x gE _ eA (ahh _ _ _ _ _ _ _ (by omega) uP GR rfl)) ?_;rintro e a3 O8 aC;cases e with
   |normal=>
    obtain⟨uQ,aj8,akQ⟩:=aC;have mY:=uQ _ _ (by omega) (by omega) kU rfl;have aB:=run_endRound (P:=P) none mY;rw[ym]at aB;refine⟨_,_,aB,rfl,⟨uV _ _ _ _ _ (by omega) aj8 mY rfl,?_,(World.putObj_heap_other (by omega)).trans (uQ _ _ (Nat.le_refl _) (by omega) y1 rfl)⟩,(akh.trans akQ).trans (KeepsWalks.putObj _ mY rfl)⟩;rw[ym];exact World.putObj_heap_same (Array.getElem?_eq_some_iff.1 mY).1
   |_=>exact aC.elim
  ·rintro e aph ⟨⟨v,rfl⟩,full,fq,hi,aH,hk⟩;exact⟨none,_,by have:=run_endLoop (P:=P) aH (by rw[ym];simp);rw[ym]at this;exact this,ajP _ _ _ fq (Nat.le_refl _) (uV _ _ _ _ _ (by omega) hi aH rfl) ((World.putObj_heap_other (by omega)).trans hk)⟩
variable {E T:Nat}
def Z9(aQ:kR P T E 1 8)(w:World)(ty g0:Nat)(v:Value)(xs:dZ)(tO:w.ownsRow g0 E 1 v xs.length xs)(ad:Addr)(c:Nat)(aA:Value)(hu:w.cell? ad=some aA)(Li:aA.oneCell'=true)(ep:(xs.length+1)*8≤140737488355328)(hg:g0≤w.heap.size):
  ∃dF w',(Builtin.append_ #[T,T] ty #[v,.slice (some ad) 1 c]).run P w=.ok dF w'∧w'.ownsRow g0 E 1 dF (xs.length+1) (xs++[aA])∧w.grownBy w' v.ownBlock∧w.drawn≤w'.drawn:=by
 obtain⟨i,z,hE,i4,h9,od,u0⟩:=aQ.info
 have kT:∀j x,[aA][j]?=some x→w.cell? (ad.add j)=some x:=λj x u=>by
  cases j with
  |zero=>simp at u;subst u;exact hu
  |succ j=>simp at u
 have oU:∀x∈[aA],x.oneCell'=true:=λx u=>by rw[List.mem_singleton.1 u];exact Li
 have hm:xs.length+1≤maxLen:=by simp only[maxLen];omega
 obtain⟨dF,w',eY,gJ,gA,mM⟩:=run_append_own (P:=P) w g0 T ty E i z 1 8 aQ.gY hE i4 h9 od u0 (by decide) v xs.length xs tO ad 1 c [aA] rfl kT oU hm ep hg;refine⟨dF,w',eY,gJ,gA,?_⟩;rcases tO.2 with⟨rfl,bM⟩|⟨g,aO,qJ,rfl,_,bu,aqD,aqw,yS,aqO⟩
 ·have:=run_append_nil (P:=P) w T ty E i z aQ.gY hE i4 ad 1 c [aA] (by rw[h9];rfl) kT (by omega) (by omega) (by rw[od];omega);rw[eY]at this;cases this;exact Nat.le_succ _
 ·by_cases oZ:xs.length+1≤aO
  ·have:=run_append_room (P:=P) w T ty E i aQ.gY hE g xs.length aO qJ bu ad 1 c [aA] (by rw[h9];rfl) kT oU oZ (by rw[h9,Nat.mul_one,yS,Nat.mul_one];exact oZ);rw[eY]at this;cases this;exact Nat.le_refl _
  ·have qR:(qJ.toList.take xs.length).length=xs.length:=by rw[length_take];simp;omega
   have sE:∀j x,(qJ.toList.take xs.length)[j]?=some x→w.cell? ((⟨g,0,none⟩:Addr).add j)=some x:=λj x aa=>by
    rw[mc];rw[getElem?_take]at aa;split at aa
    ·simp only[World.cell?,bu,Nat.zero_add];simpa using aa
    ·cases aa
   have:=run_append_grow (P:=P) w T ty E i z aQ.gY hE i4 ⟨g,0,none⟩ xs.length aO _ (by rw[h9,Nat.mul_one];exact qR) sE ad 1 c [aA] (by rw[h9];rfl) kT (by omega) (by simp only[maxLen]at hm;omega) (growslice_fits (by omega) (by rw[od];exact ep));rw[eY]at this;cases this;exact Nat.le_succ _
def anZ{n:Nat}{ops:l7}{o:Oper}{ij:List Oper}(aQ:kR P T E 1 8)(bu:o.guard=none)(s x:Operand)(hop:o.op=Op.call {callee:=Callee.builtin Builtin.append,args:=#[s,x],argTypes:=#[T,T]})
  (g0:Nat) (v:Value) (xs:dZ) (X:a.eval s=v) (tO:w.ownsRow g0 E 1 v xs.length xs) (ad:Addr) (c:Nat) (aA:Value) (u:a.eval x=.slice (some ad) 1 c) (hu:w.cell? ad=some aA) (Li:aA.oneCell'=true) (ep:(xs.length+1)*8≤140737488355328) (hg:g0≤w.heap.size)
  (h8:∀dF w',w'.ownsRow g0 E 1 dF (xs.length+1) (xs++[aA])→w.grownBy w' v.ownBlock→w.drawn≤w'.drawn→wpListIn F n P ops bq ij (a.put o.dst dF) w'):wpListIn F n P ops bq (o::ij) a w:=by
 refine wpListIn_plain bu λK AY=>?_;obtain⟨dF,w',eY,gJ,gA,mM⟩:=Z9 aQ w o.type g0 v xs tO ad c aA hu Li ep hg;unfold Oper.wpIn;refine⟨?_,?_⟩
 ·simp[Oper.about,hop,resolve,Target.leads,Sem.run_pure]
 ·rw[Oper.semAt_plain F _ _ (by rw[hop];intro c gd;cases gd)];simp[execOp,hop,resolve,invoke,builtin,X,u,eY,Result.andThen];exact AY _ _ (h8 dF w' gJ gA mM)
def IM{bb W':World}{g0 e k:Nat}{v:Value}{n:Nat}{xs:dZ}{row:ku}(h:bb.ownsRow g0 e k v n xs)(bu:bb.grownBy W' row)(aB:∀r,row=some r→∃o:Obj,bb.heap[r]?=some o∧∀c,o≠.cells c e (0,0)):W'.ownsRow g0 e k v n xs:=by
 refine⟨h.1,?_⟩;rcases h.2 with q|⟨g,aO,qJ,h1,D,aj,a1⟩
 ·exact .inl q
 ·refine .inr ⟨g,aO,qJ,h1,D,(bu.block g (Array.getElem?_eq_some_iff.1 aj).1 λcB=>?_).trans aj,a1⟩;obtain⟨o,ak,ar⟩:=aB g cB.symm;rw[aj]at ak;exact ar qJ (Option.some.inj ak).symm
def KM(x:Int):iY:=#[.int .i64 x]
structure C5(w:World)(pre:List Int)(bb:World):Prop where
 below:Below w.heap.size w bb
 drawn:w.drawn≤bb.drawn
 box:∃v,bb.heap[w.heap.size]?=some (.cells #[v] 22 (0,0))∧bb.ownsRow (w.heap.size+1) 3 1 v (pre.map (Value.int .i64)).length (pre.map (Value.int .i64))
set_option maxHeartbeats 4000000 in
def aaa(F:Fence)(n:Nat)(bU:F.fn 234)(cM:F.round=none)(aR:3≤n)(g:Nat)(lb:iY)(Lu:F.fn g)(La:∀args w,(callFunc g args).run prog w=.ok (.enter g args) w)(N:Nat)(sA:N*8≤140737488355328)(S:cq→Prop)(w:World)
    (Mc:∀(l:Nat) (J:cq→World→Prop) (bb:World),Below w.heap.size w bb→CV bb.heap.size J→(∀pre x nP,J pre nP→pre.length<N→YieldAt F (n-1-1) prog l (KM x) nP λe W'=>e=.returned (.bool true)∧J (pre++[x]) W'∧KeepsWalks nP W')→J [] bb→
      CallsIn F (n-1) prog g (#[.func (.yield l) #[] #[]]++lb) bb λe W'=>(∃v,e=.returned v)∧∃full,S full∧J full W') :
    CallsIn F n prog 234 #[.slice none 0 0,.func (.func g) #[] lb] w λe W'=>∃v gW,e=.returned v∧S gW∧W'.ownsRow (w.heap.size+1) 3 1 v gW.length (gW.map (Value.int .i64))∧Below w.heap.size w W'∧w.drawn≤W'.drawn:=by
  have h1:1≤n:=by omega
  refine callsIn_of_wp_marks func234 rfl bU ?_ cM;simp only[Tryz.ntmps234,size_toArray,length_cons,length_nil,Nat.reduceAdd,Nat.reduceSub,Array.replicate_succ,Array.replicate_zero,push_toArray,append_toArray,nil_append,cons_append]
  gi_wp2
  have uO:(w.alloc (Obj.cells #[Value.slice none 0 0] 22)).heap[w.heap.size]?=some (.cells #[Value.slice none 0 0] 22 (0,0)):=World.alloc_heap_new w _;have Lv:C5 w [] (w.alloc (Obj.cells #[Value.slice none 0 0] 22)):=⟨(Below.refl _ w).alloc (Nat.le_refl _) _,Nat.le_refl _,_,uO,rfl,.inl ⟨rfl,rfl⟩⟩;have lE:(w.alloc (Obj.cells #[Value.slice none 0 0] 22)).heap.size=w.heap.size+1:=by simp
  generalize w.alloc (Obj.cells #[Value.slice none 0 0] 22)=hn at Lv lE ⊢;clear uO
  have hW:∀(s:cq) (bb W':World) (row:ku),C5 w s bb→bb.grownBy W' row→bb.drawn≤W'.drawn→(∀r,row=some r→hn.heap.size≤r∧∃o:Obj,bb.heap[r]?=some o∧o.isCells=false)→C5 w s W':=λs bb W' row h bu Z aB=>by
    obtain⟨v,ak,ar⟩:=h.box;refine⟨h.below.grown bu h.below.size λk e=>by have:=(aB k e).1;omega,Nat.le_trans h.drawn Z,v,(bu.block _ (Array.getElem?_eq_some_iff.1 ak).1 λe=>by have:=(aB _ e.symm).1;omega).trans ak,IM ar bu λr e=>?_⟩;obtain⟨_,o,aM,aK⟩:=aB r e;exact⟨o,aM,λc cB=>by rw[cB]at aK;cases aK⟩
  refine YF cM h1 (gf:=g) (lb:=lb) rfl Lu La (encs:=KM) N S (λ_=>rfl) (C5 w) hW Lv (λl J bb kg iQ hV Lx=>Mc l J bb ?below iQ hV Lx)
    (λpre x gE bb=>C5 w pre bb∧gE={tmps:=#[.slice none 0 0,.func (.func g) #[] lb,.pointer (some ⟨w.heap.size,0,none⟩),undef,.slice none 0 0,.int .i64 x,.func (.func g) #[] lb,.int .i64 x,undef,undef,undef,undef,undef],defers:=[]}) ?alL ?assign ?body ?done
  case below=>exact Lv.below.trans (kg.mono (by omega))
  case alL=>
    rintro pre x gE bb l o hx aH ⟨hi,rfl⟩ ai aku;exact⟨hW _ _ _ (some l) hi (grownBy_putObj' bb l hx) (Nat.le_refl _) (λr e=>by cases e;exact⟨aH,o,ai,aku⟩),rfl⟩
  case assign=>
    rintro l pre x bb K g9 h8;simp only[KM]
    gi_wp2
    exact h8 _ _ ⟨g9,rfl⟩ (Below.refl _ bb)
  case body=>
    rintro l pre x gE bb eA ⟨g9,rfl⟩;obtain⟨v,ak,ar⟩:=g9.box;have vP:w.heap.size<bb.heap.size:=(Array.getElem?_eq_some_iff.1 ak).1;have kW:bb.cell? ⟨w.heap.size,0,none⟩=some v:=by simp[World.cell?,ak]
    have bV:(bb.alloc (.cells #[.int .i64 x] 3)).ownsRow (w.heap.size+1) 3 1 v (pre.map (Value.int .i64)).length (pre.map (Value.int .i64)):=IM ar (World.grownBy_alloc bb _ none) λr e=>by cases e
    have ajF:(bb.alloc (.cells #[.int .i64 x] 3)).cell? ⟨bb.heap.size,0,none⟩=some (.int .i64 x):=by
      have:=World.alloc_heap_new bb (.cells #[.int .i64 x] 3);simp only[World.cell?];rw[this];rfl
    gi_wp2_with (first
      |(gi_at_builtin;refine anZ FP rfl _ _ rfl (w.heap.size+1) v (pre.map (Value.int .i64)) rfl bV ⟨bb.heap.size,0,none⟩ 1 (.int .i64 x) rfl ajF rfl (by rw[length_map];omega) (by simp;omega) ?_;intro dF ri Vq LX ajH
        obtain⟨ih,p9,rfl⟩:∃ih p9,dF=.slice (some ⟨ih,0,none⟩) ((pre.map (Value.int .i64)).length+1) p9:=by
           rcases Vq.2 with⟨_,bM⟩|⟨ih,p9,_,b3,_⟩
           · exact absurd bM (by omega)
           · exact⟨ih,p9,b3⟩
        have tI:∀(k:Nat) (o:Obj),bb.heap[k]?=some o→(∀c,o≠.cells c 3 (0,0))→ri.heap[k]?=some o:=λk o hk ai=>by
           have y0:=(Below.heap_alloc bb (.cells #[.int .i64 x] 3) k (Array.getElem?_eq_some_iff.1 hk).1).trans hk;refine(LX.block k (Array.getElem?_eq_some_iff.1 y0).1 λe=>?_).trans y0;rcases bV.2 with⟨b3,_⟩|⟨ih,p9,UE,b3,_,UO,_⟩
           · rw[b3]at e;cases e
           · rw[b3]at e;cases e
             rw[UO]at y0;exact ai UE (Option.some.inj y0).symm
        have G3:ri.heap[w.heap.size]?=some (.cells #[v] 22 (0,0)):=tI _ _ ak λc e=>by cases e
        have aqv:ri.cell? ⟨w.heap.size,0,none⟩=some v:=by simp[World.cell?,G3]
        have aqA:ri.frozen? ⟨w.heap.size,0,none⟩=false:=by simp[World.frozen?,G3]
        go_frame)
      |gi_in)
    have rI:Below w.heap.size w ri:=(g9.below.alloc (by omega) (.cells #[.int .i64 x] 3)).grown LX (by have:=g9.below.size;simp;omega) λk e=>by
      rcases bV.2 with⟨b3,_⟩|⟨ih,p9,UE,b3,UO,_⟩
      · rw[b3]at e;cases e
      · rw[b3]at e;cases e;simp only;omega
    have zc:bb.heap.size≤ri.heap.size:=by have:=LX.size;simp at this;omega
    refine⟨λk o y0 y1 hk ai=>(heap_setCell_other ri _ k _ (by simp only;omega)).trans (tI k o hk λc e=>by rw[e]at ai;cases ai),⟨rI.grown (grownBy_setCell' ri _ _) rI.size λk e=>by cases e;exact Nat.le_refl _,Nat.le_trans g9.drawn ajH,_,heap_setCell_same ri w.heap.size 0 #[v] _ _ G3,?_⟩,(show KeepsWalks bb ri from⟨zc,λk o hk ai=>tI k o hk λc e=>by rw[e]at ai;cases ai⟩).trans (KeepsWalks.setCell ri _ _)⟩;have:=IM Vq (grownBy_setCell' ri w.heap.size (.slice (some ⟨ih,0,none⟩) ((pre.map (Value.int .i64)).length+1) p9)) λr e=>by cases e;exact⟨_,G3,λc e=>by cases e⟩
    simpa using this
  case done=>
    rintro full ej bb fq eX g9 Lq;obtain⟨v,ak,ar⟩:=g9.box;have kW:bb.cell? ⟨w.heap.size,0,none⟩=some v:=by simp[World.cell?,ak]
    gi_wp2
    refine⟨by simp,.inl ⟨_,_,rfl,run_takeDeferred Lq,?_⟩⟩;have UQ:=hW _ _ _ (some ej) g9 (grownBy_putObj' bb ej (.deferred none)) (Nat.le_refl _) λr e=>by cases e;exact⟨eX,_,Lq,rfl⟩
    have bV:=IM ar (grownBy_putObj' bb ej (.deferred none)) λr e=>by cases e;exact⟨_,Lq,λc e=>by cases e⟩
    exact⟨_,results_tmp rfl _ _ _,v,full,rfl,fq,by simpa using bV,UQ.below,UQ.drawn⟩
end
section
set_option linter.all false
open Go Go.Proofs.Tryz Go.RowKit Go.Shelf List
def Pl(f:Nat)(vn:Int×Int→Int)(Dj:∀args w,(callFunc f args).run prog w=.ok (.enter f args) w)
  (n1:∀(l sq sr b clock:Nat) (es:iT) (m:List (Int×Int)) (I:bs),gq I (bQ .i64 (c0 .i64) m) es.toList→jZ es clock→∀J:cq→World→Prop,
   (∀pre x bb,J pre bb→pre.length<m.length→YieldAt Fence.wide 1 prog l #[.int .i64 x] bb λe W'=>e=.returned (.bool true)∧J (pre++[x]) W'∧KeepsWalks bb W')→∀bb:World,CV bb.heap.size J→bb.cell? ⟨sq,sr,none⟩=some (.map (some b))→bb.heap[b]?=some (.map es clock)→J [] bb→
   CallsIn Fence.wide 2 prog f #[.func (.yield l) #[] #[],.pointer (some ⟨sq,sr,none⟩)] bb λe W'=>(∃v,e=.returned v)∧∃gW:cq,gW.Perm (m.map vn)∧J gW W')
  (m:List (Int×Int)) (eA:m.length*8≤140737488355328) (d:Nat):eP prog 234 [] [.c4,m4 f m] (λa az=>∃gW:cq,gW.Perm (m.map vn)∧a=.own d∧az=[(d,.slice 3 1 (ax aI gW) 0 false)]):=by
 intro cx w I β vs an aB;simp only[bW,au,m4,bc,cV]at aB;obtain⟨anw,asb,rfl,rfl,hy,asc,rfl,⟨anV,rfl,aA,bI,aJ,⟨b,o,rfl,iz⟩,rfl⟩,rfl⟩:=aB;have:anV=#[.pointer (some ⟨b,o,none⟩)]:=Array.toList_inj.1 (by simpa using aJ);subst this;simp only[k4,bc]at iz;obtain⟨⟨aA,g9,r,es,clock,rfl,oC,iP,dc⟩,-⟩:=iz;have pK:=an.good _ _ _ g9;obtain⟨hO,mR,Vj,Vl⟩:=an.hM _ _ oC;obtain⟨rfl,rfl⟩:=EL Vl;have zb:r<w.heap.size:=(Array.getElem?_eq_some_iff.1 Vj).1;refine Calls.mono (callsIn_wide.1 (aaa Fence.wide 3 trivial rfl (Nat.le_refl _) f #[.pointer (some ⟨b,o,none⟩)] trivial Dj m.length eA (λgW=>gW.Perm (m.map vn)) w λl J bb kg iQ hV Lx=>?_)) ?_
 ·exact n1 l b o r clock es m I iP dc J hV bb iQ ((kg.cell (p:=⟨b,o,none⟩) (World.block_lt_of_cell? w _ pK)).trans pK) ((kg.block r zb).trans Vj) Lx
 ·rintro e w' ⟨v,gW,rfl,fq,tO,U,Z⟩;have fB:∀k,w.heap.size≤k→∀o,I k o=none:=λk hk=>an.iF hk;have aa:=an.qy (dI:=[d]) (σ2:=[]) (env:=[]) ⟨λ_ _=>rfl,by simp[Y.ids],rfl,rfl,λx u cz n h=>by simp[Y.get]at h⟩
  have fin:∀g,w.heap.size≤g→iD v=true→(b1 v=some g∨c2 v=[])→aY cx I (g7 (gI β [d]) d v) w' d (.slice 3 1 (ax aI gW) 0 false)→
    ∃dF,Ending.returned v=Ending.returned dF∧∃r az aU β',(∃gW:cq,gW.Perm (m.map vn)∧r=Q.own d∧az=[(d,cc.slice 3 1 (ax aI gW) 0 false)])∧au aU β' r dF∧bY ⟨prog,0,Y.ids []⟩ cx aU β' az w':=λg bu iA vP cC=>by
   refine⟨_,rfl,.own d,_,I,g7 (gI β [d]) d v,⟨gW,fq,rfl,rfl⟩,by simp[au,gL,iA],?_⟩
   refine aa.turn (d:=d) (b:=g) ⟨λk hk bL=>U.block k bL,U.size,U.tape,U.os,U.output,Z⟩ (.inl (Nat.le_trans an.size bu)) (λx u=>by rw[asw,if_neg (Ne.symm u)]) (λx u X e=>by simp[Y.get]at X) (cn.refl I) (λ_ _ _=>rfl)
    (λo v aa=>by rw[fB g bu]at aa;cases aa) (fB g bu none) (λx u=>g5 _ _ u) (.inl (by simp[Y.ids])) (asV (by simp[gI])) (by rw[gL];exact vP) λaX mL=>?_
   rw[asw,if_pos rfl]at mL;cases mL;exact cC
  rcases tO.2 with⟨rfl,bM⟩|⟨g,aO,qJ,rfl,bu,aj0,h1,D,aj,a1⟩
  ·have:gW=[]:=eq_nil_of_length_eq_zero bM;subst this;exact fin w.heap.size (Nat.le_refl _) rfl (.inr rfl) (by simp[aY,gL,ax])
  ·refine fin g (by omega) rfl (.inl rfl) ?_;simp only[aY,gL];have y7:(ax aI gW).length=gW.length:=by simp[ax]
   rw[y7];refine .inr (.inr ⟨g,aO,qJ,rfl,h1,D,aj0,by simpa using aj,?_,?_,by omega,?_,?_,.inl (by have:=an.size;omega)⟩)
   ·rw[a1];exact(zA _ _).2 rfl
   ·intro e he;obtain⟨x,_,rfl⟩:=List.mem_map.1 he;rfl
   ·intro h;cases h
   ·intro o _;exact fB g (by omega) o
def aeT(m:List (Int×Int))(eA:m.length*8≤140737488355328)(d:Nat):eP prog 234 [] [.c4,m4 194 m] (λa az=>∃gW:cq,gW.Perm (m.map Prod.fst)∧a=.own d∧az=[(d,.slice 3 1 (ax aI gW) 0 false)]):=
 Pl 194 Prod.fst (enters_of func194 (by kernel_rfl) rfl) (λl sq sr b clock es m I iP dc J hV bb iQ hm U bM=>abV Fence.wide 2 trivial rfl (by decide) l sq sr b clock es m iP dc J hV bb iQ hm U bM) m eA d
def aeU(m:List (Int×Int))(eA:m.length*8≤140737488355328)(d:Nat):eP prog 234 [] [.c4,m4 193 m] (λa az=>∃gW:cq,gW.Perm (m.map Prod.snd)∧a=.own d∧az=[(d,.slice 3 1 (ax aI gW) 0 false)]):=
 Pl 193 Prod.snd (enters_of func193 (by kernel_rfl) rfl) (λl sq sr b clock es m I iP dc J hV bb iQ hm U bM=>abW Fence.wide 2 trivial rfl (by decide) l sq sr b clock es m iP dc J hV bb iQ hm U bM) m eA d
def jE.same{σ:Y}:∀l:List Q,jE σ l l
 |[]=>.nil
 |x::r=>.cons (.refl x) (jE.same r)
def atM{P:Program}{N:Nat}{ids:dg}{env:ah}{σ dk:Y}{o:Oper}{c:Call}{f:FuncId}{dx:List Q}{hL:Q→Y→Prop}(news:dg)(ai:o.op=.call c)(ay:wA env c=some (f,dx))(pJ:σ.at dk.ids=some dk)
  (dO:news.all (λd=>!ids.contains d&&(σ.get d).isNone)=true) (ep:(σ.minus dk.ids).clean news.contains=true) (jv:∀r σ2,hL r σ2→r.refs (λd=>!(dk.ids++news).contains d)=false∧σ2.clean (λd=>!(dk.ids++news).contains d)=true) (b4:eP P f dk dx hL) (af:c8 P f) :
  h5 ⟨P,N,ids⟩ o env.ev σ (dk.ids++news) news (λr az=>∃σ2,hL r σ2∧az=σ2++σ.minus dk.ids):=by
 obtain⟨gO,args,k,aO,ps,rfl,bm,aC,rfl⟩:=BO ay;exact atn (G:=⟨P,N,ids⟩) (σ:=σ) news ai bm af.h b4 aC (jE.same _) (asR pJ).1 dO ep jv
variable {f:Nat}{m:List (Int×Int)}
def X1{S:cq→Prop}(h:eP prog 234 [] [.c4,m4 f m] (λa az=>∃gW:cq,S gW∧a=.own 910000000∧az=[(910000000,.slice 3 1 (ax aI gW) 0 false)])):
  eP prog 192 [] [m4 f m] (λa az=>∃gW:cq,S gW∧a=.own 910000000∧az=[(910000000,.slice 3 1 (ax aI gW) 0 false)]):=by
 refine dY func192 rfl rfl ?_;refine asx bS [] [] [(0,m4 f m)] [] (by kernel_rfl) ?_;refine A.seq ?_;refine as9 bS 1 [2] [] [(3,m4 f m),(0,m4 f m)] [] (by kernel_rfl) (by kernel_rfl) (by kernel_rfl) rfl rfl (atM (dk:=[]) [910000000] rfl rfl rfl rfl rfl ?_ h ahE) rfl rfl ?_
 ·rintro r σ2 ⟨gW,h1,rfl,rfl⟩;simp[Q.refs,Y.clean,nV]
 rintro bN az ⟨σ2,⟨gW,h1,rfl,rfl⟩,rfl⟩;refine⟨[],_,_,rfl,?_⟩;show aS _ _ _ _ _;refine A.ret ?_;refine pW.mono (asy bS [] (R:=.own 910000000) (σ2:=[(910000000,.slice 3 1 (ax aI gW) 0 false)]) rfl (by kernel_rfl)) ?_;rintro a s ⟨rfl,rfl⟩;exact⟨gW,h1,rfl,rfl⟩
def W5{vn:Int×Int→Int}{d:Nat}(hm:m.length≤100000)(h:eP prog 234 [] [.c4,m4 f m] (λa az=>∃gW:cq,gW.Perm (m.map vn)∧a=.own 910000000∧az=[(910000000,.slice 3 1 (ax aI gW) 0 false)])):
  eP prog 167 [] [m4 f m] (λa az=>a=.own d∧az=[(d,.slice 3 1 (ax aI (fN (m.map vn))) 0 false)]):=by
 refine oP.at [(910000000,d)] (iq:=[]) (args:=[m4 f m]) (r:=.own 910000000) (σ2:=[(910000000,.slice 3 1 (ax aI (fN (m.map vn))) 0 false)]) ?_;refine dY func167 rfl rfl ?_;refine asx bS [] [] [(0,m4 f m)] [] (by kernel_rfl) ?_;refine A.seq ?_;refine as9 bS 1 [2] [] [(4,m4 f m),(0,m4 f m)] [] (by kernel_rfl) (by kernel_rfl) (by kernel_rfl) rfl rfl (atM (dk:=[]) [910000000] rfl rfl rfl rfl rfl ?_ (X1 h) ahz) rfl rfl ?_
 ·rintro r σ2 ⟨gW,h1,rfl,rfl⟩;simp[Q.refs,Y.clean,nV]
 rintro bN az ⟨σ2,⟨gW,h1,rfl,rfl⟩,rfl⟩;refine⟨[],_,_,rfl,?_⟩;show aS _ _ _ _ _;have aH:gW.length<4611686018427387904:=by
  have:=h1.length_eq;rw[length_map]at this;omega
 have X:fN gW=fN (m.map vn):=MR ((zz gW).trans (h1.trans (zz _).symm)) (Bp _) (Bp _);refine asx bS [] [(1,fM [] (aat (d:=910000000) (T:=3) gW aH) ah3)] [(3,.own 910000000)] [(910000000,.slice 3 1 (ax aI (fN gW)) 0 false)] (by kernel_rfl) ?_;rw[X];refine asx bS [] [] [(2,.own 910000000)] [(910000000,.slice 3 1 (ax aI (fN (m.map vn))) 0 false)] (by kernel_rfl) ?_;refine A.ret ?_;exact asy bS [] (R:=.own 910000000) rfl (by kernel_rfl)
def Yv{d:Nat}(m:List (Int×Int))(h:m.length≤100000):eP prog 167 [] [m4 194 m] (λa az=>a=.own d∧az=[(d,.slice 3 1 (ax aI (fN (m.map Prod.fst))) 0 false)]):=W5 h (aeT m (by omega) 910000000)
def Yw{d:Nat}(m:List (Int×Int))(h:m.length≤100000):eP prog 167 [] [m4 193 m] (λa az=>a=.own d∧az=[(d,.slice 3 1 (ax aI (fN (m.map Prod.snd))) 0 false)]):=W5 h (aeU m (by omega) 910000000)
end
section
set_option linter.all false
open Go Go.Proofs.Tryz Go.Sort Go.RowKit List
def aab:∀{l:cq},l≠[]→gG l≠[]
 |[],h=>absurd rfl h
 |x::r,_=>by
  unfold gG;split
  ·simp
  ·split<;>simp
def W6(x:Int):∀l:cq,gG (l++[x])=if l.getLast?=some x then gG l else gG l++[x]
 |[]=>rfl
 |a::r=>by
  have bg:=W6 x r;rw[cons_append];unfold gG;rw[bg];cases r with
  |nil=>
   by_cases h:a=x
   ·subst h;simp[gG]
   ·simp[gG,h]
  |cons b s=>
   rw[getLast?_cons_cons];have cb:=aab (l:=b::s) (by simp);by_cases h:(b::s).getLast?=some x
   ·rw[if_pos h,if_pos h]
   ·rw[if_neg h,if_neg h];generalize gG (b::s)=q at cb;cases q with
    |nil=>exact absurd rfl cb
    |cons y t=>
     simp only[cons_append];split<;>rfl
def Yx(zs:cq):Lib.compact zs=gG zs:=by
 have key:∀m,m≤zs.length→Lib.compactUpTo zs.toArray m=gG (zs.take m):=by
  intro m;induction m with
  |zero=>intro _;rfl
  |succ m bg=>
   intro hm;have bL:m<zs.length:=hm;have u:zs.toArray[m]! = zs[m]:=by simp[bL]
   rw[Lib.compactUpTo_succ,bg (by omega),take_add_one,List.getElem?_eq_getElem bL,Option.toList_some,W6,u];cases m with
   |zero=>simp[Lib.keeps]
   |succ k=>
    have hk:k<zs.length:=by omega
    have aH:(zs.take (k+1)).getLast?=some zs[k]:=by
     rw[getLast?_take];simp[hk]
    have ag:zs.toArray[k]! = zs[k]:=by simp[hk]
    rw[aH];unfold Lib.keeps;rw[u,show k+1-1=k by omega,ag];by_cases h:zs[k]=zs[k+1]
    ·simp[h]
    ·have b3:¬zs[k+1]=zs[k]:=λe=>h e.symm;simp[h,b3]
 have:=key zs.length (Nat.le_refl _);rw[take_length]at this;exact this
def atA:Shelf.Ren:={f:=λx=>match x with|20=>166|n=>n,t:=λx=>match x with|22=>22|n=>n,g:=λn=>n}
def atj:Lays2.n20 prog atA:=
 {mixed:=by kernel_rfl,f20:=Eq.trans func166 (congrArg some (by kernel_rfl)),t0:=underlying0,a0:=isAgg0,z0:=sizeOf0,v0:=zeroValue0,t3:=underlying3,a3:=isAgg3,z3:=sizeOf3,v3:=zeroValue3,t4:=underlying4,a4:=isAgg4,z4:=sizeOf4,v4:=zeroValue4,t22:=underlying22,a22:=isAgg22,z22:=sizeOf22,v22:=zeroValue22,i3:=by kernel_rfl}
def XH(b1 off aO:Nat)(zs:cq)(w:World)(n2:Holds (Value.int .i64) w b1 off zs.toArray)(lE:zs.length≤9223372036854775807)(n4:zs.length≤aO):
  Calls prog 166 #[.slice (some ⟨b1,off,none⟩) zs.length aO] w λe w'=>e=.returned (.slice (some ⟨b1,off,none⟩) (gG zs).length aO)∧∃q,w'=putRow (Value.int .i64) (Sort.ahead w q) b1 off (gG zs++List.replicate (zs.length-(gG zs).length) 0).toArray:=by
 have:=Any.slices_Compact_int atj b1 off aO zs w n2 lE n4;rw[Yx]at this;exact this
def X2(w:World):Calls prog 166 #[.slice none 0 0] w λe w'=>e=.returned (.slice none 0 0)∧w'=w:=Any.slices_Compact_int_empty atj none 0 w
def Yy{d d2:Nat}(cb:d2≠d)(l:cq)(h:l.length≤100000):eP prog 166 [(d,.slice 3 1 (ax aI l) 0 false)] [.own d] (λa az=>a=.own d2∧az=[(d2,.slice 3 1 (ax aI (gG l)) 0 false)]):=by
 intro cx w I β vs an aB;simp only[bW]at aB;obtain⟨aA,bI,rfl,aB,rfl⟩:=aB;have Z:Y.get [(d,cc.slice 3 1 (ax aI l) 0 false)] d=some (.slice 3 1 (ax aI l) 0 false):=by rw[asw,if_pos rfl]
 have ai:=an.cw d _ Z;simp only[au]at aB;obtain⟨rfl,aB⟩:=aB;have y7:∀l:cq,(ax aI l).length=l.length:=λl=>by simp[ax]
 have hX:(gG l).length≤l.length:=by
  have:∀l:cq,(gG l).length≤l.length:=by
   intro l;induction l with
   |nil=>exact Nat.le_refl _
   |cons x r bg=>
    unfold gG;split
    ·simp
    ·rename_i y t e;rw[e]at bg;split<;>simp at bg ⊢<;>omega
  exact this l
 have oc:bY ⟨prog,0,Y.ids [(d,cc.slice 3 1 (ax aI l) 0 false)]⟩ cx I β [] w:=an.sub λx aX u=>by simp[Y.get]at u
 have aa:=oc.qy (dI:=[d2]) (σ2:=[]) (env:=[]) ⟨λ_ _=>rfl,by simp[Y.ids];exact cb,rfl,rfl,λx u cz n h=>by simp[Y.get]at h⟩;simp only[aY,y7]at ai;rcases ai with q|⟨q,ar,_⟩|⟨b,aO,arr,ak,ar,aM,aK,be,bJ,b8,cT,dD,eB,fm⟩
 ·rw[q]at aB;simp[iD]at aB
 ·have D6:l=[]:=by simpa [ax]using ar
  subst D6;rw[q];refine Calls.mono (X2 w) ?_;rintro e w' ⟨rfl,rfl⟩;refine⟨_,rfl,.own d2,_,I,g7 (gI β [d2]) d2 (.slice none 0 0),⟨rfl,rfl⟩,by simp[au,gL,iD],?_⟩
  refine aa.turn (d:=d2) (b:=w'.heap.size) ⟨λk hk bL=>rfl,Nat.le_refl _,rfl,rfl,rfl,Nat.le_refl _⟩ (.inl an.size) (λx u=>by rw[asw,if_neg (Ne.symm u)]) (λx u X e=>by simp[Y.get]at X) (cn.refl I) (λ_ _ _=>rfl)
   (λo v aa=>by rw[an.iF (Nat.le_refl _)]at aa;cases aa) (an.iF (Nat.le_refl _) none) (λx u=>g5 _ _ u) (.inl (by simp[Y.ids];exact cb)) (asV (by simp[gI])) (.inr (by rw[gL];rfl)) λaX cC=>?_
  rw[asw,if_pos rfl]at cC;cases cC;simp[aY,gL,gG,ax]
 ·simp only[Nat.mul_one]at be bJ;have mK:arr.toList.take l.length=l.map (Value.int .i64):=(zA l _).1 bJ
  have nc:∀j,j<l.length→arr[j]?=some (Value.int .i64 (l[j]?.getD default)):=λj aT=>by
   have:=congrArg (·[j]?) mK;simp only[getElem?_take,if_pos aT,Array.getElem?_toList,List.getElem?_map]at this;rw[this,List.getElem?_eq_getElem aT];rfl
  have n2:Holds (Value.int .i64) w b 0 l.toArray:=λj aT=>by
   have aT:j<l.length:=by simpa using aT
   constructor
   ·simp only[World.cell?,aK,Nat.zero_add];rw[nc j aT];simp[aT]
   ·simp[World.frozen?,aK]
  have bL:=hC aK;rw[ak];refine Calls.mono (XH b 0 aO l w n2 (by omega) ar) ?_;rintro e w' ⟨rfl,n,rfl⟩;generalize UW:gG l++List.replicate (l.length-(gG l).length) 0=AA;have aqo:AA.length=l.length:=by rw[←UW,length_append,length_replicate];omega
  have yX:(putRow (Value.int .i64) (Go.Sort.ahead w n) b 0 AA.toArray).heap[b]?=some (.cells (putCells (Value.int .i64) 0 AA.toArray arr) 3 (0,0)):=by
   simp only[putRow,mapBlock,Go.Sort.ahead];rw[Array.getElem?_modify,if_pos rfl,aK];rfl
  have Fw:(putCells (Value.int .i64) 0 AA.toArray arr).toList.take (gG l).length=(gG l).map (Value.int .i64):=by
   apply List.ext_getElem?;intro j;rw[getElem?_take,List.getElem?_map];split
   ·rename_i aT;have j2:j<arr.size:=by omega
    have pM:j<AA.length:=by omega
    have akS:AA[j]?=(gG l)[j]?:=by rw[←UW,List.getElem?_append_left aT]
    rw[Array.getElem?_toList];simp only[putCells,Array.getElem?_mapIdx];rw[Array.getElem?_eq_getElem j2,←akS];simp[pM]
   ·rename_i aT;rw[List.getElem?_eq_none (by omega)];rfl
  refine⟨_,rfl,.own d2,_,I,g7 (gI β [d2]) d2 (.slice (some ⟨b,0,none⟩) (gG l).length aO),⟨rfl,rfl⟩,by simp[au,gL,iD],?_⟩
  refine aa.turn (d:=d2) (b:=b) ⟨λk hk bL=>?_,by simp[putRow,mapBlock,Go.Sort.ahead],rfl,rfl,rfl,by simp[putRow,mapBlock,Go.Sort.ahead]⟩ fm (λx u=>by rw[asw,if_neg (Ne.symm u)]) (λx u X e=>by simp[Y.get]at X) (cn.refl I) (λ_ _ _=>rfl)
   (λo v aa=>by rw[eB o (by omega)]at aa;cases aa) (an.tu aK) (λx u=>g5 _ _ u) (.inl (by simp[Y.ids];exact cb)) (asV (by simp[gI])) (.inl (by rw[gL];rfl)) λaX cC=>?_
  ·simp only[putRow,mapBlock,Go.Sort.ahead];rw[Array.getElem?_modify,if_neg (λe=>hk e.symm)]
  ·rw[asw,if_pos rfl]at cC;cases cC;simp only[aY,gL,y7];refine .inr (.inr ⟨b,aO,_,rfl,by omega,aM,yX,by simpa [putCells]using be,?_,?_,by omega,?_,?_,fm⟩)
   ·rw[Nat.mul_one,Fw];exact(zA _ _).2 rfl
   ·intro e he;obtain⟨x,_,rfl⟩:=List.mem_map.1 he;rfl
   ·intro h;cases h
   ·intro o _;exact eB o (by omega)
end
section
open Go Go.Proofs.Tryz List
set_option maxRecDepth 100000
set_option linter.all false
variable {r:(cq)}
def aly{eE:cq}(abX:ax aI eE≠[])(hm:AO eE=some r):eP prog 103 [] [bO aI eE] (λa az=>a=.own 36∧az=[(36,.slice 3 1 (ax aI r) 0 false)]):=by
 refine dY func103 rfl rfl ?_;unfold AO at hm;refine bp [] [(0,bO aI eE)] []<|A.seq<|bh [(1,.E7 false (bO aI eE) (Y8 abX))] [] [(4,.bool false)]<|asA rfl rfl<|A.skip ?_
 obtain⟨ew,h1,hm⟩:=bw hm;refine bp [(0,.al 103005),(2,oE 81 (ap aI (bytes:=8) (by decide) h1))] [(2,.own 81)] [(81,.slice 3 1 (ax aI ew) 0 false)]<|A.ret ?_
 obtain rfl:=kL hm;exact asy bS [.mu 81 36] rfl (by kernel_rfl)
def alK(hm:VN=some r):eP prog 103 [] [.ko] (λa az=>a=.own 36∧az=[(36,.slice 3 1 (ax aI r) 0 false)]):=by
 refine dY func103 rfl rfl ?_;unfold VN at hm;refine bp [] [(0,.ko)] []<|A.seq<|bh [(1,.E7 false .ko (Za))] [] [(4,.bool false)]<|asA rfl rfl<|A.skip ?_
 obtain⟨ew,h1,hm⟩:=bw hm;refine bp [(0,.al 103005),(2,oE 81 (ap aI (bytes:=8) (by decide) h1))] [(2,.own 81)] [(81,.slice 3 1 (ax aI ew) 0 false)]<|A.ret ?_
 obtain rfl:=kL hm;exact asy bS [.mu 81 36] rfl (by kernel_rfl)
def alQ(n c:Nat)(w:World):Calls prog 103 #[.slice none n c] w λe w'=>e=.returned (.slice none 0 0)∧w'=w:=by
 have q:∀(w:World) (a:Option Addr) (n c iE pE:Nat),(binOp .eql 22 (.slice a n c) (.slice none iE pE)).run prog w=.ok (.bool a.isNone) w:=λw a n c iE pE=>Lib.run_eql_slice_nil w _ _ a n c iE pE underlying22
 go_enter func103,Tryz.ntmps103
 go_wp2
 go_ret
 exact⟨rfl,rfl⟩
def alN{s r:cq}(hm:G9 s=some r):eP prog 103 [] [.bf false (ax aI s)] (λa az=>a=.own 36∧az=[(36,.slice 3 1 (ax aI r) 0 false)]):=by
 obtain rfl:s=r:=by
  unfold G9 AO at hm;obtain⟨l,h,hm⟩:=bw hm;have:=(acr h).symm;simp at this;subst this
  exact kL hm
 refine YR alQ (λh=>aly h hm) (λh=>?_) (λh=>h);have bM:s=[]:=by cases s with|nil=>rfl|cons a b=>simp[ax]at h
 subst bM;exact alK hm
variable {a b:Int}{g8:cq}{gF:Nat}{hN:Int→Int→jo}{hr:List Q}
def VG(iN:c8 prog gF)(iO:∀(ho:Int) (j6:Int) (q:Int),hN ho j6=some q→dT prog gF [] ([W ho,W j6]++hr) (W q))(hm:AL g8 a b hN=some r):eP prog 190 [(39,.slice 3 1 (ax aI g8) 0 false)] [.own 39,W a,W b,.eU gF hr] (λa az=>a=.cI []∧az=[(39,.slice 3 1 (ax aI r) 0 false)]):=by
 refine dY func190 rfl rfl ?_;unfold AL at hm;refine bp [] [(0,.own 39),(1,W a),(2,W b),(3,.eU gF hr),(8,W (aF (a+1)))] [(39,.slice 3 1 (ax aI g8) 0 false)]<|A.block ?_
 obtain⟨mO,hH,mW,hm⟩:=nv hm;refine asL (F:=mO) hm (λ(c3,ct)=>[(0,.own 39),(1,W a),(2,W b),(3,.eU gF hr),(8,W c3)]) (λ(c3,ct)=>[(39,.slice 3 1 (ax aI ct) 0 false)]) ?_ ?_
 ·exact gw
 rintro c1 ⟨c3,ct⟩ hm;rw[mW]at hm;refine A.seq<|bh [] [] [(14,.d (c3<b))] ?_
 rcases cD hm with⟨bl,hm⟩|⟨bl,hm⟩
 ·refine cm bl<|A.skip<|A.seq<|A.block<|bh [] [14] [(9,W c3)]<|A.block ?_
  obtain⟨yu,g3,yP,hm⟩:=nv hm;refine asL (F:=yu) hm (λ(fl,eN)=>[(0,.own 39),(1,W a),(2,W b),(3,.eU gF hr),(8,W c3),(9,W fl)]) (λ(fl,eN)=>[(39,.slice 3 1 (ax aI eN) 0 false)]) ?_ ?_
  ·exact gw
  rintro hR ⟨fl,eN⟩ hm;rw[yP]at hm;refine A.seq ?_;obtain⟨eC,j0,hm⟩:=je hm;refine A.J (J:=eC) (r:=r) (λfT=>[(0,.own 39),(1,W a),(2,W b),(3,.eU gF hr),(8,W c3),(9,W fl),(34,.bool fT)]) (λfT=>[(39,.slice 3 1 (ax aI eN) 0 false)]) ?_ ?_
  ·rcases cD hm with⟨b2,hm⟩|⟨b2,hm⟩
   ·obtain⟨en,h1,hm⟩:=bw hm;obtain⟨er,D,hm⟩:=bw hm;obtain⟨aG,aj,hm⟩:=bw hm;exact dV [(3,aN (cg b2)),(7,ds (ix aI h1)),(8,hb 39 0 (ix aI h1)),(12,ds (ix aI D)),(13,hb 39 0 (ix aI D)),(14,oW (iO _ _ _ aj) iN)] [] [(34,.d (aG<0))]<|cR (decide (aG<0)) hm
   exact dV [(3,aN (cg b2))] [] [(34,.bool false)]<|cR false hm
  rintro fT hm;rw[j0]at hm;rcases cD hm with⟨c9,hm⟩|⟨c9,hm⟩
  ·refine cm c9<|A.skip<|A.seq<|A.block ?_
   obtain⟨rE,a1,hm⟩:=bw hm;obtain⟨nU,bU,hm⟩:=bw hm;obtain⟨ew,dP,hm⟩:=bw hm;obtain⟨tj,fz,hm⟩:=bw hm;obtain⟨gr,ka,hm⟩:=bw hm;exact jj [(8,ds (ix aI a1)),(9,hb 39 0 (ix aI a1)),(12,ds (ix aI bU)),(13,hb 39 0 (ix aI bU)),(14,ds (ix aI bU)),(15,o1 39 (st aI (off:=0) (ca:=[W rE]) bU dP rfl) (qd bU).1.1),(16,ds (ix aI fz)),(17,o1 39 (st aI (off:=0) (ca:=[W nU]) fz ka rfl) (qd fz).1.1)] [34] [] [39] [(39,.slice 3 1 (ax aI gr) 0 false)]<|dV [] [9] [(9,W (aF (fl-1)))]<|cR (aF (fl-1),gr) hm
  exact ck c9<|A.exit<|dV [] [8,9,34] [(8,W (aF (c3+1)))]<|cR (aF (c3+1),eN) hm
 refine ck bl<|A.exit ?_
 obtain rfl:=kL hm;exact asy bS [] rfl (by kernel_rfl)
def Lh{n:Int}(iN:c8 prog gF)(iO:∀(ho:Int) (j6:Int) (q:Int),hN ho j6=some q→dT prog gF [] ([W ho,W j6]++hr) (W q))(hm:DE g8 a b n hN=some r):eP prog 257 [(51,.slice 3 1 (ax aI g8) 0 false)] [.own 51,W a,W b,W n,.eU gF hr] (λa az=>a=.cI []∧az=[(51,.slice 3 1 (ax aI r) 0 false)]):=by
 refine dY func257 rfl rfl ?_;unfold DE at hm;refine bp [] [(0,.own 51),(1,W a),(2,W b),(3,W n),(10,W 0)] [(51,.slice 3 1 (ax aI g8) 0 false)]<|A.block ?_
 obtain⟨yW,hm⟩:=qc hm;obtain⟨hJ,hK,hv,hw,hm⟩:=zG hm;refine as4 (hi:=n) (B:=hJ) (K:=hK) hm rfl (λbk=>λct=>[(0,.own 51),(1,W a),(2,W b),(3,W n),(10,W bk)]) (λbk=>λct=>[(51,.slice 3 1 (ax aI ct) 0 false)]) ?_ ?_ ?_
 ·exact gw
 ·rintro bk c1 ct hP cH hm;rw[hv]at hm;refine A.seq<|bh [] [] [(13,.d ((bk:Int)<n))] ?_
  refine asC rfl (decide_eq_true cH)<|A.skip<|A.seq<|A.block ?_
  obtain⟨en,h1,hm⟩:=bw hm;obtain⟨er,D,hm⟩:=bw hm;obtain⟨ew,aj,hm⟩:=bw hm;obtain⟨rE,a1,hm⟩:=bw hm;obtain⟨gr,bU,hm⟩:=bw hm;exact jj [(12,ds (ix aI h1)),(13,hb 51 0 (ix aI h1)),(18,ds (ix aI D)),(19,hb 51 0 (ix aI D)),(20,ds (ix aI D)),(21,o1 51 (st aI (off:=0) (ca:=[W en]) D aj rfl) (qd D).1.1),(22,ds (ix aI a1)),(23,o1 51 (st aI (off:=0) (ca:=[W er]) a1 bU rfl) (qd a1).1.1)] [13] [] [51] [(51,.slice 3 1 (ax aI gr) 0 false)]<|dV [(1,aN (Ah (by omega) cH (of_decide_eq_true yW)))] [10] [(10,W (bk+1:Int))]<|cR gr hm
 rintro bk ct hP gh hm;rw[hw]at hm;refine A.seq<|bh [] [] [(13,.d ((bk:Int)<n))] ?_
 refine asA rfl (AT gh)<|A.exit ?_
 obtain rfl:=kL hm;exact asy bS [] rfl (by kernel_rfl)
def alA{m:Int}(iN:c8 prog gF)(iO:∀(ho:Int) (j6:Int) (q:Int),hN ho j6=some q→dT prog gF [] ([W ho,W j6]++hr) (W q))(hm:Mn g8 a m b hN=some r):eP prog 233 [(45,.slice 3 1 (ax aI g8) 0 false)] [.own 45,W a,W m,W b,.eU gF hr] (λa az=>a=.cI []∧az=[(45,.slice 3 1 (ax aI r) 0 false)]):=by
 refine dY func233 rfl rfl ?_;unfold Mn at hm;refine bp [] [(0,.own 45),(2,W m),(3,W b),(4,.eU gF hr),(10,W (aF (m-a)))] [(45,.slice 3 1 (ax aI g8) 0 false)]<|bh [] [3] [(11,W (aF (b-m)))]<|A.seq<|A.block ?_
 obtain⟨mO,hH,mW,hm⟩:=nv hm;refine asL (F:=mO) hm (λ(c3,fl,ct)=>[(0,.own 45),(2,W m),(4,.eU gF hr),(10,W c3),(11,W fl)]) (λ(c3,fl,ct)=>[(45,.slice 3 1 (ax aI ct) 0 false)]) ?_ ?_
 ·exact gw
 rintro c1 ⟨c3,fl,ct⟩ hm;rw[mW]at hm;refine A.seq<|bh [] [] [(20,.bool (!decide (c3=fl)))] ?_
 rcases cD hm with⟨bl,hm⟩|⟨bl,hm⟩
 ·refine cm bl<|A.skip<|A.block<|bh [] [20] [(23,.d (fl<c3))] ?_
  rcases cD hm with⟨b2,hm⟩|⟨b2,hm⟩
  ·refine cm b2 ?_;obtain⟨aG,h1,hm⟩:=bw hm;exact fs [(7,fM [] (oP.at [(51,45)] (Lh (iN:=iN) (iO:=iO) h1)) Kr)] [23] [] [45] [(45,.slice 3 1 (ax aI aG) 0 false)]<|dV [] [10] [(10,W (aF (c3-fl)))]<|cR (aF (c3-fl),fl,aG) hm
  refine ck b2 ?_;obtain⟨bt,D,hm⟩:=bw hm;exact fs [(11,fM [] (oP.at [(51,45)] (Lh (iN:=iN) (iO:=iO) D)) Kr)] [23] [] [45] [(45,.slice 3 1 (ax aI bt) 0 false)]<|dV [] [11] [(11,W (aF (fl-c3)))]<|cR (c3,aF (fl-c3),bt) hm
 refine ck bl<|A.exit ?_
 obtain⟨dy,aj,hm⟩:=bw hm;refine B3 [(7,fM [] (oP.at [(51,45)] (Lh (iN:=iN) (iO:=iO) aj)) Kr)] [] [(45,.slice 3 1 (ax aI dy) 0 false)] ?_;obtain rfl:=kL hm;exact asy bS [] rfl (by kernel_rfl)
def VL:∀(zM:Nat) {g8:cq} {a:Int} {m:Int} {b:Int} {hN:Int→Int→jo} {gF:Nat} {hr:List Q} (iN:c8 prog gF) (iO:∀(ho:Int) (j6:Int) (q:Int),hN ho j6=some q→dT prog gF [] ([W ho,W j6]++hr) (W q)) {r:(cq)} (hm:AI zM g8 a m b hN=some r),eP prog 191 [(11,.slice 3 1 (ax aI g8) 0 false)] [.own 11,W a,W m,W b,.eU gF hr] (λa az=>a=.cI []∧az=[(11,.slice 3 1 (ax aI r) 0 false)]):=by
 intro zM;induction zM with
 |zero=>intros;rename_i hm;cases hm
 |succ zM bg=>
 intro g8 a m b hN gF hr iN iO r hm;refine dY func191 rfl rfl ?_;rw[AI]at hm;refine A.seq<|bp [] [(0,.own 11),(1,W a),(2,W m),(3,W b),(4,.eU gF hr),(28,.d (aF (m-a)=(1:Int)))] [(11,.slice 3 1 (ax aI g8) 0 false)] ?_
 rcases cD hm with⟨bl,hm⟩|⟨bl,hm⟩
 ·refine cm bl<|bh [] [2,28] [(10,W m)]<|bh [] [3] [(11,W b)]<|A.seq<|A.block ?_
  obtain⟨mO,hH,mW,hm⟩:=nv hm;refine asL (F:=mO) hm (λ(c3,fl)=>[(0,.own 11),(1,W a),(4,.eU gF hr),(10,W c3),(11,W fl)]) (λ(c3,fl)=>[(11,.slice 3 1 (ax aI g8) 0 false)]) ?_ ?_
  ·exact gw
  rintro c1 ⟨c3,fl⟩ hm;rw[mW]at hm;refine A.seq<|bh [] [] [(33,.d (c3<fl))] ?_
  rcases cD hm with⟨b2,hm⟩|⟨b2,hm⟩
  ·refine cm b2<|A.skip<|A.block<|bh [(4,.sh (1:Int) (by decide))] [33] [(12,W (aF (Int.fdiv (IntKind.wrap .u64 (aF (c3+fl))) (2 ^ min (1:Int).toNat 64))))] ?_
   obtain⟨en,h1,hm⟩:=bw hm;obtain⟨er,D,hm⟩:=bw hm;obtain⟨aG,aj,hm⟩:=bw hm;refine bh [(3,ds (ix aI h1)),(4,hb 11 0 (ix aI h1)),(7,ds (ix aI D)),(8,hb 11 0 (ix aI D)),(9,oW (iO _ _ _ aj) iN)] [] [(50,.d (aG<0))] ?_;rcases cD hm with⟨c9,hm⟩|⟨c9,hm⟩
   ·exact cm c9<|dV [] [10,12,50] [(10,W (aF ((aF (Int.fdiv (IntKind.wrap .u64 (aF (c3+fl))) (2 ^ min (1:Int).toNat 64)))+(1:Int))))]<|cR (aF ((aF (Int.fdiv (IntKind.wrap .u64 (aF (c3+fl))) (2 ^ min (1:Int).toNat 64)))+(1:Int)),fl) hm
   exact ck c9<|dV [] [11,12,50] [(11,W (aF (Int.fdiv (IntKind.wrap .u64 (aF (c3+fl))) (2 ^ min (1:Int).toNat 64))))]<|cR (c3,aF (Int.fdiv (IntKind.wrap .u64 (aF (c3+fl))) (2 ^ min (1:Int).toNat 64))) hm
  refine ck b2<|A.exit<|A.seq<|bh [] [1,4,11,33] [(13,W a)]<|A.block ?_
  obtain⟨yu,g3,yP,hm⟩:=nv hm;refine asL (F:=yu) hm (λ(kj,ct)=>[(0,.own 11),(10,W c3),(13,W kj)]) (λ(kj,ct)=>[(11,.slice 3 1 (ax aI ct) 0 false)]) ?_ ?_
  ·exact gw
  rintro hR ⟨kj,ct⟩ hm;rw[yP]at hm;refine A.seq<|bh [] [] [(58,.d (kj<aF (c3-1)))] ?_
  rcases cD hm with⟨e3,hm⟩|⟨e3,hm⟩
  ·refine cm e3<|A.skip<|A.seq<|A.block ?_
   obtain⟨rE,a1,hm⟩:=bw hm;obtain⟨nU,bU,hm⟩:=bw hm;obtain⟨ew,dP,hm⟩:=bw hm;obtain⟨tj,fz,hm⟩:=bw hm;obtain⟨gr,ka,hm⟩:=bw hm;exact jj [(8,ds (ix aI a1)),(9,hb 11 0 (ix aI a1)),(12,ds (ix aI bU)),(13,hb 11 0 (ix aI bU)),(14,ds (ix aI bU)),(15,o1 11 (st aI (off:=0) (ca:=[W rE]) bU dP rfl) (qd bU).1.1),(16,ds (ix aI fz)),(17,o1 11 (st aI (off:=0) (ca:=[W nU]) fz ka rfl) (qd fz).1.1)] [58] [] [11] [(11,.slice 3 1 (ax aI gr) 0 false)]<|dV [] [13] [(13,W (aF (kj+1)))]<|cR (aF (kj+1),gr) hm
  refine ck e3<|A.exit ?_
  cases hm;exact A.ret de
 refine ck bl<|A.skip<|A.seq<|bh [] [28] [(80,.d (aF (b-m)=(1:Int)))] ?_
 rcases cD hm with⟨gm,hm⟩|⟨gm,hm⟩
 ·refine cm gm<|bh [] [1,3,80] [(14,W a)]<|bh [] [] [(15,W m)]<|A.seq<|A.block ?_
  obtain⟨Jx,wg,Ls,hm⟩:=nv hm;refine asL (F:=Jx) hm (λ(og,pS)=>[(0,.own 11),(2,W m),(4,.eU gF hr),(14,W og),(15,W pS)]) (λ(og,pS)=>[(11,.slice 3 1 (ax aI g8) 0 false)]) ?_ ?_
  ·exact gw
  rintro lp ⟨og,pS⟩ hm;rw[Ls]at hm;refine A.seq<|bh [] [] [(85,.d (og<pS))] ?_
  rcases cD hm with⟨hT,hm⟩|⟨hT,hm⟩
  ·refine cm hT<|A.skip<|A.block<|bh [(4,.sh (1:Int) (by decide))] [85] [(16,W (aF (Int.fdiv (IntKind.wrap .u64 (aF (og+pS))) (2 ^ min (1:Int).toNat 64))))] ?_
   obtain⟨qK,iy,hm⟩:=bw hm;obtain⟨sv,oT,hm⟩:=bw hm;obtain⟨bt,tv,hm⟩:=bw hm;refine bh [(3,ds (ix aI iy)),(4,hb 11 0 (ix aI iy)),(7,ds (ix aI oT)),(8,hb 11 0 (ix aI oT)),(9,oW (iO _ _ _ tv) iN)] [] [(103,.bool (!(decide (bt<0))))] ?_;rcases cD hm with⟨jc,hm⟩|⟨jc,hm⟩
   ·exact cm jc<|dV [] [14,16,103] [(14,W (aF ((aF (Int.fdiv (IntKind.wrap .u64 (aF (og+pS))) (2 ^ min (1:Int).toNat 64)))+(1:Int))))]<|cR (aF ((aF (Int.fdiv (IntKind.wrap .u64 (aF (og+pS))) (2 ^ min (1:Int).toNat 64)))+(1:Int)),pS) hm
   exact ck jc<|dV [] [15,16,103] [(15,W (aF (Int.fdiv (IntKind.wrap .u64 (aF (og+pS))) (2 ^ min (1:Int).toNat 64))))]<|cR (og,aF (Int.fdiv (IntKind.wrap .u64 (aF (og+pS))) (2 ^ min (1:Int).toNat 64))) hm
  refine ck hT<|A.exit<|A.seq<|bh [] [2,4,15,85] [(17,W m)]<|A.block ?_
  obtain⟨Jy,als,Lt,hm⟩:=nv hm;refine asL (F:=Jy) hm (λ(qV,eN)=>[(0,.own 11),(14,W og),(17,W qV)]) (λ(qV,eN)=>[(11,.slice 3 1 (ax aI eN) 0 false)]) ?_ ?_
  ·exact gw
  rintro te ⟨qV,eN⟩ hm;rw[Lt]at hm;refine A.seq<|bh [] [] [(110,.d (og<qV))] ?_
  rcases cD hm with⟨kN,hm⟩|⟨kN,hm⟩
  ·refine cm kN<|A.skip<|A.seq<|A.block ?_
   obtain⟨uI,tw,hm⟩:=bw hm;obtain⟨uJ,qf,hm⟩:=bw hm;obtain⟨jy,yM,hm⟩:=bw hm;obtain⟨aiO,xh,hm⟩:=bw hm;obtain⟨lM,yN,hm⟩:=bw hm;exact jj [(8,ds (ix aI tw)),(9,hb 11 0 (ix aI tw)),(12,ds (ix aI qf)),(13,hb 11 0 (ix aI qf)),(14,ds (ix aI qf)),(15,o1 11 (st aI (off:=0) (ca:=[W uI]) qf yM rfl) (qd qf).1.1),(16,ds (ix aI xh)),(17,o1 11 (st aI (off:=0) (ca:=[W uJ]) xh yN rfl) (qd xh).1.1)] [110] [] [11] [(11,.slice 3 1 (ax aI lM) 0 false)]<|dV [] [17] [(17,W (aF (qV-1)))]<|cR (aF (qV-1),lM) hm
  refine ck kN<|A.exit ?_
  cases hm;exact A.ret de
 refine ck gm<|A.skip<|bh [(4,.sh (1:Int) (by decide))] [80] [(18,W (aF (Int.fdiv (IntKind.wrap .u64 (aF (a+b))) (2 ^ min (1:Int).toNat 64))))]<|bh [] [] [(19,W (aF ((aF (Int.fdiv (IntKind.wrap .u64 (aF (a+b))) (2 ^ min (1:Int).toNat 64)))+m)))]<|bh [] [] [] ?_
 obtain⟨eC,j0,hm⟩:=je hm;refine A.J (J:=eC) (r:=r) (λ(E8,C6)=>[(0,.own 11),(1,W a),(2,W m),(3,W b),(4,.eU gF hr),(18,W (aF (Int.fdiv (IntKind.wrap .u64 (aF (a+b))) (2 ^ min (1:Int).toNat 64)))),(19,W (aF ((aF (Int.fdiv (IntKind.wrap .u64 (aF (a+b))) (2 ^ min (1:Int).toNat 64)))+m))),(20,W E8),(21,W C6)]) (λ(E8,C6)=>[(11,.slice 3 1 (ax aI g8) 0 false)]) ?_ ?_
 ·refine bh [] [] [(140,.d (aF (Int.fdiv (IntKind.wrap .u64 (aF (a+b))) (2 ^ min (1:Int).toNat 64))<m))] ?_;rcases cD hm with⟨kX,hm⟩|⟨kX,hm⟩
  ·exact cm kX<|bh [] [140] [(20,W (aF ((aF ((aF (Int.fdiv (IntKind.wrap .u64 (aF (a+b))) (2 ^ min (1:Int).toNat 64)))+m))-b)))]<|dV [] [] [(21,W (aF (Int.fdiv (IntKind.wrap .u64 (aF (a+b))) (2 ^ min (1:Int).toNat 64))))]<|cR (aF ((aF ((aF (Int.fdiv (IntKind.wrap .u64 (aF (a+b))) (2 ^ min (1:Int).toNat 64)))+m))-b),aF (Int.fdiv (IntKind.wrap .u64 (aF (a+b))) (2 ^ min (1:Int).toNat 64))) hm
  exact ck kX<|bh [] [140] [(20,W a)]<|dV [] [] [(21,W m)]<|cR (a,m) hm
 rintro⟨E8,C6⟩ hm;rw[j0]at hm;refine bh [] [] [(22,W (aF ((aF ((aF (Int.fdiv (IntKind.wrap .u64 (aF (a+b))) (2 ^ min (1:Int).toNat 64)))+m))-(1:Int))))]<|A.seq<|A.block ?_
 obtain⟨Xq,arb,ajg,hm⟩:=nv hm;refine asL (F:=Xq) hm (λ(gZ,pf)=>[(0,.own 11),(1,W a),(2,W m),(3,W b),(4,.eU gF hr),(18,W (aF (Int.fdiv (IntKind.wrap .u64 (aF (a+b))) (2 ^ min (1:Int).toNat 64)))),(19,W (aF ((aF (Int.fdiv (IntKind.wrap .u64 (aF (a+b))) (2 ^ min (1:Int).toNat 64)))+m))),(20,W gZ),(21,W pf),(22,W (aF ((aF ((aF (Int.fdiv (IntKind.wrap .u64 (aF (a+b))) (2 ^ min (1:Int).toNat 64)))+m))-(1:Int))))]) (λ(gZ,pf)=>[(11,.slice 3 1 (ax aI g8) 0 false)]) ?_ ?_
 ·exact gw
 rintro vA ⟨gZ,pf⟩ hm;rw[ajg]at hm;refine A.seq<|bh [] [] [(151,.d (gZ<pf))] ?_
 rcases cD hm with⟨l8,hm⟩|⟨l8,hm⟩
 ·refine cm l8<|A.skip<|A.block<|bh [(4,.sh (1:Int) (by decide))] [151] [(23,W (aF (Int.fdiv (IntKind.wrap .u64 (aF (gZ+pf))) (2 ^ min (1:Int).toNat 64))))] ?_
  obtain⟨T4,AW,hm⟩:=bw hm;obtain⟨T6,GC,hm⟩:=bw hm;obtain⟨dy,DI,hm⟩:=bw hm;refine bh [(5,ds (ix aI AW)),(6,hb 11 0 (ix aI AW)),(9,ds (ix aI GC)),(10,hb 11 0 (ix aI GC)),(11,oW (iO _ _ _ DI) iN)] [] [(171,.bool (!(decide (dy<0))))] ?_;rcases cD hm with⟨tg,hm⟩|⟨tg,hm⟩
  ·exact cm tg<|dV [] [20,23,171] [(20,W (aF ((aF (Int.fdiv (IntKind.wrap .u64 (aF (gZ+pf))) (2 ^ min (1:Int).toNat 64)))+(1:Int))))]<|cR (aF ((aF (Int.fdiv (IntKind.wrap .u64 (aF (gZ+pf))) (2 ^ min (1:Int).toNat 64)))+(1:Int)),pf) hm
  exact ck tg<|dV [] [21,23,171] [(21,W (aF (Int.fdiv (IntKind.wrap .u64 (aF (gZ+pf))) (2 ^ min (1:Int).toNat 64))))]<|cR (gZ,aF (Int.fdiv (IntKind.wrap .u64 (aF (gZ+pf))) (2 ^ min (1:Int).toNat 64))) hm
 refine ck l8<|A.exit<|bh [] [19,21,22,151] [(24,W (aF ((aF ((aF (Int.fdiv (IntKind.wrap .u64 (aF (a+b))) (2 ^ min (1:Int).toNat 64)))+m))-gZ)))] ?_
 obtain⟨fZ,j1,hm⟩:=je hm;refine A.J (J:=fZ) (r:=r) (λdU=>[(0,.own 11),(1,W a),(3,W b),(4,.eU gF hr),(18,W (aF (Int.fdiv (IntKind.wrap .u64 (aF (a+b))) (2 ^ min (1:Int).toNat 64)))),(20,W gZ),(24,W (aF ((aF ((aF (Int.fdiv (IntKind.wrap .u64 (aF (a+b))) (2 ^ min (1:Int).toNat 64)))+m))-gZ)))]) (λdU=>[(11,.slice 3 1 (ax aI dU) 0 false)]) ?_ ?_
 ·refine asK [(0,.own 11),(1,W a),(2,W m),(3,W b),(4,.eU gF hr),(18,W (aF (Int.fdiv (IntKind.wrap .u64 (aF (a+b))) (2 ^ min (1:Int).toNat 64)))),(20,W gZ),(24,W (aF ((aF ((aF (Int.fdiv (IntKind.wrap .u64 (aF (a+b))) (2 ^ min (1:Int).toNat 64)))+m))-gZ))),(185,.bool ((decide (gZ<m))&&(decide (m<aF ((aF ((aF (Int.fdiv (IntKind.wrap .u64 (aF (a+b))) (2 ^ min (1:Int).toNat 64)))+m))-gZ)))))] [(11,.slice 3 1 (ax aI g8) 0 false)] (λhk=>?_) ?_
  ·rcases j5 (decide (gZ<m))with rC|rC
   ·exact bp [(3,aN (cg rC)),(7,aN (oh (q:=decide (m<aF ((aF ((aF (Int.fdiv (IntKind.wrap .u64 (aF (a+b))) (2 ^ min (1:Int).toNat 64)))+m))-gZ))) rC))] _ _ hk
   exact bp [(3,aN (cg rC)),(7,aN (r6 (q:=decide (m<aF ((aF ((aF (Int.fdiv (IntKind.wrap .u64 (aF (a+b))) (2 ^ min (1:Int).toNat 64)))+m))-gZ))) rC))] _ _ hk
  rcases cD hm with⟨p6,hm⟩|⟨p6,hm⟩
  ·refine cm p6 ?_;obtain⟨dz,xk,hm⟩:=bw hm;exact jj [(5,fM [] (oP.at [(45,11)] (alA (iN:=iN) (iO:=iO) xk)) ahD)] [2,185] [] [11] [(11,.slice 3 1 (ax aI dz) 0 false)]<|cR dz hm
  exact ck p6<|A.skip<|cR g8 hm
 rintro dU hm;rw[j1]at hm;obtain⟨j7,oB,hm⟩:=je hm;refine A.J (J:=j7) (r:=r) (λcE=>[(0,.own 11),(3,W b),(4,.eU gF hr),(18,W (aF (Int.fdiv (IntKind.wrap .u64 (aF (a+b))) (2 ^ min (1:Int).toNat 64)))),(24,W (aF ((aF ((aF (Int.fdiv (IntKind.wrap .u64 (aF (a+b))) (2 ^ min (1:Int).toNat 64)))+m))-gZ)))]) (λcE=>[(11,.slice 3 1 (ax aI cE) 0 false)]) ?_ ?_
 ·refine asK [(0,.own 11),(1,W a),(3,W b),(4,.eU gF hr),(18,W (aF (Int.fdiv (IntKind.wrap .u64 (aF (a+b))) (2 ^ min (1:Int).toNat 64)))),(20,W gZ),(24,W (aF ((aF ((aF (Int.fdiv (IntKind.wrap .u64 (aF (a+b))) (2 ^ min (1:Int).toNat 64)))+m))-gZ))),(199,.bool ((decide (a<gZ))&&(decide (gZ<aF (Int.fdiv (IntKind.wrap .u64 (aF (a+b))) (2 ^ min (1:Int).toNat 64))))))] [(11,.slice 3 1 (ax aI dU) 0 false)] (λhk=>?_) ?_
  ·rcases j5 (decide (a<gZ))with lu|lu
   ·exact bp [(3,aN (cg lu)),(7,aN (oh (q:=decide (gZ<aF (Int.fdiv (IntKind.wrap .u64 (aF (a+b))) (2 ^ min (1:Int).toNat 64)))) lu))] _ _ hk
   exact bp [(3,aN (cg lu)),(7,aN (r6 (q:=decide (gZ<aF (Int.fdiv (IntKind.wrap .u64 (aF (a+b))) (2 ^ min (1:Int).toNat 64)))) lu))] _ _ hk
  rcases cD hm with⟨nS,hm⟩|⟨nS,hm⟩
  ·refine cm nS ?_;obtain⟨gN,uM,hm⟩:=bw hm;exact jj [(5,fM [] (bg (iN:=iN) (iO:=iO) uM) FV)] [1,20,199] [] [11] [(11,.slice 3 1 (ax aI gN) 0 false)]<|cR gN hm
  exact ck nS<|A.skip<|cR dU hm
 rintro cE hm;rw[oB]at hm;refine asK [(0,.own 11),(3,W b),(4,.eU gF hr),(18,W (aF (Int.fdiv (IntKind.wrap .u64 (aF (a+b))) (2 ^ min (1:Int).toNat 64)))),(24,W (aF ((aF ((aF (Int.fdiv (IntKind.wrap .u64 (aF (a+b))) (2 ^ min (1:Int).toNat 64)))+m))-gZ))),(213,.bool ((decide (aF (Int.fdiv (IntKind.wrap .u64 (aF (a+b))) (2 ^ min (1:Int).toNat 64))<aF ((aF ((aF (Int.fdiv (IntKind.wrap .u64 (aF (a+b))) (2 ^ min (1:Int).toNat 64)))+m))-gZ)))&&(decide (aF ((aF ((aF (Int.fdiv (IntKind.wrap .u64 (aF (a+b))) (2 ^ min (1:Int).toNat 64)))+m))-gZ)<b))))] [(11,.slice 3 1 (ax aI cE) 0 false)] (λhk=>?_) ?_
 ·rcases j5 (decide (aF (Int.fdiv (IntKind.wrap .u64 (aF (a+b))) (2 ^ min (1:Int).toNat 64))<aF ((aF ((aF (Int.fdiv (IntKind.wrap .u64 (aF (a+b))) (2 ^ min (1:Int).toNat 64)))+m))-gZ)))with p7|p7
  ·exact bp [(3,aN (cg p7)),(7,aN (oh (q:=decide (aF ((aF ((aF (Int.fdiv (IntKind.wrap .u64 (aF (a+b))) (2 ^ min (1:Int).toNat 64)))+m))-gZ)<b)) p7))] _ _ hk
  exact bp [(3,aN (cg p7)),(7,aN (r6 (q:=decide (aF ((aF ((aF (Int.fdiv (IntKind.wrap .u64 (aF (a+b))) (2 ^ min (1:Int).toNat 64)))+m))-gZ)<b)) p7))] _ _ hk
 rcases cD hm with⟨th,hm⟩|⟨th,hm⟩
 ·refine cm th ?_;obtain⟨hD,AX,hm⟩:=bw hm;refine B3 [(5,fM [] (bg (iN:=iN) (iO:=iO) AX) FV)] [] [(11,.slice 3 1 (ax aI hD) 0 false)] ?_;obtain rfl:=kL hm;exact asy bS [] rfl (by kernel_rfl)
 refine ck th<|A.skip ?_
 obtain rfl:=kL hm;exact asy bS [] rfl (by kernel_rfl)
def alB{n:Int}(iN:c8 prog gF)(iO:∀(ho:Int) (j6:Int) (q:Int),hN ho j6=some q→dT prog gF [] ([W ho,W j6]++hr) (W q))(hm:AN g8 n hN=some r):eP prog 163 [(30,.slice 3 1 (ax aI g8) 0 false)] [.own 30,W n,.eU gF hr] (λa az=>a=.cI []∧az=[(30,.slice 3 1 (ax aI r) 0 false)]):=by
 refine dY func163 rfl rfl ?_;unfold AN at hm;refine bp [] [(0,.own 30),(1,W n),(2,.eU gF hr),(6,W 20)] [(30,.slice 3 1 (ax aI g8) 0 false)]<|bh [] [] [(7,W 0),(8,W 20)]<|A.seq<|A.block ?_
 obtain⟨mO,hH,mW,hm⟩:=nv hm;refine asL (F:=mO) hm (λ(AB,ou,ct)=>[(0,.own 30),(1,W n),(2,.eU gF hr),(6,W 20),(7,W AB),(8,W ou)]) (λ(AB,ou,ct)=>[(30,.slice 3 1 (ax aI ct) 0 false)]) ?_ ?_
 ·exact gw
 rintro c1 ⟨AB,ou,ct⟩ hm;rw[mW]at hm;refine A.seq<|bh [] [] [(13,.d (ou≤n))] ?_
 rcases cD hm with⟨bl,hm⟩|⟨bl,hm⟩
 ·refine cm bl<|A.skip<|A.block ?_
  obtain⟨aG,h1,hm⟩:=bw hm;exact fs [(4,fM [] (oP.at [(39,30)] (VG (iN:=iN) (iO:=iO) h1)) S7)] [7,13] [] [30] [(30,.slice 3 1 (ax aI aG) 0 false)]<|bh [] [] [(7,W ou)]<|dV [] [8] [(8,W (aF (ou+20)))]<|cR (ou,aF (ou+20),aG) hm
 refine ck bl<|A.exit ?_
 obtain⟨bt,D,hm⟩:=bw hm;refine fs [(4,fM [] (oP.at [(39,30)] (VG (iN:=iN) (iO:=iO) D)) S7)] [7,8,13] [] [30] [(30,.slice 3 1 (ax aI bt) 0 false)]<|A.block ?_
 obtain⟨yu,g3,yP,hm⟩:=nv hm;refine asL (F:=yu) hm (λ(mQ,eN)=>[(0,.own 30),(1,W n),(2,.eU gF hr),(6,W mQ)]) (λ(mQ,eN)=>[(30,.slice 3 1 (ax aI eN) 0 false)]) ?_ ?_
 ·exact gw
 rintro hR ⟨mQ,eN⟩ hm;rw[yP]at hm;refine A.seq<|bh [] [] [(30,.d (mQ<n))] ?_
 rcases cD hm with⟨b2,hm⟩|⟨b2,hm⟩
 ·refine cm b2<|A.skip<|A.block<|bh [] [30] [(7,W 0),(8,W (aF ((2:Int)*mQ)))]<|A.seq<|A.block ?_
  obtain⟨Jx,wg,Ls,hm⟩:=nv hm;refine asL (F:=Jx) hm (λ(tf,rB,dU)=>[(0,.own 30),(1,W n),(2,.eU gF hr),(6,W mQ),(7,W tf),(8,W rB)]) (λ(tf,rB,dU)=>[(30,.slice 3 1 (ax aI dU) 0 false)]) ?_ ?_
  ·exact gw
  rintro lp ⟨tf,rB,dU⟩ hm;rw[Ls]at hm;refine A.seq<|bh [] [] [(35,.d (rB≤n))] ?_
  rcases cD hm with⟨c9,hm⟩|⟨c9,hm⟩
  ·refine cm c9<|A.skip<|A.block ?_
   obtain⟨dy,aj,hm⟩:=bw hm;exact fs [(7,fM [] (oP.at [(11,30)] (VL fuel (iN:=iN) (iO:=iO) aj)) FV)] [7,35] [] [30] [(30,.slice 3 1 (ax aI dy) 0 false)]<|bh [] [] [(7,W rB)]<|dV [] [8] [(8,W (aF (rB+(aF ((2:Int)*mQ)))))]<|cR (rB,aF (rB+(aF ((2:Int)*mQ))),dy) hm
  refine ck c9<|A.exit ?_
  obtain⟨eC,j0,hm⟩:=je hm;refine A.J (J:=eC) (r:=r) (λcE=>[(0,.own 30),(1,W n),(2,.eU gF hr),(6,W mQ)]) (λcE=>[(30,.slice 3 1 (ax aI cE) 0 false)]) ?_ ?_
  ·refine bh [] [8,35] [(9,W (aF (tf+mQ)))]<|bh [] [] [(54,.d (aF (tf+mQ)<n))] ?_
   rcases cD hm with⟨e3,hm⟩|⟨e3,hm⟩
   ·refine cm e3 ?_;obtain⟨dz,a1,hm⟩:=bw hm;exact jj [(5,fM [] (oP.at [(11,30)] (VL fuel (iN:=iN) (iO:=iO) a1)) FV)] [7,9,54] [] [30] [(30,.slice 3 1 (ax aI dz) 0 false)]<|cR dz hm
   exact ck e3<|A.skip<|cR dU hm
  rintro cE hm;rw[j0]at hm;exact dV [] [6] [(6,W (aF (mQ*2)))]<|cR (aF (mQ*2),cE) hm
 refine ck b2<|A.exit ?_
 obtain rfl:=kL hm;exact asy bS [] rfl (by kernel_rfl)
def alj{fh:cq}(iN:c8 prog gF)(iO:∀(ho:Int) (j6:Int) (q:Int),hN ho j6=some q→dT prog gF [] ([W ho,W j6]++hr) (W q))(hm:DF fh hN=some r):eP prog 104 [(93,.slice 3 1 (ax aI fh) 0 false)] [.own 93,.eU gF hr] (λa az=>a=.cI []∧az=[(93,.slice 3 1 (ax aI r) 0 false)]):=by
 refine dY func104 rfl rfl ?_;unfold DF at hm;obtain⟨aG,h1,hm⟩:=bw hm;refine B3 [(2,aN (eG aI fh)),(4,fM [] (oP.at [(30,93)] (alB (iN:=iN) (iO:=iO) h1)) ah8)] [] [(93,.slice 3 1 (ax aI aG) 0 false)] ?_;obtain rfl:=kL hm;exact asy bS [] rfl (by kernel_rfl)
def anD{aq:wX}{root:Int}{vq:Int}{r:(zy)×(wX)}(hm:El aq root vq=some r):eP prog 107 [(20,.slice 175 3 (ax dN aq) 0 false)] [.own 20,W root,W vq] (λa az=>a=.own 113∧az=[(20,.slice 175 3 (ax dN r.2) 0 false),(113,.slice 120 2 (ax g1 r.1) 0 false)]):=by
 refine dY func107 rfl rfl ?_;unfold El at hm;refine bp [] [(0,.own 20),(1,W root),(2,W vq)] [(20,.slice 175 3 (ax dN aq) 0 false)] ?_;obtain⟨aG,h1,hm⟩:=bw hm;refine fs [(2,ajO [20] [80] (anK h1) aho ⟨Zb _,trivial⟩)] [2] [(7,.dr 80)] [] [(80,.map 3 3 (bQ .i64 (c0 .i64) aG))]<|bh [(2,DU (lk (E:=3) (k:=.i64) (enc:=(c0 .i64)) aG root (0:Int) (λw=>⟨_,zeroValue3 w,λI=>by simp[bc,c0,IW]⟩)))] [1] [(8,W ((aD aG root).getD (0:Int)))]<|asD (dB:=[(0,.own 20),(7,.dw (bQ .i64 (c0 .i64) aG)),(8,W ((aD aG root).getD (0:Int)))]) (σ2:=[(20,.slice 175 3 (ax dN aq) 0 false)]) (kK [.c5 [80]] [7]) ?_
 obtain⟨D,hm⟩:=qc hm;obtain⟨aj,hm⟩:=qc hm;refine bp [(1,cM (abU aG) ahq),(2,fM [542107001] (Yw (d:=542107001) aG (of_decide_eq_true D)) S5),(3,fM [542107002] (Yy (d:=542107001) (d2:=542107002) (by decide) (fN (aG.map Prod.snd)) (of_decide_eq_true aj)) ahp)] [(0,.own 20),(7,.dw (bQ .i64 (c0 .i64) aG)),(8,W ((aD aG root).getD (0:Int))),(9,.own 542107002)] [(20,.slice 175 3 (ax dN aq) 0 false),(542107002,.slice 3 1 (ax aI (gG (fN (aG.map Prod.snd)))) 0 false)]<|bh [] [] [(10,.c4)] ?_
 obtain⟨eC,j0,hm⟩:=je hm;refine A.J (J:=eC) (r:=r) (λjO=>[(0,.own 20),(7,.dw (bQ .i64 (c0 .i64) aG)),(8,W ((aD aG root).getD (0:Int))),(10,.own 26)]) (λjO=>[(20,.slice 175 3 (ax dN aq) 0 false),(26,.slice 120 2 (ax g1 jO) 0 false)]) ?_ ?_
 ·refine bh [(1,aN (eG aI (gG (fN (aG.map Prod.snd)))))] [] [(32,.own 542107002),(33,W ((gG (fN (aG.map Prod.snd))).length:Int)),(34,W 0)]<|A.block<|as8 9 rfl rfl λfA=>?_
  obtain⟨hJ,hK,hv,hw,hm⟩:=iM hm;refine asz (l:=gG (fN (aG.map Prod.snd))) (hj:=0) (B:=hJ) (K:=hK) hm (λbk=>λjq=>[(0,.own 20),(7,.dw (bQ .i64 (c0 .i64) aG)),(8,W ((aD aG root).getD (0:Int))),(9,.own 542107002),(10,.own 26),(32,.own 542107002),(33,W ((gG (fN (aG.map Prod.snd))).length:Int)),(34,W bk)]) (λbk=>λjq=>[(20,.slice 175 3 (ax dN aq) 0 false),(542107002,.slice 3 1 (ax aI (gG (fN (aG.map Prod.snd)))) 0 false),(26,.slice 120 2 (ax g1 jq) 0 false)]) ?_ ?_ ?_
  ·exact kK [.ad 10 26 120 2] []
  ·rintro bk aJ c1 jq hP cH hm;rw[hv]at hm;refine bh [] [] [(35,.d ((bk:Int)<((gG (fN (aG.map Prod.snd))).length:Int)))]<|A.seq<|cm (iC cH)<|A.skip<|A.seq<|A.block<|bh [(1,ds (ix aI (gT cH))),(2,hb 542107002 0 (ix aI (gT cH)))] [35] [(11,W bk),(12,W aJ)]<|A.seq<|bh [] [] [(41,.d (((aD aG root).getD (0:Int))≤aJ))] ?_
   rcases cD hm with⟨bl,hm⟩|⟨bl,hm⟩
   ·exact cm bl<|A.exit<|cR jq hm
   refine ck bl<|A.skip ?_
   obtain⟨en,a1,hm⟩:=bw hm;refine fs [(3,ds (ix aI a1)),(4,hb 542107002 0 (ix aI a1)),(10,.al 49)] [11,41] [(13,.ptr 49 0)] [] [(49,.c 120 [.c4,W (aF ((if((aD aG root).getD (0:Int))<en then((aD aG root).getD (0:Int))else en)-aJ))])]<|A.seq ?_
   obtain⟨bU,hm⟩:=qc hm;refine fs [(1,cM (abT aG) ahr),(2,fM [542107003] (Yv (d:=542107003) aG (of_decide_eq_true bU)) S5),(3,aN (eG aI (fN (aG.map Prod.fst))))] [] [(54,.own 542107003),(55,W ((fN (aG.map Prod.fst)).length:Int)),(56,W 0)] [] [(542107003,.slice 3 1 (ax aI (fN (aG.map Prod.fst))) 0 false)]<|A.block<|as8 54 rfl rfl λeS=>?_
   obtain⟨nO,km,n0,n3,hm⟩:=iM hm;refine asz (l:=fN (aG.map Prod.fst)) (hj:=0) (B:=nO) (K:=km) hm (λdn=>λct=>[(0,.own 20),(7,.dw (bQ .i64 (c0 .i64) aG)),(8,W ((aD aG root).getD (0:Int))),(9,.own 542107002),(10,.own 26),(12,W aJ),(13,.ptr 49 0),(32,.own 542107002),(33,W ((gG (fN (aG.map Prod.snd))).length:Int)),(34,W bk),(54,.own 542107003),(55,W ((fN (aG.map Prod.fst)).length:Int)),(56,W dn)]) (λdn=>λct=>[(20,.slice 175 3 (ax dN aq) 0 false),(542107002,.slice 3 1 (ax aI (gG (fN (aG.map Prod.snd)))) 0 false),(26,.slice 120 2 (ax g1 jq) 0 false),(49,.c 120 [.own 58,W (aF ((if((aD aG root).getD (0:Int))<en then((aD aG root).getD (0:Int))else en)-aJ))]),(542107003,.slice 3 1 (ax aI (fN (aG.map Prod.fst))) 0 false),(58,.slice 3 1 (ax aI ct) 0 false)]) ?_ ?_ ?_
   ·exact kK [.ac 49 58 3 1 0] []
   ·rintro dn e2 hR ct j2 gi hm;rw[n0]at hm;refine bh [] [] [(57,.d ((dn:Int)<((fN (aG.map Prod.fst)).length:Int)))]<|A.seq<|cm (iC gi)<|A.skip ?_
    obtain⟨fZ,j1,hm⟩:=je hm;refine A.J (J:=fZ) (r:=r) (λeN=>[(0,.own 20),(7,.dw (bQ .i64 (c0 .i64) aG)),(8,W ((aD aG root).getD (0:Int))),(9,.own 542107002),(10,.own 26),(12,W aJ),(13,.ptr 49 0),(32,.own 542107002),(33,W ((gG (fN (aG.map Prod.snd))).length:Int)),(34,W bk),(54,.own 542107003),(55,W ((fN (aG.map Prod.fst)).length:Int)),(56,W dn)]) (λeN=>[(20,.slice 175 3 (ax dN aq) 0 false),(542107002,.slice 3 1 (ax aI (gG (fN (aG.map Prod.snd)))) 0 false),(26,.slice 120 2 (ax g1 jq) 0 false),(49,.c 120 [.own 58,W (aF ((if((aD aG root).getD (0:Int))<en then((aD aG root).getD (0:Int))else en)-aJ))]),(542107003,.slice 3 1 (ax aI (fN (aG.map Prod.fst))) 0 false),(58,.slice 3 1 (ax aI eN) 0 false)]) ?_ ?_
    ·refine A.block<|bh [(0,ds (ix aI (gT gi))),(1,hb 542107003 0 (ix aI (gT gi)))] [57] [(15,W e2)] ?_
     refine bh [(2,oF aG e2 (c0 .i64) (0:Int) o5 (ux (k:=.i64) zeroValue3))] [] [(64,.d (((aD aG e2).getD (0:Int))≤aJ))] ?_;rcases cD hm with⟨b2,hm⟩|⟨b2,hm⟩
     ·refine cm b2 ?_;obtain⟨ew,dP,hm⟩:=bw hm;exact jj [(4,oE 107 (ap aI (bytes:=8) (by decide) dP))] [15,64] [] [49,58] [(49,.c 120 [.own 107,W (aF ((if((aD aG root).getD (0:Int))<en then((aD aG root).getD (0:Int))else en)-aJ))]),(107,.slice 3 1 (ax aI ew) 0 false)]<|Exists.intro ew (And.intro hm (kK [.mu 107 58] []))
     exact ck b2<|A.skip<|cR ct hm
    rintro eN hm;rw[j1]at hm;exact dV [(0,aN (hY gi eS))] [56] [(56,W ((dn+1:Nat):Int))]<|cR eN hm
   rintro dn ct j2 kU hm;rw[n3]at hm;refine bh [] [] [(57,.d ((dn:Int)<((fN (aG.map Prod.fst)).length:Int)))]<|A.seq<|ck (iB kU)<|A.exit ?_
   obtain⟨gr,fz,hm⟩:=bw hm;exact A.R bS [.c5 [58],.sc 49 [20,542107002,26,49,542107003]] [(3,oE 86 (ap g1 (bytes:=32) (by decide) fz))] [(0,.own 20),(7,.dw (bQ .i64 (c0 .i64) aG)),(8,W ((aD aG root).getD (0:Int))),(9,.own 542107002),(10,.own 86),(32,.own 542107002),(33,W ((gG (fN (aG.map Prod.snd))).length:Int)),(34,W bk)] [(20,.slice 175 3 (ax dN aq) 0 false),(542107002,.slice 3 1 (ax aI (gG (fN (aG.map Prod.snd)))) 0 false),(86,.slice 120 2 (ax g1 gr) 0 false)] (by kernel_rfl)<|B3 [(0,aN (hY cH fA))] [(0,.own 20),(7,.dw (bQ .i64 (c0 .i64) aG)),(8,W ((aD aG root).getD (0:Int))),(9,.own 542107002),(10,.own 86),(32,.own 542107002),(33,W ((gG (fN (aG.map Prod.snd))).length:Int)),(34,W ((bk+1:Nat):Int))] [(20,.slice 175 3 (ax dN aq) 0 false),(542107002,.slice 3 1 (ax aI (gG (fN (aG.map Prod.snd)))) 0 false),(86,.slice 120 2 (ax g1 gr) 0 false)]<|Exists.intro gr (And.intro hm (kK [.mu 86 26] []))
  rintro bk jq hP gh hm;rw[hw]at hm;exact bh [] [] [(35,.d ((bk:Int)<((gG (fN (aG.map Prod.snd))).length:Int)))]<|A.seq<|ck (iB gh)<|A.exit<|cR jq hm
 rintro jO hm;rw[j0]at hm;refine A.seq<|bh [(1,aN (eG dN aq))] [] [(77,.own 20),(78,W aq.length),(79,W 0)] ?_
 refine A.block<|as8 0 rfl rfl λrI=>?_
 obtain⟨s9,tb,tC,tD,hm⟩:=iM hm;refine asz (l:=aq) (hj:=0) (B:=s9) (K:=tb) hm (λeZ=>λdU=>[(0,.own 20),(7,.dw (bQ .i64 (c0 .i64) aG)),(8,W ((aD aG root).getD (0:Int))),(10,.own 26),(77,.own 20),(78,W aq.length),(79,W eZ)]) (λeZ=>λdU=>[(20,.slice 175 3 (ax dN dU) 0 false),(26,.slice 120 2 (ax g1 jO) 0 false)]) ?_ ?_ ?_
 ·exact gw
 ·rintro eZ dm lp dU pM k9 hm;rw[tC]at hm;refine bh [] [] [(80,.d ((eZ:Int)<aq.length))]<|A.seq<|cm (iC k9)<|A.skip ?_
  obtain⟨j7,oB,hm⟩:=je hm;refine A.J (J:=j7) (r:=r) (λcE=>[(0,.own 20),(7,.dw (bQ .i64 (c0 .i64) aG)),(8,W ((aD aG root).getD (0:Int))),(10,.own 26),(77,.own 20),(78,W aq.length),(79,W eZ)]) (λcE=>[(20,.slice 175 3 (ax dN cE) 0 false),(26,.slice 120 2 (ax g1 jO) 0 false)]) ?_ ?_
  ·refine A.block ?_;obtain⟨er,ka,hm⟩:=bw hm;refine fs [(1,ds (ix dN ka)),(2,hb 20 0 (ix dN ka)),(3,.al 103)] [80] [(17,.ptr 103 0),(16,W eZ)] [] [(103,.cells 175 (vX er))]<|bh [(4,oF aG er.Hop.bz (c0 .i64) (0:Int) o5 (ux (k:=.i64) zeroValue3))] [] [(18,W ((aD aG er.Hop.bz).getD (0:Int))),(19,.bool ((aD aG er.Hop.bz).isSome))]<|fs [(4,oF aG er.Hop.br (c0 .i64) (0:Int) o5 (ux (k:=.i64) zeroValue3))] [17] [(20,W ((aD aG er.Hop.br).getD (0:Int))),(21,.bool ((aD aG er.Hop.br).isSome))] [103] []<|asK [(0,.own 20),(7,.dw (bQ .i64 (c0 .i64) aG)),(8,W ((aD aG root).getD (0:Int))),(10,.own 26),(77,.own 20),(78,W aq.length),(79,W eZ),(16,W eZ),(18,W ((aD aG er.Hop.bz).getD (0:Int))),(20,W ((aD aG er.Hop.br).getD (0:Int))),(103,.bool (((aD aG er.Hop.bz).isSome)&&((aD aG er.Hop.br).isSome)))] [(20,.slice 175 3 (ax dN dU) 0 false),(26,.slice 120 2 (ax g1 jO) 0 false)] (λhk=>?_) ?_
   ·rcases j5 ((aD aG er.Hop.bz).isSome)with c9|c9
    ·exact bp [(1,aN (cg c9)),(3,aN (oh (q:=(aD aG er.Hop.br).isSome) c9))] _ _ hk
    exact bp [(1,aN (cg c9)),(3,aN (r6 (q:=(aD aG er.Hop.br).isSome) c9))] _ _ hk
   rcases cD hm with⟨e3,hm⟩|⟨e3,hm⟩
   ·refine cm e3 ?_;obtain⟨jy,iy,hm⟩:=bw hm;exact jj [(2,ds (ix dN ka)),(4,hb 20 2 (ix dN ka)),(14,ds (ix dN ka)),(16,o1 20 (st dN (off:=2) (ca:=[W (aF (er.c6-(if(aF ((if((aD aG root).getD (0:Int))<((aD aG er.Hop.bz).getD (0:Int))then((aD aG root).getD (0:Int))else((aD aG er.Hop.bz).getD (0:Int)))-(if((aD aG root).getD (0:Int))<((aD aG er.Hop.br).getD (0:Int))then((aD aG root).getD (0:Int))else((aD aG er.Hop.br).getD (0:Int)))))>(0:Int)then aF ((if((aD aG root).getD (0:Int))<((aD aG er.Hop.bz).getD (0:Int))then((aD aG root).getD (0:Int))else((aD aG er.Hop.bz).getD (0:Int)))-(if((aD aG root).getD (0:Int))<((aD aG er.Hop.br).getD (0:Int))then((aD aG root).getD (0:Int))else((aD aG er.Hop.br).getD (0:Int))))else(0:Int))))]) ka iy rfl) (qd ka).1.1)] [16,18,20,103] [] [20] [(20,.slice 175 3 (ax dN jy) 0 false)]<|cR jy hm
   exact ck e3<|A.skip<|cR dU hm
  rintro cE hm;rw[oB]at hm;exact dV [(0,aN (hY k9 rI))] [79] [(79,W ((eZ+1:Nat):Int))]<|cR cE hm
 rintro eZ dU pM mY hm;rw[tD]at hm;refine bh [] [] [(80,.d ((eZ:Int)<aq.length))]<|A.seq<|ck (iB mY)<|A.exit<|bh [] [0,7,8,10,77,78,79,80] [(6,.own 26)]<|A.ret ?_
 obtain rfl:=kL hm;exact asy bS [.mu 26 113] rfl (by kernel_rfl)
def anx{kY:List (Int×Int)}{r:Int}(hm:MK a b kY=some r):dT prog 105 [] [W a,W b,.fO [.dw (bQ .i64 (c0 .i64) kY)]] (W r):=by
 refine dY func105 rfl rfl ?_;unfold MK at hm;refine bp [] [(0,W a),(1,W b),(2,.fO [.dw (bQ .i64 (c0 .i64) kY)])] [] ?_;obtain⟨aG,h1,hm⟩:=bw hm;refine bp [(2,oF kY b (c0 .i64) (0:Int) o5 (ux (k:=.i64) zeroValue3)),(5,oF kY a (c0 .i64) (0:Int) o5 (ux (k:=.i64) zeroValue3)),(6,cM (vG h1) wB)] [(5,W aG)] [] ?_;cases hm;exact A.ret de
def anP{t:bA}{root:Int}{hd:cq}{r:(zy)×Int}(hm:Ei t root hd=some r):dT prog 47 [] [.agg (cK t),W root,bO aI hd] (.cI [bO g1 r.1,W r.2]):=by
 refine dY func47 rfl rfl ?_;unfold Ei at hm;refine bp [(0,.al 38)] [(1,W root),(2,bO aI hd),(3,.ptr 38 0)] [(38,.cells 28 (cK t))]<|A.seq ?_
 obtain⟨aG,h1,hm⟩:=bw hm;refine bh [(3,cM (MD h1) KW)] [] [(8,W aG)]<|bh [] [] [(25,.bool (!decide (aG=0)))] ?_
 rcases cD hm with⟨bl,hm⟩|⟨bl,hm⟩
 ·refine cm bl<|bp [] [(6,.c4),(7,W aG)] [] ?_
  cases hm;exact A.ret de
 refine ck bl<|A.skip<|fs [(0,.al 46),(1,.al 44)] [8,25] [(9,.ptr 44 0)] [] [(46,.map 3 3 (bQ .i64 (c0 .i64) [])),(44,.c 144 [.dr 46])]<|A.seq<|bh [(1,aN (eG aI hd))] [] [(28,bO aI hd),(29,W hd.length),(30,W 0)]<|A.block<|asH 2 rfl λfA=>?_
 obtain⟨hJ,hK,hv,hw,hm⟩:=iM hm;refine asz (l:=hd) (hj:=0) (B:=hJ) (K:=hK) hm (λbk=>λct=>[(1,W root),(2,bO aI hd),(3,.ptr 38 0),(9,.ptr 44 0),(28,bO aI hd),(29,W hd.length),(30,W bk)]) (λbk=>λct=>[(38,.cells 28 (cK t)),(46,.map 3 3 (bQ .i64 (c0 .i64) ct)),(44,.c 144 [.dr 46])]) ?_ ?_ ?_
 ·exact gw
 ·rintro bk aJ c1 ct hP cH hm;rw[hv]at hm;refine bh [] [] [(31,.d ((bk:Int)<hd.length))]<|A.seq<|cm (iC cH)<|A.skip<|A.seq<|A.block<|bh [(0,ds (ix aI (gT cH)))] [31] [(11,W aJ)] ?_
  obtain⟨bt,D,hm⟩:=bw hm;refine bh [(3,cM (anO D) agl)] [] [(12,W bt.1),(13,.bool bt.2)]<|A.seq<|bh [] [13] [(42,.bool (!bt.2))] ?_
  rcases cD hm with⟨b2,hm⟩|⟨b2,hm⟩
  ·refine cm b2<|bp [] [(6,.c4),(7,W 9)] [] ?_
   cases hm;exact A.ret de
  exact ck b2<|A.skip<|jj [(3,DV (va (k:=.i64) (enc:=(c0 .i64)) ct aJ bt.1 rfl))] [11,12,42] [] [46] [(46,.map 3 3 (bQ .i64 (c0 .i64) (bG ct aJ bt.1)))]<|dV [(0,aN (hY cH fA))] [30] [(30,W ((bk+1:Nat):Int))]<|cR (bG ct aJ bt.1) hm
 rintro bk ct hP gh hm;rw[hw]at hm;refine bh [] [] [(31,.d ((bk:Int)<hd.length))]<|A.seq<|ck (iB gh)<|A.exit ?_
 obtain⟨dy,aj,hm⟩:=bw hm;refine fs [(1,fM [36] (alN aj) agm)] [2,28,29,30,31] [(14,.own 36)] [] [(36,.slice 3 1 (ax aI dy) 0 false)]<|asD ((cr.go (dB:=[(1,W root),(3,.ptr 38 0),(9,.ptr 44 0),(14,.own 36)]) (σ2:=[(38,.cells 28 (cK t)),(46,.kf 3 3 (bQ .i64 (c0 .i64) ct)),(44,.c 144 [.dw (bQ .i64 (c0 .i64) ct)]),(36,.slice 3 1 (ax aI dy) 0 false)]) [.c5 [46],.sc 44 []] [] (by kernel_rfl)).trans (atd (T:=144) (cs:=[.dw (bQ .i64 (c0 .i64) ct)]) 9 44 (by kernel_rfl) (by kernel_rfl) (by kernel_rfl))) ?_
 obtain⟨dz,a1,hm⟩:=bw hm;refine bp [(1,GN),(2,fM [] (oP.at [(93,36)] (alj (gF:=105) (hr:=[.fO [.dw (bQ .i64 (c0 .i64) ct)]]) (iN:=ahO) (iO:=λ_ _ _ h=>anx h) a1)) agn)] [(1,W root),(3,.ptr 38 0),(14,.own 36)] [(38,.cells 28 (cK t)),(36,.slice 3 1 (ax aI dz) 0 false)] ?_;obtain⟨gN,bU,hm⟩:=bw hm;refine fs [(1,fM [29] (MZ bU) KX)] [3] [(15,.own 29)] [38] [(29,.slice 175 3 (ax dN gN) 0 false)]<|bh [] [] [(16,.c4)] ?_
 obtain⟨eC,j0,hm⟩:=je hm;refine A.J (J:=eC) (r:=r) (λjO=>[(16,.own 47)]) (λjO=>[(47,.slice 120 2 (ax g1 jO) 0 false)]) ?_ ?_
 ·refine bh [(1,aN (eG aI dz))] [14] [(54,.own 36),(55,W dz.length),(56,W 0)]<|A.block<|as8 54 rfl rfl λeS=>?_
  obtain⟨nO,km,n0,n3,hm⟩:=iM hm;refine asz (l:=dz) (hj:=0) (B:=nO) (K:=km) hm (λdn=>λ(wj,jq)=>[(1,W root),(15,.own 52),(16,.own 47),(54,.own 36),(55,W dz.length),(56,W dn)]) (λdn=>λ(wj,jq)=>[(36,.slice 3 1 (ax aI dz) 0 false),(52,.slice 175 3 (ax dN wj) 0 false),(47,.slice 120 2 (ax g1 jq) 0 false)]) ?_ ?_ ?_
  ·exact kK [.mu 29 52,.ad 16 47 120 2] []
  ·rintro dn e2 hR ⟨wj,jq⟩ j2 gi hm;rw[n0]at hm;refine bh [] [] [(57,.d ((dn:Int)<dz.length))]<|A.seq<|cm (iC gi)<|A.skip ?_
   obtain⟨fZ,j1,hm⟩:=je hm;refine A.J (J:=fZ) (r:=r) (λ(Cc,Cq)=>[(1,W root),(15,.own 52),(16,.own 47),(54,.own 36),(55,W dz.length),(56,W dn)]) (λ(Cc,Cq)=>[(36,.slice 3 1 (ax aI dz) 0 false),(52,.slice 175 3 (ax dN Cc) 0 false),(47,.slice 120 2 (ax g1 Cq) 0 false)]) ?_ ?_
   ·refine A.block<|bh [(0,ds (ix aI (gT gi))),(1,hb 36 0 (ix aI (gT gi)))] [57] [(18,W e2)] ?_
    refine A.seq<|bh [] [] [(62,.d (e2=root))] ?_
    rcases cD hm with⟨c9,hm⟩|⟨c9,hm⟩
    ·exact cm c9<|A.exit<|cR (wj,jq) hm
    refine ck c9<|A.skip ?_
    obtain⟨hD,dP,hm⟩:=bw hm;refine fs [(3,fM [85] (oP.at [(20,52),(113,85)] (anD dP)) ahP)] [18,62] [(19,.own 85)] [52] [(52,.slice 175 3 (ax dN hD.2) 0 false),(85,.slice 120 2 (ax g1 hD.1) 0 false)]<|A.seq<|bh [(1,aN (eG g1 jq)),(3,aN (eG g1 hD.1))] [] [(72,.d (200<aF ((jq.length:Int)+(hD.1.length:Int))))] ?_
    rcases cD hm with⟨e3,hm⟩|⟨e3,hm⟩
    ·exact cm e3<|A.exit<|cR jq hm
    refine ck e3<|A.skip ?_
    obtain⟨ew,fz,hm⟩:=bw hm;exact A.R bS [.c5 [85]] [(2,oE 112 (ap g1 (bytes:=32) (by decide) fz))] [(1,W root),(15,.own 52),(16,.own 112),(54,.own 36),(55,W dz.length),(56,W dn)] [(36,.slice 3 1 (ax aI dz) 0 false),(52,.slice 175 3 (ax dN hD.2) 0 false),(112,.slice 120 2 (ax g1 ew) 0 false)] (by kernel_rfl)<|Exists.intro (hD.2,ew) (And.intro hm (kK [.mu 112 47] []))
   rintro⟨Cc,Cq⟩ hm;rw[j1]at hm;exact dV [(0,aN (hY gi eS))] [56] [(56,W ((dn+1:Nat):Int))]<|cR (Cc,Cq) hm
  rintro dn ⟨wj,jq⟩ j2 kU hm;rw[n3]at hm;exact bh [] [] [(57,.d ((dn:Int)<dz.length))]<|A.seq<|ck (iB kU)<|A.exit<|cR jq hm
 rintro jO hm;rw[j0]at hm;refine bh [] [16] [(6,.own 47),(7,W 0)]<|A.ret ?_
 obtain rfl:=kL hm;exact asy bS [.c5 [47]] rfl (by kernel_rfl)
end
section
open Go List
set_option maxRecDepth 100000
set_option linter.all false
noncomputable section
def EA: Option bA:=
 ng ((5:Int)-(1:Int)).toNat (1:Int) (λ(bk:Int) (c1:(Ax)→Option _) (ct:(Ax))=>aW (jR ct ([(dQ.mk (bk:Int) true)]:Ax)) λ(ew:Ax)=>c1 ew) (λ(bk:Int) (ct:(Ax))=>ez ([(gu.mk (1:Int) (2:Int) (2:Int)),(gu.mk (1:Int) (3:Int) (3:Int)),(gu.mk (1:Int) (4:Int) (3:Int)),(gu.mk (2:Int) (3:Int) (2:Int)),(gu.mk (2:Int) (4:Int) (2:Int))]:List gu) 0 (λ(dn:Int) (e2:gu) (hR:(Aw)→Option _) (eN:(Aw))=>aW (jR eN ([(dR.mk e2.e4 e2.Jw e2.qE e2.qE (0:Int))]:Aw)) λ(gr:Aw)=>hR gr) (λ(eN:(Aw))=>some (bA.mk ct eN)) []) []
def zl: lz:=
 aW (EA) λ(aG:bA)=>vK aG (1:Int) ([(3:Int),(4:Int)]:cq) λ(bt:hq×Int×Int)=>aW (EA) λ(dy:bA)=>aW (yE dy (1:Int) ([(3:Int),(4:Int)]:cq) ([(fe.mk ([(2:Int),(3:Int),(4:Int)]:cq) (1:Int)),(fe.mk ([(3:Int)]:cq) (2:Int)),(fe.mk ([(4:Int)]:cq) (2:Int))]:zy)) λ(dz:Int×Int)=>some ((decide (bt.2.2=0))&&((decide (dz.2=0))&&((decide (bt.2.1=6))&&((decide (dz.1=5))&&(decide (1<(bt.1.Links.length:Int)))))))
end
end
section
open Go Go.Proofs.Tryz List
set_option maxRecDepth 100000
set_option linter.all false
def Wf{r:bA}(hm:EA=some r):dT prog 69 [] [] (.agg (cK r)):=by
 refine dY func69 rfl rfl ?_;unfold EA at hm;refine bp [(0,.al 40)] [(0,.ptr 40 0)] [(40,.c 28 [.c4,.c4])]<|fs [(0,.al 41)] [] [(1,.ptr 41 0)] [] [(41,.c 28 [.c4,.c4])]<|A.seq<|bh [] [] [(2,W 1)]<|A.block ?_
 obtain⟨hJ,hK,hv,hw,hm⟩:=zG hm;refine as4 (hi:=(5:Int)) (B:=hJ) (K:=hK) hm rfl (λbk=>λct=>[(0,.ptr 40 0),(1,.ptr 41 0),(2,W bk)]) (λbk=>λct=>[(40,.c 28 [.c4,.c4]),(41,.c 28 [.own 48,.c4]),(48,.slice 31 2 (ax ec ct) 0 false)]) ?_ ?_ ?_
 ·exact kK [.ac 41 48 31 2 0] []
 ·rintro bk c1 ct hP cH hm;rw[hv]at hm;refine A.seq<|bh [] [] [(6,.d ((bk:Int)≤(4:Int)))] ?_
  refine asC rfl (ala cH)<|A.skip<|A.seq<|A.block ?_
  obtain⟨ew,h1,hm⟩:=bw hm;exact jj [(5,oE 96 (ap ec (bytes:=16) (by decide) h1))] [6] [] [41,48] [(41,.c 28 [.own 96,.c4]),(96,.slice 31 2 (ax ec ew) 0 false)]<|dV [(1,aN (Ah (by omega) cH (by decide)))] [2] [(2,W (bk+1:Int))]<|Exists.intro ew (And.intro hm (kK [.mu 96 48] []))
 rintro bk ct hP gh hm;rw[hw]at hm;refine A.seq<|bh [] [] [(6,.d ((bk:Int)≤(4:Int)))] ?_
 refine asA rfl (ai5 gh)<|A.exit<|A.seq<|bh [(0,nA (Da (n:=3) z1 underlying179 sizeOf3)),(1,nA (Da (n:=3) z1 underlying179 sizeOf3)),(2,nA (Da (n:=3) z1 underlying179 sizeOf3)),(3,nA (Da (n:=3) z1 underlying179 sizeOf3)),(4,nA (Da (n:=3) z1 underlying179 sizeOf3)),(6,aN (eG Ic ([(gu.mk (1:Int) (2:Int) (2:Int)),(gu.mk (1:Int) (3:Int) (3:Int)),(gu.mk (1:Int) (4:Int) (3:Int)),(gu.mk (2:Int) (3:Int) (2:Int)),(gu.mk (2:Int) (4:Int) (2:Int))]:List gu)))] [2,6] [(21,.bf true (ax Ic ([(gu.mk (1:Int) (2:Int) (2:Int)),(gu.mk (1:Int) (3:Int) (3:Int)),(gu.mk (1:Int) (4:Int) (3:Int)),(gu.mk (2:Int) (3:Int) (2:Int)),(gu.mk (2:Int) (4:Int) (2:Int))]:List gu))),(22,W (([(gu.mk (1:Int) (2:Int) (2:Int)),(gu.mk (1:Int) (3:Int) (3:Int)),(gu.mk (1:Int) (4:Int) (3:Int)),(gu.mk (2:Int) (3:Int) (2:Int)),(gu.mk (2:Int) (4:Int) (2:Int))]:List gu).length:Int)),(23,W 0)]<|A.block<|asH 21 rfl λeS=>?_
 obtain⟨nO,km,n0,n3,hm⟩:=iM hm;refine asz (l:=([(gu.mk (1:Int) (2:Int) (2:Int)),(gu.mk (1:Int) (3:Int) (3:Int)),(gu.mk (1:Int) (4:Int) (3:Int)),(gu.mk (2:Int) (3:Int) (2:Int)),(gu.mk (2:Int) (4:Int) (2:Int))]:List gu)) (hj:=0) (B:=nO) (K:=km) hm (λdn=>λeN=>[(0,.ptr 40 0),(1,.ptr 41 0),(21,.bf true (ax Ic ([(gu.mk (1:Int) (2:Int) (2:Int)),(gu.mk (1:Int) (3:Int) (3:Int)),(gu.mk (1:Int) (4:Int) (3:Int)),(gu.mk (2:Int) (3:Int) (2:Int)),(gu.mk (2:Int) (4:Int) (2:Int))]:List gu))),(22,W (([(gu.mk (1:Int) (2:Int) (2:Int)),(gu.mk (1:Int) (3:Int) (3:Int)),(gu.mk (1:Int) (4:Int) (3:Int)),(gu.mk (2:Int) (3:Int) (2:Int)),(gu.mk (2:Int) (4:Int) (2:Int))]:List gu).length:Int)),(23,W dn)]) (λdn=>λeN=>[(40,.c 28 [.c4,.c4]),(41,.c 28 [.own 48,.own 67]),(48,.slice 31 2 (ax ec ct) 0 false),(67,.slice 62 5 (ax eT eN) 0 false)]) ?_ ?_ ?_
 ·exact kK [.ac 41 67 62 5 1] []
 ·rintro dn e2 hR eN j2 gi hm;rw[n0]at hm;refine bh [] [] [(24,.d ((dn:Int)<(([(gu.mk (1:Int) (2:Int) (2:Int)),(gu.mk (1:Int) (3:Int) (3:Int)),(gu.mk (1:Int) (4:Int) (3:Int)),(gu.mk (2:Int) (3:Int) (2:Int)),(gu.mk (2:Int) (4:Int) (2:Int))]:List gu).length:Int)))]<|A.seq<|cm (iC gi)<|A.skip<|A.seq<|A.block<|fs [(0,ds (ix Ic (gT gi))),(2,.al 134)] [24] [(4,.ptr 134 0)] [] [(134,.c 179 [W e2.e4,W e2.Jw,W e2.qE])] ?_
  obtain⟨gr,D,hm⟩:=bw hm;exact jj [(2,uP underlying179 sizeOf3),(4,uP underlying179 sizeOf3),(6,uP underlying179 sizeOf3),(8,uP underlying179 sizeOf3),(12,oE 97 (ap eT (bytes:=40) (by decide) D))] [4] [] [41,67,134] [(41,.c 28 [.own 48,.own 97]),(97,.slice 62 5 (ax eT gr) 0 false)]<|dV [(0,aN (hY gi eS))] [23] [(23,W ((dn+1:Nat):Int))]<|Exists.intro gr (And.intro hm (kK [.mu 97 67] []))
 rintro dn eN j2 kU hm;rw[n3]at hm;refine bh [] [] [(24,.d ((dn:Int)<(([(gu.mk (1:Int) (2:Int) (2:Int)),(gu.mk (1:Int) (3:Int) (3:Int)),(gu.mk (1:Int) (4:Int) (3:Int)),(gu.mk (2:Int) (3:Int) (2:Int)),(gu.mk (2:Int) (4:Int) (2:Int))]:List gu).length:Int)))]<|A.seq<|ck (iB kU)<|A.exit<|fs [] [1,21,22,23,24] [] [40,41] [(40,.c 28 [.own 48,.own 67])]<|A.ret ?_
 obtain rfl:=kL hm;exact asy bS [.c5 [48,67]] rfl (by kernel_rfl)
def MJ{r:Bool}(hm:zl=some r):dT prog 18 [] [] (.bool r):=by
 refine dY func18 rfl rfl ?_;unfold zl at hm;refine bp [] [] [] ?_;obtain⟨aG,h1,hm⟩:=bw hm;refine ata bS 2 [3,4,5,6,7,8,9,10] [] [(0,cM (Wf h1) Uo)] (DG hm) Dc (by kernel_rfl) (by kernel_rfl) (by kernel_rfl) (by rintro _ _ ⟨rfl,_,_,rfl⟩;exact⟨rfl,rfl⟩) ?_;rintro _ _ ⟨rfl,bt,hm,rfl⟩
 try dsimp only at hm
 refine⟨[(7,.al 104)],[(1,.ptr 104 0),(2,W bt.2.1),(3,W bt.2.2)],[(104,.cells 36 (vY bt.1))],by kernel_rfl,?_⟩;obtain⟨dy,D,hm⟩:=bw hm;obtain⟨dz,aj,hm⟩:=bw hm;refine bp [(0,cM (Wf D) Uo),(9,cM (VS aj) Un)] [(1,.ptr 104 0),(2,W bt.2.1),(3,W bt.2.2),(4,W dz.1),(5,W dz.2)] [(104,.cells 36 (vY bt.1))]<|asK [(0,.bool ((decide (bt.2.2=0))&&((decide (dz.2=0))&&((decide (bt.2.1=6))&&((decide (dz.1=5))&&(decide (1<(bt.1.Links.length:Int))))))))] [] (λhk=>?_) ?_
 ·rcases j5 (decide (bt.2.2=0))with bl|bl
  ·rcases j5 (decide (dz.2=0))with b2|b2
   ·rcases j5 (decide (bt.2.1=6))with c9|c9
    ·rcases j5 (decide (dz.1=5))with e3|e3
     ·exact bp [(2,aN (cg bl)),(6,aN (cg b2)),(10,aN (cg c9)),(14,aN (cg e3)),(17,aN (eG jX bt.1.Links)),(20,aN ((((oh (q:=decide (1<(bt.1.Links.length:Int))) e3).trans (oh (q:=((decide (dz.1=5))&&(decide (1<(bt.1.Links.length:Int))))) c9)).trans (oh (q:=((decide (bt.2.1=6))&&((decide (dz.1=5))&&(decide (1<(bt.1.Links.length:Int)))))) b2)).trans (oh (q:=((decide (dz.2=0))&&((decide (bt.2.1=6))&&((decide (dz.1=5))&&(decide (1<(bt.1.Links.length:Int))))))) bl)))] _ _ hk
     exact bp [(2,aN (cg bl)),(6,aN (cg b2)),(10,aN (cg c9)),(14,aN (cg e3)),(20,aN ((((r6 (q:=decide (1<(bt.1.Links.length:Int))) e3).trans (oh (q:=((decide (dz.1=5))&&(decide (1<(bt.1.Links.length:Int))))) c9)).trans (oh (q:=((decide (bt.2.1=6))&&((decide (dz.1=5))&&(decide (1<(bt.1.Links.length:Int)))))) b2)).trans (oh (q:=((decide (dz.2=0))&&((decide (bt.2.1=6))&&((decide (dz.1=5))&&(decide (1<(bt.1.Links.length:Int))))))) bl)))] _ _ hk
    exact bp [(2,aN (cg bl)),(6,aN (cg b2)),(10,aN (cg c9)),(20,aN (((r6 (q:=((decide (dz.1=5))&&(decide (1<(bt.1.Links.length:Int))))) c9).trans (oh (q:=((decide (bt.2.1=6))&&((decide (dz.1=5))&&(decide (1<(bt.1.Links.length:Int)))))) b2)).trans (oh (q:=((decide (dz.2=0))&&((decide (bt.2.1=6))&&((decide (dz.1=5))&&(decide (1<(bt.1.Links.length:Int))))))) bl)))] _ _ hk
   exact bp [(2,aN (cg bl)),(6,aN (cg b2)),(20,aN ((r6 (q:=((decide (bt.2.1=6))&&((decide (dz.1=5))&&(decide (1<(bt.1.Links.length:Int)))))) b2).trans (oh (q:=((decide (dz.2=0))&&((decide (bt.2.1=6))&&((decide (dz.1=5))&&(decide (1<(bt.1.Links.length:Int))))))) bl)))] _ _ hk
  exact bp [(2,aN (cg bl)),(20,aN (r6 (q:=((decide (dz.2=0))&&((decide (bt.2.1=6))&&((decide (dz.1=5))&&(decide (1<(bt.1.Links.length:Int))))))) bl))] _ _ hk
 cases hm;exact A.ret de
end
section
open Go List
set_option maxRecDepth 100000
set_option linter.all false
noncomputable section
def Ht(t:cq):lz:=
 aW (Ea t) λ(aG:eD)=>aW (Es aG (8:Int)) λ(bt:bA×eD)=>aW (pz bt.2 (bt.1.bC.length:Int)) λ(dy:Int×eD)=>aW (di bt.1.bC dy.1) λ(en:dQ)=>aW (Bt dy.2 bt.1 (3:Int)) λ(dz:(cq)×eD)=>aW (Bt dz.2 bt.1 (3:Int)) λ(gN:(cq)×eD)=>aW (jR ([]:cq) dz.1) λ(ew:cq)=>ez gN.1 0 (λ(bk:Int) (aJ:Int) (c1:(cq)→Option _) (nZ:(cq))=>aW (xc nZ aJ) λ(hD:(cq))=>c1 hD) (λ(nZ:(cq))=>vK bt.1 en.cu dz.1 λ(e0:hq×Int×Int)=>vK bt.1 en.cu gN.1 λ(gn:hq×Int×Int)=>vK bt.1 en.cu nZ λ(dX:hq×Int×Int)=>bif !decide (dX.2.2=0)then(bif decide (dX.2.2=9)then(bif decide (e0.2.2=9)then aW (zl) λ(Aa:Bool)=>some Aa else(bif decide (gn.2.2=9)then aW (zl) λ(rX:Bool)=>some rX else some false))else some false)else bif ((!decide (e0.2.2=0))||((!decide (gn.2.2=0))||((decide (dX.2.1<e0.2.1))||((decide (dX.2.1<gn.2.1))||(decide (aF (e0.2.1+gn.2.1)<dX.2.1))))))then some false else ez dX.1.Links 0 (λ(dn:Int) (e2:b6) (hR:Unit→Option _) ()=>ez dX.1.Links 0 (λ(eZ:Int) (dm:b6) (lp:Bool→Option _) (xZ:Bool)=>(bif xZ then lp (!decide (dm.bz=e2.br))else lp false)) (λ(xZ:Bool)=>jn (λ(fT:Bool)=>bif fT then some false else hR ()) λeC=>(bif xZ then aW (Ek nZ e2.br) λ(x3:Bool)=>eC (!x3)else eC false)) true) (λ(av:Unit)=>match av with|()=>jn (λ(av:Unit)=>match av with|()=>aW (zl) λ(Ks:Bool)=>some Ks) λfZ=>bif decide (0<(dz.1.length:Int))then aW (ug dz.1 (0:Int) (1:Int)) λ(gr:cq)=>vK bt.1 en.cu gr λ(iG:hq×Int×Int)=>aW (Ei bt.1 en.cu gr) λ(rY:(zy)×Int)=>aW (yE bt.1 en.cu gr rY.1) λ(iH:Int×Int)=>aW (di dz.1 (0:Int)) λ(er:Int)=>aW (Ez bt.1 en.cu er) λ(fJ:Int×Bool)=>bif ((!decide (iG.2.2=0))||((!decide (rY.2=0))||((!decide (iH.2=0))||((!fJ.2)||((!decide (iG.2.1=fJ.1))||(!decide (iH.1=fJ.1)))))))then some false else fZ ()else fZ ()) ()) ew
end
end
section
open Go Go.Proofs.Tryz List
set_option maxRecDepth 100000
set_option linter.all false
def al6{t:cq}{r:Bool}(hm:Ht t=some r):dT prog 9 [] [bO aI t] (.bool r):=by
 refine dY func9 rfl rfl ?_;unfold Ht at hm;refine bp [] [(0,bO aI t)] [] ?_;obtain⟨aG,h1,hm⟩:=bw hm;refine bp [(1,fM [1] (anF h1) aiz)] [(3,.ptr 1 0)] [(1,.cells 103 (iS aG))] ?_;obtain⟨bt,D,hm⟩:=bw hm;refine fs [(1,fM [22] (anY D) aiA),(2,.al 23)] [] [(4,.ptr 23 0)] [1] [(1,.cells 103 (iS bt.2)),(22,.slice 62 5 (ax eT bt.1.Links) 0 false),(23,.c 28 [bO ec bt.1.bC,.own 22])] ?_;obtain⟨dy,aj,hm⟩:=bw hm;obtain⟨en,a1,hm⟩:=bw hm;refine fs [(5,aN (eG ec bt.1.bC)),(6,fM [] (ti aj) uj),(7,ds (ix ec a1))] [] [(5,W en.cu)] [1] [(1,.cells 103 (iS dy.2))] ?_;obtain⟨dz,bU,hm⟩:=bw hm;obtain⟨gN,dP,hm⟩:=bw hm;refine asx bS [.c5 [22]] [(2,fM [] (WA bU) Ul),(5,fM [] (WA dP) Ul)] [(4,.ptr 23 0),(5,W en.cu),(6,bO aI dz.1),(7,bO aI gN.1)] [(22,.slice 62 5 (ax eT bt.1.Links) (ax eT bt.1.Links).length true),(23,.c 28 [bO ec bt.1.bC,.own 22])] (by kernel_rfl) ?_;obtain⟨ew,fz,hm⟩:=bw hm;refine bp [(0,.al 9055),(2,oE 101 (ap aI (bytes:=8) (by decide) fz))] [(4,.ptr 23 0),(5,W en.cu),(6,bO aI dz.1),(7,bO aI gN.1),(8,.own 101)] [(22,.slice 62 5 (ax eT bt.1.Links) (ax eT bt.1.Links).length true),(23,.c 28 [bO ec bt.1.bC,.own 22]),(101,.slice 3 1 (ax aI ew) 0 false)]<|A.seq<|bh [(1,aN (eG aI gN.1))] [] [(58,bO aI gN.1),(59,W gN.1.length),(60,W 0)]<|A.block<|asH 7 rfl λfA=>?_
 obtain⟨hJ,hK,hv,hw,hm⟩:=iM hm;refine asz (l:=gN.1) (hj:=0) (B:=hJ) (K:=hK) hm (λbk=>λnZ=>[(4,.ptr 23 0),(5,W en.cu),(6,bO aI dz.1),(7,bO aI gN.1),(8,bO aI nZ),(58,bO aI gN.1),(59,W gN.1.length),(60,W bk)]) (λbk=>λnZ=>[(22,.slice 62 5 (ax eT bt.1.Links) (ax eT bt.1.Links).length true),(23,.c 28 [bO ec bt.1.bC,.own 22])]) ?_ ?_ ?_
 ·exact kK [.c5 [101]] [8]
 ·rintro bk aJ c1 nZ hP cH hm;rw[hv]at hm;refine bh [] [] [(61,.d ((bk:Int)<gN.1.length))]<|A.seq<|cm (iC cH)<|A.skip<|A.seq<|A.block<|bh [(0,ds (ix aI (gT cH)))] [61] [(10,W aJ)] ?_
  obtain⟨hD,ka,hm⟩:=bw hm;exact dV [(2,cM (V1 ka) Um)] [8,10] [(8,bO aI hD)]<|dV [(0,aN (hY cH fA))] [60] [(60,W ((bk+1:Nat):Int))]<|Exists.intro hD (And.intro hm (kK [] [8]))
 rintro bk nZ hP gh hm;rw[hw]at hm;refine bh [] [] [(61,.d ((bk:Int)<gN.1.length))]<|A.seq<|ck (iB gh)<|A.exit<|ata bS 3 [4,5,6,7,8,9,10,11] [] [] (DG hm) Dc (by kernel_rfl) (by kernel_rfl) (by kernel_rfl) (by rintro _ _ ⟨rfl,_,_,rfl⟩;exact⟨rfl,rfl⟩) ?_
 rintro _ _ ⟨rfl,e0,hm,rfl⟩
 try dsimp only at hm
 refine⟨[(8,.al 9011)],[(4,.ptr 23 0),(5,W en.cu),(6,bO aI dz.1),(7,bO aI gN.1),(8,bO aI nZ),(12,W e0.2.1),(13,W e0.2.2)],[(22,.slice 62 5 (ax eT bt.1.Links) (ax eT bt.1.Links).length true),(23,.c 28 [bO ec bt.1.bC,.own 22])],by kernel_rfl,?_⟩;refine ata bS 3 [4,5,6,7,8,9,10,11] [] [] (DG hm) Dc (by kernel_rfl) (by kernel_rfl) (by kernel_rfl) (by rintro _ _ ⟨rfl,_,_,rfl⟩;exact⟨rfl,rfl⟩) ?_;rintro _ _ ⟨rfl,gn,hm,rfl⟩
 try dsimp only at hm
 refine⟨[(8,.al 9014)],[(4,.ptr 23 0),(5,W en.cu),(6,bO aI dz.1),(8,bO aI nZ),(12,W e0.2.1),(13,W e0.2.2),(15,W gn.2.1),(16,W gn.2.2)],[(22,.slice 62 5 (ax eT bt.1.Links) (ax eT bt.1.Links).length true),(23,.c 28 [bO ec bt.1.bC,.own 22])],by kernel_rfl,?_⟩;refine ata bS 3 [4,5,6,7,8,9,10,11] [] [] (DG hm) Dc (by kernel_rfl) (by kernel_rfl) (by kernel_rfl) (by rintro _ _ ⟨rfl,_,_,rfl⟩;exact⟨rfl,rfl⟩) ?_;rintro _ _ ⟨rfl,dX,hm,rfl⟩
 try dsimp only at hm
 refine⟨[(8,.al 34)],[(4,.ptr 23 0),(5,W en.cu),(6,bO aI dz.1),(8,bO aI nZ),(12,W e0.2.1),(13,W e0.2.2),(15,W gn.2.1),(16,W gn.2.2),(17,.ptr 34 0),(18,W dX.2.1),(19,W dX.2.2)],[(22,.slice 62 5 (ax eT bt.1.Links) (ax eT bt.1.Links).length true),(23,.c 28 [bO ec bt.1.bC,.own 22]),(34,.cells 36 (vY dX.1))],by kernel_rfl,?_⟩;refine A.seq<|bp [] [(4,.ptr 23 0),(5,W en.cu),(6,bO aI dz.1),(8,bO aI nZ),(12,W e0.2.1),(13,W e0.2.2),(15,W gn.2.1),(16,W gn.2.2),(17,.ptr 34 0),(18,W dX.2.1),(19,W dX.2.2),(93,.bool (!decide (dX.2.2=0)))] [(22,.slice 62 5 (ax eT bt.1.Links) (ax eT bt.1.Links).length true),(23,.c 28 [bO ec bt.1.bC,.own 22]),(34,.cells 36 (vY dX.1))] ?_
 rcases cD hm with⟨bl,hm⟩|⟨bl,hm⟩
 ·refine cm bl ?_;rcases cD hm with⟨b2,hm⟩|⟨b2,hm⟩
  ·rcases cD hm with⟨c9,hm⟩|⟨c9,hm⟩
   ·obtain⟨Aa,iy,hm⟩:=bw hm;refine bp [(2,aN (cg b2)),(5,aN (cg c9)),(11,cM (MJ iy) KU)] [(2,.bool Aa)] [] ?_;cases hm;exact A.ret de
   rcases cD hm with⟨e3,hm⟩|⟨e3,hm⟩
   ·obtain⟨rX,oT,hm⟩:=bw hm;refine bp [(2,aN (cg b2)),(5,aN (cg c9)),(10,aN (cg e3)),(11,cM (MJ oT) KU)] [(2,.bool rX)] [] ?_;cases hm;exact A.ret de
   refine bp [(2,aN (cg b2)),(5,aN (cg c9)),(10,aN (cg e3))] [(2,.bool false)] [] ?_;cases hm;exact A.ret de
  refine bp [(2,aN (cg b2))] [(2,.bool false)] [] ?_;cases hm;exact A.ret de
 refine ck bl<|A.skip<|A.seq<|asK [(4,.ptr 23 0),(5,W en.cu),(6,bO aI dz.1),(8,bO aI nZ),(17,.ptr 34 0),(129,.bool ((!decide (e0.2.2=0))||((!decide (gn.2.2=0))||((decide (dX.2.1<e0.2.1))||((decide (dX.2.1<gn.2.1))||(decide (aF (e0.2.1+gn.2.1)<dX.2.1)))))))] [(22,.slice 62 5 (ax eT bt.1.Links) (ax eT bt.1.Links).length true),(23,.c 28 [bO ec bt.1.bC,.own 22]),(34,.cells 36 (vY dX.1))] (λhk=>?_) ?_
 ·rcases j5 (!decide (e0.2.2=0))with gm|gm
  ·exact bp [(2,aN (cg gm)),(22,aN (p3 (q:=((!decide (gn.2.2=0))||((decide (dX.2.1<e0.2.1))||((decide (dX.2.1<gn.2.1))||(decide (aF (e0.2.1+gn.2.1)<dX.2.1)))))) gm))] _ _ hk
  rcases j5 (!decide (gn.2.2=0))with hT|hT
  ·exact bp [(2,aN (cg gm)),(6,aN (cg hT)),(22,aN ((p3 (q:=((decide (dX.2.1<e0.2.1))||((decide (dX.2.1<gn.2.1))||(decide (aF (e0.2.1+gn.2.1)<dX.2.1))))) hT).trans (i5 (q:=((!decide (gn.2.2=0))||((decide (dX.2.1<e0.2.1))||((decide (dX.2.1<gn.2.1))||(decide (aF (e0.2.1+gn.2.1)<dX.2.1)))))) gm)))] _ _ hk
  rcases j5 (decide (dX.2.1<e0.2.1))with jc|jc
  ·exact bp [(2,aN (cg gm)),(6,aN (cg hT)),(11,aN (cg jc)),(22,aN (((p3 (q:=((decide (dX.2.1<gn.2.1))||(decide (aF (e0.2.1+gn.2.1)<dX.2.1)))) jc).trans (i5 (q:=((decide (dX.2.1<e0.2.1))||((decide (dX.2.1<gn.2.1))||(decide (aF (e0.2.1+gn.2.1)<dX.2.1))))) hT)).trans (i5 (q:=((!decide (gn.2.2=0))||((decide (dX.2.1<e0.2.1))||((decide (dX.2.1<gn.2.1))||(decide (aF (e0.2.1+gn.2.1)<dX.2.1)))))) gm)))] _ _ hk
  rcases j5 (decide (dX.2.1<gn.2.1))with kN|kN
  ·exact bp [(2,aN (cg gm)),(6,aN (cg hT)),(11,aN (cg jc)),(16,aN (cg kN)),(22,aN ((((p3 (q:=decide (aF (e0.2.1+gn.2.1)<dX.2.1)) kN).trans (i5 (q:=((decide (dX.2.1<gn.2.1))||(decide (aF (e0.2.1+gn.2.1)<dX.2.1)))) jc)).trans (i5 (q:=((decide (dX.2.1<e0.2.1))||((decide (dX.2.1<gn.2.1))||(decide (aF (e0.2.1+gn.2.1)<dX.2.1))))) hT)).trans (i5 (q:=((!decide (gn.2.2=0))||((decide (dX.2.1<e0.2.1))||((decide (dX.2.1<gn.2.1))||(decide (aF (e0.2.1+gn.2.1)<dX.2.1)))))) gm)))] _ _ hk
  exact bp [(2,aN (cg gm)),(6,aN (cg hT)),(11,aN (cg jc)),(16,aN (cg kN)),(22,aN ((((i5 (q:=decide (aF (e0.2.1+gn.2.1)<dX.2.1)) kN).trans (i5 (q:=((decide (dX.2.1<gn.2.1))||(decide (aF (e0.2.1+gn.2.1)<dX.2.1)))) jc)).trans (i5 (q:=((decide (dX.2.1<e0.2.1))||((decide (dX.2.1<gn.2.1))||(decide (aF (e0.2.1+gn.2.1)<dX.2.1))))) hT)).trans (i5 (q:=((!decide (gn.2.2=0))||((decide (dX.2.1<e0.2.1))||((decide (dX.2.1<gn.2.1))||(decide (aF (e0.2.1+gn.2.1)<dX.2.1)))))) gm)))] _ _ hk
 rcases cD hm with⟨kX,hm⟩|⟨kX,hm⟩
 ·refine cm kX<|bp [] [(2,.bool false)] [] ?_
  cases hm;exact A.ret de
 refine ck kX<|A.skip<|A.seq<|bh [(2,aN (eG jX dX.1.Links))] [129] [(131,bO jX dX.1.Links),(132,W dX.1.Links.length),(133,W 0)]<|A.block<|asH 131 rfl λeS=>?_
 obtain⟨nO,km,n0,n3,hm⟩:=iM hm;refine asz (l:=dX.1.Links) (hj:=0) (B:=nO) (K:=km) hm (λdn=>λ()=>[(4,.ptr 23 0),(5,W en.cu),(6,bO aI dz.1),(8,bO aI nZ),(17,.ptr 34 0),(131,bO jX dX.1.Links),(132,W dX.1.Links.length),(133,W dn)]) (λdn=>λ()=>[(22,.slice 62 5 (ax eT bt.1.Links) (ax eT bt.1.Links).length true),(23,.c 28 [bO ec bt.1.bC,.own 22]),(34,.cells 36 (vY dX.1))]) ?_ ?_ ?_
 ·exact gw
 ·rintro dn e2 hR ⟨⟩ j2 gi hm;rw[n0]at hm;refine bh [] [] [(134,.d ((dn:Int)<dX.1.Links.length))]<|A.seq<|cm (iC gi)<|A.skip<|A.seq<|A.block<|fs [(0,ds (ix jX (gT gi))),(2,.al 50)] [134] [(21,.ptr 50 0)] [] [(50,.cells 84 (pT e2))]<|bh [] [] [(22,.bool true)]<|A.seq<|bh [(2,aN (eG jX dX.1.Links))] [] [(138,bO jX dX.1.Links),(139,W dX.1.Links.length),(140,W 0)]<|A.block<|asH 131 rfl λrI=>?_
  obtain⟨s9,tb,tC,tD,hm⟩:=iM hm;refine asz (l:=dX.1.Links) (hj:=0) (B:=s9) (K:=tb) hm (λeZ=>λxZ=>[(4,.ptr 23 0),(5,W en.cu),(6,bO aI dz.1),(8,bO aI nZ),(17,.ptr 34 0),(21,.ptr 50 0),(22,.bool xZ),(131,bO jX dX.1.Links),(132,W dX.1.Links.length),(133,W dn),(138,bO jX dX.1.Links),(139,W dX.1.Links.length),(140,W eZ)]) (λeZ=>λxZ=>[(22,.slice 62 5 (ax eT bt.1.Links) (ax eT bt.1.Links).length true),(23,.c 28 [bO ec bt.1.bC,.own 22]),(34,.cells 36 (vY dX.1)),(50,.cells 84 (pT e2))]) ?_ ?_ ?_
  ·exact gw
  ·rintro eZ dm lp xZ pM k9 hm;rw[tC]at hm;refine bh [] [] [(141,.d ((eZ:Int)<dX.1.Links.length))]<|A.seq<|cm (iC k9)<|A.skip<|A.seq<|A.block<|fs [(0,ds (ix jX (gT k9))),(2,.al 139)] [141] [(24,.ptr 139 0)] [] [(139,.cells 84 (pT dm))] ?_
   rcases cD hm with⟨l8,hm⟩|⟨l8,hm⟩
   ·exact jj [(1,aN (cg l8))] [22,24] [(22,.bool (!decide (dm.bz=e2.br)))] [139] []<|dV [(0,aN (hY k9 rI))] [140] [(140,W ((eZ+1:Nat):Int))]<|cR (!decide (dm.bz=e2.br)) hm
   exact jj [(1,aN (cg l8))] [22,24] [(22,.bool false)] [139] []<|dV [(0,aN (hY k9 rI))] [140] [(140,W ((eZ+1:Nat):Int))]<|cR false hm
  rintro eZ xZ pM mY hm;rw[tD]at hm;refine bh [] [] [(141,.d ((eZ:Int)<dX.1.Links.length))]<|A.seq<|ck (iB mY)<|A.exit ?_
  obtain⟨eC,j0,hm⟩:=je hm;refine A.J (J:=eC) (r:=r) (λfT=>[(4,.ptr 23 0),(5,W en.cu),(6,bO aI dz.1),(8,bO aI nZ),(17,.ptr 34 0),(131,bO jX dX.1.Links),(132,W dX.1.Links.length),(133,W dn),(160,.bool fT)]) (λfT=>[(22,.slice 62 5 (ax eT bt.1.Links) (ax eT bt.1.Links).length true),(23,.c 28 [bO ec bt.1.bC,.own 22]),(34,.cells 36 (vY dX.1))]) ?_ ?_
  ·rcases cD hm with⟨tg,hm⟩|⟨tg,hm⟩
   ·obtain⟨x3,tv,hm⟩:=bw hm;exact jj [(1,aN (cg tg)),(5,cM (anA tv) aiB)] [21,22,138,139,140,141] [(160,.bool (!x3))] [50] []<|cR (!x3) hm
   exact jj [(1,aN (cg tg))] [21,22,138,139,140,141] [(160,.bool false)] [50] []<|cR false hm
  rintro fT hm;rw[j0]at hm;rcases cD hm with⟨rC,hm⟩|⟨rC,hm⟩
  ·refine cm rC<|bp [] [(2,.bool false)] [] ?_
   cases hm;exact A.ret de
  exact ck rC<|A.skip<|dV [(0,aN (hY gi eS))] [133,160] [(133,W ((dn+1:Nat):Int))]<|cR () hm
 rintro dn ⟨⟩ j2 kU hm;rw[n3]at hm;refine bh [] [] [(134,.d ((dn:Int)<dX.1.Links.length))]<|A.seq<|ck (iB kU)<|A.exit ?_
 obtain⟨fZ,j1,hm⟩:=je hm;refine A.J (J:=fZ) (r:=r) (λ()=>[]) (λ()=>[]) ?_ ?_
 ·refine fs [(1,aN (eG aI dz.1))] [8,17,131,132,133,134] [(164,.d (0<(dz.1.length:Int)))] [34] [] ?_;rcases cD hm with⟨p6,hm⟩|⟨p6,hm⟩
  ·refine cm p6 ?_;obtain⟨gr,tw,hm⟩:=bw hm;refine bh [(1,iA (sl aI tw))] [164] [(25,bO aI gr)]<|ata bS 3 [4,5,6,7,8,9,10,11] [] [] (DG hm) Dc (by kernel_rfl) (by kernel_rfl) (by kernel_rfl) (by rintro _ _ ⟨rfl,_,_,rfl⟩;exact⟨rfl,rfl⟩) ?_
   rintro _ _ ⟨rfl,iG,hm,rfl⟩
   try dsimp only at hm
   refine⟨[(8,.al 9026)],[(4,.ptr 23 0),(5,W en.cu),(6,bO aI dz.1),(25,bO aI gr),(27,W iG.2.1),(28,W iG.2.2)],[(22,.slice 62 5 (ax eT bt.1.Links) (ax eT bt.1.Links).length true),(23,.c 28 [bO ec bt.1.bC,.own 22])],by kernel_rfl,?_⟩;obtain⟨rY,qf,hm⟩:=bw hm;refine bp [(3,cM (anP qf) aiC)] [(4,.ptr 23 0),(5,W en.cu),(6,bO aI dz.1),(25,bO aI gr),(27,W iG.2.1),(28,W iG.2.2),(29,bO g1 rY.1),(30,W rY.2)] [(22,.slice 62 5 (ax eT bt.1.Links) (ax eT bt.1.Links).length true),(23,.c 28 [bO ec bt.1.bC,.own 22])] ?_;obtain⟨iH,yM,hm⟩:=bw hm;refine bh [(4,cM (VS yM) Un)] [25,29] [(31,W iH.1),(32,W iH.2)] ?_;obtain⟨er,xh,hm⟩:=bw hm;obtain⟨fJ,yN,hm⟩:=bw hm;refine fs [(3,ds (ix aI xh)),(5,cM (aoa yN) aiD)] [4,5,6] [(33,W fJ.1),(34,.bool fJ.2)] [22,23] []<|asK [(222,.bool ((!decide (iG.2.2=0))||((!decide (rY.2=0))||((!decide (iH.2=0))||((!fJ.2)||((!decide (iG.2.1=fJ.1))||(!decide (iH.1=fJ.1))))))))] [] (λhk=>?_) ?_
   ·rcases j5 (!decide (iG.2.2=0))with lu|lu
    ·exact bp [(2,aN (cg lu)),(23,aN (p3 (q:=((!decide (rY.2=0))||((!decide (iH.2=0))||((!fJ.2)||((!decide (iG.2.1=fJ.1))||(!decide (iH.1=fJ.1))))))) lu))] _ _ hk
    rcases j5 (!decide (rY.2=0))with nS|nS
    ·exact bp [(2,aN (cg lu)),(6,aN (cg nS)),(23,aN ((p3 (q:=((!decide (iH.2=0))||((!fJ.2)||((!decide (iG.2.1=fJ.1))||(!decide (iH.1=fJ.1)))))) nS).trans (i5 (q:=((!decide (rY.2=0))||((!decide (iH.2=0))||((!fJ.2)||((!decide (iG.2.1=fJ.1))||(!decide (iH.1=fJ.1))))))) lu)))] _ _ hk
    rcases j5 (!decide (iH.2=0))with p7|p7
    ·exact bp [(2,aN (cg lu)),(6,aN (cg nS)),(10,aN (cg p7)),(23,aN (((p3 (q:=((!fJ.2)||((!decide (iG.2.1=fJ.1))||(!decide (iH.1=fJ.1))))) p7).trans (i5 (q:=((!decide (iH.2=0))||((!fJ.2)||((!decide (iG.2.1=fJ.1))||(!decide (iH.1=fJ.1)))))) nS)).trans (i5 (q:=((!decide (rY.2=0))||((!decide (iH.2=0))||((!fJ.2)||((!decide (iG.2.1=fJ.1))||(!decide (iH.1=fJ.1))))))) lu)))] _ _ hk
    rcases j5 (!fJ.2)with th|th
    ·exact bp [(2,aN (cg lu)),(6,aN (cg nS)),(10,aN (cg p7)),(14,aN (cg th)),(23,aN ((((p3 (q:=((!decide (iG.2.1=fJ.1))||(!decide (iH.1=fJ.1)))) th).trans (i5 (q:=((!fJ.2)||((!decide (iG.2.1=fJ.1))||(!decide (iH.1=fJ.1))))) p7)).trans (i5 (q:=((!decide (iH.2=0))||((!fJ.2)||((!decide (iG.2.1=fJ.1))||(!decide (iH.1=fJ.1)))))) nS)).trans (i5 (q:=((!decide (rY.2=0))||((!decide (iH.2=0))||((!fJ.2)||((!decide (iG.2.1=fJ.1))||(!decide (iH.1=fJ.1))))))) lu)))] _ _ hk
    rcases j5 (!decide (iG.2.1=fJ.1))with DA|DA
    ·exact bp [(2,aN (cg lu)),(6,aN (cg nS)),(10,aN (cg p7)),(14,aN (cg th)),(19,aN (cg DA)),(23,aN (((((p3 (q:=!decide (iH.1=fJ.1)) DA).trans (i5 (q:=((!decide (iG.2.1=fJ.1))||(!decide (iH.1=fJ.1)))) th)).trans (i5 (q:=((!fJ.2)||((!decide (iG.2.1=fJ.1))||(!decide (iH.1=fJ.1))))) p7)).trans (i5 (q:=((!decide (iH.2=0))||((!fJ.2)||((!decide (iG.2.1=fJ.1))||(!decide (iH.1=fJ.1)))))) nS)).trans (i5 (q:=((!decide (rY.2=0))||((!decide (iH.2=0))||((!fJ.2)||((!decide (iG.2.1=fJ.1))||(!decide (iH.1=fJ.1))))))) lu)))] _ _ hk
    exact bp [(2,aN (cg lu)),(6,aN (cg nS)),(10,aN (cg p7)),(14,aN (cg th)),(19,aN (cg DA)),(23,aN (((((i5 (q:=!decide (iH.1=fJ.1)) DA).trans (i5 (q:=((!decide (iG.2.1=fJ.1))||(!decide (iH.1=fJ.1)))) th)).trans (i5 (q:=((!fJ.2)||((!decide (iG.2.1=fJ.1))||(!decide (iH.1=fJ.1))))) p7)).trans (i5 (q:=((!decide (iH.2=0))||((!fJ.2)||((!decide (iG.2.1=fJ.1))||(!decide (iH.1=fJ.1)))))) nS)).trans (i5 (q:=((!decide (rY.2=0))||((!decide (iH.2=0))||((!fJ.2)||((!decide (iG.2.1=fJ.1))||(!decide (iH.1=fJ.1))))))) lu)))] _ _ hk
   rcases cD hm with⟨K5,hm⟩|⟨K5,hm⟩
   ·refine cm K5<|bp [] [(2,.bool false)] [] ?_
    cases hm;exact A.ret de
   exact ck K5<|A.skip<|cR () hm
  exact ck p6<|A.skip<|cR () hm
 rintro⟨⟩ hm;rw[j1]at hm;obtain⟨Ks,AW,hm⟩:=bw hm;refine bp [(0,cM (MJ AW) KU)] [(2,.bool Ks)] [] ?_;cases hm;exact A.ret de
end
end Go.Proofs.YtmnbolcmepihlaaGreat
