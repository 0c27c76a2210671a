/- Several texts in one. No condition but those that stand in each. -/
import Derived.Test.YtmnbolcmepihlaaGreatZ3
import Derived.RangeFuncBox
import Derived.RangeFuncLeaves
import Derived.Shelf.Abstract
import Derived.WalkKit
import Derived.OwnWalkIn
import Derived.TacticsInMore
import Derived.LoopNIn
import Derived.LoopIn
import Derived.OrdersHeld
namespace Go.Proofs.YtmnbolcmepihlaaGreat
section
open Go Go.Proofs.Tryz List
set_option maxRecDepth 100000
set_option linter.all false
variable {t:bu}
def asU{d:bY}{r:Int}(hm:Al t d=some r):dn prog 151 [] [.agg (bV t),.agg (hq d)] (U r):=by
 refine dE func151 rfl rfl ?_;unfold Al at hm;refine aO [(0,.al 43),(1,.al 44)] [(2,.ptr 43 0),(3,.ptr 44 0)] [(43,.cells 28 (bV t)),(44,.cells 52 (hq d))]<|A.seq<|aH [(2,ax (cb az d.dM))] [] [(11,.d (6<(d.dM.length:Int)))] ?_
 rcases bL hm with⟨aN,hm⟩|⟨aN,hm⟩
 ·refine bz aN<|aO [] [(4,U 3)] [] ?_
  cases hm;exact A.ret bG
 refine bx aN<|A.skip<|A.seq<|aH [] [11] [(5,U 1)]<|A.block<|axO 3 1 rfl rfl rfl λdX=>?_
 obtain⟨eT,eU,eW,eO,hm⟩:=fF hm;refine axq (l:=d.dM) (e3:=1) (B:=eT) (K:=eU) hm (λau=>λ()=>[(2,.ptr 43 0),(3,.ptr 44 0),(5,U au)]) (λau=>λ()=>[(43,.cells 28 (bV t)),(44,.cells 52 (hq d))]) ?_ ?_ ?_
 ·exact fm
 ·rintro au e1 b3 ⟨⟩ eX bF hm;rw[eW]at hm;refine A.seq<|aH [(3,ax (cb az d.dM))] [] [(16,.d ((au:Int)<d.dM.length))] ?_
  refine bz (fC bF)<|A.skip<|A.seq<|A.block ?_
  obtain⟨cr,h1,hm⟩:=aU hm;refine aH [(4,b7 (ix az h1)),(9,b7 (ix az (eM bF)))] [16] [(30,.d (e1≤cr))] ?_;rcases bL hm with⟨bw,hm⟩|⟨bw,hm⟩
  ·refine bz bw<|aO [] [(4,U 25)] [] ?_
   cases hm;exact A.ret bG
  exact bx bw<|A.skip<|cB [(1,ax (fk bF dX))] [5,30] [(5,U ((au+1:Nat):Int))]<|ck () hm
 rintro au ⟨⟩ eX er hm;rw[eO]at hm;refine A.seq<|aH [(3,ax (cb az d.dM))] [] [(16,.d ((au:Int)<d.dM.length))] ?_
 refine bx (fB er)<|A.exit<|A.seq ?_
 obtain⟨dk,D,hm⟩:=aU hm;refine c0 [(2,.al 151033),(5,m4 75 (ap az (bytes:=8) (by decide) D)),(6,ax (cb az dk))] [5,16] [(36,.own 75),(37,U dk.length),(38,U 0)] [] [(75,.slice 3 1 (aM az dk) 0 false)]<|A.block<|ays 36 rfl rfl λgr=>?_
 obtain⟨jQ,iH,jZ,j0,hm⟩:=fF hm;refine axq (l:=dk) (e3:=0) (B:=jQ) (K:=iH) hm (λbN=>λ()=>[(2,.ptr 43 0),(3,.ptr 44 0),(36,.own 75),(37,U dk.length),(38,U bN)]) (λbN=>λ()=>[(43,.cells 28 (bV t)),(44,.cells 52 (hq d)),(75,.slice 3 1 (aM az dk) 0 false)]) ?_ ?_ ?_
 ·exact fm
 ·rintro bN e2 gX ⟨⟩ h6 eu hm;rw[jZ]at hm;refine aH [] [] [(39,.d ((bN:Int)<dk.length))]<|A.seq<|bz (fC eu)<|A.skip<|A.seq<|A.block<|aH [(0,b7 (ix az (eM eu))),(1,lX 75 0 (ix az (eM eu)))] [39] [(7,U e2)] ?_
  obtain⟨aJ,aj,hm⟩:=aU hm;refine aH [(2,bI (aab aj) XY)] [7] [(45,.bool (!aJ))] ?_;rcases bL hm with⟨cg,hm⟩|⟨cg,hm⟩
  ·refine bz cg<|aO [] [(4,U 4)] [] ?_
   cases hm;exact A.ret bG
  exact bx cg<|A.skip<|cB [(0,ax (fk eu gr))] [38,45] [(38,U ((bN+1:Nat):Int))]<|ck () hm
 rintro bN ⟨⟩ h6 iR hm;rw[j0]at hm;refine aH [] [] [(39,.d ((bN:Int)<dk.length))]<|A.seq<|bx (fB iR)<|A.exit<|A.seq<|axy [(54,.bool ((decide (d.de<1))||(decide (1000<d.de))))] [] (λhk=>?_) ?_
 ·rcases kF (decide (d.de<1))with dR|dR
  ·exact aO [(3,ax (b0 dR)),(7,ax (wA (q:=decide (1000<d.de)) dR))] _ _ hk
  exact aO [(3,ax (b0 dR)),(7,ax (tV (q:=decide (1000<d.de)) dR))] _ _ hk
 rcases bL hm with⟨eV,hm⟩|⟨eV,hm⟩
 ·refine bz eV<|aO [] [(4,U 2)] [] ?_
  cases hm;exact A.ret bG
 refine bx eV<|A.skip<|aO [] [(4,U 0)] [] ?_
 cases hm;exact A.ret bG
def F2{b9:Bk}{r:Int}(hm:ux t b9=some r):dn prog 83 [] [.agg (bV t),av cm b9] (U r):=by
 refine dE func83 rfl rfl ?_;unfold ux at hm;refine aO [(0,.al 58)] [(1,av cm b9),(2,.ptr 58 0)] [(58,.cells 28 (bV t))]<|A.seq ?_
 obtain⟨aJ,h1,hm⟩:=aU hm;refine aH [(1,bI (QC h1) N9)] [] [(10,.bool (!decide (aJ=0)))] ?_;rcases bL hm with⟨aN,hm⟩|⟨aN,hm⟩
 ·refine bz aN<|aO [] [(4,U 1)] [] ?_
  cases hm;exact A.ret bG
 refine bx aN<|A.skip<|A.seq<|aH [(1,ax (cb cm b9))] [10] [(13,.d (12<(b9.length:Int)))] ?_
 rcases bL hm with⟨bw,hm⟩|⟨bw,hm⟩
 ·refine bz bw<|aO [] [(4,U 3)] [] ?_
  cases hm;exact A.ret bG
 refine bx bw<|A.skip<|A.seq<|aH [(1,ax (cb cm b9))] [1,13] [(14,av cm b9),(15,U b9.length),(16,U 0)]<|A.block<|axt 14 rfl λdX=>?_
 obtain⟨eT,eU,eW,eO,hm⟩:=fF hm;refine axq (l:=b9) (e3:=0) (B:=eT) (K:=eU) hm (λau=>λ()=>[(2,.ptr 58 0),(14,av cm b9),(15,U b9.length),(16,U au)]) (λau=>λ()=>[(58,.cells 28 (bV t))]) ?_ ?_ ?_
 ·exact fm
 ·rintro au e1 b3 ⟨⟩ eX bF hm;rw[eW]at hm;refine aH [] [] [(17,.d ((au:Int)<b9.length))]<|A.seq<|bz (fC bF)<|A.skip<|A.seq<|A.block<|c0 [(0,b7 (ix cm (eM bF))),(2,.al 213)] [17] [(6,.ptr 213 0)] [] [(213,.cells 52 (hq e1))] ?_
  obtain⟨bq,D,hm⟩:=aU hm;refine c0 [(2,bI (asU D) alf)] [6] [(7,U bq)] [213] []<|aH [] [] [(24,.bool (!decide (bq=0)))] ?_
  rcases bL hm with⟨cg,hm⟩|⟨cg,hm⟩
  ·refine bz cg<|aO [] [(4,U bq)] [] ?_
   cases hm;exact A.ret bG
  exact bx cg<|A.skip<|cB [(0,ax (fk bF dX))] [16,7,24] [(16,U ((au+1:Nat):Int))]<|ck () hm
 rintro au ⟨⟩ eX er hm;rw[eO]at hm;refine aH [] [] [(17,.d ((au:Int)<b9.length))]<|A.seq<|bx (fB er)<|A.exit<|aO [] [(4,U 0)] [] ?_
 cases hm;exact A.ret bG
def SE:l3 prog 126 84 3 (eD bH) dj:=⟨underlying126,λ_=>rfl,λ_=>rfl,⟨_,underlying84,λ_ _=>rfl⟩,λa b w=>Cn (by kernel_rfl) (by kernel_rfl) (D4 a.bh b.bh a.aS b.aS w),λe a w=>by kernel_rfl,λa b h=>by cases a;cases b;simpa [dj]using h,λa=>by simp[eD,bH,valOf,wm,Instr.sameBits]⟩
def QE{r:(List (aQ×Int))}(hm:Am t=some r):gZ prog 84 [] [.agg (bV t)] (λa aL=>a=.ep 21∧aL=[(21,.map 84 3 (dV (eD bH) (dB .i64) r))]):=by
 refine dE func84 rfl rfl ?_;unfold Am at hm;refine aO [(0,.al 147)] [(1,.ptr 147 0)] [(147,.cells 28 (bV t))]<|c0 [(0,PI 64 84 3)] [] [(3,.ep 64)] [] [(64,.map 84 3 (dV (eD bH) (dB .i64) []))]<|A.seq<|c0 [(2,ax (cb ff t.Links))] [1] [(8,av ff t.Links),(9,U t.Links.length),(10,U 0)] [147] []<|A.block<|axt 8 rfl λdX=>?_
 obtain⟨eT,eU,eW,eO,hm⟩:=fF hm;refine axq (l:=t.Links) (e3:=0) (B:=eT) (K:=eU) hm (λau=>λbJ=>[(3,.ep 64),(8,av ff t.Links),(9,U t.Links.length),(10,U au)]) (λau=>λbJ=>[(64,.map 84 3 (dV (eD bH) (dB .i64) bJ))]) ?_ ?_ ?_
 ·exact fm
 ·rintro au e1 b3 bJ eX bF hm;rw[eW]at hm;exact aH [] [] [(11,.d ((au:Int)<t.Links.length))]<|A.seq<|bz (fC bF)<|A.skip<|A.seq<|A.block<|c0 [(0,b7 (ix ff (eM bF))),(2,.al 214)] [11] [(5,.ptr 214 0)] [] [(214,.cells 62 (ga e1))]<|hr [(16,Y0 bJ (aQ.mk e1.A e1.B) (dB .i64) e1.lS SE rfl),(17,Y0 (gq dj bJ (aQ.mk e1.A e1.B) e1.lS) (aQ.mk e1.B e1.A) (dB .i64) e1.lS SE rfl)] [5] [] [64,214] [(64,.map 84 3 (dV (eD bH) (dB .i64) (gq dj (gq dj bJ (aQ.mk e1.A e1.B) e1.lS) (aQ.mk e1.B e1.A) e1.lS)))]<|cB [(0,ax (fk bF dX))] [10] [(10,U ((au+1:Nat):Int))]<|ck (gq dj (gq dj bJ (aQ.mk e1.A e1.B) e1.lS) (aQ.mk e1.B e1.A) e1.lS) hm
 rintro au bJ eX er hm;rw[eO]at hm;refine aH [] [] [(11,.d ((au:Int)<t.Links.length))]<|A.seq<|bx (fB er)<|A.exit<|aH [] [3,8,9,10,11] [(2,.ep 64)]<|A.ret ?_
 obtain rfl:=nU hm;exact axv cQ [.ja 64 21] rfl (by kernel_rfl)
def apS{fE:yO}{E8:bW→ko}{zn:Nat}{BM:List W}(NK:cS prog zn)(NL:∀(j6:bW) (q:Bool),E8 j6=some q→dn prog zn [] ([.agg (rM j6)]++BM) (.bool q)){r:(yO)}(hm:E7 fE E8=some r):gZ prog 152 [(77,.slice 175 3 (aM fl fE) 0 false)] [.own 77,.h9 zn BM] (λa aL=>a=.own 107∧aL=[(107,.slice 175 3 (aM fl r) 0 false)]):=by
 refine dE func152 rfl rfl ?_;unfold E7 at hm;refine aO [] [(0,.own 77),(1,.h9 zn BM)] [(77,.slice 175 3 (aM fl fE) 0 false)] ?_;obtain⟨aJ,h1,hm⟩:=aU hm;refine aH [(2,hle [77] (ap9 (p6:=NK) (p5:=NL) h1) alq)] [] [(5,U aJ)]<|A.seq<|aH [] [] [(12,.d (aJ=(-1:Int)))] ?_
 rcases bL hm with⟨aN,hm⟩|⟨aN,hm⟩
 ·refine bz aN<|aH [] [0,1,5,12] [(4,.own 77)]<|A.ret ?_
  obtain rfl:=nU hm;exact axv cQ [.rn 77 107] rfl (by kernel_rfl)
 refine bx aN<|A.skip<|A.seq<|aH [] [12] [(6,U (bE (aJ+1)))]<|A.block ?_
 obtain⟨lQ,iE,lT,hm⟩:=n1 hm;refine axJ (F:=lQ) hm (λ(oL,cI,gJ)=>[(0,.own 60),(1,.h9 zn BM),(5,U cI),(6,U gJ)]) (λ(oL,cI,gJ)=>[(60,.slice 175 3 (aM fl oL) 0 false)]) ?_ ?_
 ·exact gM [.rn 77 60] []
 rintro b3 ⟨oL,cI,gJ⟩ hm;rw[lT]at hm;refine A.seq<|aH [(2,ax (cb fl oL))] [] [(19,.d (gJ<(oL.length:Int)))] ?_
 rcases bL hm with⟨bw,hm⟩|⟨bw,hm⟩
 ·refine bz bw<|A.skip ?_
  obtain⟨dx,iu,hm⟩:=h2 hm;refine A.J (J:=dx) (r:=r) (λ(Ce,oE)=>[(0,.own 60),(1,.h9 zn BM),(5,U oE),(6,U gJ)]) (λ(Ce,oE)=>[(60,.slice 175 3 (aM fl Ce) 0 false)]) ?_ ?_
  ·refine A.block ?_;obtain⟨cr,D,hm⟩:=aU hm;refine c0 [(2,b7 (ix fl D)),(3,lX 60 0 (ix fl D)),(4,.al 137)] [19] [(7,.ptr 137 0)] [] [(137,.cells 175 (rM cr))] ?_;obtain⟨bq,aj,hm⟩:=aU hm;refine aH [(2,qb (NL _ _ aj) NK)] [] [(29,.bool (!bq))] ?_;rcases bL hm with⟨cg,hm⟩|⟨cg,hm⟩
   ·refine bz cg ?_;obtain⟨e6,aV,hm⟩:=aU hm;obtain⟨dk,b4,hm⟩:=aU hm;exact c0 [(3,b7 (ix fl aV)),(4,tF 60 (fM fl (off:=0) (ca:=(rM cr)) aV b4 rfl) (v7 aV).1.1)] [7,29] [] [60,137] [(60,.slice 175 3 (aM fl dk) 0 false)]<|cB [] [5] [(5,U (bE (cI+1)))]<|ck (dk,bE (cI+1)) hm
   exact bx cg<|A.skip<|ck (oL,cI) hm
  rintro⟨Ce,oE⟩ hm;rw[iu]at hm;exact cB [] [6] [(6,U (bE (gJ+1)))]<|ck (Ce,oE,bE (gJ+1)) hm
 refine bx bw<|A.exit ?_
 obtain⟨dz,hm⟩:=mD hm;have dz:=of_decide_eq_true dz;refine A.seq (azW (T:=111) 0 5 36 37 38 175 3 60 (zr:=fl.enc (bW.mk (aQ.mk (0:Int) (0:Int)) (0:Int))) ⟨rfl,rfl,rfl⟩ ⟨rfl,rfl,rfl⟩ ⟨rfl,rfl,rfl⟩ ⟨rfl,rfl,rfl⟩ ⟨Nat.le_of_ble_eq_true rfl,Nat.le_of_ble_eq_true rfl,Nat.le_of_ble_eq_true rfl⟩ (by decide) Nz zeroValue175 (by decide) (λI=>by show cD I [U (((bW.mk (aQ.mk (0:Int) (0:Int)) (0:Int)).Hop).bh),U (((bW.mk (aQ.mk (0:Int) (0:Int)) (0:Int)).Hop).aS),U ((bW.mk (aQ.mk (0:Int) (0:Int)) (0:Int)).hM)] _;simp only[cD,bk];exact⟨_,_,rfl,rfl,⟨_,_,rfl,rfl,⟨_,_,rfl,rfl,rfl⟩⟩⟩) rfl rfl rfl rfl (aks fl dz) ⟨rfl,rfl,rfl⟩ (ah3 fl oL cI.toNat (bW.mk (aQ.mk (0:Int) (0:Int)) (0:Int))) ?_);show aF _ _ _ [(0,.own 60),(1,.h9 zn BM),(5,U cI),(6,U gJ),(19,.d (gJ<(oL.length:Int)))] [(60,.slice 175 3 (aM fl (oL.take cI.toNat++List.replicate (oL.length-cI.toNat) (bW.mk (aQ.mk (0:Int) (0:Int)) (0:Int)))) 0 false)];obtain⟨iD,fz,hm⟩:=aU hm;refine aO [(2,an7 159 Nz (sl fl fz))] [(4,.own 159)] [(159,.slice 175 3 (aM fl iD) 0 false)]<|A.ret ?_
 obtain rfl:=nU hm;exact axv cQ [.ja 159 107] rfl (by kernel_rfl)
def ab8:l3 prog 126 84 3 (eD bH) dj:=⟨underlying126,λ_=>rfl,λ_=>rfl,⟨_,underlying84,λ_ _=>rfl⟩,λa b w=>Cn (by kernel_rfl) (by kernel_rfl) (D4 a.bh b.bh a.aS b.aS w),λe a w=>by kernel_rfl,λa b h=>by cases a;cases b;simpa [dj]using h,λa=>by simp[eD,bH,valOf,wm,Instr.sameBits]⟩
def aqE{a:bW}{nY:List (aQ×Int)}{Ci:Int}{r:Bool}(hm:JF a nY Ci=some r):dn prog 153 [] [.agg (rM a),.gP [.ec (dV (eD bH) (dB .i64) nY)],.gP [U Ci]] (.bool r):=by
 refine dE func153 rfl rfl ?_;unfold JF at hm;refine aO [(0,.al 182)] [(1,.gP [.ec (dV (eD bH) (dB .i64) nY)]),(2,.gP [U Ci]),(3,.ptr 182 0)] [(182,.cells 175 (rM a))]<|aO [(3,IW nY a.Hop (dB .i64) (0:Int) ab8 (HK (k:=.i64) zeroValue3))] [(4,.d (((dL dj nY a.Hop).getD (0:Int))<Ci))] [] ?_
 cases hm;exact A.ret bG
variable {iN:Int}{lD:List (aQ×Int)}
def Qm{r:(yO)}(hm:Ae lD t iN=some r):gZ prog 85 [] [.ec (dV (eD bH) (dB .i64) lD),.agg (bV t),U iN] (λa aL=>a=.own 125∧aL=[(125,.slice 175 3 (aM fl r) 0 false)]):=by
 refine dE func85 rfl rfl ?_;unfold Ae at hm;refine aO [(0,.al 117),(1,.al 118),(2,.al 105)] [(3,.ptr 117 0),(4,.ptr 118 0),(5,.ptr 105 0)] [(117,.c 126 [.ec (dV (eD bH) (dB .i64) lD)]),(118,.cells 28 (bV t)),(105,.c 3 [U iN])]<|axB ((dr.go (eB:=[(3,.ptr 117 0),(4,.ptr 118 0),(5,.ptr 105 0)]) (σ2:=[(117,.c 126 [.ec (dV (eD bH) (dB .i64) lD)]),(118,.cells 28 (bV t)),(105,.c 3 [U iN])]) [.sc 117 []] [] (by kernel_rfl)).trans (ayn (T:=126) (cs:=[.ec (dV (eD bH) (dB .i64) lD)]) 3 117 (by kernel_rfl) (by kernel_rfl) (by kernel_rfl)))<|axB ((dr.go (eB:=[(4,.ptr 118 0),(5,.ptr 105 0),(3,.gP [.ec (dV (eD bH) (dB .i64) lD)])]) (σ2:=[(118,.cells 28 (bV t)),(105,.c 3 [U iN])]) [.sc 105 []] [] (by kernel_rfl)).trans (ayn (T:=3) (cs:=[U iN]) 5 105 (by kernel_rfl) (by kernel_rfl) (by kernel_rfl))) ?_
 obtain⟨aJ,h1,hm⟩:=aU hm;obtain⟨bq,D,hm⟩:=aU hm;refine aO [(1,gW [141] (abT h1) amI),(2,YF),(3,gW [107] (sg.at [(77,141)] (apS (zn:=153) (BM:=[.gP [.ec (dV (eD bH) (dB .i64) lD)],.gP [U iN]]) (NK:=alh) (NL:=λ_ _ h=>aqE h) D)) alg)] [(6,.own 107)] [(107,.slice 175 3 (aM fl bq) 0 false)]<|A.ret ?_
 obtain rfl:=nU hm;exact axv cQ [.ja 107 125] rfl (by kernel_rfl)
def KQ:l3 prog 126 84 3 (eD bH) dj:=⟨underlying126,λ_=>rfl,λ_=>rfl,⟨_,underlying84,λ_ _=>rfl⟩,λa b w=>Cn (by kernel_rfl) (by kernel_rfl) (D4 a.bh b.bh a.aS b.aS w),λe a w=>by kernel_rfl,λa b h=>by cases a;cases b;simpa [dj]using h,λa=>by simp[eD,bH,valOf,wm,Instr.sameBits]⟩
def JD{en:bR}{r:Bool×(List (aQ×Int))}(hm:p3 lD en iN=some r):gZ prog 86 [(540000860,.map 84 3 (dV (eD bH) (dB .i64) lD))] [.ep 540000860,.agg (gL en),U iN] (λa aL=>a=.bool r.1∧aL=[(540000860,.map 84 3 (dV (eD bH) (dB .i64) r.2))]):=by
 refine dE func86 rfl rfl ?_;unfold p3 at hm;refine aO [(0,.al 148)] [(0,.ep 540000860),(2,U iN),(4,.ptr 148 0)] [(540000860,.map 84 3 (dV (eD bH) (dB .i64) lD)),(148,.cells 36 (gL en))]<|aH [] [] [(7,.bool true)]<|A.seq<|c0 [(2,ax (cb bH en.Links))] [4] [(11,av bH en.Links),(12,U en.Links.length),(13,U 0)] [148] []<|A.block<|axt 11 rfl λdX=>?_
 obtain⟨eT,eU,eW,eO,hm⟩:=fF hm;refine axq (l:=en.Links) (e3:=0) (B:=eT) (K:=eU) hm (λau=>λ(wq,bJ)=>[(0,.ep 540000860),(2,U iN),(7,.bool wq),(11,av bH en.Links),(12,U en.Links.length),(13,U au)]) (λau=>λ(wq,bJ)=>[(540000860,.map 84 3 (dV (eD bH) (dB .i64) bJ))]) ?_ ?_ ?_
 ·exact fm
 ·rintro au e1 b3 ⟨wq,bJ⟩ eX bF hm;rw[eW]at hm;refine aH [] [] [(14,.d ((au:Int)<en.Links.length))]<|A.seq<|bz (fC bF)<|A.skip<|A.seq<|A.block<|c0 [(0,b7 (ix bH (eM bF))),(2,.al 149)] [14] [(9,.ptr 149 0)] [] [(149,.cells 84 (i3 e1))]<|ayi (d:=540000860) rfl λCo OT=>?_
  obtain⟨h1,hm⟩:=mD hm;refine aO [(2,IW bJ e1 (dB .i64) (0:Int) KQ (HK (k:=.i64) zeroValue3)),(5,Xx bJ e1 (dB .i64) ((dL dj bJ e1).getD (0:Int)) KQ (UQ h1)),(7,Xy Co OT bJ e1 (dB .i64) (bE (((dL dj bJ e1).getD (0:Int))-iN)) KQ rfl h1)] [(0,.ep 540000860),(2,U iN),(7,.bool wq),(11,av bH en.Links),(12,U en.Links.length),(13,U au),(9,.ptr 149 0)] [(540000860,.map 84 3 (dV (eD bH) (dB .i64) (gq dj bJ e1 (bE (((dL dj bJ e1).getD (0:Int))-iN))))),(149,.cells 84 (i3 e1))] ?_;rcases bL hm with⟨aN,hm⟩|⟨aN,hm⟩
  ·exact hr [(1,ax (b0 aN)),(4,aoL (gq dj bJ e1 (bE (((dL dj bJ e1).getD (0:Int))-iN))) e1 (dB .i64) (0:Int) KQ (HK (k:=.i64) zeroValue3))] [7,9] [(7,.d (0≤((dL dj (gq dj bJ e1 (bE (((dL dj bJ e1).getD (0:Int))-iN))) e1).getD (0:Int))))] [149] []<|cB [(0,ax (fk bF dX))] [13] [(13,U ((au+1:Nat):Int))]<|ck (decide (0≤((dL dj (gq dj bJ e1 (bE (((dL dj bJ e1).getD (0:Int))-iN))) e1).getD (0:Int))),gq dj bJ e1 (bE (((dL dj bJ e1).getD (0:Int))-iN))) hm
  exact hr [(1,ax (b0 aN))] [7,9] [(7,.bool false)] [149] []<|cB [(0,ax (fk bF dX))] [13] [(13,U ((au+1:Nat):Int))]<|ck (false,gq dj bJ e1 (bE (((dL dj bJ e1).getD (0:Int))-iN))) hm
 rintro au ⟨wq,bJ⟩ eX er hm;rw[eO]at hm;refine aH [] [] [(14,.d ((au:Int)<en.Links.length))]<|A.seq<|bx (fB er)<|A.exit<|aH [] [0,2,7,11,12,13,14] [(6,.bool wq)] ?_
 cases hm;exact A.ret bG
def F6{dD:bR}{r:Bool}(hm:yj dD=some r):dn prog 87 [] [.agg (gL dD)] (.bool r):=by
 refine dE func87 rfl rfl ?_;unfold yj at hm;refine aO [(0,.al 215)] [(1,.ptr 215 0)] [(215,.cells 36 (gL dD))]<|axy [(2,.bool ((decide (dD.cc=0))&&(decide ((dD.Links.length:Int)=(0:Int)))))] [] (λhk=>?_) ?_
 ·rcases kF (decide (dD.cc=0))with aN|aN
  ·exact aO [(3,ax (b0 aN)),(6,ax (cb bH dD.Links)),(9,ax (oH (q:=decide ((dD.Links.length:Int)=(0:Int))) aN))] _ _ hk
  exact aO [(3,ax (b0 aN)),(9,ax (oI (q:=decide ((dD.Links.length:Int)=(0:Int))) aN))] _ _ hk
 cases hm;exact A.ret bG
end
section
set_option linter.all false
open Go Go.Proofs.Tryz List
set_option maxRecDepth 100000
def SM{α:Type}{fL:α→α→Int}(hi:∀a b,fL a b<0→fL b a<0→False):∀{a b:List α},(a.Pairwise λx y=>fL x y<0)→(b.Pairwise λx y=>fL x y<0)→a.Perm b→a=b
 |[],b,_,_,h=>(nil_perm.1 h).symm
 |x::r,[],_,_,h=>by have:=h.length_eq;simp at this
 |x::r,y::s,aI,Y,h=>by
  rw[pairwise_cons]at aI Y;have n5:x=y:=by
   rcases mem_cons.1 (h.mem_iff.1 (mem_cons_self))with h1|h1
   ·exact h1
   ·rcases mem_cons.1 (h.mem_iff.2 (mem_cons_self (a:=y)))with D|D
    ·exact D.symm
    ·exact(hi _ _ (aI.1 y D) (Y.1 x h1)).elim
  subst n5;rw[SM hi aI.2 Y.2 (List.Perm.cons_inv h)]
def aco{α:Type}{ks:List (α→Int)}{l m r:List α}(h:o4 (gD ks) l=some r)(aK:m.Perm l):o4 (gD ks) m=some r:=by
 unfold o4 at h ⊢;cases ah:(zz (gD ks) (sM (gD ks) l)&&decide (l.length<4611686018427387904))with
 |false=>rw[ah]at h;cases h
 |true=>
  rw[ah]at h;simp only[cond_true,Option.some.injEq]at h;rw[Bool.and_eq_true]at ah;have bU:=A0 ks
  have agU:∀a b:α,gD ks a b<0→gD ks b a<0→False:=λa b h1 D=>by
   have aj:=bU _ _ _ h1 D
   have aV:∀(ks:List (α→Int)) (a:α),¬gD ks a a<0:=λks a=>by
    induction ks with
    |nil=>simp[gD]
    |cons k r bX=>rw[p7];simpa using bX
   exact aV _ _ aj
  have h1:(sM (gD ks) l).Pairwise λx y=>gD ks x y<0:=Q8 bU ah.1
  have di:m.Pairwise λa b=>gD ks a b<0∨gD ks b a<0:=by
   have D:(sM (gD ks) l).Pairwise λa b=>gD ks a b<0∨gD ks b a<0:=h1.imp .inl;exact((AV (gD ks) l).trans aK.symm).pairwise D (λ{a b} h=>h.symm)
  have D:=Rv bU di;have aj:sM (gD ks) m=sM (gD ks) l:=SM agU D h1 ((AV _ _).trans (aK.trans (AV _ _).symm));rw[aj,aK.length_eq,ah.1,ah.2];simp[h]
def ZO{m:List (aQ×Int)}{r:xe}(hm:wU m=some r):dn prog 88 [] [.ec (dV (eD bH) (dB .i64) m)] (.bf false (aM cp r)):=by
 unfold wU at hm;split at hm
 rotate_left
 ·cases hm
 rename_i eH;refine dE func88 rfl rfl ?_;refine axr cQ [] [] [(0,.ec (dV (eD bH) (dB .i64) m))] [] (by kernel_rfl) ?_;refine axr cQ [] [] [(0,.ec (dV (eD bH) (dB .i64) m)),(3,.dh)] [] (by kernel_rfl) ?_;refine A.seq ?_;refine A.seq (ayh cQ 1 [] [] [(6,.ec (dV (eD bH) (dB .i64) m)),(0,.ec (dV (eD bH) (dB .i64) m)),(3,.dh)] [] (by kernel_rfl) (by kernel_rfl) (by kernel_rfl) rfl rfl (ayI (gn:=910000040) (x:=.tmp 6) (bO:=dV (eD bH) (dB .i64) m) rfl rfl underlying125 rfl rfl) rfl rfl ?_);rintro bZ aL ⟨rfl,es,clock,rfl⟩;refine⟨[],_,_,rfl,?_⟩;show aF _ _ _ _ _;refine A.block ?_
 refine ayN (cL:=eD bH) (enc:=dB .i64) (l:=m) (gn:=910000040) (clock:=clock) (es:=es) (λq (g:xe)=>g=q.map λp=>bB.mk p.1.bh p.1.aS p.2) []
  (λ_=>[(3,.own 910000041),(7,.ptr 910000040 0)]) (λseen g=>[(910000041,.slice 60 3 (aM cp g) 0 false),(910000040,.jd es clock (dV (eD bH) (dB .i64) m) seen)]) ⟨rfl,rfl,rfl⟩ ⟨rfl,rfl,rfl⟩ (by kernel_rfl)
  rfl (λ_=>rfl) (λ_ _=>rfl) (λ_ _ _=>rfl) (dr.go [.ad 3 910000041 60 3] [] (by kernel_rfl)) ?_ ?_
 ·rintro seen e i n v q g he CC avv rfl
  have cA:jf (q.map λp:aQ×Int=>bB.mk p.1.bh p.1.aS p.2) [bB.mk n.bh n.aS v]=some ((q++[(n,v)]).map λp:aQ×Int=>bB.mk p.1.bh p.1.aS p.2):=by
   unfold jf;rw[if_pos (by simp[aT];omega)];simp
  refine A.block ?_;refine axr cQ [] [(0,apx 910000040 clock (eD bH) seen (dB .i64) he CC),(3,.al 219)] [(3,.own 910000041),(7,.ptr 910000040 0),(4,.ptr 219 0),(5,.int .i64 v)] [(910000041,.slice 60 3 (aM cp (q.map λp:aQ×Int=>bB.mk p.1.bh p.1.aS p.2)) 0 false),(910000040,.jd es clock (dV (eD bH) (dB .i64) m) (seen.push e.born)),(219,.cells 84 [.int .i64 n.bh,.int .i64 n.aS])] (by kernel_rfl) ?_;refine A.R cQ [] [(8,m4 168 (ap cp (bytes:=24) (by decide) cA))] [(3,.own 168),(7,.ptr 910000040 0)] [(168,.slice 60 3 (aM cp ((q++[(n,v)]).map λp:aQ×Int=>bB.mk p.1.bh p.1.aS p.2)) 0 false),(910000040,.jd es clock (dV (eD bH) (dB .i64) m) (seen.push e.born))] (by kernel_rfl) ?_;exact⟨_,rfl,dr.go [.ja 168 910000041] [] (by kernel_rfl)⟩
 ·rintro seen q g DX rfl;show aF _ _ _ _ _;have Z:o4 (gD [λx:bB=>x.bh,λx:bB=>x.aS]) (q.map λp:aQ×Int=>bB.mk p.1.bh p.1.aS p.2)=some r:=aco hm (DX.map _);refine axr cQ [] [(1,gW [] (adX (d:=910000041) (T:=60) Z) ali)] [(3,.own 910000041)] [(910000041,.slice 60 3 (aM cp r) 0 false)] (by kernel_rfl) ?_;refine axr cQ [] [] [(2,.own 910000041)] [(910000041,.slice 60 3 (aM cp r) 0 false)] (by kernel_rfl) ?_;refine A.ret ?_;exact axv cQ [.dO [910000041]] rfl (by kernel_rfl)
end
section
set_option linter.all false
open Go Go.Proofs.Tryz Go.RowKit Go.Shelf List
attribute [local go_sem] Oper.semAt_some
set_option maxRecDepth 100000
def ab9{F:Fence}{n:Nat}{P:Program}{α:Type}{g:Operand}{ps:Array Tmp}{assign body:Code}{Q:Exit→Act→World→Prop}{a:Act}{w:World}
  (bI:F.round=none) (h1:1≤n) {gf:Nat} {lb:jj} (bQ:a.eval g=.func (.func gf) #[] lb) (anz:F.fn gf) (am3:∀args w,(callFunc gf args).run P w=.ok (.enter gf args) w)
  {encs:α→jj} (N:Nat) (full:List α) (Jx:∀x,(encs x).size=ps.size) (I:List α→World→Prop) (Se:World→Prop)
  (uI:∀s bn o,I s bn→I s (bn.alloc o)) (yG:∀s bn l o hP,w.heap.size≤l→I s bn→bn.heap[l]?=some o→o.isCells=false→I s (bn.putObj l hP)) (aor:∀s bn,I s bn→Se bn) (bA:I [] w)
  (apc:∀(l:Nat) (J:List α→World→Prop) (bn:World),(∀s bn,J s bn→Se bn)→(∀pre x s6,J pre s6→pre.length<N→YieldAt F (n-1-1) P l (encs x) s6 λe W'=>e=.returned (.bool true)∧J (pre++[x]) W')→J [] bn→
   CallsIn F (n-1) P gf (#[.func (.yield l) #[] #[]]++lb) bn λe W'=>(∃v,e=.returned v)∧J full W')
  (A:List α→α→Act→World→Prop) (ak2:∀pre x gl bn l o hP,w.heap.size≤l→l<w.heap.size+2→A pre x gl bn→bn.heap[l]?=some o→o.isCells=false→A pre x gl (bn.putObj l hP))
  (anZ:∀(l:Nat) (pre:List α) (x:α) (bn:World) (K:Act→World→Prop),I pre bn→w.heap.size+2≤bn.heap.size→(∀gl W',A pre x gl W'→(∀k o,w.heap.size≤k→k<w.heap.size+2→bn.heap[k]?=some o→W'.heap[k]?=some o)→K gl W')→
   assign.wpIn (F.inRound l) (n-1-1) P (Exit.then K (λ_ _ _=>False)) {tmps:=(ps.zip (encs x)).foldl (λt (p,v)=>t.setIfInBounds p v) a.tmps,defers:=[]} bn)
  (an5:∀(l:Nat) (pre:List α) (x:α) (gl:Act) (bn:World),A pre x gl bn→body.wpIn (F.inRound l) (n-1-1) P (λe _ W'=>match e with|.normal=>(∀k o,w.heap.size≤k→k<w.heap.size+2→bn.heap[k]?=some o→W'.heap[k]?=some o)∧I (pre++[x]) W'|_=>False) gl bn)
  (aod:∀(fP:Nat) (bn:World),w.heap.size≤fP→I full bn→bn.heap[fP]?=some (.deferred (some []))→Q .normal {a with defers:={target:=.collected fP,args:=#[]}::a.defers} bn) :
  (Code.rangeFunc g ps assign body).wpIn F n P Q a w:=by
 refine wpIn_rangeFunc λfn Pu=>?_;rw[bI];obtain⟨zZ,zN⟩:∃r:LoopState→Option Code→Loop,r=λfM aqm=>{state:=fM,pending:=aqm,fn,tmps:=a.tmps,params:=ps,assign,body,defers:=w.heap.size}:=⟨_,rfl⟩;obtain⟨s6,ys⟩:∃s6,(w.alloc (.deferred (some []))).alloc (.loop (zZ .ready none))=s6:=⟨_,rfl⟩;have anF:s6.heap[w.heap.size+1]?=some (.loop (zZ .ready none)):=by
  rw[←ys];have:=World.alloc_heap_new (w.alloc (.deferred (some []))) (.loop (zZ .ready none));rwa [World.size_alloc]at this
 have eO:s6.heap[w.heap.size]?=some (.deferred (some [])):=by
  rw[←ys];exact(Below.heap_alloc _ _ _ (by simp)).trans (World.alloc_heap_new w _)
 have anA:I [] s6:=by rw[←ys];exact uI _ _ _ (uI _ _ _ bA)
 refine⟨w.heap.size+1,[{target:=.collected w.heap.size,args:=#[]}],s6,{target:=.fn (.func gf) lb,args:=#[.func (.yield (w.heap.size+1)) #[] #[]]},s6,gf,
  #[.func (.yield (w.heap.size+1)) #[] #[]]++lb,s6,?_,?_,?_,?_,λ_=>h1,?_⟩
 ·rw[←ys,zN];exact run_enterLoop_outer _ _ _ _ _
 ·simp only[resolve,bQ];simp[go_sem]
 ·intro n0 YM;simp[Target.leads]at YM;subst YM;exact anz
 ·simp[invoke,go_sem,am3]
 ·refine(apc (w.heap.size+1) (λpre bn=>I pre bn∧bn.heap[w.heap.size+1]?=some (.loop (zZ .ready none))∧bn.heap[w.heap.size]?=some (.deferred (some []))) s6 (λs bn h=>aor s bn h.1) ?_ ⟨anA,anF,eO⟩).mono ?_
  ·rintro pre x bn ⟨hi,aP,hk⟩ eH;have cq:w.heap.size+1<bn.heap.size:=(Array.getElem?_eq_some_iff.1 aP).1;have ak:=run_yield (P:=P) (args:=encs x) aP (by rw[zN];exact Jx x);rw[zN]at ak;refine⟨fn,_,assign,body,ak,roundIn_of_wpIn Pu (anZ _ pre x bn _ hi (by omega) λgl L5 Fw YU=>?_)⟩;have PG:=YU _ _ (by omega) (by omega) aP;have aoG:=YU _ _ (Nat.le_refl _) (by omega) hk;have aoN:w.heap.size+1<L5.heap.size:=(Array.getElem?_eq_some_iff.1 PG).1;refine⟨_,run_beginRound PG (by rw[zN]),?_⟩;have iR:(L5.putObj (w.heap.size+1) (.loop {zZ .ready none with state:=.busy})).heap[w.heap.size+1]?=some (.loop {zZ .ready none with state:=.busy}):=World.putObj_heap_same aoN;have sx:(L5.putObj (w.heap.size+1) (.loop {zZ .ready none with state:=.busy})).heap[w.heap.size]?=some (.deferred (some [])):=(World.putObj_heap_other (by omega)).trans aoG;refine wpIn_mono (an5 _ pre x gl _ (ak2 _ _ _ _ _ _ _ (by omega) (by omega) Fw PG rfl)) ?_;rintro e a3 abv aK;cases e with
   |normal=>
    obtain⟨Cz,aoA⟩:=aK;have jO:=Cz _ _ (by omega) (by omega) iR;have aC:=run_endRound (P:=P) none jO;rw[zN]at aC;refine⟨_,_,aC,rfl,yG _ _ _ _ _ (by omega) aoA jO rfl,?_,(World.putObj_heap_other (by omega)).trans (Cz _ _ (Nat.le_refl _) (by omega) sx)⟩;rw[zN];exact World.putObj_heap_same (Array.getElem?_eq_some_iff.1 jO).1
   |_=>exact aK.elim
  ·rintro e aug ⟨⟨v,rfl⟩,hi,aP,hk⟩;exact⟨none,_,by have:=run_endLoop (P:=P) aP (by rw[zN];simp);rw[zN]at this;exact this,aod _ _ (Nat.le_refl _) (yG _ _ _ _ _ (by omega) hi aP rfl) ((World.putObj_heap_other (by omega)).trans hk)⟩
def IJ(x:Nat×bB):jj:=#[.int .i64 (x.1:Int),.agg #[.int .i64 x.2.bh,.int .i64 x.2.aS,.int .i64 x.2.Count]]
def u9(zs:xe)(k:Nat):List (Nat×bB):=(List.range k).map λj=>(zs.length-1-j,zs.getD (zs.length-1-j) default)
def acp(zs:xe)(k:Nat):u9 zs (k+1)=u9 zs k++[(zs.length-1-k,zs.getD (zs.length-1-k) default)]:=by simp[u9,List.range_succ]
def SN(zs:xe)(k:Nat):(u9 zs k).length=k:=by simp[u9]
structure Uf(bn:World)(zP b off aT:Nat)(zs:List bB):Prop where
 box:bn.cell? ⟨zP,0,none⟩=some (.slice (some ⟨b,off,none⟩) zs.length aT)
 el:∀j,j<zs.length→bn.cell? ⟨b,off+j*3,none⟩=some (.int .i64 (zs.getD j default).bh)∧bn.cell? ⟨b,off+j*3+1,none⟩=some (.int .i64 (zs.getD j default).aS)∧bn.cell? ⟨b,off+j*3+2,none⟩=some (.int .i64 (zs.getD j default).Count)
set_option maxHeartbeats 2000000 in
def adP(F:Fence)(n:Nat)(fz:F.fn 187)(bI:F.round=none)(be:1≤n)(l zP b off aT:Nat)(zs:xe)(UT:zs.length*24≤140737488351232)(J:List (Nat×bB)→World→Prop)(iW:∀s bn,J s bn→Uf bn zP b off aT zs)
  (hI:∀pre x bn,J pre bn→pre.length<zs.length→YieldAt F (n-1) prog l (IJ x) bn λe W'=>e=.returned (.bool true)∧J (pre++[x]) W') (bn:World) (bA:J [] bn) :
  CallsIn F n prog 187 #[.func (.yield l) #[] #[],.pointer (some ⟨zP,0,none⟩)] bn λe W'=>(∃v,e=.returned v)∧J (u9 zs zs.length) W':=by
 refine callsIn_of_wp func187 rfl fz ?_ bI;simp only[Tryz.ntmps187,size_toArray,length_cons,length_nil,Nat.reduceAdd,Nat.reduceSub,Array.replicate_succ,Array.replicate_zero,push_toArray,append_toArray,nil_append,cons_append];have avq:=(iW _ _ bA).box
 gi_wp2
 gi_loopw [3] (λi wr=>∃k:Nat,k≤zs.length∧i=.int .i64 ((zs.length:Int)-1-k)∧J (u9 zs k) wr)
  (λi _=>(intOf i+1).toNat)
 case atStart=>exact⟨0,Nat.zero_le _,by simp,bA⟩
 case round=>
  obtain⟨k,hk,rfl,Fk⟩:=hrel;have dZ:=iW _ _ Fk;have avr:=dZ.box;by_cases cq:k<zs.length
  ·obtain⟨e1,e2,bT⟩:=dZ.el (zs.length-1-k) (by omega);obtain⟨fn,tmps,assign,body,ak,cz⟩:=hI _ (zs.length-1-k,zs.getD (zs.length-1-k) default) wr Fk (by rw[SN];exact cq);have hi:((zs.length:Int)-1-k)=((zs.length-1-k:Nat):Int):=by omega
   rw[hi];simp only[IJ]at ak;have FH:=acp zs k;generalize zs.getD (zs.length-1-k) default=x at e1 e2 bT ak cz FH
   gi_wp2
   refine cz.mono ?_;rintro e abv ⟨rfl,pF⟩
   gi_wp2
   go_roundw
   case rel=>exact⟨k+1,by omega,by congr 1;omega,by rw[FH];exact pF⟩
   case measure=>simp[intOf]
  ·obtain rfl:k=zs.length:=by omega
   gi_wp2
   go_end0
   exact⟨⟨_,rfl⟩,Fk⟩
set_option maxHeartbeats 2000000 in
def adQ(F:Fence)(n:Nat)(fz:F.fn 187)(bI:F.round=none)(l zP:Nat)(a:Option Addr)(aT:Nat)(J:List (Nat×bB)→World→Prop)(bn:World)(fq:bn.cell? ⟨zP,0,none⟩=some (.slice a 0 aT))(bA:J [] bn):
  CallsIn F n prog 187 #[.func (.yield l) #[] #[],.pointer (some ⟨zP,0,none⟩)] bn λe W'=>(∃v,e=.returned v)∧J [] W':=by
 refine callsIn_of_wp func187 rfl fz ?_ bI;simp only[Tryz.ntmps187,size_toArray,length_cons,length_nil,Nat.reduceAdd,Nat.reduceSub,Array.replicate_succ,Array.replicate_zero,push_toArray,append_toArray,nil_append,cons_append]
 gi_wp2
 gi_loopw [3] (λi wr=>i=.int .i64 (-1)∧J [] wr) (λ_ _=>0)
 case atStart=>exact⟨rfl,bA⟩
 case round=>
  obtain⟨rfl,Fk⟩:=hrel
  gi_wp2
  go_end0
  exact⟨⟨_,rfl⟩,Fk⟩
set_option maxHeartbeats 1000000 in
def agW(F:Fence)(n:Nat)(b4:F.fn 158)(bI:F.round=none)(a:Option Addr)(len aT:Nat)(w:World):
  CallsIn F n prog 158 #[.slice a len aT] w λe w'=>e=.returned (.func (.func 187) #[] #[.pointer (some ⟨w.heap.size,0,none⟩)])∧w'=w.alloc (.cells #[.slice a len aT] 53):=by
 refine callsIn_of_wp func158 rfl b4 ?_ bI;simp only[Tryz.ntmps158,size_toArray,length_cons,length_nil,Nat.reduceAdd,Nat.reduceSub,Array.replicate_succ,Array.replicate_zero,push_toArray,append_toArray,nil_append,cons_append]
 gi_wp2
 go_ret
 exact⟨rfl,rfl⟩
def xL:l3 prog 126 84 3 (eD bH) dj:=⟨underlying126,λ_=>rfl,λ_=>rfl,⟨_,underlying84,λ_ _=>rfl⟩,λa b w=>Cn (by kernel_rfl) (by kernel_rfl) (D4 a.bh b.bh a.aS b.aS w),λe a w=>by kernel_rfl,λa b h=>by cases a;cases b;simpa [dj]using h,λa=>by simp[eD,bH,valOf,wm,Instr.sameBits]⟩
def acq{bn:World}{r clock:Nat}{es:gx}{l:List (aQ×Int)}(Y:bn.heap[r]?=some (.map es clock))(fq:k9 es clock)(iV:∀I,gm I (dV (eD bH) (dB .i64) l) es.toList)(h:aQ)(c:Int):
  ∃kJ oQ,(Instr.mapUpdate 126 (.map (some r)) (.agg #[.int .i64 h.bh,.int .i64 h.aS]) (.int .i64 c)).run prog bn=.ok () (bn.putObj r (.map kJ oQ))∧k9 kJ oQ∧∀I,gm I (dV (eD bH) (dB .i64) (gq dj l h c)) kJ.toList:=by
 have e1:∀w,(underlying 126).run prog w=.ok (.map 84 3) w:=λw=>by simp[underlying,program,Sem.run,xL.ia]
 have bT:=q8 (P:=prog) Y;have ai:(Value.agg #[.int .i64 h.bh,.int .i64 h.aS])=valOf (eD bH h):=rfl;have fG:=xL.key.hU false h bn;have e0:=Bf xL.key h bn es.toList;have hj:∀aZ:Obj,(setObj r aZ).run prog bn=.ok () (bn.putObj r aZ):=λaZ=>by simp[setObj,Sem.run,Y,World.putObj]
 rw[ai];cases bQ:dL dj l h with
 |none=>
  obtain⟨cM,_⟩:=vV (enc:=dB .i64) xL.key h bn l es.toList 0 (iV λ_ _=>none) bQ;have gy:(Instr.findKey 84 (valOf (eD bH h)) es.toList).run prog bn=.ok none bn:=by rw[e0,cM]
  refine⟨es.push ⟨valOf (eD bH h),.int .i64 c,clock⟩,clock+1,by simp[Instr.mapUpdate,e1,bT,fG,gy,hj],fq.push _ _,λI=>?_⟩;obtain⟨_,dY⟩:=vV (enc:=dB .i64) xL.key h bn l es.toList 0 (iV I) bQ;simpa using dY c ⟨valOf (eD bH h),.int .i64 c,clock⟩ (by simp[dB,bk]) (by rw[←ai];simp[eD,bH,bk,cD])
 |some a=>
  obtain⟨dW,cM,_,fJ,iy,_⟩:=Hq (enc:=dB .i64) xL.key h bn l es.toList 0 a (iV λ_ _=>none) bQ;have gy:(Instr.findKey 84 (valOf (eD bH h)) es.toList).run prog bn=.ok (some (0+nL dj l h,dW.val)) bn:=by rw[e0,cM]
  have g1:es[nL dj l h]?=some dW:=by simpa using fJ
  have jN:(Instr.keyThatStays (valOf (eD bH h)) (valOf (eD bH h))).run prog bn=.ok (valOf (eD bH h)) bn:=by simp[Instr.keyThatStays,xL.key.bits h]
  refine⟨es.modify (nL dj l h) (λe=>{e with key:=valOf (eD bH h),val:=.int .i64 c}),clock,by simp[Instr.mapUpdate,e1,bT,fG,gy,g1,iy,jN,hj],fq.modify _ _ λ_=>rfl,λI=>?_⟩;obtain⟨_,_,_,_,_,nu⟩:=Hq (enc:=dB .i64) xL.key h bn l es.toList 0 a (iV I) bQ;simpa using nu c (λe=>{e with key:=valOf (eD bH h),val:=.int .i64 c}) (λe _=>by rw[←ai];simp[eD,bH,bk,cD]) (λe=>by simp[dB,bk])
structure x2(w0:World)(B b off aT:Nat)(a:Option Addr)(zs pre:List bB)(bn:World):Prop where
 below:Below w0.heap.size w0 bn
 drawn:w0.drawn≤bn.drawn
 out:bn.heap[B+1]?=some (.cells #[.map (some B)] 126 (0,0))
 box:bn.heap[B+2]?=some (.cells #[.slice a zs.length aT] 53 (0,0))
 bO:∃es clock,bn.heap[B]?=some (.map es clock)∧k9 es clock∧∀I,gm I (dV (eD bH) (dB .i64) (pre.foldl (λm x=>gq dj m (aQ.mk x.bh x.aS) x.Count) [])) es.toList
set_option maxHeartbeats 4000000 in
def aek(F:Fence)(n:Nat)(aj:F.fn 90)(aV:F.fn 158)(b4:F.fn 187)(bI:F.round=none)(be:3≤n)(a:Option Addr)(aT:Nat)(zs:xe)(UT:zs.length*24≤140737488351232)(w:World)
  (fQ:∀b off,a=some ⟨b,off,none⟩→∀j,j<zs.length→b<w.heap.size∧w.cell? ⟨b,off+j*3,none⟩=some (.int .i64 (zs.getD j default).bh)∧w.cell? ⟨b,off+j*3+1,none⟩=some (.int .i64 (zs.getD j default).aS)∧w.cell? ⟨b,off+j*3+2,none⟩=some (.int .i64 (zs.getD j default).Count)) (aI:zs≠[]→∃b off,a=some ⟨b,off,none⟩) :
  CallsIn F n prog 90 #[.slice a zs.length aT] w λe W'=>e=.returned (.map (some w.heap.size))∧x2 w w.heap.size 0 0 aT a zs zs.reverse W':=by
 have h1:1≤n:=by omega
 have PI:=@run_makeMap prog;refine callsIn_of_wp_marks func90 rfl aj ?_ bI;simp only[Tryz.ntmps90,size_toArray,length_cons,length_nil,Nat.reduceAdd,Nat.reduceSub,Array.replicate_succ,Array.replicate_zero,push_toArray,append_toArray,nil_append,cons_append]
 gi_wp2_with (gi_at_call 158;refine(agW F (n-1) aV bI _ _ _ _).mono ?_;rintro e w' ⟨rfl,rfl⟩)
 have tr:∀{pre bn},x2 w w.heap.size 0 0 aT a zs pre bn→w.heap.size+3≤bn.heap.size:=λh=>by have:=(Array.getElem?_eq_some_iff.1 h.box).1;omega
 have XP:∀(pre:xe) (bn:World) (o:Obj),x2 w w.heap.size 0 0 aT a zs pre bn→x2 w w.heap.size 0 0 aT a zs pre (bn.alloc o):=λpre bn o h=>by
  have Z:=tr h;obtain⟨es,clock,e1,e2,bT⟩:=h.bO;exact⟨h.below.alloc (by omega) o,h.drawn,(Below.heap_alloc bn o _ (by omega)).trans h.out,(Below.heap_alloc bn o _ (by omega)).trans h.box,es,clock,(Below.heap_alloc bn o _ (by omega)).trans e1,e2,bT⟩
 have NM:∀(pre:xe) (bn:World) (l:Nat) (hP:Obj),w.heap.size+3≤l→x2 w w.heap.size 0 0 aT a zs pre bn→x2 w w.heap.size 0 0 aT a zs pre (bn.putObj l hP):=λpre bn l hP aP h=>by
  obtain⟨es,clock,e1,e2,bT⟩:=h.bO;exact⟨⟨h.below.os,h.below.tape,h.below.output,by rw[World.putObj_size];exact h.below.size,λk hk=>(World.putObj_heap_other (by omega)).trans (h.below.block k hk)⟩,h.drawn,(World.putObj_heap_other (by omega)).trans h.out,(World.putObj_heap_other (by omega)).trans h.box,es,clock,(World.putObj_heap_other (by omega)).trans e1,e2,bT⟩
 have bA:x2 w w.heap.size 0 0 aT a zs [] (((w.alloc (Obj.map #[] 0)).alloc (Obj.cells #[Value.map (some w.heap.size)] 126)).alloc (Obj.cells #[Value.slice a zs.length aT] 53)):=by
  refine⟨(((Below.refl _ w).alloc (Nat.le_refl _) _).alloc (by simp) _).alloc (by simp;omega) _,Nat.le_refl _,?_,?_,#[],0,?_,⟨by simp,by simp⟩,λI=>by simp[dV,gm]⟩
  ·exact(Below.heap_alloc _ _ _ (by simp)).trans (by have:=World.alloc_heap_new (w.alloc (Obj.map #[] 0)) (Obj.cells #[Value.map (some w.heap.size)] 126);rwa [World.size_alloc]at this)
  ·have:=World.alloc_heap_new ((w.alloc (Obj.map #[] 0)).alloc (Obj.cells #[Value.map (some w.heap.size)] 126)) (Obj.cells #[Value.slice a zs.length aT] 53)
   rwa [World.size_alloc,World.size_alloc]at this
  ·exact(Below.heap_alloc _ _ _ (by simp;omega)).trans ((Below.heap_alloc _ _ _ (by simp)).trans (World.alloc_heap_new w _))
 have kT:(((w.alloc (Obj.map #[] 0)).alloc (Obj.cells #[Value.map (some w.heap.size)] 126)).alloc (Obj.cells #[Value.slice a zs.length aT] 53)).heap.size=w.heap.size+3:=by simp
 generalize ((w.alloc (Obj.map #[] 0)).alloc (Obj.cells #[Value.map (some w.heap.size)] 126)).alloc (Obj.cells #[Value.slice a zs.length aT] 53)=aay at bA kT ⊢
 refine ab9 bI h1 (gf:=187) (lb:=#[.pointer (some ⟨w.heap.size+1+1,0,none⟩)]) rfl b4 (enters_of func187 (by kernel_rfl) rfl) (encs:=IJ) zs.length (u9 zs zs.length) (λ_=>rfl)
  (λpre bn=>x2 w w.heap.size 0 0 aT a zs (pre.map (·.2)) bn)
  (λbn=>bn.cell? ⟨w.heap.size+1+1,0,none⟩=some (.slice a zs.length aT)∧∀b off,a=some ⟨b,off,none⟩→Uf bn (w.heap.size+1+1) b off aT zs)
  (λs bn o h=>XP _ _ _ h) (λs bn l o hP aP h _ _=>NM _ _ _ _ (by omega) h) (λs bn h=>?fx) bA (λl J bn iW hI O8=>?seq)
  (λpre x gl bn=>∃q0,w.heap.size+5≤q0∧bn.heap[q0]?=some (.cells #[.int .i64 x.2.bh,.int .i64 x.2.aS,.int .i64 x.2.Count] 60 (0,0))∧x2 w w.heap.size 0 0 aT a zs (pre.map (·.2)) bn∧
   gl={tmps:=#[.slice a zs.length aT,undef,.map none,.pointer (some ⟨w.heap.size+1,0,none⟩),undef,.pointer (some ⟨q0,0,none⟩),.map (some w.heap.size),.slice a zs.length aT,.func (.func 187) #[] #[.pointer (some ⟨w.heap.size+1+1,0,none⟩)],.int .i64 (x.1:Int),.agg #[.int .i64 x.2.bh,.int .i64 x.2.aS,.int .i64 x.2.Count],undef,undef,undef,undef,undef,undef,undef,undef,undef],defers:=[]}) ?aqo ?assign ?body ?done
 case fx=>
  have Z:=tr h;have m5:bn.cell? ⟨w.heap.size+1+1,0,none⟩=some (.slice a zs.length aT):=by simp[World.cell?,show bn.heap[w.heap.size+1+1]?=_ from h.box]
  refine⟨m5,λb off jH=>⟨by rw[←jH];exact m5,λj aY=>?_⟩⟩;obtain⟨ay,iG,hW,qY⟩:=fQ b off jH j aY;exact⟨(h.below.cell (p:=⟨b,off+j*3,none⟩) ay).trans iG,(h.below.cell (p:=⟨b,off+j*3+1,none⟩) ay).trans hW,(h.below.cell (p:=⟨b,off+j*3+2,none⟩) ay).trans qY⟩
 case seq=>
  by_cases hz:zs=[]
  ·subst hz;exact adQ F (n-1) b4 bI l _ a aT J bn (iW _ _ O8).1 O8
  ·obtain⟨b,off,jH⟩:=aI hz;exact adP F (n-1) b4 bI (by omega) l _ b off aT zs UT J (λs bn Z=>(iW s bn Z).2 b off jH) hI bn O8
 case aqo=>
  rintro pre x gl bn l o hP aP iR ⟨q0,dI,ek,hR,rfl⟩ ar avy;have:q0≠l:=λe=>by omega
  exact⟨q0,dI,(World.putObj_heap_other this).trans ek,NM _ _ _ _ (by omega) hR,rfl⟩
 case assign=>
  rintro l pre x bn K fZ avn gE;have Z:=tr fZ;simp only[IJ]
  gi_wp2
  refine gE _ _ ⟨bn.heap.size,by omega,World.alloc_heap_new bn _,XP _ _ _ fZ,rfl⟩ λk o Fy sx hk=>(Below.heap_alloc bn _ _ (by omega)).trans hk
 case body=>
  rintro l pre x gl bn ⟨q0,dI,ek,hR,rfl⟩;obtain⟨es,clock,e1,e2,bT⟩:=hR.bO;obtain⟨kJ,oQ,yD,ay,aG⟩:=acq e1 e2 bT (aQ.mk x.2.bh x.2.aS) x.2.Count;have mc:bn.cell? ⟨w.heap.size+1,0,none⟩=some (.map (some w.heap.size)):=by simp[World.cell?,show bn.heap[w.heap.size+1]?=_ from hR.out]
  have aN:bn.cell? ⟨q0,0,none⟩=some (.int .i64 x.2.bh):=by simp[World.cell?,ek]
  have bw:bn.cell? ⟨q0,1,none⟩=some (.int .i64 x.2.aS):=by simp[World.cell?,ek]
  have cg:bn.cell? ⟨q0,2,none⟩=some (.int .i64 x.2.Count):=by simp[World.cell?,ek]
  simp only at yD
  gi_wp2
  refine⟨λk o Fy sx hk=>(World.putObj_heap_other (by omega)).trans hk,?_⟩;have Z:=tr hR;refine⟨⟨hR.below.os,hR.below.tape,hR.below.output,by rw[World.putObj_size];exact hR.below.size,λk hk=>(World.putObj_heap_other (by omega)).trans (hR.below.block k hk)⟩,hR.drawn,(World.putObj_heap_other (by omega)).trans hR.out,(World.putObj_heap_other (by omega)).trans hR.box,kJ,oQ,World.putObj_heap_same (by omega),ay,?_⟩;rw[List.foldl_append];exact aG
 case done=>
  rintro fP bn hl fZ ant;have mc:bn.cell? ⟨w.heap.size+1,0,none⟩=some (.map (some w.heap.size)):=by simp[World.cell?,show bn.heap[w.heap.size+1]?=_ from fZ.out]
  gi_wp2
  refine⟨by simp,.inl ⟨_,_,rfl,run_takeDeferred ant,?_⟩⟩;refine⟨_,results_tmp rfl _ _ _,rfl,?_⟩;have he:(u9 zs zs.length).map (·.2)=zs.reverse:=by
   refine ext_getElem (by simp[u9]) λk h1 D=>?_;simp only[length_map,SN]at h1;simp[u9,getD_eq_getElem?_getD,List.getElem?_eq_getElem (show zs.length-1-k<zs.length by omega)]
  rw[he]at fZ;exact NM _ _ _ _ (by omega) fZ
def ZP{l:xe}{r:List (aQ×Int)}(hm:CZ l=some r):dn prog 90 [] [.bf false (aM cp l)] (.ec (dV (eD bH) (dB .i64) r)):=by
 unfold CZ at hm;split at hm
 rotate_left
 ·cases hm
 rename_i eH;simp only[Option.some.injEq]at hm;subst hm;refine ax9 [0] (σ2:=[(0,.map 84 3 (dV (eD bH) (dB .i64) (qc l)))]) (r:=.ep 0) ?_ rfl rfl;intro cx w I β vs aA aC;simp only[cw,aD]at aC;obtain⟨aq,b8,rfl,aC,rfl⟩:=aC;simp only[bk]at aC;obtain⟨a,c,rfl,qy,n2,_,aC⟩:=aC;have AF:(aM cp l).length=l.length:=by simp[aM]
 rw[AF]
 have lU:∀b off,(∀j,j<l.length→lu I b (cp.enc (l.getD j default)) (off+j*3))→∀j,j<l.length→b<w.heap.size∧w.cell? ⟨b,off+j*3,none⟩=some (.int .i64 (l.getD j default).bh)∧w.cell? ⟨b,off+j*3+1,none⟩=some (.int .i64 (l.getD j default).aS)∧w.cell? ⟨b,off+j*3+2,none⟩=some (.int .i64 (l.getD j default).Count):=λb off h j aY=>by
  obtain⟨⟨kO,cM,dY⟩,⟨kY,fJ,iy⟩,⟨vi,nu,ZH⟩,_⟩:=h j aY;simp only[bk]at dY iy ZH;subst dY iy ZH;exact⟨World.block_lt_of_cell? w _ (aA.good _ _ _ cM),aA.good _ _ _ cM,aA.good _ _ _ fJ,aA.good _ _ _ nu⟩
 have tE:∀b (xs:xe) off,jF I b (aM cp xs) off→∀j,j<xs.length→lu I b (cp.enc (xs.getD j default)) (off+j*3):=λb xs=>by
  induction xs with
  |nil=>intro off _ j aY;cases aY
  |cons x r bX=>
   intro off h j aY;simp only[aM,map_cons,jF]at h;cases j with
   |zero=>simpa using h.1
   |succ j=>
    have:=bX _ h.2 j (by simpa using aY);simp only[getD_cons_succ];have e:off+(j+1)*3=off+(cp.enc x).length+j*3:=by
     have:(cp.enc x).length=3:=rfl;omega
    rw[e];exact this
 refine Calls.mono (callsIn_wide.1 (aek Fence.wide 3 trivial trivial trivial rfl (Nat.le_refl _) a c l (by omega) w (λb off jH=>?_) (λhz=>?_))) ?_
 ·rcases aC with hz|⟨aX,hP,rfl,h⟩
  ·intro j aY;rw[←AF,hz]at aY;cases aY
  ·cases jH;exact lU _ _ (tE _ _ _ h)
 ·rcases aC with h|⟨b,o,rfl,_⟩
  ·exact(hz (by simpa [aM]using h)).elim
  ·exact⟨b,o,rfl⟩
 ·rintro e w' ⟨rfl,tr⟩;refine⟨_,rfl,.ep 0,[(0,.map 84 3 (dV (eD bH) (dB .i64) (qc l)))],I,iL (hL β [0]) 0 (.map (some w.heap.size)),⟨rfl,rfl⟩,?_,?_⟩
  ·simp[aD,h0,nN]
  ·obtain⟨es,clock,e1,e2,bT⟩:=tr.bO;have gi:∀o,I w.heap.size o=none:=aA.jS (Nat.le_refl _);have ai:=aA.rY (ew:=[0]) (σ2:=[]) (env:=[]) ⟨λ_ _=>rfl,by simp[ag.ids],rfl,rfl,λx u gV n h=>by simp[ag.get]at h⟩
   refine ai.turn (d:=0) (b:=w.heap.size) ⟨λk hk cq=>tr.below.block k cq,tr.below.size,tr.below.tape,tr.below.os,tr.below.output,tr.drawn⟩ (.inl aA.size) (λx u=>by rw[axp,if_neg (Ne.symm u)]) (λx u Z e=>by simp[ag.get]at Z) (dc.refl I) (λ_ _ _=>rfl)
    (λo v ai=>by rw[gi]at ai;cases ai) (gi none) (λx u=>iJ _ _ u) (.inl (by simp[ag.ids])) (axX (by simp[hL])) (.inl (by rw[h0];rfl)) λaZ c5=>?_
   ·rw[axp,if_pos rfl]at c5;cases c5;simp only[br,h0];exact .inr ⟨_,es,clock,rfl,e1,bT I,gi,.inl aA.size,e2⟩
end
section
set_option linter.all false
open Go Go.Proofs.Tryz List
section late
variable {P:Program}{ops:lp}{Q:Exit→Act→World→Prop}{md:Region.Mode}{S:World→Prop}{z:Nat}
def vm(P:Program)(md:Region.Mode)(ops:lp)(Q:Exit→Act→World→Prop)(S:World→Prop)(z:Nat):Nat→o8→Act→World→Prop
 |0,ez,a,w=>Region.ready md ops ez=[]∧Q .normal a w
 |fuel+1,ez,a,w=>(Region.ready md ops ez=[]→Q .normal a w)∧∀i∈Region.ready md ops ez,wpOp P ops Q i (λgl w'=>(i=z∨S w')∧vm P md ops Q S z fuel (ez.setIfInBounds i true) gl w') a w
def aaS:∀(fuel:Nat) (ez:o8) (a:Act) (w:World),vm P md ops Q S z fuel ez a w→wpAny P md ops Q fuel ez a w
 |0,_,_,_,h=>h
 |fuel+1,_,_,_,h=>⟨h.1,λi hi=>wpOp_mono (λgl w' dw=>aaS fuel _ gl w' dw.2) (h.2 i hi)⟩
def acr{i:Nat}{hn xB:Oper}{v:Value}(hi:ops[i]?=some hn)(hz:ops[z]?=some xB)(JC:∃e∈xB.after,Region.binds md e=true∧e.on=i)(Zb:∀(j:Nat) (o:Oper) cs b,ops[j]?=some o→o.op≠.select cs b)
  (Au:∀c a w,Q (.panic c) (a.put hn.dst v) w→Q (.panic c) a w) :
  ∀(fuel:Nat) (ez:o8) (a:Act) (w:World),
   (∀j eE,ops[j]?=some eE→j≠i→ez.getD j true=false→(∀e∈eE.after,Region.binds md e=true→e.on≠i)→hn.apart ops eE=true)→
   i∈Region.ready md ops ez→YieldsIf P ops S hn v a→S w→
   vm P md ops Q S z fuel (ez.setIfInBounds i true) (a.put hn.dst v) w→vm P md ops Q S z (fuel+1) ez a w:=by
 have RC:∀{ez:o8} {j:Nat} {eE:Oper},i∈Region.ready md ops ez→ops[j]?=some eE→j∈Region.ready md ops ez→∀e∈eE.after,Region.binds md e=true→e.on≠i:=λ{ez j eE} aC uQ aY e he Y lV=>by
  obtain⟨_,o,ar,k5⟩:=mem_ready.1 aY;rw[ar]at uQ;cases uQ
  have h1:=k5 e he Y;have bA:=(mem_ready.1 aC).1;rw[lV]at h1;rcases Nat.lt_or_ge i ez.size with dw|dw
  ·simp[dw]at bA h1;rw[bA]at h1;cases h1
  ·simp[Array.getElem?_eq_none dw]at h1
 intro fuel;induction fuel with
 |zero=>
  intro ez a w _ aC ak fs H;refine⟨λh=>(by rw[h]at aC;cases aC),λj aY=>?_⟩;by_cases yy:j=i
  ·subst yy;exact ak.wpOp hi fs ⟨.inr fs,H⟩
  ·have:=ready_mono aY yy;rw[H.1]at this;cases this
 |succ fuel bX=>
  intro ez a w pJ aC ak fs H;refine⟨λh=>(by rw[h]at aC;cases aC),λj aY=>?_⟩;by_cases yy:j=i
  ·subst yy;exact ak.wpOp hi fs ⟨.inr fs,H⟩
  ·have h1:=H.2 j (ready_mono aY yy);obtain⟨XQ,eE,uQ,k5⟩:=mem_ready.1 aY;have FF:=RC aC uQ aY
   have aoF:j≠z:=λe=>by
    subst e;rw[hz]at uQ;cases uQ
    obtain⟨e,ay,aG,a1⟩:=JC;exact FF e ay aG a1
   have D:=wpOp_putIf uQ (pJ j eE uQ yy XQ FF) (λcs b=>Zb i hn cs b hi) (λcs b=>Zb j eE cs b uQ) Au ak h1
   have aiO:∀k ok,ops[k]?=some ok→k≠i→(ez.setIfInBounds j true).getD k true=false→
     (∀e∈ok.after,Region.binds md e=true→e.on≠i)→hn.apart ops ok=true:=λk ok hk rD vO pK=>by
    refine pJ k ok hk rD ?_ pK;by_cases YT:j=k
    ·subst YT;exact XQ
    ·rw[getD_set_ne true YT]at vO;exact vO
   refine wpOp_mono (λgl w' aj=>?_) D;have Fp:S w':=aj.2.1.resolve_left aoF;refine⟨.inr Fp,bX (ez.setIfInBounds j true) gl w' aiO (ready_mono aC (Ne.symm yy)) aj.1 Fp ?_⟩;rw[Array.setIfInBounds_comm _ _ yy];exact aj.2.2
def acB{i:Nat}{hn xB:Oper}{v:Value}{fuel:Nat}{ez:o8}{a:Act}{w:World}(hi:ops[i]?=some hn)(hz:ops[z]?=some xB)(JC:(xB.after.toList.any λe=>Region.binds md e&&Nat.beq e.on i)=true)
  (Z:Region.noSelect ops=true) (bc:Region.free md ops ez i=true) (aC:(Region.ready md ops ez).contains i=true)
  (Au:∀c a w,Q (.panic c) (a.put hn.dst v) w→Q (.panic c) a w) (ak:YieldsIf P ops S hn v a) (fs:S w)
  (h:vm P md ops Q S z fuel (ez.setIfInBounds i true) (a.put hn.dst v) w):vm P md ops Q S z (fuel+1) ez a w:=by
 refine acr hi hz ?_ (Region.noSelect_spec Z) Au fuel ez a w (Region.free_spec hi bc) (by simpa using aC) ak fs h;rw[List.any_eq_true]at JC;obtain⟨e,ay,aG⟩:=JC;rw[Bool.and_eq_true]at aG;exact⟨e,Array.mem_toList_iff.1 ay,aG.1,Nat.eq_of_beq_eq_true aG.2⟩
def R1{i:Nat}{hn:Oper}{fuel:Nat}{ez:o8}{a:Act}{w:World}(hi:ops[i]?=some hn)(aC:Region.ready md ops ez=[i])(bQ:hn.guard=none)
  (h:hn.wp P a w (λgl w'=>(i=z∨S w')∧vm P md ops Q S z fuel (ez.setIfInBounds i true) gl w') Q):vm P md ops Q S z (fuel+1) ez a w:=by
 refine⟨λbA=>(by rw[aC]at bA;cases bA),λj aY=>?_⟩;rw[aC,List.mem_singleton]at aY;subst aY;unfold wpOp;simp only[hi];rw[if_pos (by unfold Region.wanted;rw[bQ])];exact .inl h
def acC{ez:o8}{a:Act}{w:World}(aC:Region.ready md ops ez=[])(h:Q .normal a w):∀fuel,vm P md ops Q S z fuel ez a w
 |0=>⟨aC,h⟩
 |_+1=>⟨λ_=>h,by rw[aC];simp⟩
end late
def va:l3 prog 125 84 3 (eD bH) dj:=⟨underlying125,xL.key⟩
def rN{b:Act}{d:Nat}{v:Value}(aa:d<b.tmps.size)(t:Nat):(b.put (some d) v).eval (.tmp t)=if d=t then v else b.eval (.tmp t):=Dn b d v t aa
def sK(b:Act)(d:Nat)(v:Value):(b.put (some d) v).tmps.size=b.tmps.size:=by simp[Act.put]
def MP(b:Act)(o:nZ)(v:Value):(b.put o v).tmps.size=b.tmps.size:=by cases o<;>simp[Act.put]
def H8(b:Act)(o:nZ)(v:Value):(b.put o v).defers=b.defers:=by cases o<;>rfl
variable {I:bP}{es:gx}{m:List (aQ×Int)}
def Ub{w:World}{r clock:Nat}(Y:w.heap[r]?=some (.map es clock))(iV:gm I (dV (eD bH) (dB .i64) m) es.toList)(h:aQ):
  (Instr.lookup 125 (.map (some r)) (.agg #[.int .i64 h.bh,.int .i64 h.aS]) false).run prog w=.ok (.int .i64 ((dL dj m h).getD 0)) w:=by
 have ai:(Value.agg #[.int .i64 h.bh,.int .i64 h.aS])=valOf (eD bH h):=rfl;rw[ai];have e1:∀w,(underlying 125).run prog w=.ok (.map 84 3) w:=λw=>by simp[underlying,program,Sem.run,va.ia]
 have bT:=q8 (P:=prog) Y;have fG:=va.key.hU (es.isEmpty) h w;have e0:=Bf va.key h w es.toList;cases bQ:dL dj m h with
 |none=>
  obtain⟨cM,_⟩:=vV va.key h w m es.toList 0 iV bQ;have gy:(Instr.findKey 84 (valOf (eD bH h)) es.toList).run prog w=.ok none w:=by rw[e0,cM]
  simp[Instr.lookup,e1,bT,fG,gy,zeroValue3]
 |some a=>
  obtain⟨j,v,cM,dY,_⟩:=GX va.key h w m es.toList 0 a iV bQ;have gy:(Instr.findKey 84 (valOf (eD bH h)) es.toList).run prog w=.ok (some (0+j,v)) w:=by rw[e0,cM]
  simp only[dB,bk]at dY;simp[Instr.lookup,e1,bT,fG,gy,dY]
variable {h:aQ}
def acD{w:World}{r clock:Nat}(Y:w.heap[r]?=some (.map es clock))(iV:gm I (dV (eD bH) (dB .i64) m) es.toList)(bQ:dL dj m h=none):
  (Instr.mapEntry 125 (.map (some r)) (.agg #[.int .i64 h.bh,.int .i64 h.aS])).run prog w=.ok (.tuple #[.int .i64 0,.int .i64 (clock:Int)]) (w.putObj r (.map (es.push ⟨.agg #[.int .i64 h.bh,.int .i64 h.aS],.int .i64 0,clock⟩) (clock+1))):=by
 have ai:(Value.agg #[.int .i64 h.bh,.int .i64 h.aS])=valOf (eD bH h):=rfl;rw[ai];have e1:∀w,(underlying 125).run prog w=.ok (.map 84 3) w:=λw=>by simp[underlying,program,Sem.run,va.ia]
 have bT:=q8 (P:=prog) Y;have fG:=va.key.hU false h w;have e0:=Bf va.key h w es.toList;obtain⟨cM,_⟩:=vV va.key h w m es.toList 0 iV bQ;have gy:(Instr.findKey 84 (valOf (eD bH h)) es.toList).run prog w=.ok none w:=by rw[e0,cM]
 have hj:∀aZ:Obj,(setObj r aZ).run prog w=.ok () (w.putObj r aZ):=λaZ=>by simp[setObj,Sem.run,Y,World.putObj]
 simp[Instr.mapEntry,e1,bT,fG,gy,zeroValue3,hj,goInt]
def acE{w:World}{r clock:Nat}(fq:k9 es clock){k v aq:Value}(Y:w.heap[r]?=some (.map (es.push ⟨k,aq,clock⟩) (clock+1))):
  (Instr.entryStore 125 (.map (some r)) (.int .i64 (clock:Int)) v).run prog w=.ok () (w.putObj r (.map (es.push ⟨k,v,clock⟩) (clock+1))):=by
 have bT:=q8 (P:=prog) Y;have hj:∀aZ:Obj,(setObj r aZ).run prog w=.ok () (w.putObj r aZ):=λaZ=>by simp[setObj,Sem.run,Y,World.putObj]
 have Py:(es.push ⟨k,aq,clock⟩).findIdx? (λe=>((e.born:Nat):Int)==((clock:Nat):Int))=some es.size:=by
  have e:(es.push ⟨k,aq,clock⟩).findIdx? (λe=>((e.born:Nat):Int)==((clock:Nat):Int))=(es.push ⟨k,aq,clock⟩).toList.findIdx? (λe=>((e.born:Nat):Int)==((clock:Nat):Int)):=by
   generalize es.push ⟨k,aq,clock⟩=a;cases a;simp
  rw[e];refine aaF (l:=(es.push ⟨k,aq,clock⟩).toList) (j:=es.size) (e0:=⟨k,aq,clock⟩) ?_ (by simp);rw[Array.toList_push,List.map_append,nodup_append];refine⟨fq.1,by simp,λx u y ak e=>?_⟩;obtain⟨z,hz,rfl⟩:=List.mem_map.1 u;have:=fq.2 z hz;simp at ak;omega
 have PJ:(es.push ⟨k,aq,clock⟩).modify es.size (λe=>{e with val:=v})=es.push ⟨k,v,clock⟩:=by
  apply Array.ext';rw[Array.toList_modify];apply List.ext_getElem?;intro i;rw[List.getElem?_modify,Array.toList_push,Array.toList_push];by_cases hi:es.size=i
  ·subst hi;simp
  ·have h1:(es.toList++[(⟨k,aq,clock⟩:MapEntry)])[i]?=(es.toList++[(⟨k,v,clock⟩:MapEntry)])[i]?:=by
    rcases Nat.lt_or_ge i es.size with h|h
    ·rw[List.getElem?_append_left (by simpa using h),List.getElem?_append_left (by simpa using h)]
    ·rw[List.getElem?_eq_none (by simp;omega),List.getElem?_eq_none (by simp;omega)]
   rw[h1];cases(es.toList++[(⟨k,v,clock⟩:MapEntry)])[i]?<;>simp[hi]
 simp[Instr.entryStore,bT,asInt,asIntOf,Py,PJ,hj]
def Kk(Q:Act→World→Prop):Exit→Act→World→Prop:=λe a w=>e=.normal∧Q a w
def OD(ops:lp)(z i:Nat)(L:o8):Bool:=Region.free .any ops L i&&(Region.ready .any ops L).contains i&&(match ops[z]? with|some xB=>xB.after.toList.any λe=>Region.binds .any e&&Nat.beq e.on i|none=>false)
def IK(ops:lp)(z:Nat):o8→ei→Bool
 |_,[]=>true
 |L,i::r=>OD ops z i L&&IK ops z (L.setIfInBounds i true) r
def zo{P:Program}{ops:lp}{Q:Act→World→Prop}{S:World→Prop}{z i Yl:Nat}{hn xB:Oper}{op:Op}{v:Value}{fuel:Nat}{L:o8}{a:Act}{w:World}(be:Region.noSelect ops=true)(hz:ops[z]?=some xB)(hi:ops[i]?=some hn)(cA:hn.dst=some Yl∧hn.op=op∧hn.guard=none)(ah:OD ops z i L=true)
  (aC:∀w,S w→(execOp a.eval hn).run P w=.ok (.value v) w) (fs:S w) (h:vm P .any ops (Kk Q) S z fuel (L.setIfInBounds i true) (a.put (some Yl) v) w):vm P .any ops (Kk Q) S z (fuel+1) L a w:=by
 simp only[OD,hz,Bool.and_eq_true]at ah;refine acB hi hz ah.2 be ah.1.1 ah.1.2 (λ_ _ _ h=>by cases h.1) (.inl ⟨by unfold Region.wanted;rw[cA.2.2],aC⟩) fs ?_;rw[cA.1];exact h
set_option maxHeartbeats 1000000
variable {fS hy o0 pe wh wj wk xq xu xw xx:Oper}{j:Int}
def ael{Q:Act→World→Prop}{ops:lp}(bA:ops[0]?=some o0)(i5:o0.dst=some 57∧o0.op=.move (.tmp 8)∧o0.guard=none)(h1:ops[1]?=some hy)(ay:hy.dst=some 58∧hy.op=.load 84 (.tmp 13)∧hy.guard=none)(D:ops[2]?=some fS)(aG:fS.dst=some 59∧fS.op=.lookup 125 (.tmp 57) (.tmp 58) false∧fS.guard=none)(aj:ops[3]?=some pe)(a1:pe.dst=some 60∧pe.op=.move (.tmp 1)∧pe.guard=none)(aV:ops[4]?=some xq)(aW:xq.dst=some 61∧xq.op=.move (.tmp 9)∧xq.guard=none)(b4:ops[5]?=some xu)(bt:xu.dst=some 62∧xu.op=.indexAddr 22 (.tmp 60) (.tmp 61)∧xu.guard=none)(dz:ops[6]?=some xw)(b1:xw.dst=some 63∧xw.op=.load 3 (.tmp 62)∧xw.guard=none)(fz:ops[7]?=some xx)(cE:xx.dst=some 64∧xx.op=.binOp .add 3 (.tmp 59) (.tmp 63) 3∧xx.guard=none)(hv:ops[8]?=some wj)(dA:wj.dst=some 65∧wj.op=.mapEntry 125 (.tmp 57) (.tmp 58)∧wj.guard=none)(hc:ops[9]?=some wk)(ef:wk.dst=some 66∧wk.op=.extract (.tmp 65) 1∧wk.guard=none)(kC:ops[10]?=some wh)(eY:wh.dst=none∧wh.op=.entryStore 125 (.tmp 57) (.tmp 66) (.tmp 64)∧wh.guard=none)
  (kT:ops.size=11) (be:Region.noSelect ops=true) (IL:IK ops 10 (Array.replicate 11 false) [0,1,3,4,5,6,2,7]=true)
  (PO:Region.ready .any ops #[true,true,true,true,true,true,true,true,false,false,false]=[8]) (PR:Region.ready .any ops #[true,true,true,true,true,true,true,true,true,false,false]=[9]) (OE:Region.ready .any ops #[true,true,true,true,true,true,true,true,true,true,false]=[10]) (OF:Region.ready .any ops #[true,true,true,true,true,true,true,true,true,true,true]=[])
   {a:Act} {w:World} {r b r8 so n px clock:Nat}  {c:Int}   (m3:67≤a.tmps.size)
  (abx:a.eval (.tmp 8)=.map (some r)) (abw:a.eval (.tmp 13)=.pointer (some ⟨b,0,none⟩)) (g6:a.eval (.tmp 1)=.slice (some ⟨r8,so,none⟩) n px) (a9:a.eval (.tmp 9)=.int .i64 j)
  (Y:w.heap[b]?=some (.cells #[.int .i64 h.bh,.int .i64 h.aS] 84 (0,0))) (FM:w.heap[r]?=some (.map es clock)) (iV:gm I (dV (eD bH) (dB .i64) m) es.toList) (fq:k9 es clock) (m5:w.cell? ⟨r8,so+j.toNat,none⟩=some (.int .i64 c)) (aY:0≤j∧j<n) (bQ:dL dj m h=none)
  (Au:∀gl,gl.tmps.size=a.tmps.size→gl.defers=a.defers→(∀t,¬(57≤t∧t≤66)→gl.tmps.getD t undef=a.tmps.getD t undef)→Q gl (w.putObj r (.map (es.push ⟨.agg #[.int .i64 h.bh,.int .i64 h.aS],.int .i64 (bE (0+c)),clock⟩) (clock+1)))) :
  wpAny prog .any ops (Kk Q) ops.size (Array.replicate ops.size false) a w:=by
 obtain⟨iS,lM⟩:∃iS,w.putObj r (.map (es.push ⟨.agg #[.int .i64 h.bh,.int .i64 h.aS],.int .i64 0,clock⟩) (clock+1))=iS:=⟨_,rfl⟩;have apa:=(Array.getElem?_eq_some_iff.1 FM).1;have Pl:b≠r:=λe=>by rw[e,FM]at Y;cases Y
 have rI:r8≠r:=λe=>by simp[World.cell?,e,FM]at m5
 have aax:iS.heap[r]?=some (.map (es.push ⟨.agg #[.int .i64 h.bh,.int .i64 h.aS],.int .i64 0,clock⟩) (clock+1)):=by rw[←lM];exact World.putObj_heap_same apa
 have aaw:iS.heap[b]?=some (.cells #[.int .i64 h.bh,.int .i64 h.aS] 84 (0,0)):=by rw[←lM];exact(World.putObj_heap_other Pl).trans Y
 have asJ:iS.cell? ⟨r8,so+j.toNat,none⟩=some (.int .i64 c):=by
  rw[World.cell?_of_block (w:=w) (by rw[←lM];exact World.putObj_heap_other rI)];exact m5
 have anu:gm I (dV (eD bH) (dB .i64) (gq dj m h 0)) (es.push ⟨.agg #[.int .i64 h.bh,.int .i64 h.aS],.int .i64 0,clock⟩).toList:=by
  obtain⟨_,dY⟩:=vV va.key h w m es.toList 0 iV bQ;simpa using dY 0 ⟨.agg #[.int .i64 h.bh,.int .i64 h.aS],.int .i64 0,clock⟩ (by simp[dB,bk]) (by simp[eD,bH,bk,cD])
 have aot:(dL dj m h).getD 0=0:=by rw[bQ];rfl
 have aou:(dL dj (gq dj m h 0) h).getD 0=0:=by rw[T4 (λn=>by cases n;simp[dj])];rfl
 have cells:∀bn,(bn=w∨bn=iS)→bn.cell? ⟨b,0,none⟩=some (.int .i64 h.bh)∧bn.cell? ⟨b,1,none⟩=some (.int .i64 h.aS)∧bn.cell? ⟨r8,so+j.toNat,none⟩=some (.int .i64 c):=λbn fD=>by
  rcases fD with rfl|rfl
  ·exact⟨by simp[World.cell?,Y],by simp[World.cell?,Y],m5⟩
  ·exact⟨by simp[World.cell?,aaw],by simp[World.cell?,aaw],asJ⟩
 obtain⟨ya,rB⟩:∃ya,bE (0+c)=ya:=⟨_,rfl⟩;rw[rB]at Au;simp only[IK,Bool.and_eq_true]at IL;obtain⟨tK,ga,i3,rM,hp,gL,bV,vY,_⟩:=IL;have vg:57<a.tmps.size:=by omega
 have wC:58<a.tmps.size:=by omega
 have GV:59<a.tmps.size:=by omega
 have xI:60<a.tmps.size:=by omega
 have y5:61<a.tmps.size:=by omega
 have Bp:62<a.tmps.size:=by omega
 have Du:63<a.tmps.size:=by omega
 have KG:64<a.tmps.size:=by omega
 have Q5:65<a.tmps.size:=by omega
 have ZW:66<a.tmps.size:=by omega
 have asp:∀w,(underlying 22).run prog w=.ok (.slice 3) w:=λw=>by simp[underlying,program,Sem.run,underlying22]
 refine aaS (S:=λbn=>bn=w∨bn=iS) (z:=10) _ _ _ _ ?_;rw[kT];refine zo be kC bA i5 tK (v:=.map (some r)) (λbn fD=>?_) (.inl rfl) ?_
 ·simp[execOp,i5.2.1,abx]
 refine zo be kC h1 ay ga (v:=.agg #[.int .i64 h.bh,.int .i64 h.aS]) (λbn fD=>?_) (.inl rfl) ?_
 ·obtain⟨mc,aN,_⟩:=cells bn fD
  have aP:=wW (P:=prog) (T:=84) (n:=2) (ej:=true) ⟨sizeOf84,isAgg84⟩ (w:=bn) (b:=b) (off:=0) (vs:=[.int .i64 h.bh,.int .i64 h.aS]) (λj aY=>by
   match j,aY with
   |0,_=>exact⟨_,rfl,mc⟩
   |1,_=>exact⟨_,rfl,aN⟩) (λe=>by cases e)
  simp[execOp,ay.2.1,rN,vg,abw,Instr.loadAt,Instr.sureAddr,aP]
 refine zo be kC aj a1 i3 (v:=.slice (some ⟨r8,so,none⟩) n px) (λbn fD=>?_) (.inl rfl) ?_
 ·simp[execOp,a1.2.1,rN,sK,vg,wC,g6]
 refine zo be kC aV aW rM (v:=.int .i64 j) (λbn fD=>?_) (.inl rfl) ?_
 ·simp[execOp,aW.2.1,rN,sK,vg,wC,xI,a9]
 refine zo be kC b4 bt hp (v:=.pointer (some ⟨r8,so+j.toNat,none⟩)) (λbn fD=>?_) (.inl rfl) ?_
 ·simp[execOp,bt.2.1,rN,sK,vg,wC,xI,y5,Instr.indexAt,Instr.sureAddr,asIntOf,asp,aY,Addr.add,sizeOf3]
 refine zo be kC dz b1 gL (v:=.int .i64 c) (λbn fD=>?_) (.inl rfl) ?_
 ·obtain⟨_,_,mc⟩:=cells bn fD
  have aP:=wW (P:=prog) (T:=3) (n:=1) (ej:=false) ⟨sizeOf3,isAgg3⟩ (w:=bn) (b:=r8) (off:=so+j.toNat) (vs:=[.int .i64 c]) (λj aY=>by
   match j,aY with
   |0,_=>exact⟨_,rfl,mc⟩) (λe=>by omega)
  simp[execOp,b1.2.1,rN,sK,vg,wC,xI,y5,Bp,Instr.loadAt,Instr.sureAddr,aP]
 refine zo be kC D aG bV (v:=.int .i64 0) (λbn fD=>?_) (.inl rfl) ?_
 ·have aP:(Instr.lookup 125 (.map (some r)) (.agg #[.int .i64 h.bh,.int .i64 h.aS]) false).run prog bn=.ok (.int .i64 0) bn:=by
   rcases fD with rfl|rfl
   ·have:=Ub FM iV h;rwa [aot]at this
   ·have:=Ub aax anu h;rwa [aou]at this
  simp[execOp,aG.2.1,rN,sK,vg,wC,xI,y5,Bp,Du,aP]
 refine zo be kC fz cE vY (v:=.int .i64 ya) (λbn fD=>?_) (.inl rfl) ?_
 ·have e1:(eqGuard .add 3 (.tmp 59) (.tmp 63) (.int .i64 0) (.int .i64 c)).run prog bn=.ok () bn:=rfl;have e2:(binOp .add 3 (.int .i64 0) (.int .i64 c)).run prog bn=.ok (.int .i64 ya) bn:=by rw[←rB];rfl
  simp[execOp,cE.2.1,rN,sK,vg,wC,GV,xI,y5,Bp,Du,e1,e2]
 have F:∀t,¬(57≤t∧t≤66)→57≠t∧58≠t∧59≠t∧60≠t∧61≠t∧62≠t∧63≠t∧64≠t∧65≠t∧66≠t:=λt bU=>by omega
 generalize dZ:Act.put (Act.put _ _ _) (some 64) _=A;have Sc:A.eval (.tmp 57)=.map (some r):=by rw[←dZ];simp[rN,sK,vg,wC,GV,xI,y5,Bp,Du,KG]
 have abf:A.eval (.tmp 58)=.agg #[.int .i64 h.bh,.int .i64 h.aS]:=by rw[←dZ];simp[rN,sK,vg,wC,GV,xI,y5,Bp,Du,KG]
 have abg:A.eval (.tmp 64)=.int .i64 ya:=by rw[←dZ];simp[rN,sK,vg,wC,GV,xI,y5,Bp,Du,KG]
 have HN:A.tmps.size=a.tmps.size:=by rw[←dZ];simp[sK]
 have abh:A.defers=a.defers:=by rw[←dZ];simp only[H8]
 have abi:∀t,¬(57≤t∧t≤66)→A.tmps.getD t undef=a.tmps.getD t undef:=λt bU=>by
  obtain⟨f57,f58,f59,f60,f61,f62,f63,f64,_⟩:=F t bU;have:A.eval (.tmp t)=a.eval (.tmp t):=by rw[←dZ];simp[rN,sK,vg,wC,GV,xI,y5,Bp,Du,KG,f57,f58,f59,f60,f61,f62,f63,f64]
  exact this
 clear dZ;have aP:=acD FM iV bQ;rw[lM]at aP;have aqA:(execOp A.eval wj).run prog w=.ok (.value (.tuple #[.int .i64 0,.int .i64 (clock:Int)])) iS:=by simp[execOp,dA.2.1,Sc,abf,aP]
 refine R1 hv PO dA.2.2 ?_;unfold Oper.wp;rw[aqA];simp only[Oper.upon,dA.1];refine⟨by simp,?_⟩;have aqB:(execOp (A.put (some 65) (.tuple #[.int .i64 0,.int .i64 (clock:Int)])).eval wk).run prog iS=.ok (.value (.int .i64 (clock:Int))) iS:=by
  simp[execOp,ef.2.1,rN,HN,Q5,Instr.extract]
 refine R1 hc PR ef.2.2 ?_;unfold Oper.wp;rw[aqB];simp only[Oper.upon,ef.1];refine⟨by simp,?_⟩;have ak3:(execOp ((A.put (some 65) (.tuple #[.int .i64 0,.int .i64 (clock:Int)])).put (some 66) (.int .i64 (clock:Int))).eval wh).run prog iS=.ok .skip (iS.putObj r (.map (es.push ⟨.agg #[.int .i64 h.bh,.int .i64 h.aS],.int .i64 ya,clock⟩) (clock+1))):=by
  simp[execOp,eY.2.1,rN,sK,HN,Q5,ZW,Sc,abg,acE fq aax]
 refine R1 kC OE eY.2.2 ?_;unfold Oper.wp;rw[ak3];simp only[Oper.upon,eY.1];refine⟨by simp,acC OF ⟨rfl,?_⟩ _⟩;have e:iS.putObj r (.map (es.push ⟨.agg #[.int .i64 h.bh,.int .i64 h.aS],.int .i64 ya,clock⟩) (clock+1))=w.putObj r (.map (es.push ⟨.agg #[.int .i64 h.bh,.int .i64 h.aS],.int .i64 ya,clock⟩) (clock+1)):=by
  rw[←lM];simp[World.putObj]
 rw[e];refine Au _ (by rw[MP,MP,MP,HN]) (by rw[H8,H8,H8,abh]) λt bU=>?_;obtain⟨_,_,_,_,_,_,_,_,f65,f66⟩:=F t bU;rw[←abi t bU];show(((A.put (some 65) _).put (some 66) _).put none _).eval (.tmp t)=A.eval (.tmp t);have e2:∀(b:Act) v,(b.put none v).eval (.tmp t)=b.eval (.tmp t):=λb v=>rfl;rw[e2];simp[rN,sK,HN,Q5,ZW,f65,f66]
def Cf:an→an
 |[]=>[]
 |p::r=>bif Nat.ble 57 p.1&&Nat.ble p.1 66 then Cf r else p::Cf r
def Mr(t:Nat):∀env:an,((57≤t∧t≤66)→(Cf env).get t=.ig)∧(¬(57≤t∧t≤66)→(Cf env).get t=env.get t)
 |[]=>⟨λ_=>rfl,λ_=>rfl⟩
 |p::r=>by
  obtain⟨qE,tI⟩:=Mr t r;obtain⟨k,v⟩:=p;simp only[Cf];cases ah:(Nat.ble 57 k&&Nat.ble k 66)with
  |true=>
   simp only[cond_true,Bool.and_eq_true,Nat.ble_eq]at ah ⊢;refine⟨qE,λbe=>?_⟩;rw[tI be,axI,if_neg (λe=>by subst e;exact be ah)]
  |false=>
   simp only[cond_false,axI];constructor
   ·intro h;by_cases he:k=t
    ·subst he;have:(Nat.ble 57 k&&Nat.ble k 66)=true:=by simp[h.1,h.2]
     rw[this]at ah;cases ah
    ·rw[if_neg he];exact qE h
   ·intro h;split
    ·rfl
    ·exact tI h
def azV{N:Nat}{ids:ei}{Q:Exit→an→ag→Prop}{env:an}{σ:ag}{id:Nat}{ops:lp}(d b:Nat){xs:cN}{c:Int}(hm:prog.follows .mixedOrders=true)(m3:67≤N)
  (uw:env.get 8=.ep d) (amZ:env.get 13=.ptr b 0) (e1:env.get 1=.bf false (aM az xs)) (OW:env.get 9=.int .i64 j)
  (aa:σ.get d=some (.map 84 3 (dV (eD bH) (dB .i64) m))) (Y:σ.get b=some (.cells 84 [.int .i64 h.bh,.int .i64 h.aS])) (u:b2 xs j=some c) (bQ:dL dj m h=none) (bA:ops[0]?=some o0) (i5:o0.dst=some 57∧o0.op=.move (.tmp 8)∧o0.guard=none) (h1:ops[1]?=some hy) (ay:hy.dst=some 58∧hy.op=.load 84 (.tmp 13)∧hy.guard=none) (D:ops[2]?=some fS) (aG:fS.dst=some 59∧fS.op=.lookup 125 (.tmp 57) (.tmp 58) false∧fS.guard=none) (aj:ops[3]?=some pe) (a1:pe.dst=some 60∧pe.op=.move (.tmp 1)∧pe.guard=none) (aV:ops[4]?=some xq) (aW:xq.dst=some 61∧xq.op=.move (.tmp 9)∧xq.guard=none) (b4:ops[5]?=some xu) (bt:xu.dst=some 62∧xu.op=.indexAddr 22 (.tmp 60) (.tmp 61)∧xu.guard=none) (dz:ops[6]?=some xw) (b1:xw.dst=some 63∧xw.op=.load 3 (.tmp 62)∧xw.guard=none) (fz:ops[7]?=some xx) (cE:xx.dst=some 64∧xx.op=.binOp .add 3 (.tmp 59) (.tmp 63) 3∧xx.guard=none) (hv:ops[8]?=some wj) (dA:wj.dst=some 65∧wj.op=.mapEntry 125 (.tmp 57) (.tmp 58)∧wj.guard=none) (hc:ops[9]?=some wk) (ef:wk.dst=some 66∧wk.op=.extract (.tmp 65) 1∧wk.guard=none) (kC:ops[10]?=some wh) (eY:wh.dst=none∧wh.op=.entryStore 125 (.tmp 57) (.tmp 66) (.tmp 64)∧wh.guard=none)
  (kT:ops.size=11) (be:Region.noSelect ops=true) (IL:IK ops 10 (Array.replicate 11 false) [0,1,3,4,5,6,2,7]=true)
  (PO:Region.ready .any ops #[true,true,true,true,true,true,true,true,false,false,false]=[8]) (PR:Region.ready .any ops #[true,true,true,true,true,true,true,true,true,false,false]=[9]) (OE:Region.ready .any ops #[true,true,true,true,true,true,true,true,true,true,false]=[10]) (OF:Region.ready .any ops #[true,true,true,true,true,true,true,true,true,true,true]=[])
  (k:Q .normal (Cf env) (σ.set d (.map 84 3 (dV (eD bH) (dB .i64) (gq dj m h (bE (((dL dj m h).getD (0:Int))+c))))))):aF ⟨prog,N,ids⟩ (.region id ops true) Q env σ:=by
 rw[show(dL dj m h).getD (0:Int)=0 by rw[bQ];rfl]at k;refine axS λcx a w aC=>?_;obtain⟨I,β,aA,bU,Z,Az⟩:=aC;have aA:=aA.drew;have DJ:=bU 8;rw[uw]at DJ
 have Rm:=bU 13;rw[amZ]at Rm
 have g2:=bU 1;rw[e1]at g2
 have v9:=bU 9;rw[OW]at v9
 obtain⟨r,es,clock,aqr,cZ,c8,h3⟩:∃r es clock,a.tmps.getD 8 undef=.map (some r)∧β d=.map (some r)∧({w with drawn:=w.drawn+1}:World).heap[r]?=some (.map es clock)∧(gm I (dV (eD bH) (dB .i64) m) es.toList∧(∀o,I r o=none)∧Place cx r∧k9 es clock):=by
  simp only[aD]at DJ;have ar:=aA.dK d _ aa;simp only[br]at ar;rcases ar with q|⟨r,es,clock,ay,aG,a1⟩
  ·rw[DJ.1,q]at DJ;simp[nN]at DJ
  ·exact⟨r,es,clock,by rw[DJ.1,ay],ay,aG,a1⟩
 obtain⟨h3,nE,vB,Cp⟩:=h3
 obtain⟨fc,dI,ek⟩:∃fc,a.tmps.getD 13 undef=.pointer (some ⟨fc,0,none⟩)∧({w with drawn:=w.drawn+1}:World).heap[fc]?=some (.cells #[.int .i64 h.bh,.int .i64 h.aS] 84 (0,0)):=by
  simp only[aD]at Rm;obtain⟨fc,cM,dY⟩:=Rm;have ar:=aA.dK b _ Y;simp only[br]at ar;rcases ar with q|⟨aX,arr,ay,aG,a1,_⟩
  ·rw[q]at cM;simp[cV]at cM
  ·rw[ay]at cM;simp only[cV,Option.some.injEq]at cM;subst cM;refine⟨aX,dY,?_⟩;simp only[cw,aD,bk]at a1;obtain⟨_,_,f1,rfl,_,_,rfl,rfl,rfl⟩:=a1;rw[aG,show arr=#[.int .i64 h.bh,.int .i64 h.aS]from by cases arr;simpa using f1]
 simp only[b2]at u;split at u
 rotate_left
 ·cases u
 rename_i Cy;have cq:j.toNat<xs.length:=(List.getElem?_eq_some_iff.1 u).1
 obtain⟨r8,so,px,aN,bw⟩:∃r8 so px,a.tmps.getD 1 undef=.slice (some ⟨r8,so,none⟩) xs.length px∧({w with drawn:=w.drawn+1}:World).cell? ⟨r8,so+j.toNat,none⟩=some (.int .i64 c):=by
  simp only[aD,bk]at g2;obtain⟨ad,px,cM,dY,fJ,_,iy⟩:=g2;have AF:(aM az xs).length=xs.length:=by simp[aM]
  rcases iy with iy|⟨r8,so,rfl,iy⟩
  ·have:xs=[]:=by simpa [aM]using iy
   subst this;simp at cq
  ·refine⟨r8,so,px,by rw[cM,AF],?_⟩;have jm:=RF (sz:=1) _ so j.toNat (λe he=>by obtain⟨r,_,rfl⟩:=List.mem_map.1 he;rfl) iy (by rw[AF];exact cq);have nQ:(aM az xs).getD j.toNat []=az.enc c:=by
    simp only[aM,getD_eq_getElem?_getD,List.getElem?_map,u];rfl
   rw[nQ,Nat.mul_one]at jm;obtain⟨⟨aq,f1,f2⟩,_⟩:=jm;have:aq=.int .i64 c:=f2;subst this;exact aA.good _ _ _ f1
 simp only[aD,bk]at v9;have aY:0≤j∧j<(xs.length:Nat):=⟨by omega,by omega⟩;refine wp_mono (Q:=Kk λgl w'=>∃hh aL,qX ⟨prog,N,ids⟩ cx hh aL gl w'∧Q .normal hh aL) (wp_region_any hm (ael bA i5 h1 ay D aG aj a1 aV aW b4 bt dz b1 fz cE hv dA hc ef kC eY kT be IL PO PR OE OF (I:=I) (by rw[Z];exact m3) aqr dI aN v9 ek c8 h3 Cp bw aY bQ λgl kG l8 z3=>?_)) (λe gl w' he=>by obtain⟨rfl,he⟩:=he;exact he);refine⟨_,_,⟨I,β,?_,λt=>?_,kG.trans Z,l8.trans Az⟩,k⟩
 ·refine aA.turn (d:=d) (b:=r) ⟨λk hk cq=>World.putObj_heap_other hk,by rw[World.putObj_size];exact Nat.le_refl _,rfl,rfl,rfl,Nat.le_refl _⟩ vB (λx u=>by rw[axu,if_neg u]) (λx u Z e=>aA.eN x d Z (by rw[aa];rfl) u r e (by rw[cZ];simp[e4,cV])) (dc.refl I) (λ_ _ _=>rfl)
   (λo v ai=>by rw[nE]at ai;cases ai) (nE none) (λ_ _=>rfl) (.inr rfl) (h8.refl β) (.inl (by rw[cZ];rfl)) λaZ c5=>?_
  rw[axu,if_pos rfl,aa]at c5;injection c5 with c5
  subst c5;simp only[br];refine .inr ⟨r,_,_,cZ,World.putObj_heap_same (hZ c8),?_,nE,vB,Cp.push _ _⟩;obtain⟨_,dY⟩:=vV va.key h w m es.toList 0 h3 bQ;simpa using dY (bE (0+c)) ⟨.agg #[.int .i64 h.bh,.int .i64 h.aS],.int .i64 (bE (0+c)),clock⟩ (by simp[dB,bk]) (by simp[eD,bH,bk,cD])
 ·by_cases ah:57≤t∧t≤66
  ·rw[(Mr t env).1 ah];simp[aD,bk]
  ·rw[(Mr t env).2 ah,z3 t ah];exact bU t
end
section
open Go Go.Proofs.Tryz List
set_option maxRecDepth 100000
set_option linter.all false
def as3{a8:yO}{root:Int}{r:(cN)}(hm:Gk a8 root=some r):dn prog 156 [] [av fl a8,U root] (av az r):=by
 refine dE func156 rfl rfl ?_;unfold Gk at hm;refine aO [] [(0,av fl a8),(1,U root)] []<|c0 [(0,.al 38),(2,yD (u5 (k:=.i64) (enc:=jw) [] root true rfl))] [] [(5,.ep 38)] [] [(38,.map 3 4 (fh .i64 jw (eG [] root true)))]<|c0 [(1,.al 122)] [1] [(6,.own 122)] [] [(122,.slice 3 1 (aM az ([root]:cN)) 0 false)]<|A.seq<|aH [] [] [(7,U 0)]<|A.block ?_
 obtain⟨lQ,iE,lT,hm⟩:=n1 hm;refine axJ (F:=lQ) hm (λ(ee,cI,bJ)=>[(0,av fl a8),(5,.ep 38),(6,.own 600156006),(7,U cI)]) (λ(ee,cI,bJ)=>[(38,.map 3 4 (fh .i64 jw bJ)),(600156006,.slice 3 1 (aM az ee) 0 false)]) ?_ ?_
 ·exact gM [.ja 122 600156006] []
 rintro b3 ⟨ee,cI,bJ⟩ hm;rw[lT]at hm;refine A.seq<|aH [(2,ax (cb az ee))] [] [(18,.d (cI<(ee.length:Int)))] ?_
 rcases bL hm with⟨aN,hm⟩|⟨aN,hm⟩
 ·refine bz aN<|A.skip<|A.seq<|A.block<|aH [(1,ax (cb fl a8))] [18] [(21,av fl a8),(22,U a8.length),(23,U 0)]<|A.block<|axt 0 rfl λgr=>?_
  obtain⟨jQ,iH,jZ,j0,hm⟩:=fF hm;refine axq (l:=a8) (e3:=0) (B:=jQ) (K:=iH) hm (λbN=>λ(hS,c6)=>[(0,av fl a8),(5,.ep 38),(6,.own 600156006),(7,U cI),(21,av fl a8),(22,U a8.length),(23,U bN)]) (λbN=>λ(hS,c6)=>[(38,.map 3 4 (fh .i64 jw c6)),(600156006,.slice 3 1 (aM az hS) 0 false)]) ?_ ?_ ?_
  ·exact fm
  ·rintro bN e2 gX ⟨hS,c6⟩ h6 eu hm;rw[jZ]at hm;refine aH [] [] [(24,.d ((bN:Int)<a8.length))]<|A.seq<|bz (fC eu)<|A.skip ?_
   obtain⟨dx,iu,hm⟩:=h2 hm;refine A.J (J:=dx) (r:=r) (λ(sP,et)=>[(0,av fl a8),(5,.ep 38),(6,.own 600156006),(7,U cI),(21,av fl a8),(22,U a8.length),(23,U bN)]) (λ(sP,et)=>[(38,.map 3 4 (fh .i64 jw et)),(600156006,.slice 3 1 (aM az sP) 0 false)]) ?_ ?_
   ·refine A.block<|c0 [(0,b7 (ix fl (eM eu))),(2,.al 86)] [24] [(9,.ptr 86 0)] [] [(86,.cells 175 (rM e2))] ?_
    obtain⟨gv,k4,hm⟩:=h2 hm;refine A.J (J:=gv) (r:=r) (λeL=>[(0,av fl a8),(5,.ep 38),(6,.own 600156006),(7,U cI),(9,.ptr 86 0),(21,av fl a8),(22,U a8.length),(23,U bN),(42,.bool eL)]) (λeL=>[(38,.map 3 4 (fh .i64 jw c6)),(600156006,.slice 3 1 (aM az hS) 0 false),(86,.cells 175 (rM e2))]) ?_ ?_
    ·obtain⟨cr,h1,hm⟩:=aU hm;rcases bL hm with⟨bw,hm⟩|⟨bw,hm⟩
     ·exact cB [(5,b7 (ix az h1)),(6,lX 600156006 0 (ix az h1)),(8,ax (b0 bw)),(13,CD (lk (E:=4) (k:=.i64) (enc:=jw) c6 e2.Hop.aS false (λw=>⟨_,zeroValue4 w,λI=>by simp[bk,dB,jw]⟩)))] [] [(42,.bool (!((cH c6 e2.Hop.aS).getD false)))]<|ck (!((cH c6 e2.Hop.aS).getD false)) hm
     exact cB [(5,b7 (ix az h1)),(6,lX 600156006 0 (ix az h1)),(8,ax (b0 bw))] [] [(42,.bool false)]<|ck false hm
    rintro eL hm;rw[k4]at hm;rcases bL hm with⟨cg,hm⟩|⟨cg,hm⟩
    ·refine bz cg<|c0 [(4,yD (u5 (k:=.i64) (enc:=jw) c6 e2.Hop.aS true rfl))] [42] [] [38] [(38,.map 3 4 (fh .i64 jw (eG c6 e2.Hop.aS true)))] ?_
     obtain⟨dk,D,hm⟩:=aU hm;exact hr [(5,m4 160 (ap az (bytes:=8) (by decide) D))] [6,9] [(6,.own 160)] [600156006,86] [(160,.slice 3 1 (aM az dk) 0 false)]<|Exists.intro (dk,eG c6 e2.Hop.aS true) (And.intro hm (gM [.ja 160 600156006] []))
    exact bx cg<|A.skip<|ck (hS,c6) hm
   rintro⟨sP,et⟩ hm;rw[iu]at hm;exact cB [(0,ax (fk eu gr))] [23] [(23,U ((bN+1:Nat):Int))]<|ck (sP,et) hm
  rintro bN ⟨hS,c6⟩ h6 iR hm;rw[j0]at hm;exact aH [] [] [(24,.d ((bN:Int)<a8.length))]<|A.seq<|bx (fB iR)<|A.exit<|cB [] [7,21,22,23,24] [(7,U (bE (cI+1)))]<|ck (hS,bE (cI+1),c6) hm
 refine bx aN<|A.exit ?_
 obtain⟨aj,hm⟩:=mD hm;refine aO [(1,gW [] (T6 (d:=600156006) (T:=3) ee (of_decide_eq_true aj)) Wj)] [(6,.own 600156006)] [(600156006,.slice 3 1 (aM az (mL ee)) 0 false)]<|aH [] [6] [(4,.own 600156006)]<|A.ret ?_
 obtain rfl:=nU hm;exact axv cQ [.dO [600156006]] rfl (by kernel_rfl)
variable {t:bu}
def ZQ{kk:List (aQ×Int)}{d:bY}{r:(cN)×Bool}(hm:An t kk d=some r):dn prog 89 [] [.agg (bV t),.ec (dV (eD bH) (dB .i64) kk),.agg (hq d)] (.dm [av az r.1,.bool r.2]):=by
 refine dE func89 rfl rfl ?_;unfold An at hm;refine aO [(0,.al 216),(1,.al 150)] [(1,.ec (dV (eD bH) (dB .i64) kk)),(3,.ptr 216 0),(5,.ptr 150 0)] [(216,.cells 28 (bV t)),(150,.cells 52 (hq d))] ?_;obtain⟨aJ,h1,hm⟩:=aU hm;obtain⟨bq,D,hm⟩:=aU hm;refine c0 [(4,bI (ax9 (r':=av fl aJ) (σ3:=[]) [125] (Qm h1) (by kernel_rfl) (by kernel_rfl)) Oe),(7,bI (as3 D) alj)] [1,3] [(8,av az bq)] [216] []<|A.seq<|c0 [(2,ax (cb az d.dM))] [5] [(22,av az d.dM),(23,U d.dM.length),(24,U 0)] [150] []<|A.block<|axt 22 rfl λdX=>?_
 obtain⟨eT,eU,eW,eO,hm⟩:=fF hm;refine axq (l:=d.dM) (e3:=0) (B:=eT) (K:=eU) hm (λau=>λ()=>[(8,av az bq),(22,av az d.dM),(23,U d.dM.length),(24,U au)]) (λau=>λ()=>[]) ?_ ?_ ?_
 ·exact fm
 ·rintro au e1 b3 ⟨⟩ eX bF hm;rw[eW]at hm;refine aH [] [] [(25,.d ((au:Int)<d.dM.length))]<|A.seq<|bz (fC bF)<|A.skip<|A.seq<|A.block<|aH [(0,b7 (ix az (eM bF)))] [25] [(10,U e1)] ?_
  obtain⟨cu,aj,hm⟩:=aU hm;refine aH [(2,bI (aqg aj) alk)] [10] [(12,.bool cu.2)]<|aH [] [12] [(35,.bool (!cu.2))] ?_
  rcases bL hm with⟨aN,hm⟩|⟨aN,hm⟩
  ·refine bz aN<|aO [] [(6,av az bq),(7,.bool false)] [] ?_
   cases hm;exact A.ret bG
  exact bx aN<|A.skip<|cB [(0,ax (fk bF dX))] [24,35] [(24,U ((au+1:Nat):Int))]<|ck () hm
 rintro au ⟨⟩ eX er hm;rw[eO]at hm;refine aH [] [] [(25,.d ((au:Int)<d.dM.length))]<|A.seq<|bx (fB er)<|A.exit<|aO [] [(6,av az bq),(7,.bool true)] [] ?_
 cases hm;exact A.ret bG
def ZM{c2:xe}{d:bY}{r:(cN)×Int}(hm:wV t c2 d=some r):dn prog 25 [] [.agg (bV t),av cp c2,.agg (hq d)] (.dm [av az r.1,U r.2]):=by
 refine dE func25 rfl rfl ?_;unfold wV at hm;refine aO [(0,.al 110),(1,.al 111)] [(1,av cp c2),(3,.ptr 110 0),(5,.ptr 111 0)] [(110,.cells 28 (bV t)),(111,.cells 52 (hq d))]<|A.seq ?_
 obtain⟨aJ,h1,hm⟩:=aU hm;refine aH [(3,bI (F2 h1) EU)] [] [(8,U aJ)]<|aH [] [] [(16,.bool (!decide (aJ=0)))] ?_
 rcases bL hm with⟨aN,hm⟩|⟨aN,hm⟩
 ·refine bz aN<|aO [] [(6,.dh),(7,U aJ)] [] ?_
  cases hm;exact A.ret bG
 refine bx aN<|A.skip ?_
 obtain⟨bq,D,hm⟩:=aU hm;obtain⟨cu,aj,hm⟩:=aU hm;refine aO [(2,bI (ZP D) X3),(4,bI (ZQ aj) X2)] [(9,av az cu.1),(10,.bool cu.2)] []<|A.seq<|aH [] [10] [(26,.bool cu.2)] ?_
 rcases bL hm with⟨bw,hm⟩|⟨bw,hm⟩
 ·refine bz bw<|aO [] [(6,.dh),(7,U 9)] [] ?_
  cases hm;exact A.ret bG
 refine bx bw<|A.skip<|aO [] [(6,av az cu.1),(7,U 0)] [] ?_
 cases hm;exact A.ret bG
def RN:l3 prog 125 84 3 (eD bH) dj:=⟨underlying125,λ_=>rfl,λ_=>rfl,⟨_,underlying84,λ_ _=>rfl⟩,λa b w=>Cn (by kernel_rfl) (by kernel_rfl) (D4 a.bh b.bh a.aS b.aS w),λe a w=>by kernel_rfl,λa b h=>by cases a;cases b;simpa [dj]using h,λa=>by simp[eD,bH,valOf,wm,Instr.sameBits]⟩
variable {l:Bt}{r:(xe)×Int}
def as4{e7:cN}(hm:Gl l e7=some r):dn prog 32 [] [av cC l,av az e7] (.dm [av cp r.1,U r.2]):=by
 refine dE func32 rfl rfl ?_;unfold Gl at hm;refine aO [] [(0,av cC l),(1,av az e7)] []<|A.seq<|aH [(1,ax (cb cC l)),(3,ax (cb az e7))] [] [(18,.bool (!decide ((l.length:Int)=(e7.length:Int))))] ?_
 rcases bL hm with⟨aN,hm⟩|⟨aN,hm⟩
 ·refine bz aN<|aO [] [(4,.dh),(5,U 8)] [] ?_
  cases hm;exact A.ret bG
 refine bx aN<|A.skip<|A.seq<|aH [(1,ax (cb az e7))] [18] [(19,av az e7),(20,U e7.length),(21,U 0)]<|A.block<|axt 1 rfl λdX=>?_
 obtain⟨eT,eU,eW,eO,hm⟩:=fF hm;refine axq (l:=e7) (e3:=0) (B:=eT) (K:=eU) hm (λau=>λ()=>[(0,av cC l),(1,av az e7),(19,av az e7),(20,U e7.length),(21,U au)]) (λau=>λ()=>[]) ?_ ?_ ?_
 ·exact fm
 ·rintro au e1 b3 ⟨⟩ eX bF hm;rw[eW]at hm;refine aH [] [] [(22,.d ((au:Int)<e7.length))]<|A.seq<|bz (fC bF)<|A.skip<|A.seq<|A.block<|aH [(0,b7 (ix az (eM bF)))] [22] [(7,U e1)]<|axy [(0,av cC l),(1,av az e7),(19,av az e7),(20,U e7.length),(21,U au),(30,.bool ((decide (e1<0))||(decide (1000<e1))))] [] (λhk=>?_) ?_
  ·rcases kF (decide (e1<0))with bw|bw
   ·exact aO [(2,ax (b0 bw)),(5,ax (wA (q:=decide (1000<e1)) bw))] _ _ hk
   exact aO [(2,ax (b0 bw)),(5,ax (tV (q:=decide (1000<e1)) bw))] _ _ hk
  rcases bL hm with⟨cg,hm⟩|⟨cg,hm⟩
  ·refine bz cg<|aO [] [(4,.dh),(5,U 2)] [] ?_
   cases hm;exact A.ret bG
  exact bx cg<|A.skip<|cB [(0,ax (fk bF dX))] [21,30] [(21,U ((au+1:Nat):Int))]<|ck () hm
 rintro au ⟨⟩ eX er hm;rw[eO]at hm;refine aH [] [] [(22,.d ((au:Int)<e7.length))]<|A.seq<|bx (fB er)<|A.exit<|A.seq<|aH [(1,ax (cb cC l))] [19,20,21,22] [(34,.d (12<(l.length:Int)))] ?_
 rcases bL hm with⟨dR,hm⟩|⟨dR,hm⟩
 ·refine bz dR<|aO [] [(4,.dh),(5,U 3)] [] ?_
  cases hm;exact A.ret bG
 refine bx dR<|A.skip<|c0 [(0,PI 32035 84 3)] [34] [(8,.ep 32035)] [] [(32035,.map 84 3 (dV (eD bH) (dB .i64) []))]<|A.seq<|aH [(1,ax (cb cC l))] [0] [(36,av cC l),(37,U l.length),(38,U 0)]<|A.block<|axt 36 rfl λgr=>?_
 obtain⟨jQ,iH,jZ,j0,hm⟩:=fF hm;refine axq (l:=l) (e3:=0) (B:=jQ) (K:=iH) hm (λbN=>λbJ=>[(1,av az e7),(8,.ep 32035),(36,av cC l),(37,U l.length),(38,U bN)]) (λbN=>λbJ=>[(32035,.map 84 3 (dV (eD bH) (dB .i64) bJ))]) ?_ ?_ ?_
 ·exact fm
 ·rintro bN e2 gX bJ h6 eu hm;rw[jZ]at hm;refine aH [] [] [(39,.d ((bN:Int)<l.length))]<|A.seq<|bz (fC eu)<|A.skip ?_
  obtain⟨dx,iu,hm⟩:=h2 hm;refine A.J (J:=dx) (r:=r) (λc6=>[(1,av az e7),(8,.ep 32035),(36,av cC l),(37,U l.length),(38,U bN)]) (λc6=>[(32035,.map 84 3 (dV (eD bH) (dB .i64) c6))]) ?_ ?_
  ·refine A.block<|c0 [(1,b7 (ix cC (eM eu))),(3,.al 97)] [39] [(10,.ptr 97 0),(9,U bN)] [] [(97,.cells 36 (gL e2))] ?_
   refine A.seq ?_;obtain⟨aJ,h1,hm⟩:=aU hm;refine aH [(1,bI (F6 h1) EV)] [] [(44,.bool aJ)] ?_;rcases bL hm with⟨eV,hm⟩|⟨eV,hm⟩
   ·exact bz eV<|A.exit<|ck bJ hm
   refine bx eV<|A.skip<|A.seq ?_
   obtain⟨bq,D,hm⟩:=aU hm;refine aH [(1,bI (Ql D) Oa)] [44] [(11,U bq)]<|aH [] [] [(48,.bool (!decide (bq=0)))] ?_
   rcases bL hm with⟨gY,hm⟩|⟨gY,hm⟩
   ·refine bz gY<|aO [] [(4,.dh),(5,U bq)] [] ?_
    cases hm;exact A.ret bG
   refine bx gY<|A.skip<|c0 [(2,ax (cb bH e2.Links))] [10,11,48] [(51,av bH e2.Links),(52,U e2.Links.length),(53,U 0)] [97] []<|A.block<|axt 51 rfl λnJ=>?_
   obtain⟨nv,nw,nH,nI,hm⟩:=fF hm;refine axq (l:=e2.Links) (e3:=0) (B:=nv) (K:=nw) hm (λdd=>λet=>[(1,av az e7),(8,.ep 32035),(9,U bN),(36,av cC l),(37,U l.length),(38,U bN),(51,av bH e2.Links),(52,U e2.Links.length),(53,U dd)]) (λdd=>λet=>[(32035,.map 84 3 (dV (eD bH) (dB .i64) et))]) ?_ ?_ ?_
   ·exact fm
   ·rintro dd bT jc et ml h7 hm;rw[nH]at hm;refine aH [] [] [(54,.d ((dd:Int)<e2.Links.length))]<|A.seq<|bz (fC h7)<|A.skip<|A.seq<|A.block<|c0 [(0,b7 (ix bH (eM h7))),(2,.al 161)] [54] [(13,.ptr 161 0)] [] [(161,.cells 84 (i3 bT))]<|ayi (d:=32035) rfl λCo OT=>?_
    obtain⟨cr,aj,hm⟩:=aU hm;by_cases aV:(dL dj et bT).isSome=true
    ·exact Ko [(2,IW et bT (dB .i64) (0:Int) RN (HK (k:=.i64) zeroValue3)),(5,b7 (ix az aj)),(8,Xx et bT (dB .i64) ((dL dj et bT).getD (0:Int)) RN (UQ aV)),(10,Xy Co OT et bT (dB .i64) (bE (((dL dj et bT).getD (0:Int))+cr)) RN rfl aV)] [(1,av az e7),(8,.ep 32035),(9,U bN),(36,av cC l),(37,U l.length),(38,U bN),(51,av bH e2.Links),(52,U e2.Links.length),(53,U dd)] [(32035,.map 84 3 (dV (eD bH) (dB .i64) (gq dj et bT (bE (((dL dj et bT).getD (0:Int))+cr)))))]<|cB [(0,ax (fk h7 nJ))] [53] [(53,U ((dd+1:Nat):Int))]<|ck (gq dj et bT (bE (((dL dj et bT).getD (0:Int))+cr))) hm
    ·exact axB (azB (d:=32035) rfl)<|azV 32035 161 (m:=et) (h:=bT) cQ.mix (by decide) rfl rfl rfl rfl rfl rfl aj (by simpa using aV) rfl ⟨rfl,rfl,rfl⟩ rfl ⟨rfl,rfl,rfl⟩ rfl ⟨rfl,rfl,rfl⟩ rfl ⟨rfl,rfl,rfl⟩ rfl ⟨rfl,rfl,rfl⟩ rfl ⟨rfl,rfl,rfl⟩ rfl ⟨rfl,rfl,rfl⟩ rfl ⟨rfl,rfl,rfl⟩ rfl ⟨rfl,rfl,rfl⟩ rfl ⟨rfl,rfl,rfl⟩ rfl ⟨rfl,rfl,rfl⟩ rfl (by kernel_rfl) (by kernel_rfl) (by kernel_rfl) (by kernel_rfl) (by kernel_rfl) (by kernel_rfl)<|Ko [(0,ax (fk h7 nJ))] [(1,av az e7),(8,.ep 32035),(9,U bN),(36,av cC l),(37,U l.length),(38,U bN),(51,av bH e2.Links),(52,U e2.Links.length),(53,U ((dd+1:Nat):Int))] [(32035,.map 84 3 (dV (eD bH) (dB .i64) (gq dj et bT (bE (((dL dj et bT).getD (0:Int))+cr)))))]<|ck (gq dj et bT (bE (((dL dj et bT).getD (0:Int))+cr))) hm
   rintro dd et ml jO hm;rw[nI]at hm;exact aH [] [] [(54,.d ((dd:Int)<e2.Links.length))]<|A.seq<|bx (fB jO)<|A.exit<|ck et hm
  rintro c6 hm;rw[iu]at hm;exact cB [(0,ax (fk eu gr))] [38] [(38,U ((bN+1:Nat):Int))]<|ck c6 hm
 rintro bN bJ h6 iR hm;rw[j0]at hm;refine aH [] [] [(39,.d ((bN:Int)<l.length))]<|A.seq<|bx (fB iR)<|A.exit ?_
 obtain⟨cu,b4,hm⟩:=aU hm;refine axr cQ [.dO [32035]] [(1,Y8 [32035] (ZO b4) X1)] [(4,av cp cu),(5,U 0)] [] (by kernel_rfl) ?_;cases hm;exact A.ret bG
def ZZ{b9:Bk}(hm:vz t b9 l=some r):dn prog 24 [] [.agg (bV t),av cm b9,av cC l] (.dm [av cp r.1,U r.2]):=by
 refine dE func24 rfl rfl ?_;unfold vz at hm;refine aO [(0,.al 45)] [(1,av cm b9),(2,av cC l),(3,.ptr 45 0)] [(45,.cells 28 (bV t))]<|A.seq ?_
 obtain⟨aJ,h1,hm⟩:=aU hm;refine aH [(2,bI (F2 h1) EU)] [] [(8,U aJ)]<|aH [] [] [(16,.bool (!decide (aJ=0)))] ?_
 rcases bL hm with⟨aN,hm⟩|⟨aN,hm⟩
 ·refine bz aN<|aO [] [(6,.dh),(7,U aJ)] [] ?_
  cases hm;exact A.ret bG
 refine bx aN<|A.skip<|A.seq<|aH [(1,ax (cb cC l)),(3,ax (cb cm b9))] [8,16] [(22,.d ((b9.length:Int)<(l.length:Int)))] ?_
 rcases bL hm with⟨bw,hm⟩|⟨bw,hm⟩
 ·refine bz bw<|aO [] [(6,.dh),(7,U 8)] [] ?_
  cases hm;exact A.ret bG
 refine bx bw<|A.skip ?_
 obtain⟨bq,D,hm⟩:=aU hm;refine c0 [(1,gW [21] (QE D) Od)] [22] [(9,.ep 21)] [] [(21,.map 84 3 (dV (eD bH) (dB .i64) bq))]<|A.seq<|aH [(1,ax (cb cC l))] [2] [(25,av cC l),(26,U l.length),(27,U 0)]<|A.block<|axt 25 rfl λdX=>?_
 obtain⟨eT,eU,eW,eO,hm⟩:=fF hm;refine axq (l:=l) (e3:=0) (B:=eT) (K:=eU) hm (λau=>λbJ=>[(1,av cm b9),(3,.ptr 45 0),(9,.ep 21),(25,av cC l),(26,U l.length),(27,U au)]) (λau=>λbJ=>[(45,.cells 28 (bV t)),(21,.map 84 3 (dV (eD bH) (dB .i64) bJ))]) ?_ ?_ ?_
 ·exact fm
 ·rintro au e1 b3 bJ eX bF hm;rw[eW]at hm;refine aH [] [] [(28,.d ((au:Int)<l.length))]<|A.seq<|bz (fC bF)<|A.skip<|A.seq<|A.block<|c0 [(1,b7 (ix cC (eM bF))),(3,.al 188)] [28] [(11,.ptr 188 0),(10,U au)] [] [(188,.cells 36 (gL e1))] ?_
  obtain⟨dx,iu,hm⟩:=h2 hm;refine A.J (J:=dx) (r:=r) (λ(eL,c6)=>[(1,av cm b9),(3,.ptr 45 0),(9,.ep 21),(25,av cC l),(26,U l.length),(27,U au),(51,.bool eL)]) (λ(eL,c6)=>[(45,.cells 28 (bV t)),(21,.map 84 3 (dV (eD bH) (dB .i64) c6))]) ?_ ?_
  ·obtain⟨cu,aj,hm⟩:=aU hm;rcases bL hm with⟨cg,hm⟩|⟨cg,hm⟩
   ·obtain⟨eg,aV,hm⟩:=aU hm;rcases bL hm with⟨dR,hm⟩|⟨dR,hm⟩
    ·exact hr [(1,bI (F6 aj) EV),(3,ax (b0 cg)),(6,bI (JN aV) IA),(9,ax (b0 dR))] [11,10] [(51,.bool true)] [188] []<|ck (true,bJ) hm
    obtain⟨cr,b4,hm⟩:=aU hm;obtain⟨dQ,dz,hm⟩:=aU hm;exact hr [(1,bI (F6 aj) EV),(3,ax (b0 cg)),(6,bI (JN aV) IA),(9,ax (b0 dR)),(14,b7 (ix cm b4)),(17,gW [] (sg.at [(540000860,21)] (JD dz)) ID)] [11,10] [(51,.bool (!dQ.1))] [21,188] [(21,.map 84 3 (dV (eD bH) (dB .i64) dQ.2))]<|ck (!dQ.1,dQ.2) hm
   obtain⟨e6,fz,hm⟩:=aU hm;obtain⟨dF,hv,hm⟩:=aU hm;exact hr [(1,bI (F6 aj) EV),(3,ax (b0 cg)),(14,b7 (ix cm fz)),(17,gW [] (sg.at [(540000860,21)] (JD hv)) ID)] [11,10] [(51,.bool (!dF.1))] [21,188] [(21,.map 84 3 (dV (eD bH) (dB .i64) dF.2))]<|ck (!dF.1,dF.2) hm
  rintro⟨eL,c6⟩ hm;rw[iu]at hm;rcases bL hm with⟨eV,hm⟩|⟨eV,hm⟩
  ·refine bz eV<|aO [] [(6,.dh),(7,U 1)] [] ?_
   cases hm;exact A.ret bG
  exact bx eV<|A.skip<|cB [(0,ax (fk bF dX))] [27,51] [(27,U ((au+1:Nat):Int))]<|ck c6 hm
 rintro au bJ eX er hm;rw[eO]at hm;refine aH [] [] [(28,.d ((au:Int)<l.length))]<|A.seq<|bx (fB er)<|A.exit ?_
 obtain⟨gU,hc,hm⟩:=aU hm;refine axr cQ [.dO [21]] [(1,Y8 [21] (ZO hc) X1)] [(6,av cp gU),(7,U 0)] [] (by kernel_rfl) ?_;cases hm;exact A.ret bG
end
section
open Go Go.Proofs.Tryz List
set_option maxRecDepth 100000
set_option linter.all false
section
def ZR{β:Type}{t:bu}{b9:Bk}{i0:((Bt)×Int)→Option β}{r:β}(hm:ym t b9 i0=some r):gZ prog 23 [] [.agg (bV t),av cm b9] (λa aL=>aL=[]∧∃iA,i0 iA=some r∧a=.dm [av cC iA.1,U iA.2]):=by
 refine dE func23 rfl rfl ?_;unfold ym at hm;refine aO [(0,.al 40)] [(1,av cm b9),(2,.ptr 40 0)] [(40,.cells 28 (bV t))]<|A.seq ?_
 obtain⟨aJ,h1,hm⟩:=aU hm;refine aH [(2,bI (F2 h1) EU)] [] [(6,U aJ)]<|aH [] [] [(18,.bool (!decide (aJ=0)))] ?_
 rcases bL hm with⟨aN,hm⟩|⟨aN,hm⟩
 ·refine bz aN<|aO [] [(4,.dh),(5,U aJ)] []<|A.ret<|sO.mono (axv cQ [] (R:=.dm [av cC [],U aJ]) (σ2:=[]) rfl (by kernel_rfl)) ?_
  rintro _ _ ⟨rfl,rfl⟩;exact⟨rfl,_,hm,rfl⟩
 refine bx aN<|A.skip ?_
 obtain⟨bq,D,hm⟩:=aU hm;refine c0 [(1,gW [21] (QE D) Od)] [6,18] [(7,.ep 21)] [] [(21,.map 84 3 (dV (eD bH) (dB .i64) bq))] ?_;obtain⟨aj,hm⟩:=mD hm;refine c0 [(1,ax (cb cm b9)),(2,aoS 124 (bR.mk (0:Int) []) cC.enc (b9.length:Int) VD VE (λI=>⟨_,_,rfl,(by simp[bk]),⟨_,_,rfl,as8 bH I,rfl⟩⟩) rfl (by decide) (by decide) aj (by decide))] [] [(8,.own 124)] [] [(124,.slice 36 2 (aM cC (List.replicate ((b9.length:Int)).toNat (bR.mk (0:Int) []))) 0 false)]<|A.seq<|aH [(1,ax (cb cm b9))] [1] [(25,av cm b9),(26,U b9.length),(27,U 0)]<|A.block<|axt 25 rfl λdX=>?_
 obtain⟨eT,eU,eW,eO,hm⟩:=fF hm;refine axq (l:=b9) (e3:=0) (B:=eT) (K:=eU) hm (λau=>λ(ee,bJ)=>[(2,.ptr 40 0),(7,.ep 21),(8,.own 52),(25,av cm b9),(26,U b9.length),(27,U au)]) (λau=>λ(ee,bJ)=>[(40,.cells 28 (bV t)),(21,.map 84 3 (dV (eD bH) (dB .i64) bJ)),(52,.slice 36 2 (aM cC ee) 0 false)]) ?_ ?_ ?_
 ·exact gM [.ja 124 52] []
 ·rintro au e1 b3 ⟨ee,bJ⟩ eX bF hm;rw[eW]at hm;refine aH [] [] [(28,.d ((au:Int)<b9.length))]<|A.seq<|bz (fC bF)<|A.skip ?_
  obtain⟨dx,iu,hm⟩:=h2 hm;refine A.J (J:=dx) (r:=r) (λ(hS,c6)=>[(2,.ptr 40 0),(7,.ep 21),(8,.own 52),(25,av cm b9),(26,U b9.length),(27,U au)]) (λ(hS,c6)=>[(40,.cells 28 (bV t)),(21,.map 84 3 (dV (eD bH) (dB .i64) c6)),(52,.slice 36 2 (aM cC hS) 0 false)]) ?_ ?_
  ·refine A.block<|c0 [(1,b7 (ix cm (eM bF))),(3,.al 94)] [28] [(10,.ptr 94 0),(9,U au)] [] [(94,.cells 52 (hq e1))] ?_
   obtain⟨cu,aV,hm⟩:=aU hm;refine ayM cQ [4,9,14,15,16] [0,1,2,3,5,6,7,8,4] 9 [10,11,12,13,14,15,16] [] [(4,aoM [21] [510023001] (av fl cu) (sg.at [(125,510023001)] (Qm aV)) Oe ⟨ae9 fl (λ_=>rfl) _,trivial⟩)] (ZN hm) XW (by kernel_rfl) (by kernel_rfl) (by kernel_rfl) (by rintro _ _ ⟨rfl,_,_,rfl⟩;exact⟨rfl,rfl⟩) ?_;rintro _ _ ⟨rfl,eg,hm,rfl⟩
   try dsimp only at hm
   refine⟨[],[(2,.ptr 40 0),(7,.ep 21),(8,.own 52),(25,av cm b9),(26,U b9.length),(27,U au),(10,.ptr 94 0),(9,U au),(11,av bH eg.1),(13,.bool eg.2.2)],[(40,.cells 28 (bV t)),(21,.map 84 3 (dV (eD bH) (dB .i64) bJ)),(52,.slice 36 2 (aM cC ee) 0 false),(94,.cells 52 (hq e1))],by kernel_rfl,?_⟩;refine aO [] [(2,.ptr 40 0),(7,.ep 21),(8,.own 52),(25,av cm b9),(26,U b9.length),(27,U au),(10,.ptr 94 0),(9,U au),(11,av bH eg.1),(46,.bool eg.2.2)] [(40,.cells 28 (bV t)),(21,.map 84 3 (dV (eD bH) (dB .i64) bJ)),(52,.slice 36 2 (aM cC ee) 0 false),(94,.cells 52 (hq e1))] ?_;rcases bL hm with⟨bw,hm⟩|⟨bw,hm⟩
   ·refine bz bw ?_;obtain⟨cr,b4,hm⟩:=aU hm;obtain⟨dk,dz,hm⟩:=aU hm;refine c0 [(6,b7 (ix cC b4)),(7,tF 52 (fM cC (off:=0) (ca:=[U e1.cc,av bH eg.1]) b4 dz rfl) (v7 b4).1.1)] [11,46] [] [52] [(52,.slice 36 2 (aM cC dk) 0 false)] ?_;obtain⟨e6,fz,hm⟩:=aU hm;obtain⟨dQ,hv,hm⟩:=aU hm;exact hr [(3,b7 (ix cC fz)),(4,lX 52 0 (ix cC fz)),(7,gW [] (sg.at [(540000860,21)] (JD hv)) ID)] [10,9] [] [21,94] [(21,.map 84 3 (dV (eD bH) (dB .i64) dQ.2))]<|ck (dk,dQ.2) hm
   exact bx bw<|A.skip<|ck (ee,bJ) hm
  rintro⟨hS,c6⟩ hm;rw[iu]at hm;exact cB [(0,ax (fk bF dX))] [27] [(27,U ((au+1:Nat):Int))]<|ck (hS,c6) hm
 rintro au ⟨ee,bJ⟩ eX er hm;rw[eO]at hm;refine aH [] [] [(28,.d ((au:Int)<b9.length))]<|A.seq<|bx (fB er)<|A.exit<|c0 [] [2,7,8,25,26,27,28] [(4,.own 52),(5,U 0)] [40,21] []<|A.ret<|sO.mono (axv cQ [.dO [52]] (R:=.dm [av cC ee,U 0]) (σ2:=[]) rfl (by kernel_rfl)) ?_
 rintro _ _ ⟨rfl,rfl⟩;exact⟨rfl,_,hm,rfl⟩
end
section
def acs:l3 prog 126 84 3 (eD bH) dj:=⟨underlying126,λ_=>rfl,λ_=>rfl,⟨_,underlying84,λ_ _=>rfl⟩,λa b w=>Cn (by kernel_rfl) (by kernel_rfl) (D4 a.bh b.bh a.aS b.aS w),λe a w=>by kernel_rfl,λa b h=>by cases a;cases b;simpa [dj]using h,λa=>by simp[eD,bH,valOf,wm,Instr.sameBits]⟩
def as5{t:bu}{kk:List (aQ×Int)}{d:bY}{nV:bR}{r:Bool}(hm:Gm t kk d nV=some r):dn prog 98 [] [.agg (bV t),.ec (dV (eD bH) (dB .i64) kk),.agg (hq d),.agg (gL nV)] (.bool r):=by
 refine dE func98 rfl rfl ?_;unfold Gm at hm;refine aO [(0,.al 49),(1,.al 50),(2,.al 51)] [(1,.ec (dV (eD bH) (dB .i64) kk)),(4,.ptr 49 0),(6,.ptr 50 0),(7,.ptr 51 0)] [(49,.cells 28 (bV t)),(50,.cells 52 (hq d)),(51,.cells 36 (gL nV))] ?_;obtain⟨aJ,h1,hm⟩:=aU hm;refine ayM cQ [4,9,14,15,16] [0,1,2,3,5,6,7,8,4] 9 [10,11,12,13,14,15,16] [] [(4,bI (ax9 (r':=av fl aJ) (σ3:=[]) [125] (Qm h1) (by kernel_rfl) (by kernel_rfl)) Oe)] (ZN hm) XW (by kernel_rfl) (by kernel_rfl) (by kernel_rfl) (by rintro _ _ ⟨rfl,_,_,rfl⟩;exact⟨rfl,rfl⟩) ?_;rintro _ _ ⟨rfl,bq,hm,rfl⟩
 try dsimp only at hm
 refine⟨[],[(1,.ec (dV (eD bH) (dB .i64) kk)),(4,.ptr 49 0),(6,.ptr 50 0),(7,.ptr 51 0),(10,U bq.2.1),(11,.bool bq.2.2)],[(49,.cells 28 (bV t)),(50,.cells 52 (hq d)),(51,.cells 36 (gL nV))],by kernel_rfl,?_⟩;refine A.seq<|aO [] [(1,.ec (dV (eD bH) (dB .i64) kk)),(4,.ptr 49 0),(6,.ptr 50 0),(7,.ptr 51 0),(10,U bq.2.1),(31,.bool (!bq.2.2))] [(49,.cells 28 (bV t)),(50,.cells 52 (hq d)),(51,.cells 36 (gL nV))] ?_
 rcases bL hm with⟨aN,hm⟩|⟨aN,hm⟩
 ·refine bz aN ?_;obtain⟨cu,D,hm⟩:=aU hm;refine aO [(1,bI (F6 D) EV)] [(8,.bool cu)] [] ?_;cases hm;exact A.ret bG
 refine bx aN<|A.skip<|A.seq ?_
 obtain⟨dx,iu,hm⟩:=h2 hm;refine A.J (J:=dx) (r:=r) (λeL=>[(1,.ec (dV (eD bH) (dB .i64) kk)),(4,.ptr 49 0),(6,.ptr 50 0),(7,.ptr 51 0),(10,U bq.2.1),(46,.bool eL)]) (λeL=>[(49,.cells 28 (bV t)),(50,.cells 52 (hq d)),(51,.cells 36 (gL nV))]) ?_ ?_
 ·rcases bL hm with⟨bw,hm⟩|⟨bw,hm⟩
  ·exact cB [(5,ax (b0 bw))] [31] [(46,.bool true)]<|ck true hm
  obtain⟨eg,aj,hm⟩:=aU hm;exact cB [(5,ax (b0 bw)),(10,bI (JN aj) IA)] [31] [(46,.bool (!decide (eg=0)))]<|ck (!decide (eg=0)) hm
 rintro eL hm;rw[iu]at hm;rcases bL hm with⟨cg,hm⟩|⟨cg,hm⟩
 ·refine bz cg<|aO [] [(8,.bool false)] [] ?_
  cases hm;exact A.ret bG
 refine bx cg<|A.skip<|A.seq<|aH [(2,ax (cb bH nV.Links))] [46] [(48,av bH nV.Links),(49,U nV.Links.length),(50,U 0)]<|A.block<|axt 48 rfl λdX=>?_
 obtain⟨eT,eU,eW,eO,hm⟩:=fF hm;refine axq (l:=nV.Links) (e3:=0) (B:=eT) (K:=eU) hm (λau=>λ()=>[(1,.ec (dV (eD bH) (dB .i64) kk)),(4,.ptr 49 0),(6,.ptr 50 0),(7,.ptr 51 0),(10,U bq.2.1),(48,av bH nV.Links),(49,U nV.Links.length),(50,U au)]) (λau=>λ()=>[(49,.cells 28 (bV t)),(50,.cells 52 (hq d)),(51,.cells 36 (gL nV))]) ?_ ?_ ?_
 ·exact fm
 ·rintro au e1 b3 ⟨⟩ eX bF hm;rw[eW]at hm;refine aH [] [] [(51,.d ((au:Int)<nV.Links.length))]<|A.seq<|bz (fC bF)<|A.skip<|A.seq<|A.block<|c0 [(0,b7 (ix bH (eM bF))),(2,.al 224)] [51] [(13,.ptr 224 0)] [] [(224,.cells 84 (i3 e1))]<|c0 [(2,IW kk e1 (dB .i64) (0:Int) acs (HK (k:=.i64) zeroValue3))] [13] [(59,.d (((dL dj kk e1).getD (0:Int))<d.de))] [224] [] ?_
  rcases bL hm with⟨dR,hm⟩|⟨dR,hm⟩
  ·refine bz dR<|aO [] [(8,.bool false)] [] ?_
   cases hm;exact A.ret bG
  exact bx dR<|A.skip<|cB [(0,ax (fk bF dX))] [50,59] [(50,U ((au+1:Nat):Int))]<|ck () hm
 rintro au ⟨⟩ eX er hm;rw[eO]at hm;refine aH [] [] [(51,.d ((au:Int)<nV.Links.length))]<|A.seq<|bx (fB er)<|A.exit ?_
 obtain⟨dQ,aV,hm⟩:=aU hm;refine aO [(2,bI (atI aV) amu)] [(10,U bq.2.1),(14,U dQ.1),(15,U dQ.2)] []<|axy [(8,.bool ((decide (dQ.2=0))&&(decide (dQ.1=bq.2.1))))] [] (λhk=>?_) ?_
 ·rcases kF (decide (dQ.2=0))with eV|eV
  ·exact aO [(2,ax (b0 eV)),(7,ax (oH (q:=decide (dQ.1=bq.2.1)) eV))] _ _ hk
  exact aO [(2,ax (b0 eV)),(7,ax (oI (q:=decide (dQ.1=bq.2.1)) eV))] _ _ hk
 cases hm;exact A.ret bG
def asV{t:bu}{b9:Bk}{l:Bt}{r:Int}(hm:Gg t b9 l=some r):dn prog 34 [] [.agg (bV t),av cm b9,av cC l] (U r):=by
 refine dE func34 rfl rfl ?_;unfold Gg at hm;refine aO [(0,.al 47)] [(1,av cm b9),(2,av cC l),(3,.ptr 47 0)] [(47,.cells 28 (bV t))]<|A.seq ?_
 obtain⟨aJ,h1,hm⟩:=aU hm;refine aH [(2,bI (F2 h1) EU)] [] [(7,U aJ)]<|aH [] [] [(15,.bool (!decide (aJ=0)))] ?_
 rcases bL hm with⟨aN,hm⟩|⟨aN,hm⟩
 ·refine bz aN<|aO [] [(6,U aJ)] [] ?_
  cases hm;exact A.ret bG
 refine bx aN<|A.skip<|A.seq<|aH [(1,ax (cb cC l)),(3,ax (cb cm b9))] [7,15] [(21,.bool (!decide ((l.length:Int)=(b9.length:Int))))] ?_
 rcases bL hm with⟨bw,hm⟩|⟨bw,hm⟩
 ·refine bz bw<|aO [] [(6,U 8)] [] ?_
  cases hm;exact A.ret bG
 refine bx bw<|A.skip ?_
 obtain⟨bq,D,hm⟩:=aU hm;refine c0 [(1,gW [21] (QE D) Od)] [21] [(8,.ep 21)] [] [(21,.map 84 3 (dV (eD bH) (dB .i64) bq))]<|A.seq<|aH [(1,ax (cb cm b9))] [1] [(24,av cm b9),(25,U b9.length),(26,U 0)]<|A.block<|axt 24 rfl λdX=>?_
 obtain⟨eT,eU,eW,eO,hm⟩:=fF hm;refine axq (l:=b9) (e3:=0) (B:=eT) (K:=eU) hm (λau=>λbJ=>[(2,av cC l),(3,.ptr 47 0),(8,.ep 21),(24,av cm b9),(25,U b9.length),(26,U au)]) (λau=>λbJ=>[(47,.cells 28 (bV t)),(21,.map 84 3 (dV (eD bH) (dB .i64) bJ))]) ?_ ?_ ?_
 ·exact fm
 ·rintro au e1 b3 bJ eX bF hm;rw[eW]at hm;refine aH [] [] [(27,.d ((au:Int)<b9.length))]<|A.seq<|bz (fC bF)<|A.skip<|A.seq<|A.block<|c0 [(1,b7 (ix cm (eM bF))),(3,.al 139)] [27] [(10,.ptr 139 0),(9,U au)] [] [(139,.cells 52 (hq e1))]<|A.seq ?_
  obtain⟨cr,aj,hm⟩:=aU hm;obtain⟨cu,aV,hm⟩:=aU hm;refine aH [(5,b7 (ix cC aj)),(7,hle [21] (as5 aV) amQ)] [] [(39,.bool (!cu))] ?_;rcases bL hm with⟨cg,hm⟩|⟨cg,hm⟩
  ·refine bz cg<|aO [] [(6,U 1)] [] ?_
   cases hm;exact A.ret bG
  refine bx cg<|A.skip ?_
  obtain⟨eg,b4,hm⟩:=aU hm;exact hr [(3,b7 (ix cC aj)),(7,gW [] (sg.at [(540000860,21)] (JD b4)) ID)] [10,9,39] [] [21,139] [(21,.map 84 3 (dV (eD bH) (dB .i64) eg.2))]<|cB [(0,ax (fk bF dX))] [26] [(26,U ((au+1:Nat):Int))]<|ck eg.2 hm
 rintro au bJ eX er hm;rw[eO]at hm;refine aH [] [] [(27,.d ((au:Int)<b9.length))]<|A.seq<|bx (fB er)<|A.exit<|aO [] [(6,U 0)] [] ?_
 cases hm;exact A.ret bG
end
section
def asI{t:bu}{c2:xe}{d:bY}{r:Bool×Int}(hm:F3 t c2 d=some r):dn prog 42 [] [.agg (bV t),av cp c2,.agg (hq d)] (.dm [.bool r.1,U r.2]):=by
 refine dE func42 rfl rfl ?_;unfold F3 at hm;refine aO [(0,.al 112),(1,.al 113)] [(1,av cp c2),(3,.ptr 112 0),(5,.ptr 113 0)] [(112,.cells 28 (bV t)),(113,.cells 52 (hq d))]<|A.seq ?_
 obtain⟨aJ,h1,hm⟩:=aU hm;refine aH [(3,bI (F2 h1) EU)] [] [(8,U aJ)]<|aH [] [] [(16,.bool (!decide (aJ=0)))] ?_
 rcases bL hm with⟨aN,hm⟩|⟨aN,hm⟩
 ·refine bz aN<|aO [] [(6,.bool false),(7,U aJ)] [] ?_
  cases hm;exact A.ret bG
 refine bx aN<|A.skip ?_
 obtain⟨bq,D,hm⟩:=aU hm;obtain⟨cu,aj,hm⟩:=aU hm;refine aO [(2,bI (ZP D) X3),(4,bI (ZQ aj) X2)] [(10,.bool cu.2)] []<|aO [] [(6,.bool cu.2),(7,U 0)] [] ?_
 cases hm;exact A.ret bG
end
end
section
open Go Go.Proofs.Tryz List
set_option maxRecDepth 100000
set_option linter.all false
def abA{t:eo}{p:bu}{n:Int}{r:(Bk)×eo}(hm:Gx t p n=some r):gZ prog 22 [(1,.cells 103 (hp t))] [.ptr 1 0,.agg (bV p),U n] (λa aL=>a=av cm r.1∧aL=[(1,.cells 103 (hp r.2))]):=by
 refine dE func22 rfl rfl ?_;unfold Gx at hm;refine aO [(0,.al 80)] [(0,.ptr 1 0),(2,U n),(4,.ptr 80 0)] [(1,.cells 103 (hp t)),(80,.cells 28 (bV p))]<|aH [] [] [(7,.dh)]<|A.seq ?_
 obtain⟨aJ,h1,hm⟩:=aU hm;refine c0 [(3,gW [] (q5 h1) rW)] [2] [(8,U aJ.1)] [1] [(1,.cells 103 (hp aJ.2))]<|A.block ?_
 obtain⟨lQ,iE,lT,hm⟩:=n1 hm;refine axJ (F:=lQ) hm (λ(ee,cI,bJ,c6)=>[(0,.ptr 1 0),(4,.ptr 80 0),(7,.own 102),(8,U cI)]) (λ(ee,cI,bJ,c6)=>[(1,.c 103 [av az bJ,U c6]),(80,.cells 28 (bV p)),(102,.slice 52 3 (aM cm ee) 0 false)]) ?_ ?_
 ·exact gM [.ad 7 102 52 3] []
 rintro b3 ⟨ee,cI,bJ,c6⟩ hm;rw[lT]at hm;refine A.seq<|aH [] [] [(14,.d (0<cI))] ?_
 rcases bL hm with⟨aN,hm⟩|⟨aN,hm⟩
 ·refine bz aN<|A.skip<|A.seq<|A.block ?_
  obtain⟨bq,D,hm⟩:=aU hm;obtain⟨cr,aj,hm⟩:=aU hm;obtain⟨cu,aV,hm⟩:=aU hm;obtain⟨eg,b4,hm⟩:=aU hm;obtain⟨dk,dz,hm⟩:=aU hm;exact hr [(6,ax (cb fN p.cn)),(7,gW [] (q5 D) rW),(8,b7 (ix fN aj)),(13,gW [] (abS aV) amt),(16,gW [] (yb b4) zM),(19,m4 123 (ap cm (bytes:=40) (by decide) dz))] [7,14] [(7,.own 123)] [1,102] [(1,.cells 103 (hp eg.2)),(123,.slice 52 3 (aM cm dk) 0 false)]<|cB [] [8] [(8,U (bE (cI-1)))]<|Exists.intro (dk,bE (cI-1),eg.2.L,eg.2.At) (And.intro hm (gM [.ja 123 102] []))
 refine bx aN<|A.exit<|c0 [] [0,4,7,8,14] [(6,.own 102)] [80] []<|A.ret ?_
 obtain rfl:=nU hm;exact axv cQ [.dO [102]] rfl (by kernel_rfl)
end
section
open Go Go.Proofs.Tryz List
set_option maxRecDepth 100000
set_option linter.all false
variable {t:bu}
def as6{r:(fI)×(jr 100)}(hm:GG t=some r):gZ prog 67 [] [.agg (bV t)] (λa aL=>a=.dm [.own 500006700,.arr r.2.l]∧aL=[(500006700,.e5 22 87 ((t.cn.length:Int).toNat) none),(87,.cO (encS 3 1 az.enc r.1))]):=by
 refine dE func67 rfl rfl ?_;unfold GG at hm;refine aO [(0,.al 39),(2,P5 67003 (jr.zero 100) Il (by kernel_rfl))] [(1,.ptr 39 0),(3,.ptr 67003 0)] [(39,.cells 28 (bV t)),(67003,.vec 114 (jr.zero 100).l)]<|c0 [(0,P5 67004 (jr.zero 100) Il (by kernel_rfl))] [] [(4,.ptr 67004 0)] [] [(67004,.vec 114 (jr.zero 100).l)]<|A.seq<|aH [(2,ax (cb fN t.cn))] [] [(12,av fN t.cn),(13,U t.cn.length),(14,U 0)]<|A.block<|axt 12 rfl λdX=>?_
 obtain⟨eT,eU,eW,eO,hm⟩:=fF hm;refine axq (l:=t.cn) (e3:=0) (B:=eT) (K:=eU) hm (λau=>λbJ=>[(1,.ptr 39 0),(3,.ptr 67003 0),(4,.ptr 67004 0),(12,av fN t.cn),(13,U t.cn.length),(14,U au)]) (λau=>λbJ=>[(39,.cells 28 (bV t)),(67003,.vec 114 (jr.zero 100).l),(67004,.vec 114 bJ.l)]) ?_ ?_ ?_
 ·exact fm
 ·rintro au e1 b3 bJ eX bF hm;rw[eW]at hm;refine aH [] [] [(15,.d ((au:Int)<t.cn.length))]<|A.seq<|bz (fC bF)<|A.skip<|A.seq<|A.block<|c0 [(1,b7 (ix fN (eM bF))),(3,.al 196)] [15] [(6,.ptr 196 0),(5,U au)] [] [(196,.cells 31 (tK e1))] ?_
  obtain⟨cr,h1,hm⟩:=aU hm;exact hr [(3,uU (v:=bJ) h1 underlying114 sizeOf3),(4,apn (v:=bJ) (au:Int) h1 hQ)] [6,5] [] [67004,196] [(67004,.vec 114 (jr.put bJ e1.eR.toNat (au:Int)).l)]<|cB [(0,ax (fk bF dX))] [14] [(14,U ((au+1:Nat):Int))]<|ck (jr.put bJ e1.eR.toNat (au:Int)) hm
 rintro au bJ eX er hm;rw[eO]at hm;refine aH [] [] [(15,.d ((au:Int)<t.cn.length))]<|A.seq<|bx (fB er)<|A.exit ?_
 obtain⟨D,hm⟩:=mD hm;refine c0 [(2,ax (cb fN t.cn)),(3,PK 67027 (t.cn.length:Int) Nx Ny D (by decide))] [12,13,14,15] [(7,.own 67027)] [] [(67027,.slice 22 1 (List.replicate (t.cn.length:Int).toNat [.dh]) 0 false)]<|axB ((ayl (d:=67027) (e:=450067027) 3 1 az.enc (NS D) rfl rfl rfl rfl rfl))<|A.seq<|aO [(1,pK 3 1 az.enc (List.replicate (t.cn.length:Int).toNat []:fI) nR)] [(1,.ptr 39 0),(3,.ptr 67003 0),(4,.ptr 67004 0),(7,.own 67027),(29,U ((List.replicate (t.cn.length:Int).toNat []:fI).length:Int)),(30,U 0)] [(39,.cells 28 (bV t)),(67003,.vec 114 (jr.zero 100).l),(67004,.vec 114 bJ.l),(67027,.e5 22 450067027 ((t.cn.length:Int).toNat) none),(450067027,.cO (encS 3 1 az.enc (List.replicate (t.cn.length:Int).toNat []:fI)))]<|A.block ?_
 obtain⟨Fv,hm⟩:=mD hm;obtain⟨jQ,iH,jZ,j0,hm⟩:=yP hm;refine axY (hi:=((List.replicate (t.cn.length:Int).toNat []:fI).length:Int)) (B:=jQ) (K:=iH) hm rfl (λbN=>λc6=>[(1,.ptr 39 0),(3,.ptr 67003 0),(4,.ptr 67004 0),(7,.own 67027),(29,U ((List.replicate (t.cn.length:Int).toNat []:fI).length:Int)),(30,U bN)]) (λbN=>λc6=>[(39,.cells 28 (bV t)),(67003,.vec 114 (jr.zero 100).l),(67004,.vec 114 bJ.l),(67027,.e5 22 450067027 ((t.cn.length:Int).toNat) none),(450067027,.cO (encS 3 1 az.enc c6))]) ?_ ?_ ?_
 ·exact fm
 ·rintro bN gX c6 h6 eu hm;rw[jZ]at hm;refine aH [] [] [(31,.d ((bN:Int)<((List.replicate (t.cn.length:Int).toNat []:fI).length:Int)))]<|A.seq<|axD rfl (decide_eq_true eu)<|A.skip<|A.seq<|A.block<|aH [] [31] [(8,U bN)] ?_
  obtain⟨aj,hm⟩:=mD hm;obtain⟨e6,aV,hm⟩:=aU hm;exact hr [(4,ax (cb fN t.cn)),(5,yC (a:=U 0) 67038 (0:Int) az.enc (t.cn.length:Int) Et Im rfl (λI=>by simp[bk]) aj (by decide)),(6,lW 3 1 az.enc nR aV),(7,PT 3 1 127 az.enc (List.replicate ((t.cn.length:Int)).toNat (0:Int)) nj aV)] [8] [] [67027,450067027] [(67027,.e5 22 127 ((t.cn.length:Int).toNat) none),(127,.cO (encS 3 1 az.enc (List.set c6 (bN:Int).toNat (List.replicate ((t.cn.length:Int)).toNat (0:Int)))))]<|cB [(0,ax (zy (by omega) eu (of_decide_eq_true Fv)))] [30] [(30,U (bN+1:Int))]<|Exists.intro (List.set c6 (bN:Int).toNat (List.replicate ((t.cn.length:Int)).toNat (0:Int))) (And.intro hm (gM [.rn 127 450067027] []))
 rintro bN c6 h6 iR hm;rw[j0]at hm;refine aH [] [] [(31,.d ((bN:Int)<((List.replicate (t.cn.length:Int).toNat []:fI).length:Int)))]<|A.seq<|axA rfl (yl iR)<|A.exit<|A.seq<|c0 [(2,ax (cb ff t.Links))] [1,29,30,31] [(42,av ff t.Links),(43,U t.Links.length),(44,U 0)] [39] []<|A.block<|axt 42 rfl λnJ=>?_
 obtain⟨nv,nw,nH,nI,hm⟩:=fF hm;refine axq (l:=t.Links) (e3:=0) (B:=nv) (K:=nw) hm (λdd=>λet=>[(3,.ptr 67003 0),(4,.ptr 67004 0),(7,.own 67027),(42,av ff t.Links),(43,U t.Links.length),(44,U dd)]) (λdd=>λet=>[(67003,.vec 114 (jr.zero 100).l),(67004,.vec 114 bJ.l),(67027,.e5 22 450067027 ((t.cn.length:Int).toNat) none),(450067027,.cO (encS 3 1 az.enc et))]) ?_ ?_ ?_
 ·exact fm
 ·rintro dd bT jc et ml h7 hm;rw[nH]at hm;refine aH [] [] [(45,.d ((dd:Int)<t.Links.length))]<|A.seq<|bz (fC h7)<|A.skip<|A.seq<|A.block<|c0 [(0,b7 (ix ff (eM h7))),(2,.al 197)] [45] [(10,.ptr 197 0)] [] [(197,.cells 62 (ga bT))] ?_
  obtain⟨ir,b4,hm⟩:=aU hm;obtain⟨lR,dz,hm⟩:=aU hm;obtain⟨j9,fz,hm⟩:=aU hm;obtain⟨p4,hv,hm⟩:=aU hm;obtain⟨mj,hc,hm⟩:=aU hm;obtain⟨py,kC,hm⟩:=aU hm;obtain⟨pz,m0,hm⟩:=aU hm;exact hr [(3,uU (v:=bJ) b4 underlying114 sizeOf3),(4,vP (v:=bJ) b4 hQ),(5,lW 3 1 az.enc nR dz),(6,rH (bl:=3) (sz:=1) (enc:=az.enc) (l:=et) dz nj),(9,uU (v:=bJ) fz underlying114 sizeOf3),(10,vP (v:=bJ) fz hQ),(14,uU (v:=bJ) fz underlying114 sizeOf3),(15,vP (v:=bJ) fz hQ),(16,lW 3 1 az.enc nR hv),(17,rH (bl:=3) (sz:=1) (enc:=az.enc) (l:=et) hv nj),(20,uU (v:=bJ) b4 underlying114 sizeOf3),(21,vP (v:=bJ) b4 hQ),(26,sC (bl:=3) (enc:=az.enc) (l:=et) dz hc qQ),(27,oD (bl:=3) (enc:=az.enc) (f:=(W.int .i64)) bT.ki dz hc (λ_=>rfl) rfl rfl hQ),(28,sC (bl:=3) (enc:=az.enc) (l:=(List.set et ir.toNat (List.set lR j9.toNat bT.ki))) kC m0 qQ),(29,oD (bl:=3) (enc:=az.enc) (f:=(W.int .i64)) bT.lJ kC m0 (λ_=>rfl) rfl rfl hQ)] [10] [] [450067027,197] [(450067027,.cO (encS 3 1 az.enc (List.set (List.set et ir.toNat (List.set lR j9.toNat bT.ki)) j9.toNat (List.set py ir.toNat bT.lJ))))]<|cB [(0,ax (fk h7 nJ))] [44] [(44,U ((dd+1:Nat):Int))]<|ck (List.set (List.set et ir.toNat (List.set lR j9.toNat bT.ki)) j9.toNat (List.set py ir.toNat bT.lJ)) hm
 rintro dd et ml jO hm;rw[nI]at hm;refine aH [] [] [(45,.d ((dd:Int)<t.Links.length))]<|A.seq<|bx (fB jO)<|A.exit<|axB (dr.refl _ _ _)<|aO [(1,apq bJ Ev),(3,Zh (jr.zero 100) bJ Ev.size)] [(3,.ptr 67003 0),(2,.own 67027)] [(67003,.vec 114 bJ.l),(67027,.e5 22 450067027 ((t.cn.length:Int).toNat) none),(450067027,.cO (encS 3 1 az.enc et))]<|A.ret ?_
 obtain rfl:=nU hm;exact azX (x:=.dm [.own 500006700,.arr bJ.l]) (e1:=[(3,.ptr 67003 0),(2,.own 500006700)]) (s1:=[(67003,.vec 114 bJ.l),(500006700,.e5 22 87 ((t.cn.length:Int).toNat) none),(87,.cO (encS 3 1 az.enc et))]) cQ [.ja 67027 500006700,.ja 450067027 87] rfl (by kernel_rfl) (.two (yY cQ (by kernel_rfl)) (.arr _ _ 67003 114 _ bJ.l rfl (by kernel_rfl) Ev (jr.h _))) (by kernel_rfl) (by kernel_rfl)
def QX{t:bR}{r:Bool}(hm:AT t=some r):dn prog 95 [] [.agg (gL t)] (.bool r):=by
 refine dE func95 rfl rfl ?_;unfold AT at hm;refine aO [(0,.al 223)] [(1,.ptr 223 0)] [(223,.cells 36 (gL t))]<|axy [(2,.bool ((decide (t.cc=0))&&(decide ((t.Links.length:Int)=(0:Int)))))] [] (λhk=>?_) ?_
 ·rcases kF (decide (t.cc=0))with aN|aN
  ·exact aO [(3,ax (b0 aN)),(6,ax (cb bH t.Links)),(9,ax (oH (q:=decide ((t.Links.length:Int)=(0:Int))) aN))] _ _ hk
  exact aO [(3,ax (b0 aN)),(9,ax (oI (q:=decide ((t.Links.length:Int)=(0:Int))) aN))] _ _ hk
 cases hm;exact A.ret bG
variable {g5 ht:Int}{l:xe}
def Kg{n:Int}{r:(xe)}(hm:vT l ht g5 n=some r):dn prog 99 [] [av cp l,U ht,U g5,U n] (av cp r):=by
 refine dE func99 rfl rfl ?_;unfold vT at hm;refine aO [] [(0,av cp l),(1,U ht),(2,U g5),(3,U n)] []<|aH [] [] [(9,U 0)]<|A.seq<|A.block ?_
 obtain⟨lQ,iE,lT,hm⟩:=n1 hm;refine axJ (F:=lQ) hm (λhw=>[(0,av cp l),(1,U ht),(2,U g5),(3,U n),(9,U hw)]) (λhw=>[]) ?_ ?_
 ·exact fm
 rintro b3 hw hm;rw[lT]at hm;refine A.seq ?_;obtain⟨dx,iu,hm⟩:=h2 hm;refine A.J (J:=dx) (r:=r) (λeL=>[(0,av cp l),(1,U ht),(2,U g5),(3,U n),(9,U hw),(41,.bool eL)]) (λeL=>[]) ?_ ?_
 ·rcases bL hm with⟨aN,hm⟩|⟨aN,hm⟩
  ·obtain⟨cr,h1,hm⟩:=aU hm;rcases bL hm with⟨bw,hm⟩|⟨bw,hm⟩
   ·exact cB [(2,ax (cb cp l)),(4,ax (b0 aN)),(7,b7 (ix cp h1)),(12,ax (b0 bw))] [] [(41,.bool true)]<|ck true hm
   rcases bL hm with⟨cg,hm⟩|⟨cg,hm⟩
   ·exact cB [(2,ax (cb cp l)),(4,ax (b0 aN)),(7,b7 (ix cp h1)),(12,ax (b0 bw)),(15,b7 (ix cp h1)),(20,ax (b0 cg)),(23,b7 (ix cp h1))] [] [(41,.d (cr.aS<g5))]<|ck (decide (cr.aS<g5)) hm
   exact cB [(2,ax (cb cp l)),(4,ax (b0 aN)),(7,b7 (ix cp h1)),(12,ax (b0 bw)),(15,b7 (ix cp h1)),(20,ax (b0 cg))] [] [(41,.bool false)]<|ck false hm
  exact cB [(2,ax (cb cp l)),(4,ax (b0 aN))] [] [(41,.bool false)]<|ck false hm
 rintro eL hm;rw[iu]at hm;rcases bL hm with⟨dR,hm⟩|⟨dR,hm⟩
 ·exact bz dR<|A.skip<|A.block<|cB [] [9,41] [(9,U (bE (hw+1)))]<|ck (bE (hw+1)) hm
 refine bx dR<|A.exit ?_
 obtain⟨dk,D,hm⟩:=aU hm;refine c0 [(0,.al 99044),(2,m4 70 (ap cp (bytes:=24) (by decide) D))] [41] [(10,.own 70)] [] [(70,.slice 60 3 (aM cp dk) 0 false)]<|A.seq ?_
 obtain⟨gv,k4,hm⟩:=h2 hm;refine A.J (J:=gv) (r:=r) (λiz=>[(0,av cp l),(1,U ht),(2,U g5),(3,U n),(9,U hw),(10,.own 70),(68,.bool iz)]) (λiz=>[(70,.slice 60 3 (aM cp dk) 0 false)]) ?_ ?_
 ·rcases bL hm with⟨eV,hm⟩|⟨eV,hm⟩
  ·obtain⟨e6,aj,hm⟩:=aU hm;rcases bL hm with⟨gY,hm⟩|⟨gY,hm⟩
   ·exact cB [(2,ax (cb cp l)),(4,ax (b0 eV)),(7,b7 (ix cp aj)),(13,ax (b0 gY)),(16,b7 (ix cp aj))] [] [(68,.d (e6.aS=g5))]<|ck (decide (e6.aS=g5)) hm
   exact cB [(2,ax (cb cp l)),(4,ax (b0 eV)),(7,b7 (ix cp aj)),(13,ax (b0 gY))] [] [(68,.bool false)]<|ck false hm
  exact cB [(2,ax (cb cp l)),(4,ax (b0 eV))] [] [(68,.bool false)]<|ck false hm
 rintro iz hm;rw[k4]at hm;rcases bL hm with⟨i1,hm⟩|⟨i1,hm⟩
 ·refine bz i1 ?_;obtain⟨ir,aV,hm⟩:=aU hm;obtain⟨iD,b4,hm⟩:=aU hm;refine aO [(2,b7 (ix cp aV)),(4,lX 70 2 (ix cp aV)),(7,b7 (ix cp aV)),(9,tF 70 (fM cp (off:=2) (ca:=[U (bE (ir.Count+n))]) aV b4 rfl) (v7 aV).1.1)] [(10,.own 70)] [(70,.slice 60 3 (aM cp iD) 0 false)]<|aH [] [10] [(8,.own 70)]<|A.ret ?_
  obtain rfl:=nU hm;exact axv cQ [.dO [70]] rfl (by kernel_rfl)
 refine bx i1<|A.skip ?_
 obtain⟨kL,dz,hm⟩:=aU hm;obtain⟨pW,fz,hm⟩:=aU hm;obtain⟨xg,hv,hm⟩:=aU hm;obtain⟨kM,hc,hm⟩:=aU hm;refine axr cQ [.dO [70]] [(3,sD (sl cp dz)),(9,m4 99588 (ap cp (bytes:=24) (by decide) hv)),(12,j4 (WQ cp fz)),(13,m4 169 (ap cp (bytes:=24) (by decide) hc))] [(8,.own 169)] [(169,.slice 60 3 (aM cp kM) 0 false)] (by kernel_rfl)<|A.ret ?_
 obtain rfl:=nU hm;exact axv cQ [.dO [169]] rfl (by kernel_rfl)
variable {r:Int}
def aac{d:bY}(hm:CR t d=some r):dn prog 100 [] [.agg (bV t),.agg (hq d)] (U r):=by
 refine dE func100 rfl rfl ?_;unfold CR at hm;refine aO [(0,.al 61),(1,.al 62)] [(2,.ptr 61 0),(3,.ptr 62 0)] [(61,.cells 28 (bV t)),(62,.cells 52 (hq d))]<|A.seq<|aH [(2,ax (cb az d.dM))] [] [(10,.d (6<(d.dM.length:Int)))] ?_
 rcases bL hm with⟨aN,hm⟩|⟨aN,hm⟩
 ·refine bz aN<|aO [] [(4,U 3)] [] ?_
  cases hm;exact A.ret bG
 refine bx aN<|A.skip<|A.seq ?_
 obtain⟨aJ,h1,hm⟩:=aU hm;refine aH [(2,bI (ZJ h1) X0)] [10] [(14,.bool (!aJ))] ?_;rcases bL hm with⟨bw,hm⟩|⟨bw,hm⟩
 ·refine bz bw<|aO [] [(4,U 25)] [] ?_
  cases hm;exact A.ret bG
 refine bx bw<|A.skip<|A.seq ?_
 obtain⟨dk,D,hm⟩:=aU hm;refine c0 [(2,.al 100017),(5,m4 74 (ap az (bytes:=8) (by decide) D)),(6,ax (cb az dk))] [14] [(20,.own 74),(21,U dk.length),(22,U 0)] [] [(74,.slice 3 1 (aM az dk) 0 false)]<|A.block<|ays 20 rfl rfl λdX=>?_
 obtain⟨eT,eU,eW,eO,hm⟩:=fF hm;refine axq (l:=dk) (e3:=0) (B:=eT) (K:=eU) hm (λau=>λ()=>[(2,.ptr 61 0),(3,.ptr 62 0),(20,.own 74),(21,U dk.length),(22,U au)]) (λau=>λ()=>[(61,.cells 28 (bV t)),(62,.cells 52 (hq d)),(74,.slice 3 1 (aM az dk) 0 false)]) ?_ ?_ ?_
 ·exact fm
 ·rintro au e1 b3 ⟨⟩ eX bF hm;rw[eW]at hm;refine aH [] [] [(23,.d ((au:Int)<dk.length))]<|A.seq<|bz (fC bF)<|A.skip<|A.seq<|A.block<|aH [(0,b7 (ix az (eM bF))),(1,lX 74 0 (ix az (eM bF)))] [23] [(6,U e1)] ?_
  obtain⟨bq,aj,hm⟩:=aU hm;refine aH [(2,bI (Q1 aj) Oc)] [6] [(29,.bool (!bq))] ?_;rcases bL hm with⟨cg,hm⟩|⟨cg,hm⟩
  ·refine bz cg<|aO [] [(4,U 4)] [] ?_
   cases hm;exact A.ret bG
  exact bx cg<|A.skip<|cB [(0,ax (fk bF dX))] [22,29] [(22,U ((au+1:Nat):Int))]<|ck () hm
 rintro au ⟨⟩ eX er hm;rw[eO]at hm;refine aH [] [] [(23,.d ((au:Int)<dk.length))]<|A.seq<|bx (fB er)<|A.exit<|A.seq<|axy [(38,.bool ((decide (d.de<1))||(decide (1000<d.de))))] [] (λhk=>?_) ?_
 ·rcases kF (decide (d.de<1))with dR|dR
  ·exact aO [(3,ax (b0 dR)),(7,ax (wA (q:=decide (1000<d.de)) dR))] _ _ hk
  exact aO [(3,ax (b0 dR)),(7,ax (tV (q:=decide (1000<d.de)) dR))] _ _ hk
 rcases bL hm with⟨eV,hm⟩|⟨eV,hm⟩
 ·refine bz eV<|aO [] [(4,U 2)] [] ?_
  cases hm;exact A.ret bG
 refine bx eV<|A.skip<|aO [] [(4,U 0)] [] ?_
 cases hm;exact A.ret bG
variable {b9:Bk}
def QM(hm:AS t b9=some r):dn prog 92 [] [.agg (bV t),av cm b9] (U r):=by
 refine dE func92 rfl rfl ?_;unfold AS at hm;refine aO [(0,.al 59)] [(1,av cm b9),(2,.ptr 59 0)] [(59,.cells 28 (bV t))]<|A.seq ?_
 obtain⟨aJ,h1,hm⟩:=aU hm;refine aH [(1,bI (CW h1) B6)] [] [(10,.bool (!decide (aJ=0)))] ?_;rcases bL hm with⟨aN,hm⟩|⟨aN,hm⟩
 ·refine bz aN<|aO [] [(4,U 1)] [] ?_
  cases hm;exact A.ret bG
 refine bx aN<|A.skip<|A.seq<|aH [(1,ax (cb cm b9))] [10] [(13,.d (12<(b9.length:Int)))] ?_
 rcases bL hm with⟨bw,hm⟩|⟨bw,hm⟩
 ·refine bz bw<|aO [] [(4,U 3)] [] ?_
  cases hm;exact A.ret bG
 refine bx bw<|A.skip<|A.seq<|aH [(1,ax (cb cm b9))] [1,13] [(14,av cm b9),(15,U b9.length),(16,U 0)]<|A.block<|axt 14 rfl λdX=>?_
 obtain⟨eT,eU,eW,eO,hm⟩:=fF hm;refine axq (l:=b9) (e3:=0) (B:=eT) (K:=eU) hm (λau=>λ()=>[(2,.ptr 59 0),(14,av cm b9),(15,U b9.length),(16,U au)]) (λau=>λ()=>[(59,.cells 28 (bV t))]) ?_ ?_ ?_
 ·exact fm
 ·rintro au e1 b3 ⟨⟩ eX bF hm;rw[eW]at hm;refine aH [] [] [(17,.d ((au:Int)<b9.length))]<|A.seq<|bz (fC bF)<|A.skip<|A.seq<|A.block<|c0 [(0,b7 (ix cm (eM bF))),(2,.al 220)] [17] [(6,.ptr 220 0)] [] [(220,.cells 52 (hq e1))] ?_
  obtain⟨bq,D,hm⟩:=aU hm;refine c0 [(2,bI (aac D) We)] [6] [(7,U bq)] [220] []<|aH [] [] [(24,.bool (!decide (bq=0)))] ?_
  rcases bL hm with⟨cg,hm⟩|⟨cg,hm⟩
  ·refine bz cg<|aO [] [(4,U bq)] [] ?_
   cases hm;exact A.ret bG
  exact bx cg<|A.skip<|cB [(0,ax (fk bF dX))] [16,7,24] [(16,U ((au+1:Nat):Int))]<|ck () hm
 rintro au ⟨⟩ eX er hm;rw[eO]at hm;refine aH [] [] [(17,.d ((au:Int)<b9.length))]<|A.seq<|bx (fB er)<|A.exit<|aO [] [(4,U 0)] [] ?_
 cases hm;exact A.ret bG
def aao{r:(xe)}(hm:C5 t=some r):dn prog 93 [] [.agg (bV t)] (av cp r):=by
 refine dE func93 rfl rfl ?_;unfold C5 at hm;refine aO [(0,.al 152)] [(1,.ptr 152 0)] [(152,.cells 28 (bV t))]<|aH [] [] [(3,.dh)]<|A.seq<|c0 [(2,ax (cb ff t.Links))] [1] [(7,av ff t.Links),(8,U t.Links.length),(9,U 0)] [152] []<|A.block<|axt 7 rfl λdX=>?_
 obtain⟨eT,eU,eW,eO,hm⟩:=fF hm;refine axq (l:=t.Links) (e3:=0) (B:=eT) (K:=eU) hm (λau=>λee=>[(3,av cp ee),(7,av ff t.Links),(8,U t.Links.length),(9,U au)]) (λau=>λee=>[]) ?_ ?_ ?_
 ·exact gM [] [3]
 ·rintro au e1 b3 ee eX bF hm;rw[eW]at hm;refine aH [] [] [(10,.d ((au:Int)<t.Links.length))]<|A.seq<|bz (fC bF)<|A.skip<|A.seq<|A.block<|c0 [(0,b7 (ix ff (eM bF))),(2,.al 221)] [10] [(5,.ptr 221 0)] [] [(221,.cells 62 (ga e1))] ?_
  obtain⟨aJ,h1,hm⟩:=aU hm;obtain⟨bq,D,hm⟩:=aU hm;exact hr [(7,bI (Kg h1) IE),(14,bI (Kg D) IE)] [3,5] [(3,av cp bq)] [221] []<|cB [(0,ax (fk bF dX))] [9] [(9,U ((au+1:Nat):Int))]<|Exists.intro bq (And.intro hm (gM [] [3]))
 rintro au ee eX er hm;rw[eO]at hm;refine aH [] [] [(10,.d ((au:Int)<t.Links.length))]<|A.seq<|bx (fB er)<|A.exit<|aO [] [(2,av cp ee)] [] ?_
 cases hm;exact A.ret bG
def Gz(hm:td l ht g5=some r):dn prog 159 [] [av cp l,U ht,U g5] (U r):=by
 refine dE func159 rfl rfl ?_;unfold td at hm;refine aO [] [(0,av cp l),(1,U ht),(2,U g5)] []<|A.seq<|aH [(1,ax (cb cp l))] [0] [(9,av cp l),(10,U l.length),(11,U 0)]<|A.block<|axt 9 rfl λdX=>?_
 obtain⟨eT,eU,eW,eO,hm⟩:=fF hm;refine axq (l:=l) (e3:=0) (B:=eT) (K:=eU) hm (λau=>λ()=>[(1,U ht),(2,U g5),(9,av cp l),(10,U l.length),(11,U au)]) (λau=>λ()=>[]) ?_ ?_ ?_
 ·exact fm
 ·rintro au e1 b3 ⟨⟩ eX bF hm;rw[eW]at hm;refine aH [] [] [(12,.d ((au:Int)<l.length))]<|A.seq<|bz (fC bF)<|A.skip<|A.seq<|A.block<|c0 [(0,b7 (ix cp (eM bF))),(2,.al 138)] [12] [(8,.ptr 138 0)] [] [(138,.cells 60 (vY e1))]<|axy [(1,U ht),(2,U g5),(9,av cp l),(10,U l.length),(11,U au),(8,.ptr 138 0),(24,.bool ((decide (e1.bh=ht))&&(decide (e1.aS=g5))))] [(138,.cells 60 (vY e1))] (λhk=>?_) ?_
  ·rcases kF (decide (e1.bh=ht))with aN|aN
   ·exact aO [(4,ax (b0 aN)),(9,ax (oH (q:=decide (e1.aS=g5)) aN))] _ _ hk
   exact aO [(4,ax (b0 aN)),(9,ax (oI (q:=decide (e1.aS=g5)) aN))] _ _ hk
  rcases bL hm with⟨bw,hm⟩|⟨bw,hm⟩
  ·refine bz bw<|aO [] [(6,U e1.Count)] [] ?_
   cases hm;exact A.ret bG
  exact bx bw<|A.skip<|hr [(0,ax (fk bF dX))] [11,8,24] [(11,U ((au+1:Nat):Int))] [138] []<|ck () hm
 rintro au ⟨⟩ eX er hm;rw[eO]at hm;refine aH [] [] [(12,.d ((au:Int)<l.length))]<|A.seq<|bx (fB er)<|A.exit<|aO [] [(6,U 0)] [] ?_
 cases hm;exact A.ret bG
variable {c2:xe}
def aap{qZ:bR}{iN:Int}{r:(xe)×Bool}(hm:yJ t c2 qZ iN=some r):dn prog 96 [] [.agg (bV t),av cp c2,.agg (gL qZ),U iN] (.dm [av cp r.1,.bool r.2]):=by
 refine dE func96 rfl rfl ?_;unfold yJ at hm;refine aO [(0,.al 154),(1,.al 120)] [(1,av cp c2),(3,U iN),(4,.ptr 154 0),(6,.ptr 120 0)] [(154,.cells 28 (bV t)),(120,.cells 36 (gL qZ))]<|A.seq ?_
 obtain⟨aJ,h1,hm⟩:=aU hm;refine aH [(1,bI (QX h1) Oh)] [] [(13,.bool aJ)] ?_;rcases bL hm with⟨aN,hm⟩|⟨aN,hm⟩
 ·refine bz aN<|aO [] [(8,av cp c2),(9,.bool true)] [] ?_
  cases hm;exact A.ret bG
 refine bx aN<|A.skip<|A.seq ?_
 obtain⟨bq,D,hm⟩:=aU hm;refine c0 [(2,bI (QH D) N5)] [4,13] [(18,.bool (!decide (bq=0)))] [154] [] ?_;rcases bL hm with⟨bw,hm⟩|⟨bw,hm⟩
 ·refine bz bw<|aO [] [(8,.dh),(9,.bool false)] [] ?_
  cases hm;exact A.ret bG
 refine bx bw<|A.skip<|A.seq<|c0 [(2,ax (cb bH qZ.Links))] [6,18] [(20,av bH qZ.Links),(21,U qZ.Links.length),(22,U 0)] [120] []<|A.block<|axt 20 rfl λdX=>?_
 obtain⟨eT,eU,eW,eO,hm⟩:=fF hm;refine axq (l:=qZ.Links) (e3:=0) (B:=eT) (K:=eU) hm (λau=>λjU=>[(1,av cp jU),(3,U iN),(20,av bH qZ.Links),(21,U qZ.Links.length),(22,U au)]) (λau=>λjU=>[]) ?_ ?_ ?_
 ·exact gM [] [1]
 ·rintro au e1 b3 jU eX bF hm;rw[eW]at hm;refine aH [] [] [(23,.d ((au:Int)<qZ.Links.length))]<|A.seq<|bz (fC bF)<|A.skip<|A.seq<|A.block<|c0 [(0,b7 (ix bH (eM bF))),(2,.al 155)] [23] [(11,.ptr 155 0)] [] [(155,.cells 84 (i3 e1))]<|A.seq ?_
  obtain⟨cu,aj,hm⟩:=aU hm;refine aH [(5,bI (Gz aj) Ex)] [] [(33,.d (cu<iN))] ?_;rcases bL hm with⟨cg,hm⟩|⟨cg,hm⟩
  ·refine bz cg<|aO [] [(8,.dh),(9,.bool false)] [] ?_
   cases hm;exact A.ret bG
  refine bx cg<|A.skip ?_
  obtain⟨eg,aV,hm⟩:=aU hm;exact hr [(7,bI (Kg aV) IE)] [1,11,33] [(1,av cp eg)] [155] []<|cB [(0,ax (fk bF dX))] [22] [(22,U ((au+1:Nat):Int))]<|Exists.intro eg (And.intro hm (gM [] [1]))
 rintro au jU eX er hm;rw[eO]at hm;refine aH [] [] [(23,.d ((au:Int)<qZ.Links.length))]<|A.seq<|bx (fB er)<|A.exit<|aO [] [(8,av cp jU),(9,.bool true)] [] ?_
 cases hm;exact A.ret bG
def Z0{d:bY}{r:(cN)}(hm:AQ t c2 d=some r):dn prog 101 [] [.agg (bV t),av cp c2,.agg (hq d)] (av az r):=by
 refine dE func101 rfl rfl ?_;unfold AQ at hm;refine aO [(0,.al 27),(1,.al 28)] [(1,av cp c2),(3,.ptr 27 0),(5,.ptr 28 0)] [(27,.cells 28 (bV t)),(28,.cells 52 (hq d))]<|aH [] [] [(7,.bf true (aM az ([d.cc]:cN)))]<|A.seq<|aH [] [] [(8,U 0)]<|A.block<|axO 3 0 rfl rfl rfl λdX=>?_
 obtain⟨eT,eU,eW,eO,hm⟩:=fF hm;refine axq (l:=t.cn) (e3:=0) (B:=eT) (K:=eU) hm (λau=>λee=>[(1,av cp c2),(3,.ptr 27 0),(5,.ptr 28 0),(7,av az ee),(8,U au)]) (λau=>λee=>[(27,.cells 28 (bV t)),(28,.cells 52 (hq d))]) ?_ ?_ ?_
 ·exact gM [] [7]
 ·rintro au e1 b3 ee eX bF hm;rw[eW]at hm;refine A.seq<|aH [(3,ax (cb fN t.cn))] [] [(18,.d ((au:Int)<t.cn.length))] ?_
  refine bz (fC bF)<|A.skip<|A.seq<|A.block<|aH [(2,ax (cb ff t.Links))] [18] [(22,av ff t.Links),(23,U t.Links.length),(24,U 0)]<|A.block<|axt 22 rfl λgr=>?_
  obtain⟨jQ,iH,jZ,j0,hm⟩:=fF hm;refine axq (l:=t.Links) (e3:=0) (B:=jQ) (K:=iH) hm (λbN=>λhS=>[(1,av cp c2),(3,.ptr 27 0),(5,.ptr 28 0),(7,av az hS),(8,U au),(22,av ff t.Links),(23,U t.Links.length),(24,U bN)]) (λbN=>λhS=>[(27,.cells 28 (bV t)),(28,.cells 52 (hq d))]) ?_ ?_ ?_
  ·exact gM [] [7]
  ·rintro bN e2 gX hS h6 eu hm;rw[jZ]at hm;refine aH [] [] [(25,.d ((bN:Int)<t.Links.length))]<|A.seq<|bz (fC eu)<|A.skip ?_
   obtain⟨dx,iu,hm⟩:=h2 hm;refine A.J (J:=dx) (r:=r) (λsP=>[(1,av cp c2),(3,.ptr 27 0),(5,.ptr 28 0),(7,av az sP),(8,U au),(22,av ff t.Links),(23,U t.Links.length),(24,U bN)]) (λsP=>[(27,.cells 28 (bV t)),(28,.cells 52 (hq d))]) ?_ ?_
   ·refine A.block<|c0 [(0,b7 (ix ff (eM eu))),(2,.al 65)] [25] [(10,.ptr 65 0)] [] [(65,.cells 62 (ga e2))] ?_
    obtain⟨gv,k4,hm⟩:=h2 hm;refine A.J (J:=gv) (r:=r) (λwE=>[(1,av cp c2),(3,.ptr 27 0),(5,.ptr 28 0),(7,av az wE),(8,U au),(10,.ptr 65 0),(22,av ff t.Links),(23,U t.Links.length),(24,U bN)]) (λwE=>[(27,.cells 28 (bV t)),(28,.cells 52 (hq d)),(65,.cells 62 (ga e2))]) ?_ ?_
    ·obtain⟨kP,pF,hm⟩:=h2 hm;refine A.J (J:=kP) (r:=r) (λeL=>[(1,av cp c2),(3,.ptr 27 0),(5,.ptr 28 0),(7,av az hS),(8,U au),(10,.ptr 65 0),(22,av ff t.Links),(23,U t.Links.length),(24,U bN),(42,.bool eL)]) (λeL=>[(27,.cells 28 (bV t)),(28,.cells 52 (hq d)),(65,.cells 62 (ga e2))]) ?_ ?_
     ·obtain⟨aJ,h1,hm⟩:=aU hm;rcases bL hm with⟨aN,hm⟩|⟨aN,hm⟩
      ·obtain⟨bq,D,hm⟩:=aU hm;exact cB [(3,bI (vw h1) wM),(4,ax (b0 aN)),(10,bI (Gz D) Ex)] [] [(42,.d (d.de≤bq))]<|ck (decide (d.de≤bq)) hm
      exact cB [(3,bI (vw h1) wM),(4,ax (b0 aN))] [] [(42,.bool false)]<|ck false hm
     rintro eL hm;rw[pF]at hm;rcases bL hm with⟨bw,hm⟩|⟨bw,hm⟩
     ·refine bz bw ?_;obtain⟨cu,aj,hm⟩:=aU hm;exact cB [(3,bI (JL aj) IC)] [7,42] [(7,av az cu)]<|Exists.intro cu (And.intro hm (gM [] [7]))
     exact bx bw<|A.skip<|Exists.intro hS (And.intro hm (gM [] [7]))
    rintro wE hm;rw[k4]at hm;obtain⟨k0,sq,hm⟩:=h2 hm;refine A.J (J:=k0) (r:=r) (λiz=>[(1,av cp c2),(3,.ptr 27 0),(5,.ptr 28 0),(7,av az wE),(8,U au),(10,.ptr 65 0),(22,av ff t.Links),(23,U t.Links.length),(24,U bN),(61,.bool iz)]) (λiz=>[(27,.cells 28 (bV t)),(28,.cells 52 (hq d)),(65,.cells 62 (ga e2))]) ?_ ?_
    ·obtain⟨eg,aV,hm⟩:=aU hm;rcases bL hm with⟨cg,hm⟩|⟨cg,hm⟩
     ·obtain⟨dQ,b4,hm⟩:=aU hm;exact cB [(3,bI (vw aV) wM),(4,ax (b0 cg)),(10,bI (Gz b4) Ex)] [] [(61,.d (d.de≤dQ))]<|ck (decide (d.de≤dQ)) hm
     exact cB [(3,bI (vw aV) wM),(4,ax (b0 cg))] [] [(61,.bool false)]<|ck false hm
    rintro iz hm;rw[sq]at hm;rcases bL hm with⟨dR,hm⟩|⟨dR,hm⟩
    ·refine bz dR ?_;obtain⟨dF,dz,hm⟩:=aU hm;exact hr [(3,bI (JL dz) IC)] [7,10,61] [(7,av az dF)] [65] []<|Exists.intro dF (And.intro hm (gM [] [7]))
    exact bx dR<|A.skip<|Exists.intro wE (And.intro hm (gM [] [7]))
   rintro sP hm;rw[iu]at hm;exact cB [(0,ax (fk eu gr))] [24] [(24,U ((bN+1:Nat):Int))]<|Exists.intro sP (And.intro hm (gM [] [7]))
  rintro bN hS h6 iR hm;rw[j0]at hm;exact aH [] [] [(25,.d ((bN:Int)<t.Links.length))]<|A.seq<|bx (fB iR)<|A.exit<|cB [(1,ax (fk bF dX))] [8,22,23,24,25] [(8,U ((au+1:Nat):Int))]<|Exists.intro hS (And.intro hm (gM [] [7]))
 rintro au ee eX er hm;rw[eO]at hm;refine A.seq<|aH [(3,ax (cb fN t.cn))] [] [(18,.d ((au:Int)<t.cn.length))] ?_
 refine bx (fB er)<|A.exit<|aO [] [(6,av az ee)] [] ?_
 cases hm;exact A.ret bG
def ZS{d:bY}{r:Bool}(hm:yo t c2 d=some r):dn prog 94 [] [.agg (bV t),av cp c2,.agg (hq d)] (.bool r):=by
 refine dE func94 rfl rfl ?_;unfold yo at hm;refine aO [(0,.al 222),(1,.al 153)] [(1,av cp c2),(3,.ptr 222 0),(5,.ptr 153 0)] [(222,.cells 28 (bV t)),(153,.cells 52 (hq d))] ?_;obtain⟨aJ,h1,hm⟩:=aU hm;refine c0 [(3,bI (Z0 h1) Wf)] [1,3] [(7,av az aJ)] [222] []<|A.seq<|c0 [(2,ax (cb az d.dM))] [5] [(15,av az d.dM),(16,U d.dM.length),(17,U 0)] [153] []<|A.block<|axt 15 rfl λdX=>?_
 obtain⟨eT,eU,eW,eO,hm⟩:=fF hm;refine axq (l:=d.dM) (e3:=0) (B:=eT) (K:=eU) hm (λau=>λ()=>[(7,av az aJ),(15,av az d.dM),(16,U d.dM.length),(17,U au)]) (λau=>λ()=>[]) ?_ ?_ ?_
 ·exact fm
 ·rintro au e1 b3 ⟨⟩ eX bF hm;rw[eW]at hm;refine aH [] [] [(18,.d ((au:Int)<d.dM.length))]<|A.seq<|bz (fC bF)<|A.skip<|A.seq<|A.block<|aH [(0,b7 (ix az (eM bF)))] [18] [(9,U e1)] ?_
  obtain⟨bq,D,hm⟩:=aU hm;refine aH [(2,bI (vw D) wM)] [9] [(24,.bool (!bq))] ?_;rcases bL hm with⟨aN,hm⟩|⟨aN,hm⟩
  ·refine bz aN<|aO [] [(6,.bool false)] [] ?_
   cases hm;exact A.ret bG
  exact bx aN<|A.skip<|cB [(0,ax (fk bF dX))] [17,24] [(17,U ((au+1:Nat):Int))]<|ck () hm
 rintro au ⟨⟩ eX er hm;rw[eO]at hm;refine aH [] [] [(18,.d ((au:Int)<d.dM.length))]<|A.seq<|bx (fB er)<|A.exit<|aO [] [(6,.bool true)] [] ?_
 cases hm;exact A.ret bG
def abB{d:bY}(hm:C2 t c2 d=some r):dn prog 97 [] [.agg (bV t),av cp c2,.agg (hq d)] (U r):=by
 refine dE func97 rfl rfl ?_;unfold C2 at hm;refine aO [(0,.al 156),(1,.al 31)] [(1,av cp c2),(3,.ptr 156 0),(5,.ptr 31 0)] [(156,.cells 28 (bV t)),(31,.cells 52 (hq d))] ?_;obtain⟨aJ,h1,hm⟩:=aU hm;refine c0 [(1,gW [500006700,87] (as6 h1) amJ),(5,P5 97008 (jr.zero 100) Il (by kernel_rfl)),(7,Zh (jr.zero 100) aJ.2 Ev.size)] [] [(8,.ptr 97008 0),(7,.own 500006700)] [] [(500006700,.e5 22 87 ((t.cn.length:Int).toNat) none),(87,.cO (encS 3 1 az.enc aJ.1)),(97008,.vec 114 aJ.2.l)]<|A.seq<|c0 [(2,ax (cb ff t.Links))] [3] [(20,av ff t.Links),(21,U t.Links.length),(22,U 0)] [156] []<|A.block<|axt 20 rfl λdX=>?_
 obtain⟨eT,eU,eW,eO,hm⟩:=fF hm;refine axq (l:=t.Links) (e3:=0) (B:=eT) (K:=eU) hm (λau=>λbJ=>[(1,av cp c2),(5,.ptr 31 0),(7,.own 500006700),(8,.ptr 97008 0),(20,av ff t.Links),(21,U t.Links.length),(22,U au)]) (λau=>λbJ=>[(31,.cells 52 (hq d)),(500006700,.e5 22 950006700 ((t.cn.length:Int).toNat) none),(950006700,.cO (encS 3 1 az.enc bJ)),(97008,.vec 114 aJ.2.l)]) ?_ ?_ ?_
 ·exact gM [.rn 87 950006700] []
 ·rintro au e1 b3 bJ eX bF hm;rw[eW]at hm;refine aH [] [] [(23,.d ((au:Int)<t.Links.length))]<|A.seq<|bz (fC bF)<|A.skip ?_
  obtain⟨dx,iu,hm⟩:=h2 hm;refine A.J (J:=dx) (r:=r) (λc6=>[(1,av cp c2),(5,.ptr 31 0),(7,.own 500006700),(8,.ptr 97008 0),(20,av ff t.Links),(21,U t.Links.length),(22,U au)]) (λc6=>[(31,.cells 52 (hq d)),(500006700,.e5 22 950006700 ((t.cn.length:Int).toNat) none),(950006700,.cO (encS 3 1 az.enc c6)),(97008,.vec 114 aJ.2.l)]) ?_ ?_
  ·refine A.block<|c0 [(0,b7 (ix ff (eM bF))),(2,.al 92)] [23] [(10,.ptr 92 0)] [] [(92,.cells 62 (ga e1))] ?_
   obtain⟨gv,k4,hm⟩:=h2 hm;refine A.J (J:=gv) (r:=r) (λet=>[(1,av cp c2),(5,.ptr 31 0),(7,.own 500006700),(8,.ptr 97008 0),(10,.ptr 92 0),(20,av ff t.Links),(21,U t.Links.length),(22,U au)]) (λet=>[(31,.cells 52 (hq d)),(500006700,.e5 22 950006700 ((t.cn.length:Int).toNat) none),(950006700,.cO (encS 3 1 az.enc et)),(97008,.vec 114 aJ.2.l),(92,.cells 62 (ga e1))]) ?_ ?_
   ·obtain⟨bq,D,hm⟩:=aU hm;refine aH [(5,bI (Gz D) Ex)] [] [(34,.d (bq<d.de))] ?_;rcases bL hm with⟨aN,hm⟩|⟨aN,hm⟩
    ·refine bz aN ?_;obtain⟨cr,aj,hm⟩:=aU hm;obtain⟨e6,aV,hm⟩:=aU hm;obtain⟨ir,b4,hm⟩:=aU hm;obtain⟨lR,dz,hm⟩:=aU hm;obtain⟨dk,fz,hm⟩:=aU hm;refine axU (A.R cQ [] [(3,uU (v:=aJ.2) aj underlying114 sizeOf3),(4,vP (v:=aJ.2) aj hQ),(5,lW 3 1 az.enc nR aV),(6,Fz 3 1 530097002 530097001 az.enc nj aV),(9,uU (v:=aJ.2) b4 underlying114 sizeOf3),(10,vP (v:=aJ.2) b4 hQ),(11,b7 (ix az dz)),(12,tF 530097001 (fM az (off:=0) (ca:=[U 0]) dz fz rfl) (v7 dz).1.1)] [(1,av cp c2),(5,.ptr 31 0),(7,.own 500006700),(8,.ptr 97008 0),(20,av ff t.Links),(21,U t.Links.length),(22,U au),(10,.ptr 92 0)] [(31,.cells 52 (hq d)),(500006700,.e5 22 530097002 ((t.cn.length:Int).toNat) (some (some cr.toNat,530097001))),(530097002,.cO (encS 3 1 az.enc (List.set bJ cr.toNat []))),(97008,.vec 114 aJ.2.l),(92,.cells 62 (ga e1)),(530097001,.slice 3 1 (aM az dk) 0 false)] (by kernel_rfl) ?_);refine⟨_,_,(ax5 (d:=500006700) (e:=530097002) (e2:=530097003) (t:=530097001) bJ az.enc dk rfl rfl rfl rfl rfl rfl rfl),?_⟩;exact Exists.intro (List.set bJ cr.toNat dk) (And.intro hm (gM [.rn 530097003 950006700] []))
    exact bx aN<|A.skip<|ck bJ hm
   rintro et hm;rw[k4]at hm;obtain⟨cu,hv,hm⟩:=aU hm;refine aH [(5,bI (Gz hv) Ex)] [] [(55,.d (cu<d.de))] ?_;rcases bL hm with⟨bw,hm⟩|⟨bw,hm⟩
   ·refine bz bw ?_;obtain⟨j9,hc,hm⟩:=aU hm;obtain⟨p4,kC,hm⟩:=aU hm;obtain⟨mj,m0,hm⟩:=aU hm;obtain⟨py,th,hm⟩:=aU hm;obtain⟨iD,ry,hm⟩:=aU hm;refine axU (A.R cQ [] [(3,uU (v:=aJ.2) hc underlying114 sizeOf3),(4,vP (v:=aJ.2) hc hQ),(5,lW 3 1 az.enc nR kC),(6,Fz 3 1 530097005 530097004 az.enc nj kC),(9,uU (v:=aJ.2) m0 underlying114 sizeOf3),(10,vP (v:=aJ.2) m0 hQ),(11,b7 (ix az th)),(12,tF 530097004 (fM az (off:=0) (ca:=[U 0]) th ry rfl) (v7 th).1.1)] [(1,av cp c2),(5,.ptr 31 0),(7,.own 500006700),(8,.ptr 97008 0),(20,av ff t.Links),(21,U t.Links.length),(22,U au)] [(31,.cells 52 (hq d)),(500006700,.e5 22 530097005 ((t.cn.length:Int).toNat) (some (some j9.toNat,530097004))),(530097005,.cO (encS 3 1 az.enc (List.set et j9.toNat []))),(97008,.vec 114 aJ.2.l),(530097004,.slice 3 1 (aM az iD) 0 false)] (by kernel_rfl) ?_);refine⟨_,_,(ax5 (d:=500006700) (e:=530097005) (e2:=530097006) (t:=530097004) et az.enc iD rfl rfl rfl rfl rfl rfl rfl),?_⟩;exact Exists.intro (List.set et j9.toNat iD) (And.intro hm (gM [.rn 530097006 950006700] []))
   exact bx bw<|A.skip<|ck et hm
  rintro c6 hm;rw[iu]at hm;exact cB [(0,ax (fk bF dX))] [22] [(22,U ((au+1:Nat):Int))]<|ck c6 hm
 rintro au bJ eX er hm;rw[eO]at hm;refine aH [] [] [(23,.d ((au:Int)<t.Links.length))]<|A.seq<|bx (fB er)<|A.exit<|aH [] [1,20,21,22,23] [(11,.dh)]<|A.seq<|aH [(2,ax (cb az d.dM))] [] [(70,av az d.dM),(71,U d.dM.length),(72,U 0)]<|A.block<|axt 70 rfl λgr=>?_
 obtain⟨jQ,iH,jZ,j0,hm⟩:=fF hm;refine axq (l:=d.dM) (e3:=0) (B:=jQ) (K:=iH) hm (λbN=>λzq=>[(5,.ptr 31 0),(7,.own 500006700),(8,.ptr 97008 0),(11,.own 88),(70,av az d.dM),(71,U d.dM.length),(72,U bN)]) (λbN=>λzq=>[(31,.cells 52 (hq d)),(500006700,.e5 22 950006700 ((t.cn.length:Int).toNat) none),(950006700,.cO (encS 3 1 az.enc bJ)),(97008,.vec 114 aJ.2.l),(88,.slice 3 1 (aM az zq) 0 false)]) ?_ ?_ ?_
 ·exact gM [.ad 11 88 3 1] []
 ·rintro bN e2 gX zq h6 eu hm;rw[jZ]at hm;refine aH [] [] [(73,.d ((bN:Int)<d.dM.length))]<|A.seq<|bz (fC eu)<|A.skip<|A.seq<|A.block<|aH [(0,b7 (ix az (eM eu)))] [73] [(13,U e2)] ?_
  obtain⟨pz,uz,hm⟩:=aU hm;obtain⟨kL,uA,hm⟩:=aU hm;exact hr [(2,uU (v:=aJ.2) uz underlying114 sizeOf3),(3,vP (v:=aJ.2) uz hQ),(5,m4 135 (ap az (bytes:=8) (by decide) uA))] [11,13] [(11,.own 135)] [88] [(135,.slice 3 1 (aM az kL) 0 false)]<|cB [(0,ax (fk eu gr))] [72] [(72,U ((bN+1:Nat):Int))]<|Exists.intro kL (And.intro hm (gM [.ja 135 88] []))
 rintro bN zq h6 iR hm;rw[j0]at hm;refine aH [] [] [(73,.d ((bN:Int)<d.dM.length))]<|A.seq<|bx (fB iR)<|A.exit<|axB (aym (d:=500006700) (e:=950006700) bJ az.enc rfl rfl) ?_
 obtain⟨uh,uB,hm⟩:=aU hm;obtain⟨eg,ti,hm⟩:=aU hm;refine aO [(3,uU (v:=aJ.2) uB underlying114 sizeOf3),(4,vP (v:=aJ.2) uB hQ),(6,hle [500006700,88] (abz ti) amK)] [(6,U eg)] [] ?_;cases hm;exact A.ret bG
def abC{l:Bt}(hm:Gy t b9 l=some r):dn prog 33 [] [.agg (bV t),av cm b9,av cC l] (U r):=by
 refine dE func33 rfl rfl ?_;unfold Gy at hm;refine aO [(0,.al 26)] [(1,av cm b9),(2,av cC l),(3,.ptr 26 0)] [(26,.cells 28 (bV t))]<|A.seq ?_
 obtain⟨aJ,h1,hm⟩:=aU hm;refine aH [(2,bI (QM h1) Og)] [] [(7,U aJ)]<|aH [] [] [(21,.bool (!decide (aJ=0)))] ?_
 rcases bL hm with⟨aN,hm⟩|⟨aN,hm⟩
 ·refine bz aN<|aO [] [(6,U aJ)] [] ?_
  cases hm;exact A.ret bG
 refine bx aN<|A.skip<|A.seq<|aH [(1,ax (cb cC l)),(3,ax (cb cm b9))] [7,21] [(27,.bool (!decide ((l.length:Int)=(b9.length:Int))))] ?_
 rcases bL hm with⟨bw,hm⟩|⟨bw,hm⟩
 ·refine bz bw<|aO [] [(6,U 8)] [] ?_
  cases hm;exact A.ret bG
 refine bx bw<|A.skip ?_
 obtain⟨bq,D,hm⟩:=aU hm;refine aH [(1,bI (aao D) X4)] [27] [(8,av cp bq)]<|A.seq<|aH [(1,ax (cb cm b9))] [1] [(30,av cm b9),(31,U b9.length),(32,U 0)]<|A.block<|axt 30 rfl λdX=>?_
 obtain⟨eT,eU,eW,eO,hm⟩:=fF hm;refine axq (l:=b9) (e3:=0) (B:=eT) (K:=eU) hm (λau=>λjU=>[(2,av cC l),(3,.ptr 26 0),(8,av cp jU),(30,av cm b9),(31,U b9.length),(32,U au)]) (λau=>λjU=>[(26,.cells 28 (bV t))]) ?_ ?_ ?_
 ·exact gM [] [8]
 ·rintro au e1 b3 jU eX bF hm;rw[eW]at hm;refine aH [] [] [(33,.d ((au:Int)<b9.length))]<|A.seq<|bz (fC bF)<|A.skip ?_
  obtain⟨dx,iu,hm⟩:=h2 hm;refine A.J (J:=dx) (r:=r) (λDN=>[(2,av cC l),(3,.ptr 26 0),(8,av cp DN),(30,av cm b9),(31,U b9.length),(32,U au)]) (λDN=>[(26,.cells 28 (bV t))]) ?_ ?_
  ·refine A.block<|c0 [(1,b7 (ix cm (eM bF))),(3,.al 56)] [33] [(10,.ptr 56 0),(9,U au)] [] [(56,.cells 52 (hq e1))] ?_
   obtain⟨cr,aj,hm⟩:=aU hm;refine c0 [(2,b7 (ix cC aj)),(4,.al 68)] [9] [(11,.ptr 68 0)] [] [(68,.cells 36 (gL cr))] ?_;obtain⟨cu,aV,hm⟩:=aU hm;refine aH [(3,bI (ZS aV) X5)] [] [(12,.bool cu)]<|A.seq ?_
   obtain⟨eg,b4,hm⟩:=aU hm;refine aH [(2,bI (QX b4) Oh)] [] [(48,.bool (cu==eg))] ?_;rcases bL hm with⟨cg,hm⟩|⟨cg,hm⟩
   ·refine bz cg<|aO [] [(6,U 1)] [] ?_
    cases hm;exact A.ret bG
   refine bx cg<|A.skip<|A.seq<|aH [] [12,48] [(50,.bool (!cu))] ?_
   rcases bL hm with⟨dR,hm⟩|⟨dR,hm⟩
   ·exact bz dR<|A.exit<|Exists.intro jU (And.intro hm (gM [] [8]))
   refine bx dR<|A.skip ?_
   obtain⟨dQ,dz,hm⟩:=aU hm;refine aH [(5,bI (aap dz) X6)] [50] [(13,av cp dQ.1),(14,.bool dQ.2)]<|A.seq ?_
   obtain⟨gv,k4,hm⟩:=h2 hm;refine A.J (J:=gv) (r:=r) (λeL=>[(2,av cC l),(3,.ptr 26 0),(8,av cp jU),(10,.ptr 56 0),(11,.ptr 68 0),(13,av cp dQ.1),(30,av cm b9),(31,U b9.length),(32,U au),(76,.bool eL)]) (λeL=>[(26,.cells 28 (bV t)),(56,.cells 52 (hq e1)),(68,.cells 36 (gL cr))]) ?_ ?_
   ·rcases bL hm with⟨eV,hm⟩|⟨eV,hm⟩
    ·exact cB [(2,ax (b0 eV))] [14] [(76,.bool true)]<|ck true hm
    rcases bL hm with⟨gY,hm⟩|⟨gY,hm⟩
    ·exact cB [(2,ax (b0 eV)),(9,ax (b0 gY))] [14] [(76,.bool true)]<|ck true hm
    obtain⟨dF,fz,hm⟩:=aU hm;exact cB [(2,ax (b0 eV)),(9,ax (b0 gY)),(14,bI (QH fz) N5)] [14] [(76,.bool (!decide (dF=0)))]<|ck (!decide (dF=0)) hm
   rintro eL hm;rw[k4]at hm;rcases bL hm with⟨i1,hm⟩|⟨i1,hm⟩
   ·refine bz i1<|aO [] [(6,U 1)] [] ?_
    cases hm;exact A.ret bG
   refine bx i1<|A.skip<|A.seq ?_
   obtain⟨gU,hv,hm⟩:=aU hm;refine c0 [(2,bI (abH hv) amw)] [11,76] [(15,U gU.1)] [68] [] ?_;obtain⟨mq,hc,hm⟩:=aU hm;refine c0 [(4,bI (abB hc) amP)] [8,10,15] [(88,.bool (!decide (gU.1=mq)))] [56] [] ?_;rcases bL hm with⟨me,hm⟩|⟨me,hm⟩
   ·refine bz me<|aO [] [(6,U 1)] [] ?_
    cases hm;exact A.ret bG
   exact bx me<|A.skip<|cB [] [13,88] [(8,av cp dQ.1)]<|Exists.intro dQ.1 (And.intro hm (gM [] [8]))
  rintro DN hm;rw[iu]at hm;exact cB [(0,ax (fk bF dX))] [32] [(32,U ((au+1:Nat):Int))]<|Exists.intro DN (And.intro hm (gM [] [8]))
 rintro au jU eX er hm;rw[eO]at hm;refine aH [] [] [(33,.d ((au:Int)<b9.length))]<|A.seq<|bx (fB er)<|A.exit<|aO [] [(6,U 0)] [] ?_
 cases hm;exact A.ret bG
end
section
open Go Go.Proofs.Tryz List
set_option maxRecDepth 100000
set_option linter.all false
variable {l:Bt}{r:(xe)×Int}
def abI{e7:cN}(hm:GK l e7=some r):dn prog 41 [] [av cC l,av az e7] (.dm [av cp r.1,U r.2]):=by
 refine dE func41 rfl rfl ?_;unfold GK at hm;refine aO [] [(0,av cC l),(1,av az e7)] []<|A.seq<|aH [(1,ax (cb cC l)),(3,ax (cb az e7))] [] [(20,.bool (!decide ((l.length:Int)=(e7.length:Int))))] ?_
 rcases bL hm with⟨aN,hm⟩|⟨aN,hm⟩
 ·refine bz aN<|aO [] [(4,.dh),(5,U 8)] [] ?_
  cases hm;exact A.ret bG
 refine bx aN<|A.skip<|A.seq<|aH [(1,ax (cb az e7))] [20] [(21,av az e7),(22,U e7.length),(23,U 0)]<|A.block<|axt 1 rfl λdX=>?_
 obtain⟨eT,eU,eW,eO,hm⟩:=fF hm;refine axq (l:=e7) (e3:=0) (B:=eT) (K:=eU) hm (λau=>λ()=>[(0,av cC l),(1,av az e7),(21,av az e7),(22,U e7.length),(23,U au)]) (λau=>λ()=>[]) ?_ ?_ ?_
 ·exact fm
 ·rintro au e1 b3 ⟨⟩ eX bF hm;rw[eW]at hm;refine aH [] [] [(24,.d ((au:Int)<e7.length))]<|A.seq<|bz (fC bF)<|A.skip<|A.seq<|A.block<|aH [(0,b7 (ix az (eM bF)))] [24] [(7,U e1)]<|axy [(0,av cC l),(1,av az e7),(21,av az e7),(22,U e7.length),(23,U au),(32,.bool ((decide (e1<0))||(decide (1000<e1))))] [] (λhk=>?_) ?_
  ·rcases kF (decide (e1<0))with bw|bw
   ·exact aO [(2,ax (b0 bw)),(5,ax (wA (q:=decide (1000<e1)) bw))] _ _ hk
   exact aO [(2,ax (b0 bw)),(5,ax (tV (q:=decide (1000<e1)) bw))] _ _ hk
  rcases bL hm with⟨cg,hm⟩|⟨cg,hm⟩
  ·refine bz cg<|aO [] [(4,.dh),(5,U 2)] [] ?_
   cases hm;exact A.ret bG
  exact bx cg<|A.skip<|cB [(0,ax (fk bF dX))] [23,32] [(23,U ((au+1:Nat):Int))]<|ck () hm
 rintro au ⟨⟩ eX er hm;rw[eO]at hm;refine aH [] [] [(24,.d ((au:Int)<e7.length))]<|A.seq<|bx (fB er)<|A.exit<|A.seq<|aH [(1,ax (cb cC l))] [21,22,23,24] [(36,.d (12<(l.length:Int)))] ?_
 rcases bL hm with⟨dR,hm⟩|⟨dR,hm⟩
 ·refine bz dR<|aO [] [(4,.dh),(5,U 3)] [] ?_
  cases hm;exact A.ret bG
 refine bx dR<|A.skip<|A.seq<|aH [(1,ax (cb cC l))] [36] [(37,av cC l),(38,U l.length),(39,U 0)]<|A.block<|axt 0 rfl λgr=>?_
 obtain⟨jQ,iH,jZ,j0,hm⟩:=fF hm;refine axq (l:=l) (e3:=0) (B:=jQ) (K:=iH) hm (λbN=>λ()=>[(0,av cC l),(1,av az e7),(37,av cC l),(38,U l.length),(39,U bN)]) (λbN=>λ()=>[]) ?_ ?_ ?_
 ·exact fm
 ·rintro bN e2 gX ⟨⟩ h6 eu hm;rw[jZ]at hm;refine aH [] [] [(40,.d ((bN:Int)<l.length))]<|A.seq<|bz (fC eu)<|A.skip<|A.seq<|A.block<|c0 [(0,b7 (ix cC (eM eu))),(2,.al 140)] [40] [(9,.ptr 140 0)] [] [(140,.cells 36 (gL e2))] ?_
  obtain⟨aJ,h1,hm⟩:=aU hm;refine aH [(1,bI (QG h1) Ob)] [] [(10,U aJ)] ?_;obtain⟨dx,iu,hm⟩:=h2 hm;refine A.J (J:=dx) (r:=r) (λeL=>[(0,av cC l),(1,av az e7),(10,U aJ),(37,av cC l),(38,U l.length),(39,U bN),(51,.bool eL)]) (λeL=>[]) ?_ ?_
  ·rcases bL hm with⟨eV,hm⟩|⟨eV,hm⟩
   ·obtain⟨bq,D,hm⟩:=aU hm;exact hr [(2,ax (b0 eV)),(4,bI (QX D) Oh)] [9] [(51,.bool (!bq))] [140] []<|ck (!bq) hm
   exact hr [(2,ax (b0 eV))] [9] [(51,.bool false)] [140] []<|ck false hm
  rintro eL hm;rw[iu]at hm;rcases bL hm with⟨gY,hm⟩|⟨gY,hm⟩
  ·refine bz gY<|aO [] [(4,.dh),(5,U aJ)] [] ?_
   cases hm;exact A.ret bG
  exact bx gY<|A.skip<|cB [(0,ax (fk eu gr))] [10,39,51] [(39,U ((bN+1:Nat):Int))]<|ck () hm
 rintro bN ⟨⟩ h6 iR hm;rw[j0]at hm;refine aH [] [] [(40,.d ((bN:Int)<l.length))]<|A.seq<|bx (fB iR)<|A.exit<|aH [] [37,38,39,40] [(11,.dh)]<|A.seq<|aH [(1,ax (cb cC l))] [0] [(54,av cC l),(55,U l.length),(56,U 0)]<|A.block<|axt 54 rfl λnJ=>?_
 obtain⟨nv,nw,nH,nI,hm⟩:=fF hm;refine axq (l:=l) (e3:=0) (B:=nv) (K:=nw) hm (λdd=>λee=>[(1,av az e7),(11,av cp ee),(54,av cC l),(55,U l.length),(56,U dd)]) (λdd=>λee=>[]) ?_ ?_ ?_
 ·exact gM [] [11]
 ·rintro dd bT jc ee ml h7 hm;rw[nH]at hm;refine aH [] [] [(57,.d ((dd:Int)<l.length))]<|A.seq<|bz (fC h7)<|A.skip<|A.seq<|A.block<|c0 [(1,b7 (ix cC (eM h7))),(3,.al 193)] [57] [(13,.ptr 193 0),(12,U dd)] [] [(193,.cells 36 (gL bT))]<|c0 [(2,ax (cb bH bT.Links))] [13] [(62,av bH bT.Links),(63,U bT.Links.length),(64,U 0)] [193] []<|A.block<|axt 62 rfl λw5=>?_
  obtain⟨wO,wP,w3,w4,hm⟩:=fF hm;refine axq (l:=bT.Links) (e3:=0) (B:=wO) (K:=wP) hm (λhN=>λhS=>[(1,av az e7),(11,av cp hS),(12,U dd),(54,av cC l),(55,U l.length),(56,U dd),(62,av bH bT.Links),(63,U bT.Links.length),(64,U hN)]) (λhN=>λhS=>[]) ?_ ?_ ?_
  ·exact gM [] [11]
  ·rintro hN fG mb hS w8 lC hm;rw[w3]at hm;refine aH [] [] [(65,.d ((hN:Int)<bT.Links.length))]<|A.seq<|bz (fC lC)<|A.skip<|A.seq<|A.block<|c0 [(0,b7 (ix bH (eM lC))),(2,.al 194)] [65] [(15,.ptr 194 0)] [] [(194,.cells 84 (i3 fG))] ?_
   obtain⟨cr,aj,hm⟩:=aU hm;obtain⟨cu,aV,hm⟩:=aU hm;exact hr [(7,b7 (ix az aj)),(9,bI (Kg aV) IE)] [11,15] [(11,av cp cu)] [194] []<|cB [(0,ax (fk lC w5))] [64] [(64,U ((hN+1:Nat):Int))]<|Exists.intro cu (And.intro hm (gM [] [11]))
  rintro hN hS w8 qz hm;rw[w4]at hm;exact aH [] [] [(65,.d ((hN:Int)<bT.Links.length))]<|A.seq<|bx (fB qz)<|A.exit<|cB [(0,ax (fk h7 nJ))] [12,56,62,63,64,65] [(56,U ((dd+1:Nat):Int))]<|Exists.intro hS (And.intro hm (gM [] [11]))
 rintro dd ee ml jO hm;rw[nI]at hm;refine aH [] [] [(57,.d ((dd:Int)<l.length))]<|A.seq<|bx (fB jO)<|A.exit<|aO [] [(4,av cp ee),(5,U 0)] [] ?_
 cases hm;exact A.ret bG
variable {b9:Bk}{t:bu}
def abJ(hm:GL t b9 l=some r):dn prog 39 [] [.agg (bV t),av cm b9,av cC l] (.dm [av cp r.1,U r.2]):=by
 refine dE func39 rfl rfl ?_;unfold GL at hm;refine aO [(0,.al 46)] [(1,av cm b9),(2,av cC l),(3,.ptr 46 0)] [(46,.cells 28 (bV t))]<|A.seq ?_
 obtain⟨aJ,h1,hm⟩:=aU hm;refine aH [(2,bI (QM h1) Og)] [] [(8,U aJ)]<|aH [] [] [(18,.bool (!decide (aJ=0)))] ?_
 rcases bL hm with⟨aN,hm⟩|⟨aN,hm⟩
 ·refine bz aN<|aO [] [(6,.dh),(7,U aJ)] [] ?_
  cases hm;exact A.ret bG
 refine bx aN<|A.skip<|A.seq<|aH [(1,ax (cb cC l)),(3,ax (cb cm b9))] [8,18] [(24,.d ((b9.length:Int)<(l.length:Int)))] ?_
 rcases bL hm with⟨bw,hm⟩|⟨bw,hm⟩
 ·refine bz bw<|aO [] [(6,.dh),(7,U 8)] [] ?_
  cases hm;exact A.ret bG
 refine bx bw<|A.skip ?_
 obtain⟨bq,D,hm⟩:=aU hm;refine aH [(1,bI (aao D) X4)] [24] [(9,av cp bq)]<|A.seq<|aH [(1,ax (cb cC l))] [2] [(27,av cC l),(28,U l.length),(29,U 0)]<|A.block<|axt 27 rfl λdX=>?_
 obtain⟨eT,eU,eW,eO,hm⟩:=fF hm;refine axq (l:=l) (e3:=0) (B:=eT) (K:=eU) hm (λau=>λjU=>[(1,av cm b9),(3,.ptr 46 0),(9,av cp jU),(27,av cC l),(28,U l.length),(29,U au)]) (λau=>λjU=>[(46,.cells 28 (bV t))]) ?_ ?_ ?_
 ·exact gM [] [9]
 ·rintro au e1 b3 jU eX bF hm;rw[eW]at hm;refine aH [] [] [(30,.d ((au:Int)<l.length))]<|A.seq<|bz (fC bF)<|A.skip<|A.seq<|A.block<|c0 [(1,b7 (ix cC (eM bF))),(3,.al 192)] [30] [(11,.ptr 192 0),(10,U au)] [] [(192,.cells 36 (gL e1))] ?_
  obtain⟨cr,aj,hm⟩:=aU hm;obtain⟨cu,aV,hm⟩:=aU hm;refine c0 [(5,b7 (ix cm aj)),(8,bI (aap aV) X6)] [9,11,10] [(12,av cp cu.1),(13,.bool cu.2)] [192] []<|A.seq<|aH [] [13] [(47,.bool (!cu.2))] ?_
  rcases bL hm with⟨cg,hm⟩|⟨cg,hm⟩
  ·refine bz cg<|aO [] [(6,.dh),(7,U 1)] [] ?_
   cases hm;exact A.ret bG
  exact bx cg<|A.skip<|cB [] [12,47] [(9,av cp cu.1)]<|cB [(0,ax (fk bF dX))] [29] [(29,U ((au+1:Nat):Int))]<|Exists.intro cu.1 (And.intro hm (gM [] [9]))
 rintro au jU eX er hm;rw[eO]at hm;refine aH [] [] [(30,.d ((au:Int)<l.length))]<|A.seq<|bx (fB er)<|A.exit<|aO [] [(6,av cp jU),(7,U 0)] [] ?_
 cases hm;exact A.ret bG
variable {c2:xe}
def ZT{d:bY}{r:Bool×Int}(hm:C0 t c2 d=some r):dn prog 43 [] [.agg (bV t),av cp c2,.agg (hq d)] (.dm [.bool r.1,U r.2]):=by
 refine dE func43 rfl rfl ?_;unfold C0 at hm;refine aO [(0,.al 98),(1,.al 99)] [(1,av cp c2),(3,.ptr 98 0),(5,.ptr 99 0)] [(98,.cells 28 (bV t)),(99,.cells 52 (hq d))]<|A.seq ?_
 obtain⟨aJ,h1,hm⟩:=aU hm;refine aH [(1,bI (CW h1) B6)] [] [(11,.bool (!decide (aJ=0)))] ?_;rcases bL hm with⟨aN,hm⟩|⟨aN,hm⟩
 ·refine bz aN<|aO [] [(6,.bool false),(7,U 1)] [] ?_
  cases hm;exact A.ret bG
 refine bx aN<|A.skip<|A.seq ?_
 obtain⟨bq,D,hm⟩:=aU hm;refine aH [(2,bI (aac D) We)] [11] [(8,U bq)]<|aH [] [] [(16,.bool (!decide (bq=0)))] ?_
 rcases bL hm with⟨bw,hm⟩|⟨bw,hm⟩
 ·refine bz bw<|aO [] [(6,.bool false),(7,U bq)] [] ?_
  cases hm;exact A.ret bG
 refine bx bw<|A.skip ?_
 obtain⟨cu,aj,hm⟩:=aU hm;refine aO [(3,bI (ZS aj) X5)] [(6,.bool cu),(7,U 0)] [] ?_;cases hm;exact A.ret bG
def asY{d:bY}{r:(cN)×Int}(hm:Gn t c2 d=some r):dn prog 44 [] [.agg (bV t),av cp c2,.agg (hq d)] (.dm [av az r.1,U r.2]):=by
 refine dE func44 rfl rfl ?_;unfold Gn at hm;refine aO [(0,.al 100),(1,.al 101)] [(1,av cp c2),(3,.ptr 100 0),(5,.ptr 101 0)] [(100,.cells 28 (bV t)),(101,.cells 52 (hq d))] ?_;obtain⟨aJ,h1,hm⟩:=aU hm;refine aH [(3,bI (ZT h1) W5)] [] [(8,.bool aJ.1),(9,U aJ.2)]<|A.seq<|aH [] [] [(18,.bool (!decide (aJ.2=0)))] ?_
 rcases bL hm with⟨aN,hm⟩|⟨aN,hm⟩
 ·refine bz aN<|aO [] [(6,.dh),(7,U aJ.2)] [] ?_
  cases hm;exact A.ret bG
 refine bx aN<|A.skip<|A.seq<|aH [] [8,9,18] [(20,.bool aJ.1)] ?_
 rcases bL hm with⟨bw,hm⟩|⟨bw,hm⟩
 ·refine bz bw<|aO [] [(6,.dh),(7,U 9)] [] ?_
  cases hm;exact A.ret bG
 refine bx bw<|A.skip ?_
 obtain⟨bq,D,hm⟩:=aU hm;refine aO [(3,bI (Z0 D) Wf)] [(6,av az bq),(7,U 0)] [] ?_;cases hm;exact A.ret bG
def abD{r:Int}(hm:GA t b9=some r):dn prog 38 [] [.agg (bV t),av cm b9] (U r):=by
 refine dE func38 rfl rfl ?_;unfold GA at hm;refine aO [(0,.al 191)] [(1,av cm b9),(2,.ptr 191 0)] [(191,.cells 28 (bV t))] ?_;obtain⟨aJ,h1,hm⟩:=aU hm;refine aO [(2,bI (QM h1) Og)] [(4,U aJ)] [] ?_;cases hm;exact A.ret bG
def QI{a:xe}{b:xe}{r:Bool}(hm:CK a b=some r):dn prog 40 [] [av cp a,av cp b] (.bool r):=by
 refine dE func40 rfl rfl ?_;unfold CK at hm;refine aO [] [(0,av cp a),(1,av cp b)] []<|A.seq<|aH [(1,ax (cb cp a)),(3,ax (cb cp b))] [] [(10,.bool (!decide ((a.length:Int)=(b.length:Int))))] ?_
 rcases bL hm with⟨aN,hm⟩|⟨aN,hm⟩
 ·refine bz aN<|aO [] [(4,.bool false)] [] ?_
  cases hm;exact A.ret bG
 refine bx aN<|A.skip<|A.seq<|aH [(1,ax (cb cp a))] [10] [(12,U a.length),(13,U 0)]<|A.block<|axt 0 rfl λdX=>?_
 obtain⟨eT,eU,eW,eO,hm⟩:=fF hm;refine axq (l:=a) (e3:=0) (B:=eT) (K:=eU) hm (λau=>λ()=>[(0,av cp a),(1,av cp b),(12,U a.length),(13,U au)]) (λau=>λ()=>[]) ?_ ?_ ?_
 ·exact fm
 ·rintro au e1 b3 ⟨⟩ eX bF hm;rw[eW]at hm;refine aH [] [] [(14,.d ((au:Int)<a.length))]<|A.seq<|bz (fC bF)<|A.skip<|A.seq<|A.block<|aH [] [14] [(5,U au)] ?_
  obtain⟨cr,h1,hm⟩:=aU hm;refine aH [(2,b7 (ix cp (eM bF))),(6,b7 (ix cp h1)),(8,.KO true 60 (.agg (vY e1)) (.agg (vY cr)) (!(Hr e1 cr)) (λx y w=>adp x y _ _ _ _ _ _ w))] [5] [(24,.bool (!(Hr e1 cr)))] ?_;rcases bL hm with⟨bw,hm⟩|⟨bw,hm⟩
  ·refine bz bw<|aO [] [(4,.bool false)] [] ?_
   cases hm;exact A.ret bG
  exact bx bw<|A.skip<|cB [(0,ax (fk bF dX))] [13,24] [(13,U ((au+1:Nat):Int))]<|ck () hm
 rintro au ⟨⟩ eX er hm;rw[eO]at hm;refine aH [] [] [(14,.d ((au:Int)<a.length))]<|A.seq<|bx (fB er)<|A.exit<|aO [] [(4,.bool true)] [] ?_
 cases hm;exact A.ret bG
end
section
open Go List
set_option maxRecDepth 100000
set_option linter.all false
noncomputable section
def C6: Option bu:=
 some (bu.mk ([(fe.mk (1:Int) true),(fe.mk (2:Int) true)]:HC) ([(dJ.mk (1:Int) (2:Int) (1:Int) (1:Int) (5:Int))]:G5))
def C3: ko:=
 aB (C6) λ(aJ:bu)=>ym aJ ([(bY.mk (1:Int) ([(2:Int)]:cN) (3:Int)),(bY.mk (1:Int) ([(2:Int)]:cN) (3:Int)),(bY.mk (2:Int) ([(1:Int)]:cN) (4:Int))]:Bk) λ(bq:(Bt)×Int)=>bif ((!decide (bq.2=0))||(!decide ((bq.1.length:Int)=(3:Int))))then some false else aB (C6) λ(cu:bu)=>aB (nk bq.1 (0:Int) (1:Int)) λ(dk:Bt)=>aB (vz cu ([(bY.mk (1:Int) ([(2:Int)]:cN) (3:Int)),(bY.mk (1:Int) ([(2:Int)]:cN) (3:Int)),(bY.mk (2:Int) ([(1:Int)]:cN) (4:Int))]:Bk) dk) λ(eg:(xe)×Int)=>aB (C6) λ(dQ:bu)=>aB (b2 ([(bY.mk (1:Int) ([(2:Int)]:cN) (3:Int)),(bY.mk (1:Int) ([(2:Int)]:cN) (3:Int)),(bY.mk (2:Int) ([(1:Int)]:cN) (4:Int))]:Bk) (1:Int)) λ(cr:bY)=>aB (wV dQ eg.1 cr) λ(dF:(cN)×Int)=>(bif decide (eg.2=0)then(bif decide (dF.2=0)then aB (b2 bq.1 (0:Int)) λ(e6:bR)=>(bif decide ((e6.Links.length:Int)=(1:Int))then aB (b2 bq.1 (1:Int)) λ(ir:bR)=>(bif decide (ir.cc=0)then aB (b2 bq.1 (2:Int)) λ(lR:bR)=>(bif decide ((lR.Links.length:Int)=(1:Int))then aB (CM dF.1 ([(1:Int)]:cN)) λ(gU:Bool)=>some gU else some false)else some false)else some false)else some false)else some false)
end
end
section
open Go List
set_option maxRecDepth 100000
set_option linter.all false
noncomputable section
def GM(fE:eo)(d:bY):Option (bY×eo):=
 aB (jf ([]:cN) d.dM) λ(dk:cN)=>jn (λ(af:(cN)×Int×Int×(cN)×Int)=>match af with|(bJ,c6,et,j5,nr)=>some ((bY.mk et j5 nr),(eo.mk bJ c6))) λdx=>aB (ot fE (4:Int)) λ(aJ:Int×eo)=>bif decide (aJ.1=0)then aB (s9 aJ.2 ([(0:Int),(1:Int),(98:Int)]:cN)) λ(bq:Int×eo)=>dx (bq.2.L,bq.2.At,bq.1,dk,d.de)else bif decide (aJ.1=1)then aB (s9 aJ.2 ([(0:Int),(1:Int),(99:Int)]:cN)) λ(cu:Int×eo)=>aB (jf dk ([cu.1]:cN)) λ(iD:cN)=>dx (cu.2.L,cu.2.At,d.cc,iD,d.de)else bif decide (aJ.1=2)then aB (s9 aJ.2 ([(0:Int),(1000:Int),(1001:Int)]:cN)) λ(eg:Int×eo)=>dx (eg.2.L,eg.2.At,d.cc,dk,eg.1)else aB (jf dk ([(1:Int),(2:Int),(3:Int),(4:Int),(5:Int),(6:Int),(7:Int)]:cN)) λ(kL:cN)=>dx (aJ.2.L,aJ.2.At,d.cc,kL,d.de)
def GB(d:Bk)(l:Bt):ko:=
 jb (λ(b3:(Int×Int)→Option _) (jL,cI)=>bif ((decide (cI<(d.length:Int)))&&(decide (jL<900)))then aB (b2 d cI) λ(cr:bY)=>b3 (bE (jL+(cr.dM.length:Int)),bE (cI+1))else jb (λ(gX:(Int×Int)→Option _) (mx,oE)=>bif ((decide (oE<(l.length:Int)))&&(decide (mx<900)))then aB (b2 l oE) λ(e6:bR)=>gX (bE (mx+(e6.Links.length:Int)),bE (oE+1))else some (decide (mx≤400))) (jL,(0:Int))) (bE ((d.length:Int)+(l.length:Int)),(0:Int))
end
end
section
open Go Go.Proofs.Tryz List
set_option maxRecDepth 100000
set_option linter.all false
def QY{r:bu}(hm:C6=some r):dn prog 91 [] [] (.agg (bV r)):=by
 refine dE func91 rfl rfl ?_;unfold C6 at hm;refine aO [(0,.al 151)] [(0,.ptr 151 0)] [(151,.c 28 [.dh,.dh])]<|c0 [] [] [] [151] [(151,.c 28 [.bf true (aM fN ([(fe.mk (1:Int) true),(fe.mk (2:Int) true)]:HC)),.bf true (aM ff ([(dJ.mk (1:Int) (2:Int) (1:Int) (1:Int) (5:Int))]:G5))])] ?_
 cases hm;exact A.ret bG
def aaq{r:Bool}(hm:C3=some r):dn prog 27 [] [] (.bool r):=by
 refine dE func27 rfl rfl ?_;unfold C3 at hm;refine aO [] [] []<|aO [] [(1,.bf true (aM cm ([(bY.mk (1:Int) ([(2:Int)]:cN) (3:Int)),(bY.mk (1:Int) ([(2:Int)]:cN) (3:Int)),(bY.mk (2:Int) ([(1:Int)]:cN) (4:Int))]:Bk)))] [] ?_
 obtain⟨aJ,h1,hm⟩:=aU hm;refine ayL cQ 2 [3,4,5,6,7] [] [(0,bI (QY h1) Of)] (ZR hm) W1 (by kernel_rfl) (by kernel_rfl) (by kernel_rfl) (by rintro _ _ ⟨rfl,_,_,rfl⟩;exact⟨rfl,rfl⟩) ?_;rintro _ _ ⟨rfl,bq,hm,rfl⟩
 try dsimp only at hm
 refine⟨[],[(1,.bf true (aM cm ([(bY.mk (1:Int) ([(2:Int)]:cN) (3:Int)),(bY.mk (1:Int) ([(2:Int)]:cN) (3:Int)),(bY.mk (2:Int) ([(1:Int)]:cN) (4:Int))]:Bk))),(2,av cC bq.1),(3,U bq.2)],[],by kernel_rfl,?_⟩;refine A.seq<|axy [(1,.bf true (aM cm ([(bY.mk (1:Int) ([(2:Int)]:cN) (3:Int)),(bY.mk (1:Int) ([(2:Int)]:cN) (3:Int)),(bY.mk (2:Int) ([(1:Int)]:cN) (4:Int))]:Bk))),(2,av cC bq.1),(27,.bool ((!decide (bq.2=0))||(!decide ((bq.1.length:Int)=(3:Int)))))] [] (λhk=>?_) ?_
 ·rcases kF (!decide (bq.2=0))with aN|aN
  ·exact aO [(2,ax (b0 aN)),(6,ax (wA (q:=!decide ((bq.1.length:Int)=(3:Int))) aN))] _ _ hk
  exact aO [(2,ax (b0 aN)),(4,ax (cb cC bq.1)),(6,ax (tV (q:=!decide ((bq.1.length:Int)=(3:Int))) aN))] _ _ hk
 rcases bL hm with⟨bw,hm⟩|⟨bw,hm⟩
 ·refine bz bw<|aO [] [(0,.bool false)] [] ?_
  cases hm;exact A.ret bG
 refine bx bw<|A.skip ?_
 obtain⟨cu,D,hm⟩:=aU hm;obtain⟨dk,aj,hm⟩:=aU hm;obtain⟨eg,aV,hm⟩:=aU hm;refine aH [(0,bI (QY D) Of),(3,j4 (sl cC aj)),(4,bI (ZZ aV) W2)] [27] [(4,av cp eg.1),(5,U eg.2)] ?_;obtain⟨dQ,b4,hm⟩:=aU hm;obtain⟨cr,dz,hm⟩:=aU hm;obtain⟨dF,fz,hm⟩:=aU hm;refine aH [(0,bI (QY b4) Of),(3,b7 (ix cm dz)),(5,bI (ZM fz) W3)] [1,4] [(6,av az dF.1),(7,U dF.2)] ?_;rcases bL hm with⟨cg,hm⟩|⟨cg,hm⟩
 ·rcases bL hm with⟨dR,hm⟩|⟨dR,hm⟩
  ·obtain⟨e6,hv,hm⟩:=aU hm;rcases bL hm with⟨eV,hm⟩|⟨eV,hm⟩
   ·obtain⟨ir,hc,hm⟩:=aU hm;rcases bL hm with⟨gY,hm⟩|⟨gY,hm⟩
    ·obtain⟨lR,kC,hm⟩:=aU hm;rcases bL hm with⟨i1,hm⟩|⟨i1,hm⟩
     ·obtain⟨gU,m0,hm⟩:=aU hm;refine aO [(2,ax (b0 cg)),(6,ax (b0 dR)),(8,b7 (ix cC hv)),(11,ax (cb bH e6.Links)),(14,ax (b0 eV)),(16,b7 (ix cC hc)),(21,ax (b0 gY)),(23,b7 (ix cC kC)),(26,ax (cb bH lR.Links)),(29,ax (b0 i1)),(32,bI (ZL m0) W6)] [(0,.bool gU)] [] ?_;cases hm;exact A.ret bG
     refine aO [(2,ax (b0 cg)),(6,ax (b0 dR)),(8,b7 (ix cC hv)),(11,ax (cb bH e6.Links)),(14,ax (b0 eV)),(16,b7 (ix cC hc)),(21,ax (b0 gY)),(23,b7 (ix cC kC)),(26,ax (cb bH lR.Links)),(29,ax (b0 i1))] [(0,.bool false)] [] ?_;cases hm;exact A.ret bG
    refine aO [(2,ax (b0 cg)),(6,ax (b0 dR)),(8,b7 (ix cC hv)),(11,ax (cb bH e6.Links)),(14,ax (b0 eV)),(16,b7 (ix cC hc)),(21,ax (b0 gY))] [(0,.bool false)] [] ?_;cases hm;exact A.ret bG
   refine aO [(2,ax (b0 cg)),(6,ax (b0 dR)),(8,b7 (ix cC hv)),(11,ax (cb bH e6.Links)),(14,ax (b0 eV))] [(0,.bool false)] [] ?_;cases hm;exact A.ret bG
  refine aO [(2,ax (b0 cg)),(6,ax (b0 dR))] [(0,.bool false)] [] ?_;cases hm;exact A.ret bG
 refine aO [(2,ax (b0 cg))] [(0,.bool false)] [] ?_;cases hm;exact A.ret bG
end
section
open Go Go.Proofs.Tryz List
set_option maxRecDepth 100000
set_option linter.all false
def abK{fE:eo}{d:bY}{r:bY×eo}(hm:GM fE d=some r):gZ prog 37 [(1,.cells 103 (hp fE))] [.ptr 1 0,.agg (hq d)] (λa aL=>a=.agg (hq r.1)∧aL=[(1,.cells 103 (hp r.2))]):=by
 refine dE func37 rfl rfl ?_;unfold GM at hm;refine aO [(0,.al 57),(1,.al 55)] [(0,.ptr 1 0),(3,.ptr 57 0),(4,.ptr 55 0)] [(1,.cells 103 (hp fE)),(57,.cells 52 (hq d)),(55,.c 52 [U 0,.dh,U 0])] ?_;obtain⟨dk,h1,hm⟩:=aU hm;refine c0 [(0,.al 37005),(3,m4 71 (ap az (bytes:=8) (by decide) h1))] [] [] [57] [(57,.c 52 [U d.cc,.own 71,U d.de]),(71,.slice 3 1 (aM az dk) 0 false)] ?_;obtain⟨dx,iu,hm⟩:=h2 hm;refine A.J (J:=dx) (r:=r) (λ(bJ,c6,et,j5,nr)=>[(3,.ptr 57 0),(4,.ptr 55 0)]) (λ(bJ,c6,et,j5,nr)=>[(1,.c 103 [av az bJ,U c6]),(57,.c 52 [U et,.own 103,U nr]),(55,.c 52 [U 0,.dh,U 0]),(103,.slice 3 1 (aM az j5) 0 false)]) ?_ ?_
 ·obtain⟨aJ,D,hm⟩:=aU hm;refine c0 [(1,gW [] (q5 D) rW)] [] [(11,U aJ.1)] [1] [(1,.cells 103 (hp aJ.2))]<|A.block<|aH [] [] [(17,.d (aJ.1=0))] ?_
  rcases bL hm with⟨aN,hm⟩|⟨aN,hm⟩
  ·refine bz aN ?_;obtain⟨bq,aj,hm⟩:=aU hm;exact hr [(2,gW [] (yb aj) zM)] [0,11,17] [] [1,57] [(1,.cells 103 (hp bq.2)),(57,.c 52 [U bq.1,.own 71,U d.de])]<|Exists.intro (bq.2.L,bq.2.At,bq.1,dk,d.de) (And.intro hm (gM [.ja 71 103] []))
  refine bx aN<|aH [] [17] [(23,.d (aJ.1=1))] ?_
  rcases bL hm with⟨bw,hm⟩|⟨bw,hm⟩
  ·refine bz bw ?_;obtain⟨cu,aV,hm⟩:=aU hm;obtain⟨iD,b4,hm⟩:=aU hm;exact hr [(4,gW [] (yb aV) zM),(6,m4 163 (ap az (bytes:=8) (by decide) b4))] [0,11,23] [] [1,57,71] [(1,.cells 103 (hp cu.2)),(57,.c 52 [U d.cc,.own 163,U d.de]),(163,.slice 3 1 (aM az iD) 0 false)]<|Exists.intro (cu.2.L,cu.2.At,d.cc,iD,d.de) (And.intro hm (gM [.ja 163 103] []))
  refine bx bw<|aH [] [11,23] [(33,.d (aJ.1=2))] ?_
  rcases bL hm with⟨cg,hm⟩|⟨cg,hm⟩
  ·refine bz cg ?_;obtain⟨eg,dz,hm⟩:=aU hm;exact hr [(2,gW [] (yb dz) zM)] [0,33] [] [1,57] [(1,.cells 103 (hp eg.2)),(57,.c 52 [U d.cc,.own 71,U eg.1])]<|Exists.intro (eg.2.L,eg.2.At,d.cc,dk,eg.1) (And.intro hm (gM [.ja 71 103] []))
  refine bx cg ?_;obtain⟨kL,fz,hm⟩:=aU hm;exact hr [(3,m4 162 (ap az (bytes:=8) (by decide) fz))] [0,33] [] [57,71] [(57,.c 52 [U d.cc,.own 162,U d.de]),(162,.slice 3 1 (aM az kL) 0 false)]<|Exists.intro (aJ.2.L,aJ.2.At,d.cc,kL,d.de) (And.intro hm (gM [.ja 162 103] []))
 rintro⟨bJ,c6,et,j5,nr⟩ hm;rw[iu]at hm;refine c0 [] [3] [] [57,55] [(55,.c 52 [U et,.own 103,U nr])]<|A.ret ?_
 obtain rfl:=nU hm;exact axv cQ [.dO [103]] rfl (by kernel_rfl)
def QN{d:Bk}{l:Bt}{r:Bool}(hm:GB d l=some r):dn prog 36 [] [av cm d,av cC l] (.bool r):=by
 refine dE func36 rfl rfl ?_;unfold GB at hm;refine aO [] [(0,av cm d),(1,av cC l)] []<|aH [(1,ax (cb cm d)),(3,ax (cb cC l))] [] [(5,U (bE ((d.length:Int)+(l.length:Int))))]<|A.seq<|aH [] [] [(6,U 0)]<|A.block ?_
 obtain⟨lQ,iE,lT,hm⟩:=n1 hm;refine axJ (F:=lQ) hm (λ(jL,cI)=>[(0,av cm d),(1,av cC l),(5,U jL),(6,U cI)]) (λ(jL,cI)=>[]) ?_ ?_
 ·exact fm
 rintro b3 ⟨jL,cI⟩ hm;rw[lT]at hm;refine A.seq<|axy [(0,av cm d),(1,av cC l),(5,U jL),(6,U cI),(20,.bool ((decide (cI<(d.length:Int)))&&(decide (jL<900))))] [] (λhk=>?_) ?_
 ·rcases kF (decide (cI<(d.length:Int)))with aN|aN
  ·exact aO [(2,ax (cb cm d)),(4,ax (b0 aN)),(7,ax (oH (q:=decide (jL<900)) aN))] _ _ hk
  exact aO [(2,ax (cb cm d)),(4,ax (b0 aN)),(7,ax (oI (q:=decide (jL<900)) aN))] _ _ hk
 rcases bL hm with⟨bw,hm⟩|⟨bw,hm⟩
 ·refine bz bw<|A.skip<|A.seq<|A.block ?_
  obtain⟨cr,h1,hm⟩:=aU hm;exact cB [(3,b7 (ix cm h1)),(6,ax (cb az cr.dM))] [5,20] [(5,U (bE (jL+(cr.dM.length:Int))))]<|cB [] [6] [(6,U (bE (cI+1)))]<|ck (bE (jL+(cr.dM.length:Int)),bE (cI+1)) hm
 refine bx bw<|A.exit<|A.seq<|aH [] [0,6,20] [(7,U 0)]<|A.block ?_
 obtain⟨abj,jC,anv,hm⟩:=n1 hm;refine axJ (F:=abj) hm (λ(mx,oE)=>[(1,av cC l),(5,U mx),(7,U oE)]) (λ(mx,oE)=>[]) ?_ ?_
 ·exact fm
 rintro gX ⟨mx,oE⟩ hm;rw[anv]at hm;refine A.seq<|axy [(1,av cC l),(5,U mx),(7,U oE),(38,.bool ((decide (oE<(l.length:Int)))&&(decide (mx<900))))] [] (λhk=>?_) ?_
 ·rcases kF (decide (oE<(l.length:Int)))with cg|cg
  ·exact aO [(2,ax (cb cC l)),(4,ax (b0 cg)),(7,ax (oH (q:=decide (mx<900)) cg))] _ _ hk
  exact aO [(2,ax (cb cC l)),(4,ax (b0 cg)),(7,ax (oI (q:=decide (mx<900)) cg))] _ _ hk
 rcases bL hm with⟨dR,hm⟩|⟨dR,hm⟩
 ·refine bz dR<|A.skip<|A.seq<|A.block ?_
  obtain⟨e6,D,hm⟩:=aU hm;exact cB [(3,b7 (ix cC D)),(6,ax (cb bH e6.Links))] [5,38] [(5,U (bE (mx+(e6.Links.length:Int))))]<|cB [] [7] [(7,U (bE (oE+1)))]<|ck (bE (mx+(e6.Links.length:Int)),bE (oE+1)) hm
 refine bx dR<|A.exit<|aO [] [(4,.d (mx≤400))] [] ?_
 cases hm;exact A.ret bG
end
section
open Go List
set_option maxRecDepth 100000
set_option linter.all false
noncomputable section
def JG(t:cN)(p:bu)(b9:Bk)(gN:Bt)(c2:xe)(e7:cN):ko:=
 jn (λ(eL:Bool)=>bif eL then aB (C3) λ(cu:Bool)=>some cu else aB (F7 t) λ(eg:eo)=>aB (Gs eg (6:Int)) λ(dQ:bu×eo)=>aB (Gx dQ.2 dQ.1 (4:Int)) λ(dF:(Bk)×eo)=>aB (jf ([]:Bk) dF.1) λ(dk:Bk)=>jn (λ(Ez:(Bk))=>cK ([p,dQ.1]:GH) 0 (λ(au:Int) (e1:bu) (b3:(Bk)→Option _) (g8:(Bk))=>cK ([b9,dF.1,g8]:AZ) 0 (λ(bN:Int) (e2:Bk) (gX:Unit→Option _) ()=>ym e1 e2 λ(ho:(Bt)×Int)=>aB (GA e1 e2) λ(BL:Int)=>bif !decide (ho.2=BL)then some false else aB (jf ([]:Bt) ho.1) λ(kL:Bt)=>jn (λ(k3:(Bt))=>aB (nk ho.1 (0:Int) (bE (Int.tdiv (ho.1.length:Int) (2:Int)))) λ(kM:Bt)=>cK ([gN,ho.1,k3,kM]:Em) 0 (λ(dd:Int) (bT:Bt) (jc:Unit→Option _) ()=>aB (vz e1 e2 bT) λ(jV:(xe)×Int)=>aB (GL e1 e2 bT) λ(xR:(xe)×Int)=>jn (λ(iz:Bool)=>bif iz then some false else hU (decide (0≤(bT.length:Int))&&decide ((bT.length:Int)≤4294967296))<|cK ([e7,(List.replicate ((bT.length:Int)).toNat (0:Int))]:fI) 0 (λ(hN:Int) (fG:cN) (mb:Unit→Option _) ()=>aB (Gl bT fG) λ(EA:(xe)×Int)=>aB (GK bT fG) λ(EB:(xe)×Int)=>jn (λ(Hv:Bool)=>bif Hv then some false else mb ()) λHO=>(bif !decide (EA.2=EB.2)then HO true else aB (CK EA.1 EB.1) λ(Ie:Bool)=>HO (!Ie))) (λ(af:Unit)=>match af with|()=>jb (λ(pq:Int→Option _) (hw:Int)=>bif ((decide (hw<(e2.length:Int)))&&(decide (hw<3)))then cK ([c2,jV.1]:Hy) 0 (λ(hO:Int) (g1:xe) (p2:Unit→Option _) ()=>aB (b2 e2 hw) λ(mj:bY)=>aB (F3 e1 g1 mj) λ(EC:Bool×Int)=>aB (C0 e1 g1 mj) λ(ED:Bool×Int)=>aB (wV e1 g1 mj) λ(EE:(cN)×Int)=>aB (Gn e1 g1 mj) λ(EF:(cN)×Int)=>jn (λ(Hw:Bool)=>bif Hw then some false else p2 ()) λBR=>(bif !decide (EC.2=ED.2)then BR true else(bif !decide (EE.2=EF.2)then BR true else(bif !(EC.1==ED.1)then BR true else aB (CM EE.1 EF.1) λ(Ig:Bool)=>BR (!Ig))))) (λ(af:Unit)=>match af with|()=>pq (bE (hw+1))) ()else jc ()) (0:Int)) ()) λk0=>(bif !decide (jV.2=xR.2)then k0 true else aB (CK jV.1 xR.1) λ(tW:Bool)=>(bif !tW then k0 true else aB (Gg e1 e2 bT) λ(Ih:Int)=>aB (Gy e1 e2 bT) λ(Ii:Int)=>k0 (!decide (Ih=Ii))))) (λ(af:Unit)=>match af with|()=>gX ()) ()) λkP=>bif decide (1<(ho.1.length:Int))then aB (b2 ho.1 (1:Int)) λ(ir:bR)=>aB (b2 ho.1 (0:Int)) λ(lR:bR)=>aB (b2 kL (0:Int)) λ(j9:bR)=>aB (oh kL (0:Int) ir) λ(pW:Bt)=>aB (b2 pW (1:Int)) λ(p4:bR)=>aB (oh pW (1:Int) lR) λ(xg:Bt)=>kP xg else kP kL) (λ(af:Unit)=>match af with|()=>b3 g8) ()) (λ(g8:(Bk))=>aB (C3) λ(NN:Bool)=>some NN) Ez) λgv=>bif decide (0<(dk.length:Int))then aB (b2 dk (0:Int)) λ(cr:bY)=>aB (ot dF.2 (dk.length:Int)) λ(gU:Int×eo)=>aB (GM gU.2 cr) λ(mq:bY×eo)=>aB (b2 dk gU.1) λ(e6:bY)=>aB (oh dk gU.1 mq.1) λ(iD:Bk)=>gv iD else gv dk) λdx=>aB (JO p) λ(aJ:Bool)=>(bif !aJ then dx true else aB (GB b9 gN) λ(bq:Bool)=>(bif !bq then dx true else(bif decide (100<(c2.length:Int))then dx true else dx (decide (40<(e7.length:Int))))))
end
end
section
open Go Go.Proofs.Tryz List
set_option maxRecDepth 100000
set_option linter.all false
def aqF{t:cN}{p:bu}{b9:Bk}{gN:Bt}{c2:xe}{e7:cN}{r:Bool}(hm:JG t p b9 gN c2 e7=some r):dn prog 8 [] [av az t,.agg (bV p),av cm b9,av cC gN,av cp c2,av az e7] (.bool r):=by
 refine dE func8 rfl rfl ?_;unfold JG at hm;refine aO [(0,.al 48)] [(0,av az t),(2,av cm b9),(3,av cC gN),(4,av cp c2),(5,av az e7),(7,.ptr 48 0)] [(48,.cells 28 (bV p))]<|A.seq ?_
 obtain⟨dx,iu,hm⟩:=h2 hm;refine A.J (J:=dx) (r:=r) (λeL=>[(0,av az t),(2,av cm b9),(3,av cC gN),(4,av cp c2),(5,av az e7),(7,.ptr 48 0),(65,.bool eL)]) (λeL=>[(48,.cells 28 (bV p))]) ?_ ?_
 ·obtain⟨aJ,h1,hm⟩:=aU hm;rcases bL hm with⟨aN,hm⟩|⟨aN,hm⟩
  ·exact cB [(1,bI (JM h1) IB),(3,ax (b0 aN))] [] [(65,.bool true)]<|ck true hm
  obtain⟨bq,D,hm⟩:=aU hm;rcases bL hm with⟨bw,hm⟩|⟨bw,hm⟩
  ·exact cB [(1,bI (JM h1) IB),(3,ax (b0 aN)),(6,bI (QN D) N7),(9,ax (b0 bw))] [] [(65,.bool true)]<|ck true hm
  rcases bL hm with⟨cg,hm⟩|⟨cg,hm⟩
  ·exact cB [(1,bI (JM h1) IB),(3,ax (b0 aN)),(6,bI (QN D) N7),(9,ax (b0 bw)),(11,ax (cb cp c2)),(14,ax (b0 cg))] [] [(65,.bool true)]<|ck true hm
  exact cB [(1,bI (JM h1) IB),(3,ax (b0 aN)),(6,bI (QN D) N7),(9,ax (b0 bw)),(11,ax (cb cp c2)),(14,ax (b0 cg)),(16,ax (cb az e7))] [] [(65,.d (40<(e7.length:Int)))]<|ck (decide (40<(e7.length:Int))) hm
 rintro eL hm;rw[iu]at hm;rcases bL hm with⟨dR,hm⟩|⟨dR,hm⟩
 ·refine bz dR ?_;obtain⟨cu,aj,hm⟩:=aU hm;refine aO [(0,bI (aaq aj) W4)] [(12,.bool cu)] [] ?_;cases hm;exact A.ret bG
 refine bx dR<|A.skip ?_
 obtain⟨eg,aV,hm⟩:=aU hm;refine c0 [(1,gW [1] (asL aV) amr)] [0,65] [(13,.ptr 1 0)] [] [(1,.cells 103 (hp eg))] ?_;obtain⟨dQ,b4,hm⟩:=aU hm;refine c0 [(1,gW [] (ax9 (r':=.agg (bV dQ.1)) (σ3:=[(1,.cells 103 (hp dQ.2))]) [166] (atG b4) (by kernel_rfl) (by kernel_rfl)) ams),(2,.al 81)] [] [(14,.ptr 81 0)] [1] [(1,.cells 103 (hp dQ.2)),(81,.cells 28 (bV dQ.1))] ?_;obtain⟨dF,dz,hm⟩:=aU hm;refine c0 [(2,gW [] (abA dz) amv)] [] [(15,av cm dF.1)] [1] [(1,.cells 103 (hp dF.2))] ?_;obtain⟨dk,fz,hm⟩:=aU hm;refine c0 [(0,.al 8074),(2,m4 90 (ap cm (bytes:=40) (by decide) fz))] [] [(16,.own 90)] [] [(90,.slice 52 3 (aM cm dk) 0 false)] ?_;obtain⟨gv,k4,hm⟩:=h2 hm;refine A.J (J:=gv) (r:=r) (λEz=>[(2,av cm b9),(3,av cC gN),(4,av cp c2),(5,av az e7),(7,.ptr 48 0),(14,.ptr 81 0),(15,av cm dF.1),(16,.own 114)]) (λEz=>[(48,.cells 28 (bV p)),(81,.cells 28 (bV dQ.1)),(114,.slice 52 3 (aM cm Ez) 0 false)]) ?_ ?_
 ·refine aH [(1,ax (cb cm dk))] [] [(79,.d (0<(dk.length:Int)))] ?_;rcases bL hm with⟨eV,hm⟩|⟨eV,hm⟩
  ·refine bz eV ?_;obtain⟨cr,hv,hm⟩:=aU hm;obtain⟨gU,hc,hm⟩:=aU hm;obtain⟨mq,kC,hm⟩:=aU hm;obtain⟨e6,m0,hm⟩:=aU hm;obtain⟨iD,th,hm⟩:=aU hm;exact hr [(3,ax (cb cm dk)),(4,gW [] (q5 hc) rW),(7,b7 (ix cm hv)),(8,lX 90 0 (ix cm hv)),(9,gW [] (abK kC) amA),(10,b7 (ix cm m0)),(11,tF 90 (fM cm (off:=0) (ca:=(hq mq.1)) m0 th rfl) (v7 m0).1.1)] [13,79] [] [1,90] [(90,.slice 52 3 (aM cm iD) 0 false)]<|Exists.intro iD (And.intro hm (gM [.ja 90 114] []))
  exact bx eV<|A.skip<|Exists.intro dk (And.intro hm (gM [.ja 90 114] []))
 rintro Ez hm;rw[k4]at hm;refine A.seq<|c0 [(3,ax (cb mX ([p,dQ.1]:GH)))] [7,14] [(93,.bf true (aM mX ([p,dQ.1]:GH))),(94,U (([p,dQ.1]:GH).length:Int)),(95,U 0)] [48,81] [] ?_
 refine A.block<|axt 93 rfl λdX=>?_
 obtain⟨eT,eU,eW,eO,hm⟩:=fF hm;refine axq (l:=([p,dQ.1]:GH)) (e3:=0) (B:=eT) (K:=eU) hm (λau=>λg8=>[(2,av cm b9),(3,av cC gN),(4,av cp c2),(5,av az e7),(15,av cm dF.1),(16,av cm g8),(93,.bf true (aM mX ([p,dQ.1]:GH))),(94,U (([p,dQ.1]:GH).length:Int)),(95,U au)]) (λau=>λg8=>[]) ?_ ?_ ?_
 ·exact gM [.dO [114]] [16]
 ·rintro au e1 b3 g8 eX bF hm;rw[eW]at hm;refine aH [] [] [(96,.d ((au:Int)<(([p,dQ.1]:GH).length:Int)))]<|A.seq<|bz (fC bF)<|A.skip<|A.seq<|A.block<|c0 [(0,b7 (ix mX (eM bF))),(2,.al 14)] [96] [(18,.ptr 14 0)] [] [(14,.cells 28 (bV e1))]<|aH [(4,ax (cb (fo cm) ([b9,dF.1,g8]:AZ)))] [] [(102,.bf true (aM (fo cm) ([b9,dF.1,g8]:AZ))),(103,U (([b9,dF.1,g8]:AZ).length:Int)),(104,U 0)]<|A.block<|axt 102 rfl λgr=>?_
  obtain⟨jQ,iH,jZ,j0,hm⟩:=fF hm;refine axq (l:=([b9,dF.1,g8]:AZ)) (e3:=0) (B:=jQ) (K:=iH) hm (λbN=>λ()=>[(2,av cm b9),(3,av cC gN),(4,av cp c2),(5,av az e7),(15,av cm dF.1),(16,av cm g8),(18,.ptr 14 0),(93,.bf true (aM mX ([p,dQ.1]:GH))),(94,U (([p,dQ.1]:GH).length:Int)),(95,U au),(102,.bf true (aM (fo cm) ([b9,dF.1,g8]:AZ))),(103,U (([b9,dF.1,g8]:AZ).length:Int)),(104,U bN)]) (λbN=>λ()=>[(14,.cells 28 (bV e1))]) ?_ ?_ ?_
  ·exact fm
  ·rintro bN e2 gX ⟨⟩ h6 eu hm;rw[jZ]at hm;refine aH [] [] [(105,.d ((bN:Int)<(([b9,dF.1,g8]:AZ).length:Int)))]<|A.seq<|bz (fC eu)<|A.skip<|A.seq<|A.block<|aH [(0,b7 (ix (fo cm) (eM eu)))] [105] [(20,av cm e2)]<|ayL cQ 2 [3,4,5,6,7] [] [] (ZR hm) W1 (by kernel_rfl) (by kernel_rfl) (by kernel_rfl) (by rintro _ _ ⟨rfl,_,_,rfl⟩;exact⟨rfl,rfl⟩) ?_
   rintro _ _ ⟨rfl,ho,hm,rfl⟩
   try dsimp only at hm
   refine⟨[],[(2,av cm b9),(3,av cC gN),(4,av cp c2),(5,av az e7),(15,av cm dF.1),(16,av cm g8),(18,.ptr 14 0),(93,.bf true (aM mX ([p,dQ.1]:GH))),(94,U (([p,dQ.1]:GH).length:Int)),(95,U au),(102,.bf true (aM (fo cm) ([b9,dF.1,g8]:AZ))),(103,U (([b9,dF.1,g8]:AZ).length:Int)),(104,U bN),(20,av cm e2),(21,av cC ho.1),(22,U ho.2)],[(14,.cells 28 (bV e1))],by kernel_rfl,?_⟩;refine A.seq ?_;obtain⟨BL,ry,hm⟩:=aU hm;refine aO [(3,bI (abD ry) amB)] [(2,av cm b9),(3,av cC gN),(4,av cp c2),(5,av az e7),(15,av cm dF.1),(16,av cm g8),(18,.ptr 14 0),(93,.bf true (aM mX ([p,dQ.1]:GH))),(94,U (([p,dQ.1]:GH).length:Int)),(95,U au),(102,.bf true (aM (fo cm) ([b9,dF.1,g8]:AZ))),(103,U (([b9,dF.1,g8]:AZ).length:Int)),(104,U bN),(20,av cm e2),(21,av cC ho.1),(118,.bool (!decide (ho.2=BL)))] [(14,.cells 28 (bV e1))] ?_;rcases bL hm with⟨gY,hm⟩|⟨gY,hm⟩
   ·refine bz gY<|aO [] [(12,.bool false)] [] ?_
    cases hm;exact A.ret bG
   refine bx gY<|A.skip ?_
   obtain⟨kL,uz,hm⟩:=aU hm;refine c0 [(0,.al 8119),(2,m4 91 (ap cC (bytes:=32) (by decide) uz))] [118] [(23,.own 91)] [] [(91,.slice 36 2 (aM cC kL) 0 false)] ?_;obtain⟨kP,pF,hm⟩:=h2 hm;refine A.J (J:=kP) (r:=r) (λk3=>[(2,av cm b9),(3,av cC gN),(4,av cp c2),(5,av az e7),(15,av cm dF.1),(16,av cm g8),(18,.ptr 14 0),(20,av cm e2),(21,av cC ho.1),(23,.own 142),(93,.bf true (aM mX ([p,dQ.1]:GH))),(94,U (([p,dQ.1]:GH).length:Int)),(95,U au),(102,.bf true (aM (fo cm) ([b9,dF.1,g8]:AZ))),(103,U (([b9,dF.1,g8]:AZ).length:Int)),(104,U bN)]) (λk3=>[(14,.cells 28 (bV e1)),(142,.slice 36 2 (aM cC k3) 0 false)]) ?_ ?_
   ·refine aH [(1,ax (cb cC ho.1))] [] [(124,.d (1<(ho.1.length:Int)))] ?_;rcases bL hm with⟨i1,hm⟩|⟨i1,hm⟩
    ·refine bz i1 ?_;obtain⟨ir,uA,hm⟩:=aU hm;obtain⟨lR,uB,hm⟩:=aU hm;obtain⟨j9,ti,hm⟩:=aU hm;obtain⟨pW,Cq,hm⟩:=aU hm;obtain⟨p4,uC,hm⟩:=aU hm;obtain⟨xg,qv,hm⟩:=aU hm;exact hr [(3,b7 (ix cC uA)),(6,b7 (ix cC uB)),(8,b7 (ix cC ti)),(9,tF 91 (fM cC (off:=0) (ca:=(gL ir)) ti Cq rfl) (v7 ti).1.1),(10,b7 (ix cC uC)),(11,tF 91 (fM cC (off:=0) (ca:=(gL lR)) uC qv rfl) (v7 uC).1.1)] [124] [] [91] [(91,.slice 36 2 (aM cC xg) 0 false)]<|Exists.intro xg (And.intro hm (gM [.ja 91 142] []))
    exact bx i1<|A.skip<|Exists.intro kL (And.intro hm (gM [.ja 91 142] []))
   rintro k3 hm;rw[pF]at hm;refine axB (eB:=[(2,av cm b9),(3,av cC gN),(4,av cp c2),(5,av az e7),(15,av cm dF.1),(16,av cm g8),(18,.ptr 14 0),(20,av cm e2),(21,av cC ho.1),(23,av cC k3),(93,.bf true (aM mX ([p,dQ.1]:GH))),(94,U (([p,dQ.1]:GH).length:Int)),(95,U au),(102,.bf true (aM (fo cm) ([b9,dF.1,g8]:AZ))),(103,U (([b9,dF.1,g8]:AZ).length:Int)),(104,U bN)]) (σ2:=[(14,.cells 28 (bV e1))]) (gM [.dO [142]] [23]) ?_;obtain⟨kM,uD,hm⟩:=aU hm;refine aO [(5,ax (cb cC ho.1)),(6,.qr (2:Int) (by decide)),(7,j4 (sl cC uD)),(9,ax (cb (fo cC) ([gN,ho.1,k3,kM]:Em)))] [(2,av cm b9),(3,av cC gN),(4,av cp c2),(5,av az e7),(15,av cm dF.1),(16,av cm g8),(18,.ptr 14 0),(20,av cm e2),(93,.bf true (aM mX ([p,dQ.1]:GH))),(94,U (([p,dQ.1]:GH).length:Int)),(95,U au),(102,.bf true (aM (fo cm) ([b9,dF.1,g8]:AZ))),(103,U (([b9,dF.1,g8]:AZ).length:Int)),(104,U bN),(143,.bf true (aM (fo cC) ([gN,ho.1,k3,kM]:Em))),(144,U (([gN,ho.1,k3,kM]:Em).length:Int)),(145,U 0)] [(14,.cells 28 (bV e1))]<|A.block<|axt 143 rfl λnJ=>?_
   obtain⟨nv,nw,nH,nI,hm⟩:=fF hm;refine axq (l:=([gN,ho.1,k3,kM]:Em)) (e3:=0) (B:=nv) (K:=nw) hm (λdd=>λ()=>[(2,av cm b9),(3,av cC gN),(4,av cp c2),(5,av az e7),(15,av cm dF.1),(16,av cm g8),(18,.ptr 14 0),(20,av cm e2),(93,.bf true (aM mX ([p,dQ.1]:GH))),(94,U (([p,dQ.1]:GH).length:Int)),(95,U au),(102,.bf true (aM (fo cm) ([b9,dF.1,g8]:AZ))),(103,U (([b9,dF.1,g8]:AZ).length:Int)),(104,U bN),(143,.bf true (aM (fo cC) ([gN,ho.1,k3,kM]:Em))),(144,U (([gN,ho.1,k3,kM]:Em).length:Int)),(145,U dd)]) (λdd=>λ()=>[(14,.cells 28 (bV e1))]) ?_ ?_ ?_
   ·exact fm
   ·rintro dd bT jc ⟨⟩ ml h7 hm;rw[nH]at hm;refine aH [] [] [(146,.d ((dd:Int)<(([gN,ho.1,k3,kM]:Em).length:Int)))]<|A.seq<|bz (fC h7)<|A.skip<|A.seq<|A.block<|aH [(0,b7 (ix (fo cC) (eM h7)))] [146] [(25,av cC bT)] ?_
    obtain⟨jV,w1,hm⟩:=aU hm;refine aH [(3,bI (ZZ w1) W2)] [] [(26,av cp jV.1),(27,U jV.2)] ?_;obtain⟨xR,rz,hm⟩:=aU hm;refine aH [(3,bI (abJ rz) amC)] [] [(28,av cp xR.1),(29,U xR.2)]<|A.seq ?_
    obtain⟨k0,sq,hm⟩:=h2 hm;refine A.J (J:=k0) (r:=r) (λiz=>[(2,av cm b9),(3,av cC gN),(4,av cp c2),(5,av az e7),(15,av cm dF.1),(16,av cm g8),(18,.ptr 14 0),(20,av cm e2),(25,av cC bT),(26,av cp jV.1),(93,.bf true (aM mX ([p,dQ.1]:GH))),(94,U (([p,dQ.1]:GH).length:Int)),(95,U au),(102,.bf true (aM (fo cm) ([b9,dF.1,g8]:AZ))),(103,U (([b9,dF.1,g8]:AZ).length:Int)),(104,U bN),(143,.bf true (aM (fo cC) ([gN,ho.1,k3,kM]:Em))),(144,U (([gN,ho.1,k3,kM]:Em).length:Int)),(145,U dd),(182,.bool iz)]) (λiz=>[(14,.cells 28 (bV e1))]) ?_ ?_
    ·rcases bL hm with⟨me,hm⟩|⟨me,hm⟩
     ·exact cB [(3,ax (b0 me))] [27,28,29] [(182,.bool true)]<|ck true hm
     obtain⟨tW,w2,hm⟩:=aU hm;rcases bL hm with⟨qt,hm⟩|⟨qt,hm⟩
     ·exact cB [(3,ax (b0 me)),(6,bI (QI w2) N8),(9,ax (b0 qt))] [27,28,29] [(182,.bool true)]<|ck true hm
     obtain⟨Ih,yp,hm⟩:=aU hm;obtain⟨Ii,Cr,hm⟩:=aU hm;exact cB [(3,ax (b0 me)),(6,bI (QI w2) N8),(9,ax (b0 qt)),(13,bI (asV yp) amz),(17,bI (abC Cr) amy)] [27,28,29] [(182,.bool (!decide (Ih=Ii)))]<|ck (!decide (Ih=Ii)) hm
    rintro iz hm;rw[sq]at hm;rcases bL hm with⟨qs,hm⟩|⟨qs,hm⟩
    ·refine bz qs<|aO [] [(12,.bool false)] [] ?_
     cases hm;exact A.ret bG
    refine bx qs<|A.skip<|A.seq ?_
    obtain⟨Cs,hm⟩:=mD hm;refine aH [(2,ax (cb cC bT)),(3,aoT (a:=U 0) 8186 (0:Int) az.enc (bT.length:Int) Et Im rfl (λI=>by simp[bk]) Cs (by decide)),(5,ax (cb (fo az) ([e7,(List.replicate ((bT.length:Int)).toNat (0:Int))]:fI)))] [182] [(187,.bf true (aM (fo az) ([e7,(List.replicate ((bT.length:Int)).toNat (0:Int))]:fI))),(188,U (([e7,(List.replicate ((bT.length:Int)).toNat (0:Int))]:fI).length:Int)),(189,U 0)]<|A.block<|axt 187 rfl λw5=>?_
    obtain⟨wO,wP,w3,w4,hm⟩:=fF hm;refine axq (l:=([e7,(List.replicate ((bT.length:Int)).toNat (0:Int))]:fI)) (e3:=0) (B:=wO) (K:=wP) hm (λhN=>λ()=>[(2,av cm b9),(3,av cC gN),(4,av cp c2),(5,av az e7),(15,av cm dF.1),(16,av cm g8),(18,.ptr 14 0),(20,av cm e2),(25,av cC bT),(26,av cp jV.1),(93,.bf true (aM mX ([p,dQ.1]:GH))),(94,U (([p,dQ.1]:GH).length:Int)),(95,U au),(102,.bf true (aM (fo cm) ([b9,dF.1,g8]:AZ))),(103,U (([b9,dF.1,g8]:AZ).length:Int)),(104,U bN),(143,.bf true (aM (fo cC) ([gN,ho.1,k3,kM]:Em))),(144,U (([gN,ho.1,k3,kM]:Em).length:Int)),(145,U dd),(187,.bf true (aM (fo az) ([e7,(List.replicate ((bT.length:Int)).toNat (0:Int))]:fI))),(188,U (([e7,(List.replicate ((bT.length:Int)).toNat (0:Int))]:fI).length:Int)),(189,U hN)]) (λhN=>λ()=>[(14,.cells 28 (bV e1))]) ?_ ?_ ?_
    ·exact fm
    ·rintro hN fG mb ⟨⟩ w8 lC hm;rw[w3]at hm;refine aH [] [] [(190,.d ((hN:Int)<(([e7,(List.replicate ((bT.length:Int)).toNat (0:Int))]:fI).length:Int)))]<|A.seq<|bz (fC lC)<|A.skip<|A.seq<|A.block<|aH [(0,b7 (ix (fo az) (eM lC)))] [190] [(31,av az fG)] ?_
     obtain⟨EA,Fh,hm⟩:=aU hm;refine aH [(2,bI (as4 Fh) amx)] [] [(32,av cp EA.1),(33,U EA.2)] ?_;obtain⟨EB,anj,hm⟩:=aU hm;refine aH [(2,bI (abI anj) amD)] [31] [(34,av cp EB.1),(35,U EB.2)] ?_;obtain⟨HO,anB,hm⟩:=h2 hm;refine A.J (J:=HO) (r:=r) (λHv=>[(2,av cm b9),(3,av cC gN),(4,av cp c2),(5,av az e7),(15,av cm dF.1),(16,av cm g8),(18,.ptr 14 0),(20,av cm e2),(25,av cC bT),(26,av cp jV.1),(93,.bf true (aM mX ([p,dQ.1]:GH))),(94,U (([p,dQ.1]:GH).length:Int)),(95,U au),(102,.bf true (aM (fo cm) ([b9,dF.1,g8]:AZ))),(103,U (([b9,dF.1,g8]:AZ).length:Int)),(104,U bN),(143,.bf true (aM (fo cC) ([gN,ho.1,k3,kM]:Em))),(144,U (([gN,ho.1,k3,kM]:Em).length:Int)),(145,U dd),(187,.bf true (aM (fo az) ([e7,(List.replicate ((bT.length:Int)).toNat (0:Int))]:fI))),(188,U (([e7,(List.replicate ((bT.length:Int)).toNat (0:Int))]:fI).length:Int)),(189,U hN),(213,.bool Hv)]) (λHv=>[(14,.cells 28 (bV e1))]) ?_ ?_
     ·rcases bL hm with⟨uq,hm⟩|⟨uq,hm⟩
      ·exact cB [(3,ax (b0 uq))] [32,33,34,35] [(213,.bool true)]<|ck true hm
      obtain⟨Ie,ank,hm⟩:=aU hm;exact cB [(3,ax (b0 uq)),(6,bI (QI ank) N8)] [32,33,34,35] [(213,.bool (!Ie))]<|ck (!Ie) hm
     rintro Hv hm;rw[anB]at hm;rcases bL hm with⟨ur,hm⟩|⟨ur,hm⟩
     ·refine bz ur<|aO [] [(12,.bool false)] [] ?_
      cases hm;exact A.ret bG
     exact bx ur<|A.skip<|cB [(0,ax (fk lC w5))] [189,213] [(189,U ((hN+1:Nat):Int))]<|ck () hm
    rintro hN ⟨⟩ w8 qz hm;rw[w4]at hm;refine aH [] [] [(190,.d ((hN:Int)<(([e7,(List.replicate ((bT.length:Int)).toNat (0:Int))]:fI).length:Int)))]<|A.seq<|bx (fB qz)<|A.exit<|aH [] [25,187,188,189,190] [(36,U 0)]<|A.block ?_
    obtain⟨Eb,ZA,Fj,hm⟩:=n1 hm;refine axJ (F:=Eb) hm (λhw=>[(2,av cm b9),(3,av cC gN),(4,av cp c2),(5,av az e7),(15,av cm dF.1),(16,av cm g8),(18,.ptr 14 0),(20,av cm e2),(26,av cp jV.1),(36,U hw),(93,.bf true (aM mX ([p,dQ.1]:GH))),(94,U (([p,dQ.1]:GH).length:Int)),(95,U au),(102,.bf true (aM (fo cm) ([b9,dF.1,g8]:AZ))),(103,U (([b9,dF.1,g8]:AZ).length:Int)),(104,U bN),(143,.bf true (aM (fo cC) ([gN,ho.1,k3,kM]:Em))),(144,U (([gN,ho.1,k3,kM]:Em).length:Int)),(145,U dd)]) (λhw=>[(14,.cells 28 (bV e1))]) ?_ ?_
    ·exact fm
    rintro pq hw hm;rw[Fj]at hm;refine A.seq<|axy [(2,av cm b9),(3,av cC gN),(4,av cp c2),(5,av az e7),(15,av cm dF.1),(16,av cm g8),(18,.ptr 14 0),(20,av cm e2),(26,av cp jV.1),(36,U hw),(93,.bf true (aM mX ([p,dQ.1]:GH))),(94,U (([p,dQ.1]:GH).length:Int)),(95,U au),(102,.bf true (aM (fo cm) ([b9,dF.1,g8]:AZ))),(103,U (([b9,dF.1,g8]:AZ).length:Int)),(104,U bN),(143,.bf true (aM (fo cC) ([gN,ho.1,k3,kM]:Em))),(144,U (([gN,ho.1,k3,kM]:Em).length:Int)),(145,U dd),(222,.bool ((decide (hw<(e2.length:Int)))&&(decide (hw<3))))] [(14,.cells 28 (bV e1))] (λhk=>?_) ?_
    ·rcases kF (decide (hw<(e2.length:Int)))with sn|sn
     ·exact aO [(2,ax (cb cm e2)),(4,ax (b0 sn)),(7,ax (oH (q:=decide (hw<3)) sn))] _ _ hk
     exact aO [(2,ax (cb cm e2)),(4,ax (b0 sn)),(7,ax (oI (q:=decide (hw<3)) sn))] _ _ hk
    rcases bL hm with⟨wS,hm⟩|⟨wS,hm⟩
    ·refine bz wS<|A.skip<|A.seq<|A.block<|aH [(3,ax (cb (fo cp) ([c2,jV.1]:Hy)))] [222] [(227,.bf true (aM (fo cp) ([c2,jV.1]:Hy))),(228,U (([c2,jV.1]:Hy).length:Int)),(229,U 0)]<|A.block<|axt 227 rfl λFu=>?_
     obtain⟨zO,zR,Ar,As,hm⟩:=fF hm;refine axq (l:=([c2,jV.1]:Hy)) (e3:=0) (B:=zO) (K:=zR) hm (λhO=>λ()=>[(2,av cm b9),(3,av cC gN),(4,av cp c2),(5,av az e7),(15,av cm dF.1),(16,av cm g8),(18,.ptr 14 0),(20,av cm e2),(26,av cp jV.1),(36,U hw),(93,.bf true (aM mX ([p,dQ.1]:GH))),(94,U (([p,dQ.1]:GH).length:Int)),(95,U au),(102,.bf true (aM (fo cm) ([b9,dF.1,g8]:AZ))),(103,U (([b9,dF.1,g8]:AZ).length:Int)),(104,U bN),(143,.bf true (aM (fo cC) ([gN,ho.1,k3,kM]:Em))),(144,U (([gN,ho.1,k3,kM]:Em).length:Int)),(145,U dd),(227,.bf true (aM (fo cp) ([c2,jV.1]:Hy))),(228,U (([c2,jV.1]:Hy).length:Int)),(229,U hO)]) (λhO=>λ()=>[(14,.cells 28 (bV e1))]) ?_ ?_ ?_
     ·exact fm
     ·rintro hO g1 p2 ⟨⟩ AD rJ hm;rw[Ar]at hm;refine aH [] [] [(230,.d ((hO:Int)<(([c2,jV.1]:Hy).length:Int)))]<|A.seq<|bz (fC rJ)<|A.skip<|A.seq<|A.block<|aH [(0,b7 (ix (fo cp) (eM rJ)))] [230] [(38,av cp g1)] ?_
      obtain⟨mj,Jk,hm⟩:=aU hm;obtain⟨EC,anl,hm⟩:=aU hm;refine aH [(4,b7 (ix cm Jk)),(6,bI (asI anl) amE)] [] [(39,.bool EC.1),(40,U EC.2)] ?_;obtain⟨ED,anm,hm⟩:=aU hm;refine aH [(4,b7 (ix cm Jk)),(6,bI (ZT anm) W5)] [] [(41,.bool ED.1),(42,U ED.2)] ?_;obtain⟨EE,ann,hm⟩:=aU hm;refine aH [(4,b7 (ix cm Jk)),(6,bI (ZM ann) W3)] [] [(43,av az EE.1),(44,U EE.2)] ?_;obtain⟨EF,ano,hm⟩:=aU hm;refine aH [(4,b7 (ix cm Jk)),(6,bI (asY ano) amF)] [38] [(45,av az EF.1),(46,U EF.2)] ?_;obtain⟨BR,anC,hm⟩:=h2 hm;refine A.J (J:=BR) (r:=r) (λHw=>[(2,av cm b9),(3,av cC gN),(4,av cp c2),(5,av az e7),(15,av cm dF.1),(16,av cm g8),(18,.ptr 14 0),(20,av cm e2),(26,av cp jV.1),(36,U hw),(93,.bf true (aM mX ([p,dQ.1]:GH))),(94,U (([p,dQ.1]:GH).length:Int)),(95,U au),(102,.bf true (aM (fo cm) ([b9,dF.1,g8]:AZ))),(103,U (([b9,dF.1,g8]:AZ).length:Int)),(104,U bN),(143,.bf true (aM (fo cC) ([gN,ho.1,k3,kM]:Em))),(144,U (([gN,ho.1,k3,kM]:Em).length:Int)),(145,U dd),(227,.bf true (aM (fo cp) ([c2,jV.1]:Hy))),(228,U (([c2,jV.1]:Hy).length:Int)),(229,U hO),(291,.bool Hw)]) (λHw=>[(14,.cells 28 (bV e1))]) ?_ ?_
      ·rcases bL hm with⟨wT,hm⟩|⟨wT,hm⟩
       ·exact cB [(3,ax (b0 wT))] [39,40,41,42,43,44,45,46] [(291,.bool true)]<|ck true hm
       rcases bL hm with⟨I9,hm⟩|⟨I9,hm⟩
       ·exact cB [(3,ax (b0 wT)),(8,ax (b0 I9))] [39,40,41,42,43,44,45,46] [(291,.bool true)]<|ck true hm
       rcases bL hm with⟨OP,hm⟩|⟨OP,hm⟩
       ·exact cB [(3,ax (b0 wT)),(8,ax (b0 I9)),(13,ax (b0 OP))] [39,40,41,42,43,44,45,46] [(291,.bool true)]<|ck true hm
       obtain⟨Ig,anp,hm⟩:=aU hm;exact cB [(3,ax (b0 wT)),(8,ax (b0 I9)),(13,ax (b0 OP)),(16,bI (ZL anp) W6)] [39,40,41,42,43,44,45,46] [(291,.bool (!Ig))]<|ck (!Ig) hm
      rintro Hw hm;rw[anC]at hm;rcases bL hm with⟨OQ,hm⟩|⟨OQ,hm⟩
      ·refine bz OQ<|aO [] [(12,.bool false)] [] ?_
       cases hm;exact A.ret bG
      exact bx OQ<|A.skip<|cB [(0,ax (fk rJ Fu))] [229,291] [(229,U ((hO+1:Nat):Int))]<|ck () hm
     rintro hO ⟨⟩ AD vK hm;rw[As]at hm;exact aH [] [] [(230,.d ((hO:Int)<(([c2,jV.1]:Hy).length:Int)))]<|A.seq<|bx (fB vK)<|A.exit<|cB [] [36,227,228,229,230] [(36,U (bE (hw+1)))]<|ck (bE (hw+1)) hm
    exact bx wS<|A.exit<|cB [(0,ax (fk h7 nJ))] [26,36,145,222] [(145,U ((dd+1:Nat):Int))]<|ck () hm
   rintro dd ⟨⟩ ml jO hm;rw[nI]at hm;exact aH [] [] [(146,.d ((dd:Int)<(([gN,ho.1,k3,kM]:Em).length:Int)))]<|A.seq<|bx (fB jO)<|A.exit<|cB [(0,ax (fk eu gr))] [20,104,143,144,145,146] [(104,U ((bN+1:Nat):Int))]<|ck () hm
  rintro bN ⟨⟩ h6 iR hm;rw[j0]at hm;exact aH [] [] [(105,.d ((bN:Int)<(([b9,dF.1,g8]:AZ).length:Int)))]<|A.seq<|bx (fB iR)<|A.exit<|hr [(0,ax (fk bF dX))] [18,95,102,103,104,105] [(95,U ((au+1:Nat):Int))] [14] []<|Exists.intro g8 (And.intro hm (gM [] [16]))
 rintro au g8 eX er hm;rw[eO]at hm;refine aH [] [] [(96,.d ((au:Int)<(([p,dQ.1]:GH).length:Int)))]<|A.seq<|bx (fB er)<|A.exit ?_
 obtain⟨NN,anq,hm⟩:=aU hm;refine aO [(0,bI (aaq anq) W4)] [(12,.bool NN)] [] ?_;cases hm;exact A.ret bG
end
section
set_option linter.all false
open Go List
section
variable {α β:Type}
def bC(a:α)(k:α→Option β):aB (some a) k=k a:=rfl
def tM{p:Prop}[Decidable p]{x y:α}:(bif decide p then x else y)=if p then x else y:=by
 by_cases h:p<;>simp[h]
def Hs{α σ β:Type}{B:Int→α→(σ→Option β)→σ→Option β}{K:σ→Option β}(f:List α→σ→Option β)(be:∀s,K s=f [] s)
  (ah:∀(j:Int) x r s bM,(∀eF,bM eF=f r eF)→B j x bM s=f (x::r) s):∀(l:List α) (j:Nat) (s:σ),cK l j B K s=f l s
 |[],_,s=>be s
 |x::r,j,s=>ah j x r s _ λeF=>Hs f be ah r (j+1) eF
def Uc{α σ β:Type}{B:Int→α→(σ→Option β)→σ→Option β}{K:σ→Option β}{L:List α}(f:List α→List α→σ→Option β)(be:∀s,K s=f L [] s)
  (ah:∀p x r s bM,p++x::r=L→(∀eF,bM eF=f (p++[x]) r eF)→B (p.length:Int) x bM s=f p (x::r) s):∀(l p:List α) (s:σ),p++l=L→cK l p.length B K s=f p l s
 |[],p,s,h=>by rw[append_nil]at h;subst h;exact be s
 |x::r,p,s,h=>ah p x r s _ h λeF=>by
   have:=Uc (B:=B) (K:=K) f be ah r (p++[x]) eF (by simpa using h);rw[length_append]at this;exact this
def Ok{β:Type}(o:Option β)(Q:β→Prop):Prop:=∃r,o=some r∧Q r
variable {Q:β→Prop}
def Ok.s{r:β}(h:Q r):Ok (some r) Q:=⟨r,rfl,h⟩
def Ok.aB{α β:Type}{o:Option α}{k:α→Option β}{P:α→Prop}{Q:β→Prop}(h:Ok o P)(hk:∀a,P a→Ok (k a) Q):Ok (aB o k) Q:=by
 obtain⟨a,rfl,aI⟩:=h;exact hk a aI
def axw{c:Bool}{x y:Option β}(h1:c=true→Ok x Q)(D:c=false→Ok y Q):Ok (bif c then x else y) Q:=by
 cases c
 ·exact D rfl
 ·exact h1 rfl
def Ok.hU{β:Type}{c:Bool}{k:Option β}{Q:β→Prop}(h:c=true)(hk:Ok k Q):Ok (hU c k) Q:=by subst h;exact hk
variable {σ:Type}
def axK{k:σ→Option β}{t:(σ→Option β)→Option β}(R:σ→Prop)(h1:∀s,R s→Ok (k s) Q)(D:∀J,(∀s,R s→Ok (J s) Q)→Ok (t J) Q):Ok (jn k t) Q:=D k h1
variable {o:Option β}
def Ok.mono{Eg:β→Prop}(h:Ok o Q)(cA:∀r,Q r→Eg r):Ok o Eg:=by
 obtain⟨r,h1,D⟩:=h;exact⟨r,h1,cA r D⟩
variable {B:Int→α→(σ→Option β)→σ→Option β}{K:σ→Option β}
def axR(I:Nat→σ→Prop){L:List α}
  (ah:∀(j:Nat) x s bM,j<L.length→x∈L→I j s→(∀eF,I (j+1) eF→Ok (bM eF) Q)→Ok (B (j:Int) x bM s) Q) (s:σ) (h:I 0 s) (be:∀s,I L.length s→Ok (K s) Q):Ok (Go.Proofs.YtmnbolcmepihlaaGreat.cK L 0 B K s) Q:=by
 have key:∀(l:List α) (j:Nat) (s:σ),(∀x∈l,x∈L)→j+l.length=L.length→I j s→Ok (Go.Proofs.YtmnbolcmepihlaaGreat.cK l j B K s) Q:=by
  intro l;induction l with
  |nil=>intro j s _ aY h;exact be s (by simpa [←aY]using h)
  |cons x r bX=>
   intro j s hm aY h;simp only[length_cons]at aY;exact ah j x s _ (by omega) (hm x (by simp)) h λeF dw=>bX (j+1) eF (λy ak=>hm y (by simp[ak])) (by omega) dw
 exact key L 0 s (λ_ h=>h) (by simp) h
def axP{σ β:Type}{B:Int→(σ→Option β)→σ→Option β}{K:Int→σ→Option β}{Q:β→Prop}(I:Int→σ→Prop)(lo hi:Int)
  (ah:∀(i:Int) s bM,lo≤i→i<hi→I i s→(∀eF,I (i+1) eF→Ok (bM eF) Q)→Ok (B i bM s) Q) (be:∀i s,lo≤i→(lo≤hi→i=hi)→I i s→Ok (K i s) Q):∀(n:Nat) (i:Int) (s:σ),n=(hi-i).toNat→lo≤i→(lo≤hi→i≤hi)→I i s→Ok (l5 n i B K s) Q
 |0,i,s,PL,h1,D,h=>be i s h1 (λct=>by have:=D ct;omega) h
 |n+1,i,s,PL,h1,D,h=>ah i s _ h1 (by omega) h λeF dw=>axP I lo hi ah be n (i+1) eF (by omega) (by omega) (λ_=>by omega) dw
def Ok.iter{σ β:Type}{F:(σ→Option β)→σ→Option β}{Q:β→Prop}(I:σ→Prop)(μ:σ→Nat)
  (ah:∀s bM,I s→(∀eF,I eF→μ eF<μ s→Ok (bM eF) Q)→Ok (F bM s) Q):∀(n:Nat) (s:σ),I s→μ s<n→Ok (iter F n s) Q
 |0,s,_,h=>by omega
 |n+1,s,h,hm=>ah s _ h λeF dw mH=>Ok.iter I μ ah n eF dw (by omega)
def axH{F:(σ→Option β)→σ→Option β}(I:σ→Prop)(μ:σ→Nat){s:σ}(h:I s)(hm:μ s<1099511627776)
  (ah:∀s bM,I s→(∀eF,I eF→μ eF<μ s→Ok (bM eF) Q)→Ok (F bM s) Q):Ok (jb F s) Q:=Ok.iter I μ ah fuel s h hm
def Ok.eq{r:β}(h:Ok o (λx=>x=r)):o=some r:=by obtain⟨x,h1,rfl⟩:=h;exact h1
def UC(p:List α)(x:α)(r:List α):b2 (p++x::r) (p.length:Int)=some x:=by
 unfold b2;rw[if_pos (by omega)];simp
variable {i:Int}{l:List α}
def nF(bA:0≤i)(h:i<l.length):Ok (b2 l i) (λx=>x∈l∧l[i.toNat]?=some x):=by
 unfold b2;rw[if_pos bA]
 have:i.toNat<l.length:=by omega
 exact⟨l[i.toNat],List.getElem?_eq_getElem this,List.getElem_mem this,List.getElem?_eq_getElem this⟩
variable {r:List α}
def oy(h:l.length+r.length≤549755813888):jf l r=some (l++r):=by unfold jf;rw[if_pos (by unfold aT;exact h)]
def HF(h:l.length+r.length≤549755813888):Ok (jf l r) (λm=>m=l++r∧m.length=l.length+r.length):=⟨_,oy h,rfl,by simp⟩
def y7{x:α}(bA:0≤i)(h:i<l.length):Ok (oh l i x) (λm=>m=l.set i.toNat x∧m.length=l.length):=by
 unfold oh;rw[if_pos ⟨bA,h⟩];exact⟨_,rfl,rfl,by simp⟩
def Bu{a b:Int}(h:0≤a∧a≤b∧b≤l.length):Ok (nk l a b) (λm=>m=(l.take b.toNat).drop a.toNat∧(m.length:Int)=b-a):=by
 unfold nk;rw[if_pos h];exact⟨_,rfl,rfl,by simp;omega⟩
def mh(p:α→Bool)(a:Option β)(fq:∀j x bM s,B j x bM s=bif p x then a else bM s)(l:List α)(j:Nat)(s:σ):cK l j B K s=bif l.any p then a else K s:=
 Hs (f:=λl s=>bif l.any p then a else K s) (λs=>rfl) (λj x r s bM fu=>by
  rw[fq,fu,any_cons];cases p x<;>rfl) l j s
end
section
def zu(n:Int):Bool:=decide (1≤n)&&decide (n≤1000)
def jl(t:bu)(r:Int):Bool:=t.cn.any λx=>decide (x.eR=r)
def zH(r:fe):Bool:=decide (r.eR<1)||decide (99<r.eR)
def qU(l:dJ):Bool:=!zu l.ki||!zu l.lJ||decide (l.lS<0)||decide (1000<l.lS)
def mR(a b:dJ):Bool:=decide (a.A<b.A)||(decide (a.A=b.A)&&decide (a.B<b.B))
def kX{α:Type}(p:α→α→Bool):List α→Bool
 |a::b::r=>p a b&&kX p (b::r)
 |_=>true
def Gb(t:bu):Bool:=t.cn.any zH
def vZ(t:bu):Bool:=kX (λa b=>decide (a.eR<b.eR)) t.cn
def Gc(t:bu):Bool:=t.Links.any qU
def Gd(t:bu):Bool:=t.Links.any λl=>!jl t l.A||!jl t l.B
def Ge(t:bu):Bool:=t.Links.any λl=>decide (l.B≤l.A)
def Gf(t:bu):Bool:=kX mR t.Links
def lf(t:bu):Int:=
 bif decide (24<(t.cn.length:Int))||decide (60<(t.Links.length:Int))then 3
 else bif Gb t then 2 else bif vZ t then(bif Gc t then 2 else bif Gd t then 4 else bif Ge t then 8 else bif Gf t then 0 else 25)else 25
def Mt{α σ β:Type}{B:Int→α→(σ→Option β)→σ→Option β}{K:σ→Option β}{L:List α}(p:α→α→Bool)(a:Option β)
  (fq:∀(j:Nat) x y r q s bM,L=q++y::x::r→j=q.length+1→B (j:Int) x bM s=bif p y x then bM s else a):∀(r q:List α) (y:α) (s:σ),L=q++y::r→cK r (q.length+1) B K s=bif kX p (y::r)then K s else a
 |[],q,y,s,h=>rfl
 |x::r,q,y,s,h=>by
  simp only[cK];rw[fq (q.length+1) x y r q s _ h rfl];have:=Mt (B:=B) (K:=K) p a fq r (q++[y]) x s (by simpa using h);simp only[length_append,length_cons,length_nil]at this;rw[this];simp only[kX];cases p y x<;>rfl
variable {α β σ:Type}{L:List α}{B:Int→α→(σ→Option β)→σ→Option β}{K:σ→Option β}
def yQ(p:α→α→Bool)(a:Option β)
  (fq:∀(j:Nat) x y r q s bM,L=q++y::x::r→j=q.length+1→B (j:Int) x bM s=bif p y x then bM s else a) (s:σ):cK (L.drop 1) 1 B K s=bif kX p L then K s else a:=by
 cases L with
 |nil=>rfl
 |cons y r=>exact Mt (B:=B) (K:=K) p a fq r [] y s rfl
def SO(p:α→α→Bool)(a:Option β)(bA:∀x bM s,B ((0:Nat):Int) x bM s=bM s)
  (fq:∀(j:Nat) x y r q s bM,L=q++y::x::r→j=q.length+1→B (j:Int) x bM s=bif p y x then bM s else a) (s:σ):cK L 0 B K s=bif kX p L then K s else a:=by
 cases L with
 |nil=>rfl
 |cons y r=>
  simp only[cK];rw[bA];exact Mt (B:=B) (K:=K) p a fq r [] y s rfl
variable {j:Nat}
def v1{y x:α}{r q:List α}(h:L=q++y::x::r)(aY:j=q.length+1)(fQ:(L.length:Int)≤9223372036854775807):b2 L (bE ((j:Int)-1))=some y:=by
 have aP:q.length+2≤L.length:=by rw[h];simp
 rw[g4 (by omega) (by omega),show(j:Int)-1=(q.length:Int)by omega,h,UC]
def aem(n:Int):GD n=some (zu n):=rfl
def Ug(t:bu)(r:Int):AW t r=some (jl t r):=by
 unfold AW;refine(mh (λx:fe=>decide (x.eR=r)) (some true) ?_ _ _ _).trans ?_
 ·intros;rfl
 ·unfold jl;cases t.cn.any _<;>rfl
def GZ(t:bu):wX t=some (lf t):=by
 unfold wX lf;by_cases eH:(decide (24<(t.cn.length:Int))||decide (60<(t.Links.length:Int)))=true
 ·rw[eH];rfl
 rw[Bool.not_eq_true]at eH;rw[eH];simp only[cond_false];simp only[Bool.or_eq_false_iff,decide_eq_false_iff_not]at eH;refine(mh zH (some 2) ?_ _ _ _).trans ?_
 ·intros;rfl
 unfold Gb;cases t.cn.any zH
 case true=>rfl
 simp only[cond_false];refine(yQ (λa b:fe=>decide (a.eR<b.eR)) (some 25) ?_ _).trans ?_
 ·intro j x y r q s bM h aY;simp only[v1 h aY (by omega),bC,tM];split<;>split<;>first|rfl|omega
 unfold vZ;cases kX _ t.cn
 case false=>rfl
 simp only[cond_true];refine(mh qU (some 2) ?_ _ _ _).trans ?_
 ·intro j x bM s;simp only[jn,aem,bC,qU];cases zu x.ki<;>cases zu x.lJ<;>simp[tM]<;>(try split)<;>(try split)<;>simp_all<;>omega
 unfold Gc;cases t.Links.any qU
 case true=>rfl
 simp only[cond_false];refine(mh (λl=>!jl t l.A||!jl t l.B) (some 4) ?_ _ _ _).trans ?_
 ·intro j x bM s;simp only[jn,Ug,bC];cases jl t x.A<;>cases jl t x.B<;>rfl
 unfold Gd;cases t.Links.any _
 case true=>rfl
 simp only[cond_false];refine(mh (λl=>decide (l.B≤l.A)) (some 8) ?_ _ _ _).trans ?_
 ·intros;rfl
 unfold Ge;cases t.Links.any _
 case true=>rfl
 simp only[cond_false];refine(yQ mR (some 25) ?_ _).trans ?_
 ·intro j x y r q s bM h aY;have e:(decide (x.A<y.A)||(decide (y.A=x.A)&&decide (x.B≤y.B)))=!mR y x:=by
   rw[Bool.eq_iff_iff];simp[mR];omega
  simp only[v1 h aY (by omega),bC];rw[e];cases mR y x<;>rfl
 unfold Gf;cases kX mR t.Links<;>rfl
def LC{α σ:Type}{B:Int→α→(σ→kr)→σ→kr}{K:σ→kr}(p:α→Bool)(fq:∀j x bM s,B j x bM s=bif p x then some j else bM s)(gE:∀s,K s=some (-1)):∀(l:List α) (j:Nat) (s:σ),∃r,cK l j B K s=some r∧decide (0≤r)=l.any p
 |[],j,s=>⟨-1,gE s,rfl⟩
 |x::r,j,s=>by
  simp only[cK,fq,any_cons];cases p x
  ·simpa using LC p fq gE r (j+1) s
  ·exact⟨j,rfl,by simp⟩
def amp(l:HC)(f:fe→ko)(p:fe→Bool)(bc:∀x,f x=some (p x)):E9 l f=some (l.any p):=by
 unfold E9 Ji;obtain⟨r,h1,D⟩:=LC (B:=λ(au:Int) (e1:fe) (b3:Unit→kr) (af:Unit)=>match af with|()=>aB (f e1) λ(aJ:Bool)=>bif aJ then some (au:Int)else b3 ()) (K:=λ(af:Unit)=>match af with|()=>some (-1:Int)) p (λj x bM s=>by simp only[bc,bC]) (λ_=>rfl) l 0 ();simp only[h1,bC,D]
def OS(l:G5)(f:dJ→ko)(p:dJ→Bool)(bc:∀x,f x=some (p x)):z7 l f=some (l.any p):=by
 unfold z7 Jg;obtain⟨r,h1,D⟩:=LC (B:=λ(au:Int) (e1:dJ) (b3:Unit→kr) (af:Unit)=>match af with|()=>aB (f e1) λ(aJ:Bool)=>bif aJ then some (au:Int)else b3 ()) (K:=λ(af:Unit)=>match af with|()=>some (-1:Int)) p (λj x bM s=>by simp only[bc,bC]) (λ_=>rfl) l 0 ();simp only[h1,bC,D]
def iB(x y:Int):Int:=if x<y then -1 else if y<x then 1 else 0
def MQ(x y:Int):pt x y=some (iB x y):=by
 unfold pt wY iB;simp only[bC,decide_true,Bool.not_true,cond_false,tM];split<;>(try split)<;>rfl
variable {x:Int}
def LF{y:Int}:iB x y<0↔x<y:=by unfold iB;split<;>(try split)<;>omega
def sJ{y:Int}:iB x y=0↔x=y:=by unfold iB;split<;>(try split)<;>omega
def rT:cN→Int
 |[]=>0
 |x::r=>if x=0 then rT r else x
def UD(l:cN):tb l=some (rT l):=by
 unfold tb;refine(Hs (f:=λl _=>some (rT l)) ?_ ?_ _ _ _)
 ·intros;rfl
 ·intro j x r s bM fu;simp only[rT,fu];by_cases h:x=0<;>simp[h]
def nm(a b:dJ):Int:=rT [iB a.A b.A,iB a.B b.B]
def aaT(a b:dJ):Cu a b=some (nm a b):=by
 unfold Cu;simp only[MQ,bC,UD];rfl
def TH(r:fe)(id:Int):CS r id=some (iB r.eR id):=by
 unfold CS;simp only[MQ,bC]
variable {a b:dJ}
def LG:nm a b<0↔mR a b=true:=by
 have:nm a b<0↔a.A<b.A∨(a.A=b.A∧a.B<b.B):=by
  simp only[nm,rT];split
  ·rename_i h;rw[sJ]at h;split
   ·rename_i D;rw[sJ]at D;omega
   ·rw[LF];omega
  ·rename_i h;rw[sJ]at h;rw[LF];omega
 rw[this];simp[mR]
def LH:nm a b=0↔a.A=b.A∧a.B=b.B:=by
 simp only[nm,rT];split
 ·rename_i h;rw[sJ]at h;split
  ·rename_i D;rw[sJ]at D;omega
  ·rename_i D;rw[sJ]at D ⊢;omega
 ·rename_i h;rw[sJ]at h ⊢;omega
def qq{α:Type}[Inhabited α](f:α→Int)(l:List α)(i j:Nat):Nat:=
 if h:i<j then if f (el l ((i+j) / 2:Nat))<0 then qq f l ((i+j) / 2+1) j else qq f l i ((i+j) / 2)else i
 termination_by j-i
 decreasing_by all_goals omega
def nz{α:Type}[Inhabited α](f:α→Int)(l:List α):Nat:=qq f l 0 l.length
def q2{α:Type}[Inhabited α](f:α→Int)(l:List α):Bool:=decide (nz f l<l.length)&&decide (f (el l (nz f l))=0)
variable {f:α→Int}{i:Nat}{l:List α}
def UE[Inhabited α](h:i<j)(bc:f (el l ((i+j) / 2:Nat))<0):qq f l i j=qq f l ((i+j) / 2+1) j:=by
 rw[qq,dif_pos h,if_pos bc]
def UF[Inhabited α](h:i<j)(bc:¬f (el l ((i+j) / 2:Nat))<0):qq f l i j=qq f l i ((i+j) / 2):=by
 rw[qq,dif_pos h,if_neg bc]
def MR[Inhabited α](h:j≤i):qq f l i j=i:=by
 rw[qq,dif_neg (by omega)]
def HG[Inhabited α](h:i<l.length):el l i=l[i]:=by
 simp[el,getD_eq_getElem?_getD,h]
def Va[Inhabited α](h:i<l.length):el l i∈l:=by
 rw[HG h];exact List.getElem_mem h
def y8[Inhabited α](h:i<l.length):b2 l (i:Int)=some (el l i):=by
 unfold b2;rw[if_pos (by omega),HG h];simp[h]
def MS(h:i+j≤4611686018427387904):bE (Int.fdiv (IntKind.wrap .u64 (bE ((i:Int)+(j:Int)))) (2 ^ min (1:Int).toNat 64))=(((i+j) / 2:Nat):Int):=by
 have e1:bE ((i:Int)+(j:Int))=((i+j:Nat):Int):=by rw[g4 (by omega) (by omega)];simp
 have e2:IntKind.wrap .u64 ((i+j:Nat):Int)=((i+j:Nat):Int):=aeW (by omega) (by omega);rw[e1,e2];have bT:(2:Int) ^ min (1:Int).toNat 64=2:=rfl;rw[bT,Int.fdiv_eq_ediv_of_nonneg _ (by omega)];rw[g4 (by omega) (by omega)];simp
def MT[Inhabited α]{F:((Int×Int)→Option (Int×Bool))→(Int×Int)→Option (Int×Bool)}(l:List α)(f:α→Int)(aP:l.length≤1000000)
  (mG:∀(i j:Nat) bM,j≤l.length→F bM ((i:Int),(j:Int))=if h:i<j then(if f (el l ((i+j) / 2:Nat))<0 then bM ((((i+j) / 2+1:Nat):Int),(j:Int))else bM ((i:Int),(((i+j) / 2:Nat):Int)))else some ((i:Int),decide (i<l.length)&&decide (f (el l i)=0))) :
  jb F ((0:Int),(l.length:Int))=some ((nz f l:Int),q2 f l):=by
 refine Ok.eq (axH (I:=λs=>∃i j:Nat,s=((i:Int),(j:Int))∧i≤j∧j≤l.length∧qq f l i j=nz f l) (μ:=λs=>(s.2-s.1).toNat) ⟨0,l.length,rfl,by omega,by omega,rfl⟩ ?_ ?_)
 ·show((l.length:Int)-0).toNat<_;omega
 ·rintro s bM ⟨i,j,rfl,h1,D,aj⟩ hz;rw[mG i j bM D];split
  ·rename_i iC;split
   ·rename_i bc;exact hz _ ⟨_,_,rfl,by omega,D,by rw[←aj,UE iC bc]⟩ (by show((j:Int)-_).toNat<((j:Int)-i).toNat;omega)
   ·rename_i bc;exact hz _ ⟨_,_,rfl,by omega,by omega,by rw[←aj,UF iC bc]⟩ (by show((((i+j) / 2:Nat):Int)-i).toNat<((j:Int)-i).toNat;omega)
  ·rename_i iC;have:nz f l=i:=by rw[←aj,MR (by omega)]
   exact⟨_,rfl,by simp only[q2,this]⟩
def XR(l:HC)(x:Int)(c:fe→Int→kr)(f:fe→Int)(aP:l.length≤1000000)(ah:∀r,c r x=some (f r)):Cl l x c=some ((nz f l:Int),q2 f l):=by
 unfold Cl;refine MT l f aP λi j bM aY=>?_;by_cases iC:i<j
 ·rw[dif_pos iC];simp only[MS (i:=i) (j:=j) (by omega),y8 (show(i+j) / 2<l.length by omega),bC,ah,tM];rw[if_pos (by omega),g4 (by omega) (by omega)];rfl
 ·rw[dif_neg iC];simp only[tM];rw[if_neg (by omega)];by_cases hi:i<l.length
  ·rw[if_pos (by omega),y8 hi];simp only[bC,ah];simp[hi]
  ·rw[if_neg (by omega)];simp[hi]
def amm(l:G5)(x:dJ)(c:dJ→dJ→kr)(f:dJ→Int)(aP:l.length≤1000000)(ah:∀r,c r x=some (f r)):E5 l x c=some ((nz f l:Int),q2 f l):=by
 unfold E5;refine MT l f aP λi j bM aY=>?_;by_cases iC:i<j
 ·rw[dif_pos iC];simp only[MS (i:=i) (j:=j) (by omega),y8 (show(i+j) / 2<l.length by omega),bC,ah,tM];rw[if_pos (by omega),g4 (by omega) (by omega)];rfl
 ·rw[dif_neg iC];simp only[tM];rw[if_neg (by omega)];by_cases hi:i<l.length
  ·rw[if_pos (by omega),y8 hi];simp only[bC,ah];simp[hi]
  ·rw[if_neg (by omega)];simp[hi]
def aen[Inhabited α](hm:∀a b:Nat,a≤b→b<l.length→f (el l a)≤f (el l b)):∀(n i j:Nat),j-i≤n→i≤j→j≤l.length→(∀m:Nat,m<i→f (el l m)<0)→(∀m:Nat,j≤m→m<l.length→0≤f (el l m))→
  qq f l i j≤l.length∧(∀m:Nat,m<qq f l i j→f (el l m)<0)∧(∀m:Nat,qq f l i j≤m→m<l.length→0≤f (el l m)):=by
 intro n;induction n with
 |zero=>
  intro i j be iC aY h1 D;rw[MR (by omega)];exact⟨by omega,h1,λm mH=>D m (by omega)⟩
 |succ n bX=>
  intro i j be iC aY h1 D;by_cases h:i<j
  ·by_cases bc:f (el l ((i+j) / 2:Nat))<0
   ·rw[UE h bc];refine bX _ _ (by omega) (by omega) aY (λm mH=>?_) D;have:=hm m ((i+j) / 2) (by omega) (by omega);omega
   ·rw[UF h bc];refine bX _ _ (by omega) (by omega) (by omega) h1 (λm mH FC=>?_);have:=hm ((i+j) / 2) m mH FC;omega
  ·rw[MR (by omega)];exact⟨by omega,h1,λm mH=>D m (by omega)⟩
def aeo[Inhabited α](hm:∀a b:Nat,a≤b→b<l.length→f (el l a)≤f (el l b)):
  nz f l≤l.length∧(∀m:Nat,m<nz f l→f (el l m)<0)∧(∀m:Nat,nz f l≤m→m<l.length→0≤f (el l m)):=
 aen hm l.length 0 l.length (by omega) (by omega) (by omega) (λm h=>by omega) (λm h1 D=>by omega)
def MU[Inhabited α](hm:∀a b:Nat,a≤b→b<l.length→f (el l a)≤f (el l b)):q2 f l=true↔∃x∈l,f x=0:=by
 obtain⟨h1,D,aj⟩:=aeo hm;simp only[q2,Bool.and_eq_true,decide_eq_true_eq];constructor
 ·rintro⟨ay,aG⟩;exact⟨_,Va ay,aG⟩
 ·rintro⟨x,u,bc⟩;obtain⟨m,uP,rfl⟩:=List.getElem_of_mem u;rw[←HG uP]at bc;have hle:nz f l≤m:=by
   by_cases q:m<nz f l
   ·have:=D m q;omega
   ·omega
  have cq:nz f l<l.length:=by omega
  have:=aj _ (Nat.le_refl _) cq;have:=hm _ _ hle uP;exact⟨cq,by omega⟩
def QO[Inhabited α](h:l.Pairwise (λa b=>f a≤f b)):∀a b:Nat,a≤b→b<l.length→f (el l a)≤f (el l b):=by
 intro a b jH Y;rcases Nat.lt_or_eq_of_le jH with jH|rfl
 ·have:=pairwise_iff_getElem.1 h a b (by omega) Y jH
  rwa [HG (by omega),HG Y]
 ·exact Int.le_refl _
def GN{α:Type}{p:α→α→Bool}(bU:∀a b c,p a b=true→p b c=true→p a c=true):∀{l:List α},kX p l=true→l.Pairwise (λa b=>p a b=true)
 |[],_=>Pairwise.nil
 |[x],_=>by simp
 |a::b::r,h=>by
  simp only[kX,Bool.and_eq_true]at h;have bX:=GN bU h.2;rw[pairwise_cons];refine⟨λz hz=>?_,bX⟩;rcases mem_cons.1 hz with rfl|hz
  ·exact h.1
  ·exact bU _ _ _ h.1 ((pairwise_cons.1 bX).1 z hz)
def C7{α:Type}{p:α→α→Bool}:∀{l:List α},l.Pairwise (λa b=>p a b=true)→kX p l=true
 |[],_=>rfl
 |[x],_=>rfl
 |a::b::r,h=>by
  rw[pairwise_cons]at h;simp only[kX,Bool.and_eq_true];exact⟨h.1 b (by simp),C7 h.2⟩
variable {t:bu}
def Vb(h:vZ t=true):t.cn.Pairwise (λa b=>a.eR<b.eR):=by
 have:=GN (p:=λa b:fe=>decide (a.eR<b.eR)) (λa b c h1 D=>by simp at h1 D ⊢;omega) h;exact this.imp (λh=>by simpa using h)
def agY(h:vZ t=true)(id:Int):∀a b:Nat,a≤b→b<t.cn.length→iB (el t.cn a).eR id≤iB (el t.cn b).eR id:=
 QO (f:=λr:fe=>iB r.eR id) ((Vb h).imp (λ{a b} h=>by unfold iB;split<;>(try split)<;>(try split)<;>(try split)<;>omega))
def OG(t:bu)(id:Int):Bool:=!q2 (λr=>iB r.eR id) t.cn
def Uh(h:vZ t=true)(id:Int):OG t id=!jl t id:=by
 simp only[OG,jl];congr 1;rw[Bool.eq_iff_iff,MU (agY h id)];simp[sJ]
def K9(t:bu):Aj t=some (lf t):=by
 unfold Aj lf;by_cases eH:(decide (24<(t.cn.length:Int))||decide (60<(t.Links.length:Int)))=true
 ·rw[eH];rfl
 rw[Bool.not_eq_true]at eH;rw[eH];simp only[cond_false];simp only[Bool.or_eq_false_iff,decide_eq_false_iff_not]at eH;rw[amp t.cn _ zH (λx=>by simp only[J1,yI,bC,zH];congr 1;rw[Bool.eq_iff_iff];simp)];simp only[bC];unfold Gb;cases t.cn.any zH
 case true=>rfl
 simp only[cond_false];refine(SO (λa b:fe=>decide (a.eR<b.eR)) (some 25) ?_ ?_ _).trans ?_
 ·intros;rfl
 ·intro j x y r q s bM h aY;simp only[jn,v1 h aY (by omega),bC,tM];rw[if_pos (by omega)];split<;>split<;>first|rfl|omega
 cases fq:vZ t
 case false=>unfold vZ at fq;rw[fq];rfl
 have Fi:=fq;unfold vZ at Fi;rw[Fi];simp only[cond_true]
 rw[OS t.Links F9 qU (λx=>by
  simp only[F9,yI,bC,qU,zu];simp only[tM,Bool.not_and,Bool.cond_eq_ite,Bool.or_eq_true,Bool.not_eq_true',decide_eq_false_iff_not];split
  ·congr 1;symm;rw[Bool.eq_iff_iff];simp;omega
  ·split
   ·congr 1;symm;rw[Bool.eq_iff_iff];simp;omega
   ·congr 1;rw[Bool.eq_iff_iff];simp;omega)]
 simp only[bC];unfold Gc;cases t.Links.any qU
 case true=>rfl
 simp only[cond_false]
 have cF:∀id,CL id t=some (!jl t id):=λid=>by
  unfold CL;rw[XR t.cn id _ (λr=>iB r.eR id) (by omega) (λr=>TH r id)];simp only[bC];rw[←Uh fq];rfl
 rw[OS t.Links _ (λl=>!jl t l.A||!jl t l.B) (λx=>by
  simp only[J3,cF,bC];cases jl t x.A<;>rfl)]
 simp only[bC];unfold Gd;cases t.Links.any _
 case true=>rfl
 simp only[cond_false];rw[OS t.Links J4 (λl=>decide (l.B≤l.A)) (λx=>rfl)];simp only[bC];unfold Ge;cases t.Links.any _
 case true=>rfl
 simp only[cond_false];refine(SO mR (some 25) ?_ ?_ _).trans ?_
 ·intros;rfl
 ·intro j x y r q s bM h aY;simp only[jn,v1 h aY (by omega),bC,aaT,tM];rw[if_pos (by omega)];cases cq:mR y x
  ·have:¬nm y x<0:=by rw[LG,cq];simp
   rw[if_pos (by omega)];rfl
  ·have:=LG.2 cq;rw[if_neg (by omega)];rfl
 unfold Gf;cases kX mR t.Links<;>rfl
end
section
variable {α:Type}{l:List α}
def agZ[DecidableEq α]{v:α}:l.any (λx=>decide (x=v))=decide (v∈l):=by
 rw[Bool.eq_iff_iff];simp
def agc(l:cN)(n:Int):Fc l n=some (decide (n∈l)):=by
 unfold Fc JE;obtain⟨r,h1,D⟩:=LC (B:=λ(au:Int) (e1:Int) (b3:Unit→kr) (af:Unit)=>match af with|()=>bif decide (n=e1)then some (au:Int)else b3 ()) (K:=λ(af:Unit)=>match af with|()=>some (-1:Int)) (λx=>decide (n=x)) (λj x bM s=>rfl) (λ_=>rfl) l 0 ();simp only[h1,bC,D];congr 1;rw[Bool.eq_iff_iff];simp
def ru(a b:aQ):dj a b=true↔a=b:=by
 cases a;cases b;simp[dj]
def RQ{α mz β:Type}{B:Int→α→(List mz→Option β)→List mz→Option β}{K:List mz→Option β}(p:α→Bool)(f:α→mz):
  ∀(l:List α) (j:Nat) (s:List mz),(∀(j:Nat) x bM s,x∈l→s.length<1000000→B j x bM s=bif p x then bM (s++[f x])else bM s)→l.length+s.length≤1000000→cK l j B K s=K (s++(l.filter p).map f)
 |[],j,s,_,_=>by simp[cK]
 |x::r,j,s,fq,h=>by
  simp only[length_cons]at h;simp only[cK];rw[fq j x _ s (by simp) (by omega)];have Fi:∀(j:Nat) y bM s,y∈r→s.length<1000000→B j y bM s=bif p y then bM (s++[f y])else bM s:=λj y bM s ak=>fq j y bM s (by simp[ak])
  cases aK:p x
  ·rw[cond_false,RQ p f r (j+1) s Fi (by omega),filter_cons_of_neg (by simp[aK])]
  ·rw[cond_true,RQ p f r (j+1) (s++[f x]) Fi (by simp;omega),filter_cons_of_pos aK];simp
def aio{s:List α}{x:α}(h:s.length<1000000):jf s [x]=some (s++[x]):=oy (by simp;omega)
def KY{a b:cN}(aI:a.Pairwise (·<·))(Y:b.Pairwise (·<·))(h:∀x,x∈a↔x∈b):a=b:=by
 induction a generalizing b with
 |nil=>
  cases b with
  |nil=>rfl
  |cons y b=>exact absurd ((h y).2 (by simp)) (by simp)
 |cons x a bX=>
  cases b with
  |nil=>exact absurd ((h x).1 (by simp)) (by simp)
  |cons y b=>
   rw[pairwise_cons]at aI Y;have n5:x=y:=by
    have h1:=(h x).1 (by simp);have D:=(h y).2 (by simp);rw[mem_cons]at h1 D;rcases h1 with h1|h1
    ·exact h1
    ·rcases D with D|D
     ·exact D.symm
     ·have:=Y.1 _ h1;have:=aI.1 _ D;omega
   subst n5;congr 1;refine bX aI.2 Y.2 λz=>?_;have:=h z;simp only[mem_cons]at this;constructor
   ·intro hz;rcases this.1 (.inr hz)with q|q
    ·subst q;have:=aI.1 _ hz;omega
    ·exact q
   ·intro hz;rcases this.2 (.inr hz)with q|q
    ·subst q;have:=Y.1 _ hz;omega
    ·exact q
def TI{l:cN}(h:l.Nodup):(mL l).Pairwise (·<·):=by
 have h1:=Rk l;have D:(mL l).Nodup:=(GQ l).nodup_iff.2 h;have:=h1.and D;exact this.imp (λ⟨a,b⟩=>by omega)
def RR{l:cN}{x:Int}:x∈mL l↔x∈l:=(GQ l).mem_iff
structure iq(t:bu):Prop where
 A6:t.cn.length≤24
 nl:t.Links.length≤60
 CN:∀r∈t.cn,1≤r.eR∧r.eR≤99
 mB:t.cn.Pairwise (λa b=>a.eR<b.eR)
 Kj:∀l∈t.Links,qU l=false
 ends:∀l∈t.Links,jl t l.A=true∧jl t l.B=true
 lt:∀l∈t.Links,l.A<l.B
 ER:t.Links.Pairwise (λa b=>mR a b=true)
def adx(a b c:dJ)(h1:mR a b=true)(D:mR b c=true):mR a c=true:=by
 simp[mR]at *;omega
def lE{p:α→Bool}:l.any p=false↔∀x∈l,p x=false:=by
 rw[List.any_eq_false];simp
variable {t:bu}
def qH:lf t=0↔iq t:=by
 unfold lf;constructor
 ·intro h;by_cases h1:(decide (24<(t.cn.length:Int))||decide (60<(t.Links.length:Int)))=true
  ·rw[h1]at h;cases h
  simp only[Bool.not_eq_true]at h1;rw[h1,cond_false]at h;cases D:Gb t<;>rw[D]at h<;>first|cases h;done|skip
  cases aj:vZ t<;>rw[aj]at h<;>first|cases h;done|skip
  cases aV:Gc t<;>rw[aV]at h<;>first|cases h;done|skip
  cases b4:Gd t<;>rw[b4]at h<;>first|cases h;done|skip
  cases dz:Ge t<;>rw[dz]at h<;>first|cases h;done|skip
  cases fz:Gf t<;>rw[fz]at h<;>first|cases h;done|skip
  simp only[Bool.or_eq_false_iff,decide_eq_false_iff_not]at h1;refine⟨by omega,by omega,λr aC=>?_,Vb aj,lE.1 aV,λl aP=>?_,λl aP=>?_,GN adx fz⟩
  ·have:=lE.1 D r aC;simp[zH]at this;omega
  ·have:=lE.1 b4 l aP;simpa using this
  ·have:=lE.1 dz l aP;simpa using this
 ·intro h;have h1:(decide (24<(t.cn.length:Int))||decide (60<(t.Links.length:Int)))=false:=by
   have:=h.A6;have:=h.nl;simp;omega
  have D:Gb t=false:=lE.2 λr aC=>by have:=h.CN r aC;simp[zH];omega
  have aj:vZ t=true:=C7 (h.mB.imp λh=>by simpa using h);have aV:Gc t=false:=lE.2 h.Kj;have b4:Gd t=false:=lE.2 λl aP=>by have:=h.ends l aP;simp[this]
  have dz:Ge t=false:=lE.2 λl aP=>by have:=h.lt l aP;simp;omega
  have fz:Gf t=true:=C7 h.ER;rw[h1,D,aj,aV,b4,dz,fz];rfl
def SP(t:bu):CX t=some (decide (lf t=0)):=by
 unfold CX;rw[K9];rfl
variable {r:Int}
def Hj:jl t r=true↔∃x∈t.cn,x.eR=r:=by simp[jl]
def MV(t:bu)(r:Int):AX t r=some (decide (lf t=0)&&jl t r):=by
 unfold AX;simp only[GZ,Ug,bC];cases decide (lf t=0)<;>rfl
def NA(t:bu)(r:Int):fe×Bool:=if q2 (λx:fe=>iB x.eR r) t.cn then(el t.cn (nz (λx:fe=>iB x.eR r) t.cn),true)else(fe.mk 0 false,false)
def aep(t:bu)(r:Int)(aP:t.cn.length≤1000000):Gh t r=some (NA t r):=by
 unfold Gh NA;rw[XR t.cn r _ (λx=>iB x.eR r) aP (λx=>TH x r)];simp only[bC];cases h:q2 (λx:fe=>iB x.eR r) t.cn
 ·rfl
 ·have D:nz (λx:fe=>iB x.eR r) t.cn<t.cn.length:=by
   simp only[q2,Bool.and_eq_true,decide_eq_true_eq]at h;exact h.1
  simp only[Bool.not_true,cond_false,y8 D,bC,if_true]
def agd(h:iq t)(r:Int):q2 (λx:fe=>iB x.eR r) t.cn=jl t r:=by
 have:=Uh (t:=t) (C7 (h.mB.imp λh=>by simpa using h)) r;simpa [OG]using this
def MW(t:bu)(r:Int)(aP:t.cn.length≤1000000):CU t r=some (decide (lf t=0)&&jl t r):=by
 unfold CU;simp only[aep t r aP,SP,bC];by_cases h:lf t=0
 ·simp only[h,decide_true,cond_true,Bool.true_and,NA,agd (qH.1 h)];cases jl t r<;>rfl
 ·simp[h]
def ady{σ β:Type}{B:Int→α→(σ→Option β)→σ→Option β}{K:σ→Option β}(p:α→Bool)(g:α→Option β)(fq:∀j x bM s,B j x bM s=bif p x then g x else bM s)(l:List α)(j:Nat)(s:σ):
  cK l j B K s=match l.find? p with|some x=>g x|none=>K s:=
 Hs (f:=λl s=>match l.find? p with|some x=>g x|none=>K s) (λs=>rfl) (λj x r s bM fu=>by
  rw[fq,fu,find?_cons];cases p x<;>rfl) l j s
def aiP(h:iq t){a b:dJ}(aI:a∈t.Links)(Y:b∈t.Links)(dZ:a.A=b.A)(fq:a.B=b.B):a=b:=by
 obtain⟨i,hi,rfl⟩:=List.getElem_of_mem aI;obtain⟨j,aY,rfl⟩:=List.getElem_of_mem Y;have:=pairwise_iff_getElem.1 h.ER;rcases Nat.lt_trichotomy i j with q|q|q
 ·have:=this i j hi aY q;simp[mR]at this;omega
 ·subst q;rfl
 ·have:=this j i aY hi q;simp[mR]at this;omega
def qF(l:dJ)(a b:Int):Bool:=(decide (l.A=a)&&decide (l.B=b))||(decide (l.B=a)&&decide (l.A=b))
def Bn(a b:Int)(l:dJ):Int×Bool:=(bif decide (l.A=a)&&decide (l.B=b)then l.ki else l.lJ,true)
def nG(t:bu)(a b:Int):Int×Bool:=match t.Links.find? (λl=>qF l a b)with|some l=>Bn a b l|none=>(0,false)
def OH(t:bu)(a b:Int):Bool:=t.Links.any λl=>qF l a b
def adz(t:bu)(a b:Int):GF t a b=some (nG t a b):=by
 unfold GF nG;refine(ady (λl:dJ=>qF l a b) (λl=>some (Bn a b l)) (λj x bM s=>?_) _ _ _).trans ?_
 ·unfold qF Bn;cases decide (x.A=a)&&decide (x.B=b)<;>cases decide (x.B=a)&&decide (x.A=b)<;>rfl
 ·cases t.Links.find? _<;>rfl
def adA(t:bu)(a b:Int):(nG t a b).2=OH t a b:=by
 unfold nG OH;cases bc:t.Links.find? (λl=>qF l a b)with
 |none=>symm;exact lE.2 λx u=>by simpa using List.find?_eq_none.1 bc x u
 |some x=>
  symm;exact List.any_eq_true.2 ⟨x,List.mem_of_find?_eq_some bc,by simpa using List.find?_some bc⟩
def TJ(t:bu)(a b:Int):C9 t a b=some (if lf t=0 then nG t a b else(0,false)):=by
 unfold C9;simp only[GZ,adz,bC];by_cases h:lf t=0<;>simp[h]
def Mu(h:iq t){a b:Int}{l:dJ}(hm:l∈t.Links)(he:qF l a b=true):nG t a b=Bn a b l:=by
 unfold nG;cases bc:t.Links.find? (λl=>qF l a b)with
 |none=>exact absurd he (List.find?_eq_none.1 bc l hm)
 |some x=>
  have u:=List.mem_of_find?_eq_some bc;have aK:=List.find?_some bc;have h1:=h.lt _ hm;have D:=h.lt _ u;simp[qF]at he aK;rw[aiP h u hm (by omega) (by omega)]
def age(h:iq t)(v:dJ):∀a b:Nat,a≤b→b<t.Links.length→nm (el t.Links a) v≤nm (el t.Links b) v:=by
 refine QO (f:=λl:dJ=>nm l v) (h.ER.imp λ{a b} jH=>?_)
 have cg:∀x y:Int,iB x y = -1∨iB x y=0∨iB x y=1:=λx y=>by
  unfold iB;split
  ·exact .inl rfl
  ·split
   ·exact .inr (.inr rfl)
   ·exact .inr (.inl rfl)
 have:∀x y:dJ,nm x y = -1∨nm x y=0∨nm x y=1:=λx y=>by
  have ay:=cg x.A y.A;have aG:=cg x.B y.B;simp only[nm,rT];generalize iB x.A y.A=p at *;generalize iB x.B y.B=q at *;by_cases h1:p=0
  ·by_cases D:q=0<;>simp[h1,D];omega
  ·simp[h1];omega
 have h1:=@LG a v;have D:=@LG b v;have aj:=@LH a v;have aV:=@LH b v;have ay:=this a v;have aG:=this b v;simp[mR]at jH h1 D;omega
def TK(t:bu)(a b:Int)(aP:t.Links.length≤1000000):CT t a b=some (if lf t=0 then nG t a b else(0,false)):=by
 unfold CT;simp only[SP,bC];by_cases h:lf t=0
 ·have ai:=qH.1 h;simp only[h,decide_true,Bool.not_true,cond_false,if_true];generalize tG:dJ.mk (if b<a then b else a) (if b>a then b else a) 0 0 0=v;rw[amm t.Links v _ (λx=>nm x v) aP (λx=>aaT x v)];simp only[bC];have dZ:v.A=if b<a then b else a:=by rw[←tG]
  have fq:v.B=if b>a then b else a:=by rw[←tG]
  cases aR:q2 (λx:dJ=>nm x v) t.Links
  ·simp only[Bool.not_false,cond_true];congr 1;unfold nG;cases bc:t.Links.find? (λl=>qF l a b)with
   |none=>rfl
   |some x=>
    exfalso;have u:=List.mem_of_find?_eq_some bc;have aK:=List.find?_some bc;have D:=h
    have:=(MU (f:=λx:dJ=>nm x v) (age ai v)).2 ⟨x,u,by
     rw[LH,dZ,fq];have:=ai.lt _ u;simp[qF]at aK;split<;>split<;>omega⟩
    rw[aR]at this;cases this
  ·simp only[q2,Bool.and_eq_true,decide_eq_true_eq]at aR;obtain⟨ay,aG⟩:=aR;rw[LH,dZ,fq]at aG;have hm:=Va ay;simp only[Bool.not_true,cond_false,y8 ay,bC];have cq:=ai.lt _ hm
   have e:qF (el t.Links (nz (λx:dJ=>nm x v) t.Links)) a b=true:=by
    simp[qF];by_cases a1:b<a<;>by_cases aW:b>a<;>simp only[a1,aW,if_true,if_false]at aG<;>omega
   rw[Mu ai hm e];unfold Bn;by_cases jH:a<b
   ·have:decide (a<b)=true:=by simpa using jH
    rw[this,cond_true]
    have:(decide ((el t.Links (nz (λx:dJ=>nm x v) t.Links)).A=a)&&decide ((el t.Links (nz (λx:dJ=>nm x v) t.Links)).B=b))=true:=by
     simp;by_cases a1:b<a<;>by_cases aW:b>a<;>simp only[a1,aW,if_true,if_false]at aG<;>omega
    rw[this];rfl
   ·have:decide (a<b)=false:=by simpa using jH
    rw[this,cond_false]
    have:(decide ((el t.Links (nz (λx:dJ=>nm x v) t.Links)).A=a)&&decide ((el t.Links (nz (λx:dJ=>nm x v) t.Links)).B=b))=false:=by
     simp;by_cases a1:b<a<;>by_cases aW:b>a<;>simp only[a1,aW,if_true,if_false]at aG<;>omega
    rw[this];rfl
 ·simp[h]
def ids(t:bu):cN:=t.cn.map (·.eR)
def aiQ(h:iq t):(ids t).Pairwise (·<·):=pairwise_map.2 h.mB
def pP:r∈ids t↔jl t r=true:=by rw[Hj];simp[ids]
end
section
def axF{α σ β:Type}{B:Int→α→(σ→Option β)→σ→Option β}{K:σ→Option β}{Q:β→Prop}(I:List α→σ→Prop){L:List α}
  (ah:∀(p:List α) x r s bM,L=p++x::r→I p s→(∀eF,I (p++[x]) eF→Ok (bM eF) Q)→Ok (B (p.length:Int) x bM s) Q) (s:σ) (h:I [] s) (be:∀s,I L s→Ok (K s) Q):Ok (Go.Proofs.YtmnbolcmepihlaaGreat.cK L 0 B K s) Q:=by
 have key:∀(l p:List α) (s:σ),L=p++l→I p s→Ok (Go.Proofs.YtmnbolcmepihlaaGreat.cK l p.length B K s) Q:=by
  intro l;induction l with
  |nil=>intro p s aY h;exact be s (by rw[aY,append_nil];exact h)
  |cons x r bX=>
   intro p s aY h;refine ah p x r s _ aY h λeF dw=>?_;have:=bX (p++[x]) eF (by simp[aY]) dw
   rwa [length_append]at this
 exact key L [] s rfl h
def SQ{a b:cN}(h:a.Nodup)(Z:∀x∈a,x∈b):a.length≤b.length:=by
 induction a generalizing b with
 |nil=>simp
 |cons x a bX=>
  rw[nodup_cons]at h;have u:=Z x (by simp);have:=bX (b:=b.erase x) h.2 λy ak=>(List.mem_erase_of_ne (λe=>h.1 (by rw[←e];exact ak))).2 (Z y (by simp[ak]));rw[length_erase_of_mem u]at this;have:=length_pos_of_mem u;simp only[length_cons];omega
end
section
def TL{α:Type}(l:List (Int×α))(n m:Int)(b:α):cH (eG l n b) m=if m=n then some b else cH l m:=by
 induction l with
 |nil=>
  simp only[eG,cH,List.find?];by_cases h:n=m
  ·simp[h]
  ·simp[h,Ne.symm h]
 |cons p r bX=>
  simp only[eG];by_cases h1:p.1=n
  ·rw[if_pos h1];simp only[cH,List.find?]at bX ⊢;by_cases D:n=m
   ·simp[D]
   ·have:p.1≠m:=by omega
    simp[D,this,Ne.symm D]
  ·rw[if_neg h1];simp only[cH,List.find?]at bX ⊢;by_cases D:p.1=m
   ·have:m≠n:=by omega
    simp[D,this]
   ·simp[D];exact bX
end
end
section
set_option linter.all false
open Go List
section
def kp(t:eo):Prop:=0≤t.At∧t.At≤t.L.length∧t.L.length≤2000
def Vc(n:Int):bE n≤9223372036854775807∧-9223372036854775808≤bE n:=by
 unfold bE;rw[IntKind.wrap_i64];omega
def ak4(l:cN):Ok (F7 l) kp:=by
 unfold F7;refine Ok.aB (Bu ⟨by omega,?_,?_⟩) λm hm=>Ok.s ⟨by simp,by simp,?_⟩
 ·split<;>omega
 ·split<;>omega
 ·have:=hm.2;simp only;split at this<;>omega
variable {t:eo}
def ak5(h:kp t):Ok (Ff t) (λp=>kp p.2):=by
 obtain⟨bA,h1,D⟩:=h;unfold Ff;refine axw (λ_=>Ok.s ⟨bA,h1,D⟩) λah=>?_;simp at ah;have e:bE (t.At+1)=t.At+1:=g4 (by omega) (by omega);rw[e,g4 (by omega) (by omega)];refine Ok.aB (nF (by omega) (by omega)) λa _=>Ok.s ⟨?_,?_,D⟩<;>show _<;>simp<;>omega
def ak6{x n:Int}(be:n≤9223372036854775807):Ok (F8 x n) (λr=>0≤r∧(1≤n→r<n)∧(n<1→r=0)):=by
 unfold F8;refine axw (λh=>Ok.s ?_) λh=>?_
 ·simp at h;omega
 have h:1≤n:=by simpa using h
 have h1:Int.tmod x n<n:=Int.tmod_lt_of_pos _ (by omega);have D : -n<Int.tmod x n:=Int.lt_tmod_of_pos _ (by omega);refine Ok.hU (by simp;omega) ?_;refine axK (λr=>0≤r∧r<n) (λs Z=>Ok.s ⟨Z.1,λ_=>Z.2,by omega⟩) λJ iW=>?_;refine axw (λah=>iW _ ?_) λah=>iW _ ?_
 ·simp at ah;rw[g4 (by omega) (by omega)];omega
 ·simp at ah;omega
def sp{n:Int}(h:kp t)(be:n≤9223372036854775807):Ok (ot t n) (λp=>(0≤p.1∧(1≤n→p.1<n)∧(n<1→p.1=0))∧kp p.2):=by
 unfold ot;exact Ok.aB (ak5 h) λp aK=>Ok.aB (ak6 be) λr aC=>Ok.s ⟨aC,aK⟩
def MX{low high:Int}(h:kp t):Ok (Ad t low high) (λp=>(-2305843009213693952≤low→low≤high→high<2305843009213693952→low≤p.1∧p.1≤high)∧kp p.2):=by
 unfold Ad;refine Ok.aB (sp h (Vc _).1) λp aK=>Ok.s ⟨λh1 D aj=>?_,aK.2⟩;obtain⟨⟨ay,aG,_⟩,_⟩:=aK;rw[g4 (n:=high-low) (by omega) (by omega),g4 (n:=high-low+1) (by omega) (by omega)]at aG;show low≤bE (low+p.1)∧bE (low+p.1)≤high;rw[g4 (by omega) (by omega)];omega
def y9{l:cN}(h:kp t)(bA:1≤l.length)(h1:l.length≤1000000):Ok (s9 t l) (λp=>p.1∈l∧kp p.2):=by
 unfold s9;refine Ok.aB (sp h (by omega)) λp aK=>?_;exact Ok.aB (nF aK.1.1 (aK.1.2.1 (by omega))) λa aI=>Ok.s ⟨aI.1,aK.2⟩
def Cg(l:cN)(n:Int):q7 l n=some (decide (n∈l)):=by
 unfold q7;rw[mh (λx=>decide (x=n)) (some true) (λj x bM s=>rfl) l 0 (),agZ];by_cases h:n∈l<;>simp[h]
def Vd(a b:cN):CM a b=some (decide (a=b)):=by
 unfold CM;by_cases aP:a.length=b.length
 ·rw[show(!decide ((a.length:Int)=(b.length:Int)))=false by simp[aP],cond_false]
  have key:=Uc (L:=a) (f:=λp l (_:Unit)=>some (decide (l=b.drop p.length))) (K:=λaf:Unit=>match af with|()=>some true) (B:=λ(au:Int) (e1:Int) (b3:Unit→Option _) (af:Unit)=>match af with|()=>aB (b2 b (au:Int)) λ(cr:Int)=>bif !decide (e1=cr)then some false else b3 ())
   (λs=>by rw[drop_of_length_le (by omega)];rfl) (λp x r s bM aK fu=>by
    have cq:p.length<b.length:=by rw[←aP,←aK];simp
    simp only[b2,if_pos (Int.natCast_nonneg _),Int.toNat_natCast,List.getElem?_eq_getElem cq,bC];rw[drop_eq_getElem_cons cq];by_cases u:x=b[p.length]
    ·simp only[u,decide_true,Bool.not_true,cond_false,fu,length_append,length_singleton,List.cons.injEq,true_and]
    ·rw[decide_eq_false u,Bool.not_false,cond_true,decide_eq_false (λh=>u (List.cons.inj h).1)]) a [] () rfl
  simpa using key
 ·rw[show(!decide ((a.length:Int)=(b.length:Int)))=true by simp;omega,cond_true];rw[decide_eq_false (λh=>aP (by rw[h]))]
def np:cN→Int→cN
 |[],x=>[x]
 |y::r,x=>if y<x then y::np r x else if y=x then y::r else x::y::r
def yW:∀{l:cN} {x y:Int},y∈np l x↔y=x∨y∈l
 |[],x,y=>by simp[np]
 |z::r,x,y=>by
  rw[np];split
  ·rw[mem_cons,yW,mem_cons];constructor
   ·rintro(h|h|h)<;>simp[h]
   ·rintro(h|h|h)<;>simp[h]
  ·split
   ·rename_i h;subst h;simp
   ·simp
def LI:∀{l:cN} {x:Int},l.Pairwise (·<·)→(np l x).Pairwise (·<·)
 |[],x,_=>by simp[np]
 |z::r,x,h=>by
  rw[np];rw[pairwise_cons]at h;split
  ·rw[pairwise_cons];refine⟨λy ak=>?_,LI h.2⟩;rcases yW.1 ak with rfl|ak
   ·assumption
   ·exact h.1 y ak
  ·split
   ·exact pairwise_cons.2 h
   ·rw[pairwise_cons];refine⟨λy ak=>?_,pairwise_cons.2 h⟩;rcases mem_cons.1 ak with rfl|ak
    ·omega
    ·have:=h.1 y ak;omega
def Hk:∀(l:cN) (x:Int),(np l x).length≤l.length+1
 |[],x=>by simp[np]
 |z::r,x=>by
  rw[np];have:=Hk r x;split
  ·simp;omega
  ·split<;>simp
def Ui:∀(p r:cN) (x:Int),(∀y∈p,y<x)→(∀y∈r.head?,x≤y)→np (p++r) x=if r.head?=some x then p++r else p++x::r
 |[],r,x,_,h=>by
  cases r with
  |nil=>simp[np]
  |cons y r=>
   have:=h y (by simp);simp only[nil_append,np,if_neg (show ¬y<x by omega),head?_cons,Option.some.injEq]
 |z::p,r,x,aK,h=>by
  have:=aK z (by simp);rw[cons_append,np,if_pos this,Ui p r x (λy ak=>aK y (by simp[ak])) h];split<;>rfl
def NB(l:cN)(x:Int)(aP:l.length≤100000):uy l x=some (np l x):=by
 unfold uy;refine Ok.eq (axH (λk:Int=>0≤k∧k≤l.length∧∀y∈l.take k.toNat,y<x) (λk:Int=>((l.length:Int)-k).toNat) ⟨by omega,by omega,by simp⟩ (by omega) ?_);rintro k bM ⟨bA,h1,D⟩ fu;refine axK (λv:Bool=>(v=true↔∃y∈(l.drop k.toNat).head?,y<x)) ?_ ?_
 ·intro v ai;refine axw (λh=>?_) λh=>?_
  ·obtain⟨y,ak,FR⟩:=ai.1 h;have cq:k.toNat<l.length:=by
    cases aa:l.drop k.toNat with
    |nil=>rw[aa]at ak;simp at ak
    |cons z r=>have:=congrArg List.length aa;simp at this;omega
   rw[g4 (by omega) (by omega)];refine fu _ ⟨by omega,by omega,λz hz=>?_⟩ (by omega);rw[show(k+1).toNat=k.toNat+1 by omega,take_succ]at hz;rcases List.mem_append.1 hz with hz|hz
   ·exact D z hz
   ·rw[head?_drop]at ak;have e:l[k.toNat]?=some z:=by simpa using hz
    have e2:l[k.toNat]?=some y:=ak;rw[e]at e2;cases e2;exact FR
  ·have pK:∀y∈(l.drop k.toNat).head?,x≤y:=λy ak=>by
    have:¬y<x:=λct=>by rw[ai.2 ⟨y,ak,ct⟩]at h;cases h
    omega
   have key:=Ui (l.take k.toNat) (l.drop k.toNat) x D pK;rw[take_append_drop]at key;refine axK (λv:Bool=>(v=true↔(l.drop k.toNat).head?=some x)) ?_ ?_
   ·intro iP tG;refine axw (λD=>Ok.s ?_) λD=>?_
    ·rw[key,if_pos (tG.1 D)]
    ·have di:¬(l.drop k.toNat).head?=some x:=λct=>by rw[tG.2 ct]at D;cases D
     rw[if_neg di]at key;refine Ok.aB (Bu ⟨by omega,by omega,by omega⟩) λiw ay=>?_;refine Ok.aB (HF (by simp;omega)) λhx aG=>?_;refine Ok.aB (Bu ⟨by omega,by omega,by omega⟩) λQo a1=>?_;refine Ok.aB (HF (by simp at aG a1 ay ⊢;omega)) λavS aW=>Ok.s ?_;rw[aW.1,a1.1,aG.1,ay.1,key];simp
   ·intro J iW;refine axw (λah=>?_) λah=>iW _ ?_
    ·simp at ah;refine Ok.aB (nF bA ah) λe he=>iW _ ?_;rw[head?_drop,he.2];simp
    ·simp at ah;rw[drop_of_length_le (by omega)];simp
 ·intro J iW;refine axw (λah=>?_) λah=>iW _ ?_
  ·simp at ah;refine Ok.aB (nF bA ah) λe he=>iW _ ?_;rw[head?_drop,he.2];simp
  ·simp at ah;rw[drop_of_length_le (by omega)];simp
end
section
def ak7(n:Int):IntKind.wrap .u64 n=n%18446744073709551616:=by
 simp[IntKind.wrap,IntKind.bits,IntKind.signed]
def RG{n:Int}(bA:0≤n)(h:n<18446744073709551616):IntKind.wrap .u64 n=n:=by
 rw[ak7];omega
end
section
def L8{α σ β:Type}{B:Int→α→(σ→Option β)→σ→Option β}{K:σ→Option β}{L:List α}(I:List α→σ→Prop)(f:List α→List α→Option β)(be:∀s,I L s→K s=f L [])
  (ah:∀p x r s bM,p++x::r=L→I p s→(∀eF,I (p++[x]) eF→bM eF=f (p++[x]) r)→B (p.length:Int) x bM s=f p (x::r)):∀(l p:List α) (s:σ),p++l=L→I p s→cK l p.length B K s=f p l
 |[],p,s,h,hi=>by rw[append_nil]at h;subst h;exact be s hi
 |x::r,p,s,h,hi=>ah p x r s _ h hi λeF Z=>by
   have:=L8 (B:=B) (K:=K) I f be ah r (p++[x]) eF (by simpa using h) Z;rw[length_append]at this;exact this
def agh{α:Type}{L p r:List α}{x:α}(h:p++x::r=L):nk L 0 (p.length:Int)=some p:=by
 unfold nk;rw[if_pos ⟨by omega,by omega,by rw[←h];simp;omega⟩,←h];simp
def r7(n:Int):Bool:=decide (1≤n)&&decide (n≤99)
def aeq{α β:Type}{B:Int→α→(Bool→Option β)→Bool→Option β}{K:Bool→Option β}(p:α→Bool)(fq:∀j x bM s,B j x bM s=bM (s&&!p x))(l:List α)(j:Nat)(s:Bool):cK l j B K s=K (s&&!l.any p):=
 Hs (f:=λl s=>K (s&&!l.any p)) (λs=>by simp) (λj x r s bM fu=>by
  rw[fq,fu,any_cons];cases s<;>cases p x<;>simp) l j s
end
section
def sY(h:aQ):Bool:=!r7 h.bh||!r7 h.aS
def o5(a b:aQ):Bool:=decide (a.bh<b.bh)||(decide (a.bh=b.bh)&&decide (a.aS<b.aS))
def za(a b:aQ):Bool:=decide (b.aS=a.aS)
def qV(root:Int):Es→Es→Bool
 |_,[]=>false
 |p,x::r=>(p.any (za x)||decide (x.aS=root))||qV root (p++[x]) r
inductive oP(root:Int)(L:List aQ):Int→Prop
 |root:oP root L root
 |step (h:aQ):h∈L→oP root L h.bh→oP root L h.aS
noncomputable def mW(t:bR):Int:=
 bif !r7 t.cc||t.Links.any sY then 2 else bif kX o5 t.Links then(bif qV t.cc [] t.Links then 8 else @ite Int (∀h∈t.Links,oP t.cc t.Links h.bh) (Classical.propDecidable _) 0 10)else 25
def o9(f:Int→Bool)(L:Es):Nat:=(L.filter λh=>!f h.aS).length
variable {f:Int→Bool}
def Uj{g:Int→Bool}(h:∀x,f x=true→g x=true)(L:Es):o9 g L≤o9 f L:=by
 unfold o9;induction L with
 |nil=>simp
 |cons a r bX=>
  simp only[filter_cons];cases bc:f a.aS
  ·cases bQ:g a.aS<;>simp<;>omega
  ·rw[h _ bc];simpa using bX
def MY{f g:Int→Bool}(h:∀x,f x=true→g x=true){a:aQ}:∀{L:Es},a∈L→f a.aS=false→g a.aS=true→o9 g L<o9 f L
 |[],aI,_,_=>by cases aI
 |b::r,aI,h1,D=>by
  have hle:=Uj h r;unfold o9 at *;simp only[filter_cons];rcases mem_cons.1 aI with rfl|aI
  ·rw[h1,D];simp;omega
  ·have bX:=MY h aI h1 D;unfold o9 at bX;cases bc:f b.aS
   ·cases bQ:g b.aS<;>simp<;>omega
   ·rw[h _ bc];simpa using bX
structure BS(root:Int)(L:List aQ)(f:Int→Bool):Prop where
 rt:f root=true
 sub:∀x,f x=true→oP root L x
structure s4(root:Int)(L:List aQ)(f0:Int→Bool)(p:List aQ)(g:Bool)(f:Int→Bool):Prop where
 sZ:BS root L f
 up:∀x,f0 x=true→f x=true
 no:g=false→(∀x,f x=f0 x)∧∀h∈p,f h.bh=true→f h.aS=true
 yes:g=true→o9 f L<o9 f0 L
variable {L:Es}
def ayc{root:Int}(h:BS root L f):s4 root L f [] false f:=⟨h,λ_=>id,λ_=>⟨λ_=>rfl,by simp⟩,λh=>by cases h⟩
variable {f0:Int→Bool}{g:Bool}{h:aQ}{p:Es}
def s4.add{root:Int}{n0:Int→Bool}(j:s4 root L f0 p g f)(hm:h∈L)(h1:f h.bh=true)(D:f h.aS=false)(bc:∀y,n0 y=(decide (y=h.aS)||f y)):s4 root L f0 (p++[h]) true n0:=by
 have up:∀x,f x=true→n0 x=true:=λx u=>by rw[bc,u];simp
 have aP:o9 n0 L<o9 f L:=MY up hm D (by rw[bc];simp);refine⟨⟨up _ j.sZ.rt,λx u=>?_⟩,λx u=>up x (j.up x u),λh=>(by cases h),λ_=>?_⟩
 ·rw[bc,Bool.or_eq_true,decide_eq_true_eq]at u;rcases u with rfl|u
  ·exact .step h hm (j.sZ.sub _ h1)
  ·exact j.sZ.sub x u
 ·have:=Uj j.up L;omega
def s4.pass{root:Int}(j:s4 root L f0 p g f)(be:f h.bh=false∨f h.aS=true):s4 root L f0 (p++[h]) g f:=by
 refine⟨j.sZ,j.up,λbQ=>⟨(j.no bQ).1,λx u bc=>?_⟩,j.yes⟩;rcases List.mem_append.1 u with u|u
 ·exact(j.no bQ).2 x u bc
 ·simp at u;subst u
  rcases be with be|be
  ·rw[be]at bc;cases bc
  ·exact be
def BS.done{root:Int}(h:BS root L f)(ah:∀x∈L,f x.bh=true→f x.aS=true)(x:Int):f x=true↔oP root L x:=by
 refine⟨h.sub x,λaC=>?_⟩;induction aC with
 |root=>exact h.rt
 |step y ak _ bX=>exact ah y ak bX
def L9(f:Int→Bool)(L:Es):o9 f L≤L.length:=length_filter_le _ _
def lg(m:List (Int×Bool))(x:Int):Bool:=(cH m x).getD false
def Hl(m:List (Int×Bool))(n x:Int):lg (eG m n true) x=(decide (x=n)||lg m x):=by
 unfold lg;rw[TL];by_cases h:x=n<;>simp[h]
def acc(t:bR)(aP:t.Links.length≤1000000):Ok (FZ t) (λm=>∀x,lg m x=true↔oP t.cc t.Links x):=by
 unfold FZ;refine axH (λaf:Bool×List (Int×Bool)=>BS t.cc t.Links (lg af.2)∧(af.1=false→∀x∈t.Links,lg af.2 x.bh=true→lg af.2 x.aS=true)) (λaf=>2*o9 (lg af.2) t.Links+if af.1 then 1 else 0) ?_ ?_ ?_
 ·refine⟨⟨?_,λx u=>?_⟩,λh=>by cases h⟩
  ·show lg (eG [] t.cc true) t.cc=true;rw[Hl];simp
  ·have u:lg (eG [] t.cc true) x=true:=u;rw[Hl]at u;simp[lg,cH]at u;subst u;exact .root
 ·have:=L9 (lg (eG [] t.cc true)) t.Links;show 2*o9 (lg (eG [] t.cc true)) t.Links+1<_;omega
 ·rintro⟨g,m⟩ bM ⟨h1,D⟩ fu;refine axw (λbQ=>?_) (λbQ=>Ok.s (h1.done (D bQ)));refine axF (L:=t.Links) (λp (af:Bool×List (Int×Bool))=>s4 t.cc t.Links (lg m) p af.1 (lg af.2)) (λp x r s gX fQ fZ rA=>?_) (false,m) (ayc h1) (λs Z=>?_)
  ·obtain⟨c8,m2⟩:=s;unfold jn;have hm:x∈t.Links:=by rw[fQ];simp
   refine axw (λah=>rA _ ?_) (λah=>rA _ ?_)
   ·simp only[Bool.and_eq_true,Bool.not_eq_true']at ah;exact fZ.add hm ah.1 ah.2 (λy=>Hl m2 x.aS y)
   ·refine fZ.pass ?_
    change (lg m2 x.bh&&!lg m2 x.aS)=false at ah
    revert ah;cases lg m2 x.bh<;>cases lg m2 x.aS<;>simp
  ·obtain⟨c8,m2⟩:=s;refine fu (c8,m2) ⟨Z.sZ,λPv=>(Z.no Pv).2⟩ ?_;cases c8
   ·have e:lg m2=lg m:=funext (Z.no rfl).1;have bQ:g=true:=bQ;subst bQ;simp[e]
   ·have:=Z.yes rfl;have bQ:g=true:=bQ;subst bQ;simp;omega
def agi(l:cN)(a x:Int):decide (x∈l++[a])=(decide (x=a)||decide (x∈l)):=by
 by_cases h1:x=a<;>by_cases D:x∈l<;>simp[h1,D]
def aiR{a b:aQ}:(decide (b.bh<a.bh)||(decide (a.bh=b.bh)&&decide (b.aS≤a.aS)))=!o5 a b:=by
 unfold o5;by_cases h1:b.bh<a.bh
 ·have D:¬a.bh<b.bh:=by omega
  have aj:¬a.bh=b.bh:=by omega
  simp[h1,D,aj]
 ·by_cases D:a.bh=b.bh
  ·by_cases aj:a.aS<b.aS
   ·have aV:¬b.aS≤a.aS:=by omega
    simp[h1,D,aj,aV]
   ·have aV:b.aS≤a.aS:=by omega
    simp[h1,D,aj,aV]
  ·have aj:a.bh<b.bh:=by omega
   simp[h1,D,aj]
def QZ(t:bR)(aP:t.Links.length≤1000000):Ah t=some (mW t):=by
 unfold Ah CV;simp only[bC]
 refine(aeq sY (λj x bM s=>by
  unfold sY r7;cases s
  ·rfl
  cases decide (1≤x.bh)&&decide (x.bh≤99)<;>simp) _ _ _).trans ?_
 unfold mW;have e0:((decide (1≤t.cc)&&decide (t.cc≤99))&&!t.Links.any sY)=!(!r7 t.cc||t.Links.any sY):=by
  unfold r7;cases(decide (1≤t.cc)&&decide (t.cc≤99))<;>simp
 rw[e0,Bool.not_not];cases(!r7 t.cc||t.Links.any sY)
 ·simp only[cond_false]
  refine(yQ o5 (some 25) (λj x y r q s bM fQ aY=>by
   simp only[v1 fQ aY (by omega),bC,aiR];cases o5 y x<;>rfl) _).trans ?_
  cases kX o5 t.Links
  ·rfl
  ·simp only[cond_true];refine(L8 (L:=t.Links) (λ_ _=>True) (λp l=>bif qV t.cc p l then some 8 else some (@ite Int (∀h∈t.Links,oP t.cc t.Links h.bh) (Classical.propDecidable _) 0 10)) (λs _=>?_) (λp x r s bM h _ fu=>?_) t.Links [] () rfl trivial).trans ?_
   ·simp only[qV,cond_false];refine Ok.eq (axH (λaf:cN×Bool=>(BS t.cc t.Links (λx=>decide (x∈af.1))∧(af.2=false→∀x∈t.Links,x.bh∈af.1→x.aS∈af.1))∧af.1.length+o9 (λx=>decide (x∈af.1)) t.Links≤1+t.Links.length) (λaf=>2*o9 (λx=>decide (x∈af.1)) t.Links+if af.2 then 1 else 0) ?_ ?_ ?_)
    ·refine⟨⟨⟨by simp,λx u=>?_⟩,λh=>by cases h⟩,?_⟩
     ·simp at u;subst u;exact .root
     ·have:=L9 (λx=>decide (x∈[t.cc])) t.Links;simp only[length_singleton];omega
    ·have:=L9 (λx=>decide (x∈[t.cc])) t.Links;show 2*o9 (λx=>decide (x∈[t.cc])) t.Links+1<_;omega
    ·rintro⟨m,g⟩ bM ⟨⟨h1,D⟩,aj⟩ fu;refine axw (λbQ=>?_) (λbQ=>?_)
     ·refine axF (L:=t.Links) (λp (af:cN×Bool)=>s4 t.cc t.Links (λx=>decide (x∈m)) p af.2 (λx=>decide (x∈af.1))∧af.1.length+o9 (λx=>decide (x∈af.1)) t.Links≤1+t.Links.length) (λp x r s gX fQ fZ rA=>?_) (m,false) ⟨ayc h1,aj⟩ (λs Z=>?_)
      ·obtain⟨m2,c8⟩:=s;obtain⟨fZ,O7⟩:=fZ;simp only at O7;have hm:x∈t.Links:=by rw[fQ];simp
       simp only[jn,Cg,bC];by_cases aN:x.bh∈m2
       ·by_cases bw:x.aS∈m2
        ·simp only[aN,bw,decide_true,cond_true,Bool.not_true,cond_false];exact rA _ ⟨fZ.pass (.inr (by simpa using bw)),O7⟩
        ·simp only[aN,bw,decide_true,cond_true,decide_false,Bool.not_false];refine Ok.aB (HF (by simp only[length_singleton];omega)) λo6 a1=>?_;rw[a1.1];have cq:=MY (f:=λy=>decide (y∈m2)) (g:=λy=>decide (y∈m2++[x.aS])) (λy ak=>by simp at ak;simp[ak]) hm (by simpa using bw) (by simp);refine rA _ ⟨fZ.add hm (by simpa using aN) (by simpa using bw) (λy=>agi m2 x.aS y),?_⟩;simp only[length_append,length_singleton];omega
       ·simp only[aN,decide_false,cond_false];exact rA _ ⟨fZ.pass (.inl (by simpa using aN)),O7⟩
      ·obtain⟨m2,c8⟩:=s;obtain⟨Z,fV⟩:=Z;have bQ:g=true:=bQ;subst bQ;refine fu (m2,c8) ⟨⟨Z.sZ,λPv x u bc=>by simpa using (Z.no Pv).2 x u (by simpa using bc)⟩,fV⟩ ?_;cases c8
       ·have e:(λx=>decide (x∈m2))=(λx=>decide (x∈m)):=funext (Z.no rfl).1;simp only[e];simp
       ·have:=Z.yes rfl;simp;omega
     ·have aa:=h1.done (λx u bc=>by simpa using D bQ x u (by simpa using bc));refine⟨@ite Int (∀h∈t.Links,oP t.cc t.Links h.bh) (Classical.propDecidable _) 0 10,(mh (λx:aQ=>!decide (x.bh∈m)) (some 10) (λj x bM s=>by simp only[Cg,bC]) _ _ _).trans ?_,rfl⟩;by_cases k5:∀h∈t.Links,oP t.cc t.Links h.bh
      ·rw[if_pos k5,lE.2 (λx u=>by have:=(aa x.bh).2 (k5 x u);simpa using this)];rfl
      ·rw[if_neg k5]
       have:t.Links.any (λx:aQ=>!decide (x.bh∈m))=true:=by
        refine Classical.byContradiction λbe=>k5 λh ct=>(aa h.bh).1 ?_;have:=lE.1 (Bool.not_eq_true _▸be) h ct;simpa using this
       rw[this];rfl
   ·simp only[agh h,bC];refine(mh (za x) (some 8) (by intros;rfl) _ _ _).trans ?_;rw[fu () trivial,qV];cases p.any (za x)
    ·cases decide (x.aS=t.cc)<;>rfl
    ·rfl
   ·cases qV t.cc [] t.Links<;>rfl
 ·rfl
def aer{a b c d:Int}:decide ((0:Int)≤rT [iB a b,iB c d])=!(decide (a<b)||(decide (a=b)&&decide (c<d))):=by
 by_cases h1:a<b
 ·have e:iB a b = -1:=by unfold iB;rw[if_pos h1]
  simp[e,rT,h1]
 ·by_cases D:a=b
  ·subst D;have e:iB a a=0:=sJ.2 rfl;by_cases aj:c<d
   ·have e2:iB c d = -1:=by unfold iB;rw[if_pos aj]
    simp[e,e2,rT,aj]
   ·by_cases aV:d<c
    ·have e2:iB c d=1:=by unfold iB;rw[if_neg aj,if_pos aV]
     simp[e,e2,rT,aj]
    ·have e2:iB c d=0:=by unfold iB;rw[if_neg aj,if_neg aV]
     simp[e,e2,rT,aj]
  ·have aj:b<a:=by omega
   have e:iB a b=1:=by unfold iB;rw[if_neg h1,if_pos aj]
   simp[e,rT,h1,D]
def Q4(t:bR)(aP:t.Links.length≤1000000):yc t=some (mW t):=by
 unfold yc CO;simp only[bC];unfold mW;show(bif !r7 t.cc then _ else _)=_;cases r7 t.cc
 ·rfl
 simp only[Bool.not_true,cond_false,Bool.false_or]
 refine(mh sY (some 2) (λj x bM s=>by
  unfold sY r7 jn;cases decide (1≤x.bh)&&decide (x.bh≤99)<;>rfl) _ _ _).trans ?_
 cases t.Links.any sY
 ·simp only[cond_false]
  refine(yQ o5 (some 25) (λj x y r q s bM fQ aY=>by
   simp only[v1 fQ aY (by omega),bC,MQ,UD,aer];show(bif !o5 y x then _ else _)=_;cases o5 y x<;>rfl) _).trans ?_
  cases kX o5 t.Links
  ·rfl
  ·simp only[cond_true];refine(L8 (L:=t.Links) (λp m=>∀x,lg m x=true↔x=t.cc∨∃h∈p,h.aS=x) (λp l=>bif qV t.cc p l then some 8 else some (@ite Int (∀h∈t.Links,oP t.cc t.Links h.bh) (Classical.propDecidable _) 0 10)) (λs _=>?_) (λp x r s bM h hi fu=>?_) t.Links [] _ rfl ?_).trans ?_
   ·obtain⟨m,h1,D⟩:=acc t aP;simp only[h1,bC,qV,cond_false];refine(mh (λx:aQ=>!lg m x.bh) (some 10) (by intros;rfl) _ _ _).trans ?_;by_cases k5:∀h∈t.Links,oP t.cc t.Links h.bh
    ·rw[if_pos k5,lE.2 (λx u=>by rw[(D x.bh).2 (k5 x u)];rfl)];rfl
    ·rw[if_neg k5]
     have:t.Links.any (λx:aQ=>!lg m x.bh)=true:=by
      refine Classical.byContradiction λbe=>k5 λh ct=>(D h.bh).1 ?_;have:=lE.1 (Bool.not_eq_true _▸be) h ct;simpa using this
     rw[this];rfl
   ·show(bif lg s x.aS then _ else _)=_;rw[qV];have e:(p.any (za x)||decide (x.aS=t.cc))=lg s x.aS:=by
     rw[Bool.eq_iff_iff,Bool.or_eq_true,List.any_eq_true,hi,decide_eq_true_eq];constructor
     ·rintro(⟨a,aI,Z⟩|h)
      ·exact .inr ⟨a,aI,by simpa [za]using Z⟩
      ·exact .inl h
     ·rintro(h|⟨a,aI,Z⟩)
      ·exact .inr h
      ·exact .inl ⟨a,aI,by simpa [za]using Z⟩
    rw[e];cases lg s x.aS
    ·refine fu _ λy=>?_;rw[Hl,Bool.or_eq_true,decide_eq_true_eq,hi];constructor
     ·rintro(h|h|⟨a,aI,h⟩)
      ·exact .inr ⟨x,by simp,h.symm⟩
      ·exact .inl h
      ·exact .inr ⟨a,by simp[aI],h⟩
     ·rintro(h|⟨a,aI,h⟩)
      ·exact .inr (.inl h)
      ·rcases List.mem_append.1 aI with aI|aI
       ·exact .inr (.inr ⟨a,aI,h⟩)
       ·simp at aI;rw[aI]at h;exact .inl h.symm
    ·rfl
   ·intro x;rw[Hl];simp[lg,cH]
   ·cases qV t.cc [] t.Links<;>rfl
 ·rfl
structure ul(t:bR):Prop where
 rt:1≤t.cc∧t.cc≤99
 Ds:∀h∈t.Links,(1≤h.bh∧h.bh≤99)∧1≤h.aS∧h.aS≤99
 mB:t.Links.Pairwise λa b=>o5 a b=true
 dup:t.Links.Pairwise λa b=>a.aS≠b.aS
 QJ:∀h∈t.Links,h.aS≠t.cc
 Kx:∀h∈t.Links,oP t.cc t.Links h.bh
def adB(a b c:aQ)(h1:o5 a b=true)(D:o5 b c=true):o5 a c=true:=by
 simp[o5]at *;omega
def Ma{root:Int}:∀{l p:Es},qV root p l=false↔(∀a∈p,∀b∈l,a.aS≠b.aS)∧(∀b∈l,b.aS≠root)∧l.Pairwise λa b=>a.aS≠b.aS
 |[],p=>by simp[qV]
 |x::r,p=>by
  rw[qV,Bool.or_eq_false_iff,Bool.or_eq_false_iff,Ma,lE,pairwise_cons];constructor
  ·rintro⟨⟨h1,bA⟩,D,aV,aj⟩;refine⟨λa aI b Y=>?_,λb Y=>?_,λb Y=>D x (by simp) b Y,aj⟩
   ·rcases mem_cons.1 Y with rfl|Y
    ·have:=h1 a aI;simpa [za]using this
    ·exact D a (by simp[aI]) b Y
   ·rcases mem_cons.1 Y with rfl|Y
    ·simpa using bA
    ·exact aV b Y
  ·rintro⟨h1,aV,D,aj⟩;refine⟨⟨λa aI=>by simpa [za]using h1 a aI x (by simp),by simpa using aV x (by simp)⟩,λa aI b Y=>?_,λb Y=>aV b (by simp[Y]),aj⟩;rcases List.mem_append.1 aI with aI|aI
   ·exact h1 a aI b (by simp[Y])
   ·simp at aI;subst aI;exact D b Y
def MZ{n:Int}:r7 n=true↔1≤n∧n≤99:=by simp[r7]
def TM:sY h=false↔(1≤h.bh∧h.bh≤99)∧1≤h.aS∧h.aS≤99:=by
 simp[sY,MZ]
variable {t:bR}
def DO:mW t=0↔ul t:=by
 unfold mW;constructor
 ·intro h;cases h1:r7 t.cc with
  |false=>simp[h1]at h
  |true=>
  cases D:t.Links.any sY with
  |true=>simp[h1,D]at h
  |false=>
  cases aj:kX o5 t.Links with
  |false=>simp[h1,D,aj]at h
  |true=>
  cases aV:qV t.cc [] t.Links with
  |true=>simp[h1,D,aj,aV]at h
  |false=>
  by_cases b4:∀h∈t.Links,oP t.cc t.Links h.bh
  ·obtain⟨d1,d2,d3⟩:=Ma.1 aV;exact⟨MZ.1 h1,λx u=>TM.1 (lE.1 D x u),GN adB aj,d3,d2,b4⟩
  ·simp only[h1,D,aj,aV,if_neg b4]at h;cases h
 ·intro h;have h1:r7 t.cc=true:=MZ.2 h.rt;have D:t.Links.any sY=false:=lE.2 λx u=>TM.2 (h.Ds x u);have aj:kX o5 t.Links=true:=C7 h.mB;have aV:qV t.cc [] t.Links=false:=Ma.2 ⟨by simp,h.QJ,h.dup⟩;simp only[h1,D,aj,aV,if_pos h.Kx];rfl
noncomputable def tX(t:bR):cN:=if mW t=0 then mL (t.cc::t.Links.map (·.aS))else[]
def ul.nodup(h:ul t):(t.cc::t.Links.map (·.aS)).Nodup:=by
 rw[nodup_cons];refine⟨λhm=>?_,?_⟩
 ·obtain⟨x,u,e⟩:=List.mem_map.1 hm;exact h.QJ x u e
 ·exact pairwise_map.2 h.dup
def agj(h:ul t){x:Int}:x∈tX t↔x=t.cc∨∃h∈t.Links,h.aS=x:=by
 unfold tX;rw[if_pos (DO.2 h),RR];simp
def acd(t:bR)(aP:t.Links.length≤100000):F0 t=some (tX t):=by
 unfold F0 tX;simp only[Q4 t (by omega),bC];by_cases h:mW t=0
 ·simp only[h,decide_true,Bool.not_true,cond_false,if_true];refine(RQ (λ_:aQ=>true) (λx:aQ=>x.aS) t.Links 0 [t.cc] (λj x bM s u Z=>by rw[aio Z];rfl) (by simp;omega)).trans ?_;rw[show t.Links.filter (λ_:aQ=>true)=t.Links from List.filter_eq_self.2 λ_ _=>rfl];simp only[cons_append,nil_append,hU];rw[decide_eq_true (by simp;omega)];rfl
 ·simp[h]
def adC(l:cN):∀(s:cN),s.Pairwise (·<·)→(l.foldl np s).Pairwise (·<·)∧(∀x,x∈l.foldl np s↔x∈s∨x∈l)∧(l.foldl np s).length≤s.length+l.length:=by
 induction l with
 |nil=>intro s h;exact⟨h,λx=>by simp,by simp⟩
 |cons a r bX=>
  intro s h;obtain⟨h1,D,aj⟩:=bX (np s a) (LI h);refine⟨h1,λx=>?_,?_⟩
  ·rw[foldl_cons,D,yW,mem_cons];constructor
   ·rintro((h|h)|h)<;>simp[h]
   ·rintro(h|h|h)<;>simp[h]
  ·have:=Hk s a;rw[foldl_cons,length_cons];omega
def TN{α β:Type}{B:Int→α→(cN→Option β)→cN→Option β}{K:cN→Option β}(f:α→Int)(fq:∀j x bM (s:cN),s.length≤100000→B j x bM s=bM (np s (f x))):∀(l:List α) (j:Nat) (s:cN),s.length+l.length≤100000→cK l j B K s=K ((l.map f).foldl np s)
 |[],_,s,_=>rfl
 |x::r,j,s,h=>by
  have:=Hk s (f x);simp only[length_cons]at h;simp only[cK];rw[fq _ _ _ _ (by omega),TN f fq r (j+1) _ (by omega),map_cons,foldl_cons]
def abU(t:bR)(aP:t.Links.length≤90000):Gj t=some (tX t):=by
 unfold Gj tX;simp only[QZ t (by omega),bC];by_cases h:mW t=0
 ·simp only[h,decide_true,Bool.not_true,cond_false,if_true];refine(TN (λx:aQ=>x.aS) (λj x bM s Z=>by rw[NB _ _ Z];rfl) t.Links 0 [t.cc] (by simp;omega)).trans ?_;obtain⟨h1,D,aj⟩:=adC (t.Links.map (·.aS)) [t.cc] (by simp);rw[KY h1 (TI (DO.1 h).nodup) (λx=>by rw[D,RR];simp)]
 ·simp[h]
def Tq(l:cN)(aP:l.length≤1000000):CJ l=some (kX (λa b=>decide (a<b)) l):=by
 unfold CJ
 refine(yQ (λa b:Int=>decide (a<b)) (some false) (λj x y r q s bM fQ aY=>by
  simp only[v1 fQ aY (by omega),bC];by_cases h:y<x
  ·have:¬x≤y:=by omega
   simp[h,this]
  ·have:x≤y:=by omega
   simp[h,this]) _).trans ?_
 cases kX (λa b:Int=>decide (a<b)) l<;>rfl
end
section
structure abu(g:bu)(mw:Int):Prop where
 v:iq g
 n:1≤g.cn.length∧(g.cn.length:Int)≤mw
 c:∀r∈g.cn,r.LD=true
 i:∀r∈g.cn,r.eR≤5*mw
def KV(n:Nat):Nat→Nat
 |0=>0
 |a+1=>KV n a+(n-1-a)
def Ve:∀n,n≤9→∀a,a≤n→KV n a≤36:=by decide
structure uk(n:Nat)(M:List (List Bool)):Prop where
 len:M.length=n
 row:∀r∈M,r.length=n
 up:∀(a b:Nat) (r:q3),M[a]?=some r→r[b]?=some true→a<b
def uk.set{n:Nat}{M:lq}(h:uk n M){a b:Nat}{r:q3}(aC:M[a]?=some r)(jH:a<b)(Y:b<n):uk n (M.set a (r.set b true)):=by
 obtain⟨h1,D,aj⟩:=h;have hm:r∈M:=List.mem_of_getElem? aC;refine⟨by simpa using h1,λq cA=>?_,λi j q cA aY=>?_⟩
 ·rcases List.mem_or_eq_of_mem_set cA with cA|rfl
  ·exact D q cA
  ·simpa using D r hm
 ·rw[List.getElem?_set]at cA;by_cases hi:a=i
  ·subst hi;have cq:a<M.length:=(List.getElem?_eq_some_iff.1 aC).1;simp only[if_true,cq,Option.some.injEq]at cA;subst cA;rw[List.getElem?_set]at aY;by_cases an4:b=j
   ·omega
   ·rw[if_neg an4]at aY;exact aj a j r aC aY
  ·rw[if_neg hi]at cA;exact aj i j q cA aY
variable {M:lq}{i:Int}
def Vf{n:Nat}(h:uk n M)(bA:0≤i)(hi:i<n):Ok (b2 M i) (λr=>M[i.toNat]?=some r∧r.length=n):=by
 refine(nF bA (by rw[h.len];exact hi)).mono λr aC=>⟨aC.2,h.row r aC.1⟩
def TO{n:Nat}(h:uk n M){j:Int}{mz:Type}{Q:mz→Prop}(k:q3→q3→Option mz)(bA:0≤i)(iC:i<j)(aY:j<n)(hk:∀r hW,uk n (List.set M i.toNat hW)→Ok (k r hW) Q):
  Ok (aB (b2 M i) λe=>aB (b2 e j) λ_=>aB (oh e j true) λl=>k e l) Q:=by
 refine Ok.aB (Vf h bA (by omega)) λr aC=>Ok.aB (nF (by omega) (by rw[aC.2];omega)) λ_ _=>?_;refine Ok.aB (y7 (by omega) (by rw[aC.2];omega)) λl aP=>hk r l ?_;rw[aP.1];exact h.set aC.1 (by omega) (by omega)
structure qp(R:List fe)(ls:List dJ)(a b:Nat):Prop where
 at_:∀l∈ls,∃i j x y,i<j∧R[i]?=some x∧R[j]?=some y∧l.A=x.eR∧l.B=y.eR∧(i<a∨i=a∧j<b)
 ok:∀l∈ls,qU l=false
 mB:ls.Pairwise λx y=>mR x y=true
 len:ls.length≤KV R.length a+(b-(a+1))
variable {x:fe}
def NC{R:HC}(h:R.Pairwise λa b=>a.eR<b.eR){i j:Nat}{y:fe}(u:R[i]?=some x)(ak:R[j]?=some y)(iC:i<j):x.eR<y.eR:=by
 obtain⟨h1,rfl⟩:=List.getElem?_eq_some_iff.1 u;obtain⟨D,rfl⟩:=List.getElem?_eq_some_iff.1 ak;exact pairwise_iff_getElem.1 h i j h1 D iC
variable {a b:Nat}{ls:G5}
def qp.add{R:HC}(h:qp R ls a b)(cz:R.Pairwise λa b=>a.eR<b.eR){l:dJ}{y:fe}(jH:a<b)(u:R[a]?=some x)(ak:R[b]?=some y)(dZ:l.A=x.eR)(fq:l.B=y.eR)(aP:qU l=false):qp R (ls++[l]) a (b+1):=by
 refine⟨λm hm=>?_,λm hm=>?_,?_,?_⟩
 ·rcases List.mem_append.1 hm with hm|hm
  ·obtain⟨i,j,x,y,h1,D,aj,aV,b4,dz⟩:=h.at_ m hm;exact⟨i,j,x,y,h1,D,aj,aV,b4,by omega⟩
  ·simp at hm;subst hm
   exact⟨a,b,x,y,jH,u,ak,dZ,fq,by omega⟩
 ·rcases List.mem_append.1 hm with hm|hm
  ·exact h.ok m hm
  ·simp at hm;subst hm;exact aP
 ·refine pairwise_append.2 ⟨h.mB,by simp,λm hm q cA=>?_⟩;simp at cA;subst cA
  obtain⟨i,j,axl,RP,h1,D,aj,aV,b4,dz⟩:=h.at_ m hm;simp only[mR,Bool.or_eq_true,Bool.and_eq_true,decide_eq_true_eq];rcases dz with dz|⟨rfl,dz⟩
  ·have:=NC cz D u dz;left;omega
  ·rw[u]at D;cases D
   have:=NC cz aj ak dz;right;omega
 ·have:=h.len;simp;omega
def qp.skip{R:HC}(h:qp R ls a b):qp R ls a (b+1):=
 ⟨λm hm=>by
  obtain⟨i,j,x,y,h1,D,aj,aV,b4,dz⟩:=h.at_ m hm;exact⟨i,j,x,y,h1,D,aj,aV,b4,by omega⟩,h.ok,h.mB,by have:=h.len;omega⟩
def qp.next{R:HC}(h:qp R ls a b)(Y:b=R.length):qp R ls (a+1) 0:=
 ⟨λm hm=>by
  obtain⟨i,j,x,y,h1,D,aj,aV,b4,dz⟩:=h.at_ m hm;exact⟨i,j,x,y,h1,D,aj,aV,b4,by omega⟩,h.ok,h.mB,by have:=h.len;simp only[KV];omega⟩
def abV{t:eo}{mw:Int}(h:kp t)(hm:1≤mw∧mw≤9):Ok (Gs t mw) (λp=>abu p.1 mw∧kp p.2):=by
 unfold Gs;refine Ok.aB (MX h) λp aK=>?_;obtain⟨n,t1⟩:=p;obtain⟨be,bU⟩:=aK;have be:1≤n∧n≤mw:=be (by omega) (by omega) (by omega);have bU:kp t1:=bU;refine Ok.hU (by simp;omega) ?_;refine axP (λj (af:Int×HC×cN×Int)=>(0≤af.1∧af.1≤5*j)∧(af.2.1.length:Int)=j∧af.2.1.Pairwise (λa b=>a.eR<b.eR)∧(∀r∈af.2.1,(1≤r.eR∧r.eR≤af.1)∧r.LD=true)∧kp (eo.mk af.2.2.1 af.2.2.2)) 0 n ?_ ?_ _ _ _ rfl (by omega) (by omega) ⟨by simp,by simp,by simp,by simp,bU⟩
 ·rintro j ⟨id,m,L,A⟩ bM h1 D ⟨⟨pO,qE⟩,tI,vS,uX,FW⟩ fu;simp only at pO qE tI vS uX;refine Ok.aB (y9 FW (by simp) (by simp)) λq cA=>?_;obtain⟨cA,FK⟩:=cA;have Y:1≤q.1∧q.1≤5:=by
   simp only[mem_cons,not_mem_nil,or_false]at cA;omega
  rw[g4 (by omega) (by omega)];refine Ok.aB (HF (by simp;omega)) λm2 aG=>fu _ ⟨⟨by simp only;omega,by simp only;omega⟩,?_,?_,?_,FK⟩
  ·have:=aG.2;simp at this ⊢;omega
  ·simp only[aG.1];refine pairwise_append.2 ⟨vS,by simp,λa aI b gr=>?_⟩;simp at gr;subst gr
   have:=(uX a aI).1;simp only;omega
  ·simp only[aG.1];intro r aC;rcases List.mem_append.1 aC with aC|aC
   ·have:=uX r aC;exact⟨⟨this.1.1,by have:=this.1.2;omega⟩,this.2⟩
   ·simp at aC;subst aC;exact⟨⟨by simp only;omega,by simp only;omega⟩,rfl⟩
 rintro j ⟨id,R,L,A⟩ h1 D ⟨⟨pO,qE⟩,tI,vS,uX,FW⟩;have aY:j=n:=D (by omega);subst aY;simp only at pO qE tI vS uX;have m3:R.length=j.toNat:=by omega
 refine Ok.hU (by simp;omega) (Ok.hU (by simp;omega) ?_);refine axP (λi (M:lq)=>M.length=j.toNat∧∀(k:Nat),(k:Int)<i→M[k]?=some (List.replicate j.toNat false)) 0 j ?_ ?_ _ _ _ (by simp;omega) (by omega) (by omega) ⟨by simp,λk hk=>by omega⟩
 ·rintro i M bM ay aG ⟨e1,e2⟩ fu;refine Ok.hU (by simp;omega) (Ok.aB (nF ay (by omega)) λ_ _=>fu _ ⟨by simpa using e1,λk hk=>?_⟩);rw[List.getElem?_set];by_cases rD:i.toNat=k
  ·rw[if_pos rD,if_pos (by omega)]
  ·rw[if_neg rD];exact e2 k (by omega)
 rintro i M ay aG ⟨e1,e2⟩;have hi:i=j:=aG (by omega);subst hi;have kR:uk i.toNat M:=by
  have k5:∀(a:Nat) r,M[a]?=some r→r=List.replicate i.toNat false:=λa r aC=>by
   have cq:a<M.length:=(List.getElem?_eq_some_iff.1 aC).1;rw[e2 a (by omega)]at aC;exact(Option.some.inj aC).symm
  refine⟨e1,λr aC=>?_,λa b r aC Y=>?_⟩
  ·obtain⟨a,aI⟩:=List.getElem?_of_mem aC;rw[k5 a r aI];simp
  ·rw[k5 a r aC]at Y;have:=List.mem_of_getElem? Y;simp at this
 clear e1 e2;refine Ok.hU (by simp;omega) ?_;refine axP (λk (af:cN×Int×lq)=>kp (eo.mk af.1 af.2.1)∧uk i.toNat af.2.2) 1 i ?_ ?_ _ _ _ rfl (by omega) (by omega) ⟨FW,kR⟩
 ·rintro k ⟨abq,aba,Sj⟩ bM ga bV ⟨e1,e2⟩ fu;refine axK (λaf:lq×cN×Int=>kp (eo.mk af.2.1 af.2.2)∧uk i.toNat af.1) (λs Z=>fu _ Z) λJ iW=>?_;refine Ok.aB (sp e1 (by omega)) λv ai=>axw (λ_=>?_) λ_=>iW _ ⟨ai.2,e2⟩;refine Ok.aB (sp ai.2 (by omega)) λaq cF=>?_;exact TO e2 (λ_ l=>J (List.set Sj aq.1.toNat l,aq.2.L,aq.2.At)) cF.1.1 (cF.1.2.1 (by omega)) (by omega) λr hW lK=>iW _ ⟨cF.2,lK⟩
 rintro k ⟨abq,aba,Sj⟩ ga bV ⟨e1,e2⟩;refine Ok.aB (sp e1 (Vc _).1) λv ai=>?_;rw[g4 (n:=i+2) (by omega) (by omega)]at ai;have P4:=ai.1.2.1 (by omega);refine axH (λaf:Int×cN×Int×lq=>(0≤af.1∧af.1≤11)∧kp (eo.mk af.2.1 af.2.2.1)∧uk i.toNat af.2.2.2) (λaf=>af.1.toNat) ⟨⟨ai.1.1,by simp only;omega⟩,ai.2,e2⟩ (by simp only;omega) ?_;rintro⟨c,at3,atM,Sk⟩ bM ⟨⟨mc,aN⟩,bT,fG⟩ fu;simp only at mc aN;refine axw (λah=>?_) λah=>?_
 ·have ah:0<c:=by simpa using ah
  refine axK (λaf:lq×cN×Int=>kp (eo.mk af.2.1 af.2.2)∧uk i.toNat af.1) (λs Z=>?_) λJ iW=>?_
  ·rw[g4 (n:=c-1) (by omega) (by omega)];exact fu _ ⟨⟨by simp only;omega,by simp only;omega⟩,Z.1,Z.2⟩ (by simp only;omega)
  ·refine Ok.aB (sp bT (by omega)) λa aI=>Ok.aB (sp aI.2 (by omega)) λb Y=>?_;have tv:=aI.1.2.1 (by omega);have dX:=Y.1.2.1 (by omega);have YD:=aI.1.1;have vE:=Y.1.1
   refine axw (λdi=>?_) λ_=>iW _ ⟨Y.2,fG⟩;have di:a.1≠b.1:=by simpa using di
   refine TO fG (λ_ l=>J (List.set Sk _ l,b.2.L,b.2.At)) (by split<;>omega) (by split<;>split<;>omega) (by split<;>omega) λr hW lK=>iW _ ⟨Y.2,lK⟩
 clear fu e2 kR ai P4 e1;refine Ok.aB (sp bT (by omega)) λw aA=>?_;have YB:Sk.length=i.toNat:=fG.len;refine Ok.hU (by simp;omega) ?_;refine axP (λa (af:G5×cN×Int)=>qp R af.1 a.toNat 0∧kp (eo.mk af.2.1 af.2.2)) 0 i ?_ ?_ _ _ _ (by rw[YB];omega) (by omega) (by omega) ⟨⟨by simp,by simp,by simp,by simp⟩,aA.2⟩
 ·rintro a ⟨ls,abr,abb⟩ bM a0 g6 ⟨gy,g1⟩ fu;refine Ok.hU (by simp;omega) ?_;refine axP (λb (af:G5×cN×Int)=>qp R af.1 a.toNat b.toNat∧kp (eo.mk af.2.1 af.2.2)) 0 i ?_ ?_ _ _ _ (by rw[YB];omega) (by omega) (by omega) ⟨gy,g1⟩
  ·rintro b ⟨ls,Sh,R9⟩ gX oq dI ⟨jN,uw⟩ rA;have jN:qp R ls a.toNat b.toNat:=jN;have uw:kp (eo.mk Sh R9):=uw;have PV:qp R ls a.toNat (b+1).toNat:=by rw[show(b+1).toNat=b.toNat+1 by omega];exact jN.skip
   refine axK (λaf:cN×Int×G5=>kp (eo.mk af.1 af.2.1)∧qp R af.2.2 a.toNat (b+1).toNat) (λs Z=>rA _ ⟨Z.2,Z.1⟩) λkP pF=>?_;refine Ok.aB (Vf fG a0 (by omega)) λrow jm=>Ok.aB (nF oq (by rw[jm.2];omega)) λc ah=>?_;cases c with
   |false=>exact pF _ ⟨uw,PV⟩
   |true=>
    have jH:a.toNat<b.toNat:=fG.up _ _ _ jm.1 ah.2;simp only[Bool.not_true,cond_false];refine Ok.aB (nF a0 (by omega)) λx u=>Ok.aB (nF oq (by omega)) λy ak=>Ok.aB (y9 uw (by simp) (by simp)) λpx su=>?_;have oA:0≤px.1∧px.1≤1000:=by
     have:=su.1;simp only[mem_cons,not_mem_nil,or_false]at this;omega
    have eH:ls.length≤36+9:=by
     have:=jN.len;have:=Ve R.length (by omega) a.toNat (by omega);omega
    refine axK (λaf:cN×Int×Int×Int=>kp (eo.mk af.1 af.2.1)∧(1≤af.2.2.1∧af.2.2.1≤1000)∧1≤af.2.2.2∧af.2.2.2≤1000) (λs Z=>?_) λk0 sq=>?_
    ·obtain⟨at4,atN,ca,auL⟩:=s;obtain⟨s1,e8,s3⟩:=Z;simp only at e8 s3;refine Ok.aB (HF (by simp;omega)) λav0 aG=>pF _ ⟨s1,?_⟩;rw[aG.1,show(b+1).toNat=b.toNat+1 by omega];refine jN.add vS jH u.2 ak.2 rfl rfl ?_;simp only[qU,zu];simp;omega
    ·refine axw (λ_=>?_) λ_=>sq _ ⟨su.2,by simp only;omega,by simp only;omega⟩;refine Ok.aB (MX su.2) λiG sB=>Ok.aB (y9 sB.2 (by simp) (by simp)) λcM qa=>Ok.aB (MX qa.2) λhW lK=>Ok.aB (y9 lK.2 (by simp) (by simp)) λdY xb=>sq _ ⟨xb.2,?_,?_⟩
     ·have h1:=sB.1 (by omega) (by omega) (by omega);have D:=qa.1
      simp only[mem_cons,not_mem_nil,or_false]at D ⊢;omega
     ·have h1:=sB.1 (by omega) (by omega) (by omega);have D:=qa.1;have aj:=lK.1 (by omega) (by omega) (by omega);have aV:=xb.1
      simp only[mem_cons,not_mem_nil,or_false]at D aV ⊢;omega
  ·rintro b ⟨ls,Sh,R9⟩ oq dI ⟨jN,uw⟩;have Y:b=i:=dI (by omega);subst Y;refine fu _ ⟨?_,uw⟩;rw[show(a+1).toNat=a.toNat+1 by omega];exact jN.next (by omega)
 ·rintro a ⟨ls,abr,abb⟩ a0 g6 ⟨gy,g1⟩;have aI:a=i:=g6 (by omega);subst aI;have gy:qp R ls a.toNat 0:=gy;have eH:ls.length≤36:=by
   have:=gy.len;have:=Ve R.length (by omega) a.toNat (by omega);omega
  refine Ok.s ⟨⟨⟨?_,?_,λr aC=>?_,vS,gy.ok,λl aP=>?_,λl aP=>?_,gy.mB⟩,⟨?_,?_⟩,λr aC=>(uX r aC).2,λr aC=>?_⟩,g1⟩
  ·show R.length≤24;omega
  ·show ls.length≤60;omega
  ·have:=(uX r aC).1;omega
  ·obtain⟨i,j,x,y,ay,aG,a1,aW,bt,_⟩:=gy.at_ l aP;exact⟨Hj.2 ⟨x,List.mem_of_getElem? aG,aW.symm⟩,Hj.2 ⟨y,List.mem_of_getElem? a1,bt.symm⟩⟩
  ·obtain⟨i,j,x,y,ay,aG,a1,aW,bt,_⟩:=gy.at_ l aP;have:=NC vS aG a1 ay;omega
  ·show 1≤R.length;omega
  ·show(R.length:Int)≤mw;omega
  ·have:=(uX r aC).1;omega
end
section
variable {g:bu}{t:eo}
def aaU{mz:Type}{Q:mz→Prop}{k:Int×eo→fe→Option mz}(h:kp t)(bQ:1≤g.cn.length∧g.cn.length≤1000)(hk:∀p r,kp p.2→r∈g.cn→r.eR∈ids g→Ok (k p r) Q):
  Ok (aB (ot t (g.cn.length:Int)) λp=>aB (b2 g.cn p.1) λr=>k p r) Q:=
 Ok.aB (sp h (by omega)) λp aK=>Ok.aB (nF aK.1.1 (aK.1.2.1 (by omega))) λr aC=>hk p r aK.2 aC.1 (List.mem_map.2 ⟨r,aC.1,rfl⟩)
def aes{n:Int}(h:kp t)(bQ:g.cn.length≤1000)(be:0≤n∧n≤1000):Ok (GO t g n) (λp=>(p.1.Pairwise (·<·)∧(∀x∈p.1,x∈ids g)∧(p.1.length:Int)≤n)∧kp p.2):=by
 unfold GO;rw[g4 (by omega) (by omega)];refine Ok.aB (sp h (by omega)) λq cA=>?_;have PN:=cA.1.2.1 (by omega);refine axH (λaf:cN×Int×cN×Int=>(af.1.Pairwise (·<·)∧(∀x∈af.1,x∈ids g)∧(af.1.length:Int)+af.2.1≤n∧0≤af.2.1)∧kp (eo.mk af.2.2.1 af.2.2.2)) (λaf=>af.2.1.toNat) ⟨⟨by simp,by simp,by simp;omega,cA.1.1⟩,cA.2⟩ (by simp only;omega) ?_;rintro⟨out,i,L,A⟩ bM ⟨⟨h1,D,aj,aV⟩,b4⟩ fu;simp only at h1 D aj aV;refine axw (λah=>?_) λah=>Ok.s ⟨⟨h1,D,by simp only;omega⟩,b4⟩;simp only[Bool.and_eq_true,decide_eq_true_eq]at ah;refine aaU b4 (by omega) λp r aK aC Jr=>?_;rw[NB _ _ (by omega),bC,g4 (by omega) (by omega)];have:=Hk out r.eR;refine fu _ ⟨⟨LI h1,λx u=>?_,by simp only;omega,by simp only;omega⟩,aK⟩ (by simp only;omega);rcases yW.1 u with rfl|u
 ·exact Jr
 ·exact D x u
end
end
end Go.Proofs.YtmnbolcmepihlaaGreat
