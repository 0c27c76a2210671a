/- Several texts in one. No condition but those that stand in each. -/
import Derived.Test.YtmnbolcmepihlaaGreatZ4
import Derived.Test.YtmnbolcmepihlaaGreatZ1
import Derived.Shelf.Sort.Plain
import Derived.Test.YtmnbolcmepihlaaGreatZ3
import Derived.Test.YtmnbolcmepihlaaGreatZ2
namespace Go.Proofs.YtmnbolcmepihlaaGreat
section
open Go Go.Proofs.Tryz List
set_option maxRecDepth 100000
set_option linter.all false
def MM{t:bA}{nm:Int}{r:Bool}(hm:xE t nm=some r):dT prog 79 [] [.agg (cK t),W nm] (.bool r):=by
 refine dY func79 rfl rfl ?_;unfold xE at hm;refine bp [(0,.al 138)] [(1,W nm),(2,.ptr 138 0)] [(138,.cells 28 (cK t))] ?_;obtain⟨aG,h1,hm⟩:=bw hm;rcases cD hm with⟨bl,hm⟩|⟨bl,hm⟩
 ·obtain⟨bt,D,hm⟩:=bw hm;refine bp [(1,cM (V9 h1) Uq),(3,aN (cg bl)),(6,cM (HH D) FU)] [(4,.bool bt)] [] ?_;cases hm;exact A.ret de
 refine bp [(1,cM (V9 h1) Uq),(3,aN (cg bl))] [(4,.bool false)] [] ?_;cases hm;exact A.ret de
end
section
open Go Go.Proofs.Tryz List
set_option maxRecDepth 100000
set_option linter.all false
variable {fh:Int}{r:Bool}
def V2(hm:Bf fh=some r):dT prog 164 [] [W fh] (.bool r):=by
 refine dY func164 rfl rfl ?_;unfold Bf at hm;refine bp [] [(0,W fh)] []<|bp [] [(2,.bool (!decide (fh=fh)))] [] ?_
 cases hm;exact A.ret de
def vG{y:Int}{r:Int}(hm:p8 fh y=some r):dT prog 106 [] [W fh,W y] (W r):=by
 refine dY func106 rfl rfl ?_;unfold p8 at hm;refine bp [] [(0,W fh),(1,W y)] [] ?_;obtain⟨aG,h1,hm⟩:=bw hm;refine bh [(1,cM (V2 h1) S4)] [] [(5,.bool aG)] ?_;obtain⟨bt,D,hm⟩:=bw hm;refine bh [(1,cM (V2 D) S4)] [] [(6,.bool bt)]<|A.seq<|bh [] [5] [(11,.bool aG)] ?_
 rcases cD hm with⟨bl,hm⟩|⟨bl,hm⟩
 ·refine cm bl<|A.seq<|bp [] [(12,.bool bt)] [] ?_
  rcases cD hm with⟨b2,hm⟩|⟨b2,hm⟩
  ·refine cm b2<|bp [] [(4,W 0)] [] ?_
   cases hm;exact A.ret de
  refine ck b2<|A.skip<|bp [] [(4,W (-1))] [] ?_
  cases hm;exact A.ret de
 refine ck bl<|A.skip<|A.seq<|bh [] [6,11] [(13,.bool bt)] ?_
 rcases cD hm with⟨c9,hm⟩|⟨c9,hm⟩
 ·refine cm c9<|bp [] [(4,W 1)] [] ?_
  cases hm;exact A.ret de
 refine ck c9<|A.skip<|A.seq<|bh [] [13] [(16,.d (fh<y))] ?_
 rcases cD hm with⟨e3,hm⟩|⟨e3,hm⟩
 ·refine cm e3<|bp [] [(4,W (-1))] [] ?_
  cases hm;exact A.ret de
 refine ck e3<|A.skip<|A.seq<|bp [] [(19,.d (y<fh))] [] ?_
 rcases cD hm with⟨gm,hm⟩|⟨gm,hm⟩
 ·refine cm gm<|bp [] [(4,W 1)] [] ?_
  cases hm;exact A.ret de
 refine ck gm<|A.skip<|bp [] [(4,W 0)] [] ?_
 cases hm;exact A.ret de
def MO{fU:cq}{r:Int}(hm:vO fU=some r):dT prog 126 [] [bO aI fU] (W r):=by
 refine dY func126 rfl rfl ?_;unfold vO at hm;refine bp [] [(0,bO aI fU)] []<|bh [] [] [(3,W 0)]<|A.seq<|bh [(1,aN (eG aI fU))] [0] [(6,bO aI fU),(7,W fU.length),(8,W 0)]<|A.block<|asH 6 rfl λfA=>?_
 obtain⟨hJ,hK,hv,hw,hm⟩:=iM hm;refine asz (l:=fU) (hj:=0) (B:=hJ) (K:=hK) hm (λbk=>λ()=>[(3,W 0),(6,bO aI fU),(7,W fU.length),(8,W bk)]) (λbk=>λ()=>[]) ?_ ?_ ?_
 ·exact gw
 ·rintro bk aJ c1 ⟨⟩ hP cH hm;rw[hv]at hm;refine bh [] [] [(9,.d ((bk:Int)<fU.length))]<|A.seq<|cm (iC cH)<|A.skip<|A.seq<|A.block<|bh [(0,ds (ix aI (gT cH)))] [9] [(5,W aJ)]<|bh [] [] [(14,.bool (!decide (aJ=0)))] ?_
  rcases cD hm with⟨bl,hm⟩|⟨bl,hm⟩
  ·refine cm bl<|bp [] [(2,W aJ)] [] ?_
   cases hm;exact A.ret de
  exact ck bl<|A.skip<|dV [(0,aN (hY cH fA))] [8,5,14] [(8,W ((bk+1:Nat):Int))]<|cR () hm
 rintro bk ⟨⟩ hP gh hm;rw[hw]at hm;refine bh [] [] [(9,.d ((bk:Int)<fU.length))]<|A.seq<|ck (iB gh)<|A.exit<|bp [] [(2,W 0)] [] ?_
 cases hm;exact A.ret de
def UL{fh:Ax}{target:Int}{hN:dQ→Int→jo}{gF:Nat}{hr:List Q}(iN:c8 prog gF)(iO:∀(ho:dQ) (j6:Int) (q:Int),hN ho j6=some q→dT prog gF [] ([.agg (rR ho),W j6]++hr) (W q)){r:Int×Bool}(hm:AE fh target hN=some r):dT prog 136 [] [bO ec fh,W target,.eU gF hr] (.cI [W r.1,.bool r.2]):=by
 refine dY func136 rfl rfl ?_;unfold AE at hm;refine bp [] [(0,bO ec fh),(1,W target),(2,.eU gF hr)] []<|bh [(1,aN (eG ec fh))] [] [(8,W fh.length)]<|bh [] [] [(9,W 0),(10,W fh.length)]<|A.seq<|A.block ?_
 obtain⟨mO,hH,mW,hm⟩:=nv hm;refine asL (F:=mO) hm (λ(c3,fl)=>[(0,bO ec fh),(1,W target),(2,.eU gF hr),(8,W fh.length),(9,W c3),(10,W fl)]) (λ(c3,fl)=>[]) ?_ ?_
 ·exact gw
 rintro c1 ⟨c3,fl⟩ hm;rw[mW]at hm;refine A.seq<|bh [] [] [(17,.d (c3<fl))] ?_
 rcases cD hm with⟨bl,hm⟩|⟨bl,hm⟩
 ·refine cm bl<|A.skip<|A.block<|bh [(4,.sh (1:Int) (by decide))] [17] [(11,W (aF (Int.fdiv (IntKind.wrap .u64 (aF (c3+fl))) (2 ^ min (1:Int).toNat 64))))] ?_
  obtain⟨en,h1,hm⟩:=bw hm;obtain⟨aG,D,hm⟩:=bw hm;refine bh [(3,ds (ix ec h1)),(6,oW (iO _ _ _ D) iN)] [] [(31,.d (aG<0))] ?_;rcases cD hm with⟨b2,hm⟩|⟨b2,hm⟩
  ·exact cm b2<|dV [] [9,11,31] [(9,W (aF ((aF (Int.fdiv (IntKind.wrap .u64 (aF (c3+fl))) (2 ^ min (1:Int).toNat 64)))+(1:Int))))]<|cR (aF ((aF (Int.fdiv (IntKind.wrap .u64 (aF (c3+fl))) (2 ^ min (1:Int).toNat 64)))+(1:Int)),fl) hm
  exact ck b2<|dV [] [10,11,31] [(10,W (aF (Int.fdiv (IntKind.wrap .u64 (aF (c3+fl))) (2 ^ min (1:Int).toNat 64))))]<|cR (c3,aF (Int.fdiv (IntKind.wrap .u64 (aF (c3+fl))) (2 ^ min (1:Int).toNat 64))) hm
 refine ck bl<|A.exit ?_
 rcases cD hm with⟨c9,hm⟩|⟨c9,hm⟩
 ·obtain⟨er,aj,hm⟩:=bw hm;obtain⟨bt,a1,hm⟩:=bw hm;refine bp [(4,aN (cg c9)),(8,ds (ix ec aj)),(11,oW (iO _ _ _ a1) iN)] [(6,W c3),(7,.d (bt=0))] [] ?_;cases hm;exact A.ret de
 refine bp [(4,aN (cg c9))] [(6,W c3),(7,.bool false)] [] ?_;cases hm;exact A.ret de
variable {eE:cq}
def alM{v:Int}{r:Int}(hm:Gz eE v=some r):dT prog 146 [] [bO aI eE,W v] (W r):=by
 refine dY func146 rfl rfl ?_;unfold Gz at hm;refine bp [] [(0,bO aI eE),(1,W v)] []<|A.seq<|bh [(1,aN (eG aI eE))] [] [(7,W eE.length),(8,W 0)]<|A.block<|asH 0 rfl λfA=>?_
 obtain⟨hJ,hK,hv,hw,hm⟩:=iM hm;refine asz (l:=eE) (hj:=0) (B:=hJ) (K:=hK) hm (λbk=>λ()=>[(0,bO aI eE),(1,W v),(7,W eE.length),(8,W bk)]) (λbk=>λ()=>[]) ?_ ?_ ?_
 ·exact gw
 ·rintro bk aJ c1 ⟨⟩ hP cH hm;rw[hv]at hm;refine bh [] [] [(9,.d ((bk:Int)<eE.length))]<|A.seq<|cm (iC cH)<|A.skip<|A.seq<|A.block<|bh [] [9] [(5,W bk)]<|bh [(3,ds (ix aI (gT cH)))] [] [(16,.d (v=aJ))] ?_
  rcases cD hm with⟨bl,hm⟩|⟨bl,hm⟩
  ·refine cm bl<|bp [] [(4,W bk)] [] ?_
   cases hm;exact A.ret de
  exact ck bl<|A.skip<|dV [(0,aN (hY cH fA))] [8,5,16] [(8,W ((bk+1:Nat):Int))]<|cR () hm
 rintro bk ⟨⟩ hP gh hm;rw[hw]at hm;refine bh [] [] [(9,.d ((bk:Int)<eE.length))]<|A.seq<|ck (iB gh)<|A.exit<|bp [] [(4,W (-1))] [] ?_
 cases hm;exact A.ret de
variable {iW:Nat}{jY:List Q}
def ak5{eE:Ax}{f:dQ→lz}(nX:c8 prog iW)(nW:∀(ho:dQ) (q:Bool),f ho=some q→dT prog iW [] ([.agg (rR ho)]++jY) (.bool q)){r:Int}(hm:Gs eE f=some r):dT prog 180 [] [bO ec eE,.eU iW jY] (W r):=by
 refine dY func180 rfl rfl ?_;unfold Gs at hm;refine bp [] [(0,bO ec eE),(1,.eU iW jY)] []<|A.seq<|bh [(1,aN (eG ec eE))] [] [(7,W eE.length),(8,W 0)]<|A.block<|asH 0 rfl λfA=>?_
 obtain⟨hJ,hK,hv,hw,hm⟩:=iM hm;refine asz (l:=eE) (hj:=0) (B:=hJ) (K:=hK) hm (λbk=>λ()=>[(0,bO ec eE),(1,.eU iW jY),(7,W eE.length),(8,W bk)]) (λbk=>λ()=>[]) ?_ ?_ ?_
 ·exact gw
 ·rintro bk aJ c1 ⟨⟩ hP cH hm;rw[hv]at hm;refine bh [] [] [(9,.d ((bk:Int)<eE.length))]<|A.seq<|cm (iC cH)<|A.skip<|A.seq<|A.block<|bh [] [9] [(5,W bk)] ?_
  obtain⟨aG,h1,hm⟩:=bw hm;refine bh [(3,ds (ix ec (gT cH))),(5,oW (nW _ _ h1) nX)] [] [(16,.bool aG)] ?_;rcases cD hm with⟨bl,hm⟩|⟨bl,hm⟩
  ·refine cm bl<|bp [] [(4,W bk)] [] ?_
   cases hm;exact A.ret de
  exact ck bl<|A.skip<|dV [(0,aN (hY cH fA))] [8,5,16] [(8,W ((bk+1:Nat):Int))]<|cR () hm
 rintro bk ⟨⟩ hP gh hm;rw[hw]at hm;refine bh [] [] [(9,.d ((bk:Int)<eE.length))]<|A.seq<|ck (iB gh)<|A.exit<|bp [] [(4,W (-1))] [] ?_
 cases hm;exact A.ret de
def ak7{eE:Aw}{f:dR→lz}(nX:c8 prog iW)(nW:∀(ho:dR) (q:Bool),f ho=some q→dT prog iW [] ([.agg (gv ho)]++jY) (.bool q)){r:Int}(hm:Gw eE f=some r):dT prog 181 [] [bO eT eE,.eU iW jY] (W r):=by
 refine dY func181 rfl rfl ?_;unfold Gw at hm;refine bp [] [(0,bO eT eE),(1,.eU iW jY)] []<|A.seq<|bh [(1,aN (eG eT eE))] [] [(7,W eE.length),(8,W 0)]<|A.block<|asH 0 rfl λfA=>?_
 obtain⟨hJ,hK,hv,hw,hm⟩:=iM hm;refine asz (l:=eE) (hj:=0) (B:=hJ) (K:=hK) hm (λbk=>λ()=>[(0,bO eT eE),(1,.eU iW jY),(7,W eE.length),(8,W bk)]) (λbk=>λ()=>[]) ?_ ?_ ?_
 ·exact gw
 ·rintro bk aJ c1 ⟨⟩ hP cH hm;rw[hv]at hm;refine bh [] [] [(9,.d ((bk:Int)<eE.length))]<|A.seq<|cm (iC cH)<|A.skip<|A.seq<|A.block<|bh [] [9] [(5,W bk)] ?_
  obtain⟨aG,h1,hm⟩:=bw hm;refine bh [(3,ds (ix eT (gT cH))),(5,oW (nW _ _ h1) nX)] [] [(16,.bool aG)] ?_;rcases cD hm with⟨bl,hm⟩|⟨bl,hm⟩
  ·refine cm bl<|bp [] [(4,W bk)] [] ?_
   cases hm;exact A.ret de
  exact ck bl<|A.skip<|dV [(0,aN (hY cH fA))] [8,5,16] [(8,W ((bk+1:Nat):Int))]<|cR () hm
 rintro bk ⟨⟩ hP gh hm;rw[hw]at hm;refine bh [] [] [(9,.d ((bk:Int)<eE.length))]<|A.seq<|ck (iB gh)<|A.exit<|bp [] [(4,W (-1))] [] ?_
 cases hm;exact A.ret de
variable {f:Int→lz}
def alF(nX:c8 prog iW)(nW:∀(ho:Int) (q:Bool),f ho=some q→dT prog iW [] ([W ho]++jY) (.bool q)){r:Int}(hm:GA eE f=some r):dT prog 195 [] [bO aI eE,.eU iW jY] (W r):=by
 refine dY func195 rfl rfl ?_;unfold GA at hm;refine bp [] [(0,bO aI eE),(1,.eU iW jY)] []<|A.seq<|bh [(1,aN (eG aI eE))] [] [(7,W eE.length),(8,W 0)]<|A.block<|asH 0 rfl λfA=>?_
 obtain⟨hJ,hK,hv,hw,hm⟩:=iM hm;refine asz (l:=eE) (hj:=0) (B:=hJ) (K:=hK) hm (λbk=>λ()=>[(0,bO aI eE),(1,.eU iW jY),(7,W eE.length),(8,W bk)]) (λbk=>λ()=>[]) ?_ ?_ ?_
 ·exact gw
 ·rintro bk aJ c1 ⟨⟩ hP cH hm;rw[hv]at hm;refine bh [] [] [(9,.d ((bk:Int)<eE.length))]<|A.seq<|cm (iC cH)<|A.skip<|A.seq<|A.block<|bh [] [9] [(5,W bk)] ?_
  obtain⟨aG,h1,hm⟩:=bw hm;refine bh [(3,ds (ix aI (gT cH))),(5,oW (nW _ _ h1) nX)] [] [(16,.bool aG)] ?_;rcases cD hm with⟨bl,hm⟩|⟨bl,hm⟩
  ·refine cm bl<|bp [] [(4,W bk)] [] ?_
   cases hm;exact A.ret de
  exact ck bl<|A.skip<|dV [(0,aN (hY cH fA))] [8,5,16] [(8,W ((bk+1:Nat):Int))]<|cR () hm
 rintro bk ⟨⟩ hP gh hm;rw[hw]at hm;refine bh [] [] [(9,.d ((bk:Int)<eE.length))]<|A.seq<|ck (iB gh)<|A.exit<|bp [] [(4,W (-1))] [] ?_
 cases hm;exact A.ret de
def DD{v:Int}(hm:w9 eE v=some r):dT prog 76 [] [bO aI eE,W v] (.bool r):=by
 refine dY func76 rfl rfl ?_;unfold w9 at hm;refine bp [] [(0,bO aI eE),(1,W v)] [] ?_;obtain⟨aG,h1,hm⟩:=bw hm;refine bp [(2,cM (alM h1) ah4)] [(4,.d (0≤aG))] [] ?_;cases hm;exact A.ret de
def ak2{eE:Ax}{f:dQ→lz}(nX:c8 prog iW)(nW:∀(ho:dQ) (q:Bool),f ho=some q→dT prog iW [] ([.agg (rR ho)]++jY) (.bool q))(hm:DB eE f=some r):dT prog 132 [] [bO ec eE,.eU iW jY] (.bool r):=by
 refine dY func132 rfl rfl ?_;unfold DB at hm;refine bp [] [(0,bO ec eE),(1,.eU iW jY)] [] ?_;obtain⟨aG,h1,hm⟩:=bw hm;refine bp [(2,cM (ak5 (nX:=nX) (nW:=nW) h1) ahv)] [(4,.d (0≤aG))] [] ?_;cases hm;exact A.ret de
def K9{eE:Aw}{f:dR→lz}(nX:c8 prog iW)(nW:∀(ho:dR) (q:Bool),f ho=some q→dT prog iW [] ([.agg (gv ho)]++jY) (.bool q))(hm:yA eE f=some r):dT prog 138 [] [bO eT eE,.eU iW jY] (.bool r):=by
 refine dY func138 rfl rfl ?_;unfold yA at hm;refine bp [] [(0,bO eT eE),(1,.eU iW jY)] [] ?_;obtain⟨aG,h1,hm⟩:=bw hm;refine bp [(2,cM (ak7 (nX:=nX) (nW:=nW) h1) ahw)] [(4,.d (0≤aG))] [] ?_;cases hm;exact A.ret de
def alw(nX:c8 prog iW)(nW:∀(ho:Int) (q:Bool),f ho=some q→dT prog iW [] ([W ho]++jY) (.bool q))(hm:DC eE f=some r):dT prog 170 [] [bO aI eE,.eU iW jY] (.bool r):=by
 refine dY func170 rfl rfl ?_;unfold DC at hm;refine bp [] [(0,bO aI eE),(1,.eU iW jY)] [] ?_;obtain⟨aG,h1,hm⟩:=bw hm;refine bp [(2,cM (alF (nX:=nX) (nW:=nW) h1) ahA)] [(4,.d (0≤aG))] [] ?_;cases hm;exact A.ret de
def yL{n:Int}{least:Int}{lP:Int}(hm:xe n least lP=some r):dT prog 134 [] [W n,W least,W lP] (.bool r):=by
 refine dY func134 rfl rfl ?_;unfold xe at hm;refine bp [] [(0,W n),(1,W least),(2,W lP)] []<|asK [(6,.bool ((decide (least≤n))&&(decide (n≤lP))))] [] (λhk=>?_) ?_
 ·rcases j5 (decide (least≤n))with bl|bl
  ·exact bp [(3,aN (cg bl)),(8,aN (oh (q:=decide (n≤lP)) bl))] _ _ hk
  exact bp [(3,aN (cg bl)),(8,aN (r6 (q:=decide (n≤lP)) bl))] _ _ hk
 cases hm;exact A.ret de
def al8{a:dR}{b:dR}{r:Int}(hm:Ef a b=some r):dT prog 131 [] [.agg (gv a),.agg (gv b)] (W r):=by
 refine dY func131 rfl rfl ?_;unfold Ef at hm;refine bp [(0,.al 119),(1,.al 120)] [(2,.ptr 119 0),(3,.ptr 120 0)] [(119,.cells 62 (gv a)),(120,.cells 62 (gv b))] ?_;obtain⟨aG,h1,hm⟩:=bw hm;obtain⟨bt,D,hm⟩:=bw hm;obtain⟨dy,aj,hm⟩:=bw hm;refine bp [(4,cM (vG h1) wB),(9,cM (vG D) wB),(11,cM (MO aj) Kn)] [(4,W dy)] [] ?_;cases hm;exact A.ret de
variable {id:Int}{oq:dQ}
def V3{r:Int}(hm:Bg oq id=some r):dT prog 137 [] [.agg (rR oq),W id] (W r):=by
 refine dY func137 rfl rfl ?_;unfold Bg at hm;refine bp [(0,.al 122)] [(1,W id),(2,.ptr 122 0)] [(122,.cells 31 (rR oq))] ?_;obtain⟨aG,h1,hm⟩:=bw hm;refine bp [(3,cM (vG h1) wB)] [(4,W aG)] [] ?_;cases hm;exact A.ret de
def al0(hm:Ho oq=some r):dT prog 133 [] [.agg (rR oq)] (.bool r):=by
 refine dY func133 rfl rfl ?_;unfold Ho at hm;refine bp [(0,.al 121)] [(1,.ptr 121 0)] [(121,.cells 31 (rR oq))] ?_;obtain⟨aG,h1,hm⟩:=bw hm;refine bp [(2,cM (yL h1) z7)] [(2,.bool (!aG))] [] ?_;cases hm;exact A.ret de
variable {l:dR}
def al1(hm:D9 l=some r):dT prog 139 [] [.agg (gv l)] (.bool r):=by
 refine dY func139 rfl rfl ?_;unfold D9 at hm;refine bp [(0,.al 123)] [(1,.ptr 123 0)] [(123,.cells 62 (gv l))] ?_;obtain⟨aG,h1,hm⟩:=bw hm;rcases cD hm with⟨bl,hm⟩|⟨bl,hm⟩
 ·refine bp [(2,cM (yL h1) z7),(4,aN (cg bl))] [(2,.bool true)] [] ?_;cases hm;exact A.ret de
 obtain⟨bt,D,hm⟩:=bw hm;rcases cD hm with⟨b2,hm⟩|⟨b2,hm⟩
 ·refine bp [(2,cM (yL h1) z7),(4,aN (cg bl)),(7,cM (yL D) z7),(10,aN (cg b2))] [(2,.bool true)] [] ?_;cases hm;exact A.ret de
 obtain⟨dy,aj,hm⟩:=bw hm;refine bp [(2,cM (yL h1) z7),(4,aN (cg bl)),(7,cM (yL D) z7),(10,aN (cg b2)),(13,cM (yL aj) z7)] [(2,.bool (!dy))] [] ?_;cases hm;exact A.ret de
variable {kY:bA}
def Mu(hm:AV id kY=some r):dT prog 135 [] [W id,.fO (cK kY)] (.bool r):=by
 refine dY func135 rfl rfl ?_;unfold AV at hm;refine bp [] [(0,W id),(1,.fO (cK kY))] [] ?_;obtain⟨aG,h1,hm⟩:=bw hm;refine bp [(3,cM (UL (gF:=137) (hr:=[]) (iN:=S3) (iO:=λ_ _ _ h=>V3 h) h1) S2)] [(5,.bool aG.2)] []<|bp [] [(3,.bool (!aG.2))] [] ?_
 cases hm;exact A.ret de
def al2(hm:Hp l kY=some r):dT prog 140 [] [.agg (gv l),.fO [.fn 135 [.fO (cK kY)]]] (.bool r):=by
 refine dY func140 rfl rfl ?_;unfold Hp at hm;refine bp [(0,.al 124)] [(1,.fO [.fn 135 [.fO (cK kY)]]),(2,.ptr 124 0)] [(124,.cells 62 (gv l))] ?_;obtain⟨aG,h1,hm⟩:=bw hm;rcases cD hm with⟨bl,hm⟩|⟨bl,hm⟩
 ·refine bp [(3,hle [] (Mu h1) Ko),(4,aN (cg bl))] [(3,.bool true)] [] ?_;cases hm;exact A.ret de
 obtain⟨bt,D,hm⟩:=bw hm;refine bp [(3,hle [] (Mu h1) Ko),(4,aN (cg bl)),(8,hle [] (Mu D) Ko)] [(3,.bool bt)] [] ?_;cases hm;exact A.ret de
def al3(hm:Hq l=some r):dT prog 141 [] [.agg (gv l)] (.bool r):=by
 refine dY func141 rfl rfl ?_;unfold Hq at hm;refine bp [(0,.al 125)] [(1,.ptr 125 0)] [(125,.cells 62 (gv l))]<|bp [] [(2,.d (l.B≤l.A))] [] ?_
 cases hm;exact A.ret de
variable {t:bA}
def Mz{r:Int}(hm:yK t=some r):dT prog 71 [] [.agg (cK t)] (W r):=by
 refine dY func71 rfl rfl ?_;unfold yK at hm;refine bp [(0,.al 28)] [(1,.ptr 28 0)] [(28,.cells 28 (cK t))]<|A.seq<|A.block<|asK [(1,.ptr 28 0),(6,.bool ((decide (24<(t.bC.length:Int)))||(decide (60<(t.Links.length:Int)))))] [(28,.cells 28 (cK t))] (λhk=>?_) ?_
 ·rcases j5 (decide (24<(t.bC.length:Int)))with bl|bl
  ·exact bp [(2,aN (eG ec t.bC)),(4,aN (cg bl)),(10,aN (p3 (q:=decide (60<(t.Links.length:Int))) bl))] _ _ hk
  exact bp [(2,aN (eG ec t.bC)),(4,aN (cg bl)),(7,aN (eG eT t.Links)),(10,aN (i5 (q:=decide (60<(t.Links.length:Int))) bl))] _ _ hk
 rcases cD hm with⟨b2,hm⟩|⟨b2,hm⟩
 ·refine cm b2<|bp [] [(2,W 3)] [] ?_
  cases hm;exact A.ret de
 refine ck b2 ?_;obtain⟨aG,h1,hm⟩:=bw hm;refine bh [(2,cM (ak2 (iW:=133) (jY:=[]) (nX:=ahY) (nW:=λ_ _ h=>al0 h) h1) ahX)] [6] [(17,.bool aG)] ?_;rcases cD hm with⟨c9,hm⟩|⟨c9,hm⟩
 ·refine cm c9<|bp [] [(2,W 2)] [] ?_
  cases hm;exact A.ret de
 refine ck c9<|A.skip<|A.seq<|bh [(2,aN (eG ec t.bC))] [17] [(23,W t.bC.length),(24,W 0)]<|A.block<|asS 1 0 rfl rfl rfl λfA=>?_
 obtain⟨hJ,hK,hv,hw,hm⟩:=iM hm;refine asz (l:=t.bC) (hj:=0) (B:=hJ) (K:=hK) hm (λbk=>λ()=>[(1,.ptr 28 0),(23,W t.bC.length),(24,W bk)]) (λbk=>λ()=>[(28,.cells 28 (cK t))]) ?_ ?_ ?_
 ·exact gw
 ·rintro bk aJ c1 ⟨⟩ hP cH hm;rw[hv]at hm;refine bh [] [] [(25,.d ((bk:Int)<t.bC.length))]<|A.seq<|cm (iC cH)<|A.skip<|A.seq<|A.block<|bh [] [25] [(3,W bk)] ?_
  obtain⟨eC,j0,hm⟩:=je hm;refine A.J (J:=eC) (r:=r) (λfT=>[(1,.ptr 28 0),(23,W t.bC.length),(24,W bk),(44,.bool fT)]) (λfT=>[(28,.cells 28 (cK t))]) ?_ ?_
  ·rcases cD hm with⟨e3,hm⟩|⟨e3,hm⟩
   ·obtain⟨en,D,hm⟩:=bw hm;exact dV [(2,aN (cg e3)),(7,ds (ix ec D)),(13,ds (ix ec (gT cH)))] [3] [(44,.d (aJ.cu≤en.cu))]<|cR (decide (aJ.cu≤en.cu)) hm
   exact dV [(2,aN (cg e3))] [3] [(44,.bool false)]<|cR false hm
  rintro fT hm;rw[j0]at hm;rcases cD hm with⟨gm,hm⟩|⟨gm,hm⟩
  ·refine cm gm<|bp [] [(2,W 25)] [] ?_
   cases hm;exact A.ret de
  exact ck gm<|A.skip<|dV [(0,aN (hY cH fA))] [24,44] [(24,W ((bk+1:Nat):Int))]<|cR () hm
 rintro bk ⟨⟩ hP gh hm;rw[hw]at hm;refine bh [] [] [(25,.d ((bk:Int)<t.bC.length))]<|A.seq<|ck (iB gh)<|A.exit<|fs [(1,.al 98)] [23,24,25] [(4,.ptr 98 0)] [] [(98,.c 188 [.fn 135 [.ptr 28 0]])]<|A.seq<|A.block ?_
 obtain⟨bt,aj,hm⟩:=bw hm;refine bh [(2,cM (K9 (iW:=139) (jY:=[]) (nX:=ahZ) (nW:=λ_ _ h=>al1 h) aj) Kq)] [] [(47,.bool bt)] ?_;rcases cD hm with⟨hT,hm⟩|⟨hT,hm⟩
 ·refine cm hT<|bp [] [(2,W 2)] [] ?_
  cases hm;exact A.ret de
 refine ck hT ?_;obtain⟨dy,a1,hm⟩:=bw hm;refine fs [(3,hle [98,28] (K9 (iW:=140) (jY:=[.fO [.fn 135 [.fO (cK t)]]]) (nX:=ah0) (nW:=λ_ _ h=>al2 h) a1) Kq)] [4,47] [(51,.bool dy)] [98] [] ?_;rcases cD hm with⟨jc,hm⟩|⟨jc,hm⟩
 ·refine cm jc<|bp [] [(2,W 4)] [] ?_
  cases hm;exact A.ret de
 refine ck jc ?_;obtain⟨dz,bU,hm⟩:=bw hm;refine bh [(2,cM (K9 (iW:=141) (jY:=[]) (nX:=ah1) (nW:=λ_ _ h=>al3 h) bU) Kq)] [51] [(56,.bool dz)] ?_;rcases cD hm with⟨kN,hm⟩|⟨kN,hm⟩
 ·refine cm kN<|bp [] [(2,W 8)] [] ?_
  cases hm;exact A.ret de
 refine ck kN<|A.skip<|A.seq<|bh [(2,aN (eG eT t.Links))] [56] [(62,W t.Links.length),(63,W 0)]<|A.block<|asS 1 1 rfl rfl rfl λeS=>?_
 obtain⟨nO,km,n0,n3,hm⟩:=iM hm;refine asz (l:=t.Links) (hj:=0) (B:=nO) (K:=km) hm (λdn=>λ()=>[(1,.ptr 28 0),(62,W t.Links.length),(63,W dn)]) (λdn=>λ()=>[(28,.cells 28 (cK t))]) ?_ ?_ ?_
 ·exact gw
 ·rintro dn e2 hR ⟨⟩ j2 gi hm;rw[n0]at hm;refine bh [] [] [(64,.d ((dn:Int)<t.Links.length))]<|A.seq<|cm (iC gi)<|A.skip<|A.seq<|A.block<|bh [] [64] [(5,W dn)] ?_
  obtain⟨fZ,j1,hm⟩:=je hm;refine A.J (J:=fZ) (r:=r) (λmw=>[(1,.ptr 28 0),(62,W t.Links.length),(63,W dn),(82,.bool mw)]) (λmw=>[(28,.cells 28 (cK t))]) ?_ ?_
  ·rcases cD hm with⟨kX,hm⟩|⟨kX,hm⟩
   ·obtain⟨er,dP,hm⟩:=bw hm;obtain⟨gN,fz,hm⟩:=bw hm;exact dV [(2,aN (cg kX)),(7,ds (ix eT dP)),(12,ds (ix eT (gT gi))),(14,cM (al8 fz) ahW)] [5] [(82,.d (0≤gN))]<|cR (decide (0≤gN)) hm
   exact dV [(2,aN (cg kX))] [5] [(82,.bool false)]<|cR false hm
  rintro mw hm;rw[j1]at hm;rcases cD hm with⟨l8,hm⟩|⟨l8,hm⟩
  ·refine cm l8<|bp [] [(2,W 25)] [] ?_
   cases hm;exact A.ret de
  exact ck l8<|A.skip<|dV [(0,aN (hY gi eS))] [63,82] [(63,W ((dn+1:Nat):Int))]<|cR () hm
 rintro dn ⟨⟩ j2 kU hm;rw[n3]at hm;refine bh [] [] [(64,.d ((dn:Int)<t.Links.length))]<|A.seq<|ck (iB kU)<|A.exit<|bp [] [(2,W 0)] [] ?_
 cases hm;exact A.ret de
def VY(hm:Ej t=some r):dT prog 129 [] [.agg (cK t)] (.bool r):=by
 refine dY func129 rfl rfl ?_;unfold Ej at hm;refine bp [(0,.al 118)] [(1,.ptr 118 0)] [(118,.cells 28 (cK t))] ?_;obtain⟨aG,h1,hm⟩:=bw hm;refine bp [(1,cM (Mz h1) KY)] [(2,.d (aG=0))] [] ?_;cases hm;exact A.ret de
variable {nx:Int}
def anX{r:dQ×Bool}(hm:Eg t nx=some r):dT prog 144 [] [.agg (cK t),W nx] (.cI [.agg (rR r.1),.bool r.2]):=by
 refine dY func144 rfl rfl ?_;unfold Eg at hm;refine bp [(0,.al 83),(1,.al 71)] [(1,W nx),(2,.ptr 83 0),(4,.ptr 71 0)] [(83,.cells 28 (cK t)),(71,.c 31 [W 0,.bool false])] ?_;obtain⟨aG,h1,hm⟩:=bw hm;refine bh [(3,cM (UL (gF:=137) (hr:=[]) (iN:=S3) (iO:=λ_ _ _ h=>V3 h) h1) S2)] [1] [(6,W aG.1),(7,.bool aG.2)]<|A.seq<|bh [] [7] [(16,.bool (!aG.2))] ?_
 rcases cD hm with⟨bl,hm⟩|⟨bl,hm⟩
 ·refine cm bl<|fs [] [2,6,16] [(5,.bool false)] [83] [] ?_
  cases hm;exact A.ret de
 refine ck bl<|A.skip ?_
 obtain⟨en,D,hm⟩:=bw hm;refine bp [(3,ds (ix ec D))] [(4,.ptr 71 0),(5,.bool true)] [(71,.cells 31 (rR en))] ?_;cases hm;exact A.ret de
def V7(hm:Bl t nx=some r):dT prog 73 [] [.agg (cK t),W nx] (.bool r):=by
 refine dY func73 rfl rfl ?_;unfold Bl at hm;refine bp [(0,.al 106)] [(1,W nx),(2,.ptr 106 0)] [(106,.cells 28 (cK t))] ?_;obtain⟨aG,h1,hm⟩:=bw hm;refine bh [(2,cM (anX h1) ah2),(6,.al 73005)] [1] [(6,.bool aG.2)] ?_;obtain⟨bt,D,hm⟩:=bw hm;rcases cD hm with⟨bl,hm⟩|⟨bl,hm⟩
 ·refine bp [(1,cM (VY D) S1),(2,aN (cg bl))] [(4,.bool aG.2)] [] ?_;cases hm;exact A.ret de
 refine bp [(1,cM (VY D) S1),(2,aN (cg bl))] [(4,.bool false)] [] ?_;cases hm;exact A.ret de
end
section
open Go Go.Proofs.Tryz List
set_option maxRecDepth 100000
set_option linter.all false
variable {fh:Int}
def anE{r:Int}(hm:ME fh=some r):dT prog 207 [] [.int .u64 fh] (W r):=by
 refine dY func207 rfl rfl ?_;unfold ME at hm;refine bp [] [(0,.int .u64 fh),(2,W 0)] [] ?_;obtain⟨eC,j0,hm⟩:=je hm;refine A.J (J:=eC) (r:=r) (λ(aG,hZ)=>[(0,.int .u64 aG),(2,W hZ)]) (λ(aG,hZ)=>[]) ?_ ?_
 ·refine bh [] [] [(4,.d (4294967296≤fh))] ?_;rcases cD hm with⟨bl,hm⟩|⟨bl,hm⟩
  ·exact cm bl<|bp [(1,.sh (32:Int) (by decide))] [(0,.int .u64 (Int.fdiv fh (2 ^ min (32:Int).toNat 64)))] []<|dV [] [] [(2,W 32)]<|cR (Int.fdiv fh (2 ^ min (32:Int).toNat 64),(32:Int)) hm
  exact ck bl<|A.skip<|cR (fh,(0:Int)) hm
 rintro⟨aG,hZ⟩ hm;rw[j0]at hm;obtain⟨fZ,j1,hm⟩:=je hm;refine A.J (J:=fZ) (r:=r) (λ(bt,wh)=>[(0,.int .u64 bt),(2,W wh)]) (λ(bt,wh)=>[]) ?_ ?_
 ·refine bh [] [] [(8,.d (65536≤aG))] ?_;rcases cD hm with⟨b2,hm⟩|⟨b2,hm⟩
  ·exact cm b2<|bh [(1,.sh (16:Int) (by decide))] [0,8] [(0,.int .u64 (Int.fdiv aG (2 ^ min (16:Int).toNat 64)))]<|dV [] [2] [(2,W (aF (hZ+16)))]<|cR (Int.fdiv aG (2 ^ min (16:Int).toNat 64),aF (hZ+16)) hm
  exact ck b2<|A.skip<|cR (aG,hZ) hm
 rintro⟨bt,wh⟩ hm;rw[j1]at hm;obtain⟨j7,oB,hm⟩:=je hm;refine A.J (J:=j7) (r:=r) (λ(dy,BG)=>[(0,.int .u64 dy),(2,W BG)]) (λ(dy,BG)=>[]) ?_ ?_
 ·refine bh [] [] [(14,.d (256≤bt))] ?_;rcases cD hm with⟨c9,hm⟩|⟨c9,hm⟩
  ·exact cm c9<|bh [(1,.sh (8:Int) (by decide))] [0,14] [(0,.int .u64 (Int.fdiv bt (2 ^ min (8:Int).toNat 64)))]<|dV [] [2] [(2,W (aF (wh+8)))]<|cR (Int.fdiv bt (2 ^ min (8:Int).toNat 64),aF (wh+8)) hm
  exact ck c9<|A.skip<|cR (bt,wh) hm
 rintro⟨dy,BG⟩ hm;rw[oB]at hm;obtain⟨ou,h1,hm⟩:=bw hm;refine bp [(3,.is (⟨#[0,1,2,2,3,3,3,3,4,4,4,4,4,4,4,4,5,5,5,5,5,5,5,5,5,5,5,5,5,5,5,5,6,6,6,6,6,6,6,6,6,6,6,6,6,6,6,6,6,6,6,6,6,6,6,6,6,6,6,6,6,6,6,6,7,7,7,7,7,7,7,7,7,7,7,7,7,7,7,7,7,7,7,7,7,7,7,7,7,7,7,7,7,7,7,7,7,7,7,7,7,7,7,7,7,7,7,7,7,7,7,7,7,7,7,7,7,7,7,7,7,7,7,7,7,7,7,7,8,8,8,8,8,8,8,8,8,8,8,8,8,8,8,8,8,8,8,8,8,8,8,8,8,8,8,8,8,8,8,8,8,8,8,8,8,8,8,8,8,8,8,8,8,8,8,8,8,8,8,8,8,8,8,8,8,8,8,8,8,8,8,8,8,8,8,8,8,8,8,8,8,8,8,8,8,8,8,8,8,8,8,8,8,8,8,8,8,8,8,8,8,8,8,8,8,8,8,8,8,8,8,8,8,8,8,8,8,8,8,8,8,8,8,8,8,8,8,8,8,8,8,8,8,8,8,8]⟩:ByteArray) (IntKind.wrap .u8 dy) ou (Y7 h1))] [(2,W (aF (BG+(aF (ou.toNat:Int)))))] [] ?_;cases hm;exact A.ret de
def anM{r:Int}(hm:MP fh=some r):dT prog 178 [] [.int .u64 fh] (W r):=by
 refine dY func178 rfl rfl ?_;unfold MP at hm;refine bp [] [(0,.int .u64 fh)] []<|A.seq<|asA rfl rfl<|A.skip ?_
 obtain⟨aG,h1,hm⟩:=bw hm;refine bp [(1,cM (anE h1) ahB)] [(2,W aG)] [] ?_;cases hm;exact A.ret de
variable {r:Unit}
def ak8(hm:Ld=some r):dT prog 216 [] [.c4,W 0,W 0] (.cI []):=by
 refine dY func216 rfl rfl ?_;unfold Ld at hm;refine bp [] [(0,.c4),(1,W 0),(2,W 0),(6,W 1)] []<|A.block ?_
 obtain⟨mO,hH,mW,hm⟩:=nv hm;refine asL (F:=mO) hm (λ()=>[(0,.c4),(1,W 0),(2,W 0),(6,W 1)]) (λ()=>[]) ?_ ?_
 ·exact gw
 rintro c1 ⟨⟩ hm;rw[mW]at hm;refine A.seq<|bh [] [] [(12,.bool false)] ?_
 refine asA rfl rfl<|A.exit ?_
 obtain rfl:=kL hm;exact asy bS [] rfl (by kernel_rfl)
def alk{Ex:Int}(hm:Lg Ex=some r):dT prog 182 [] [.c4,W 0,W 0,W Ex] (.cI []):=by
 refine dY func182 rfl rfl ?_;unfold Lg at hm;refine bp [] [(0,.c4),(1,W 0),(2,W 0),(3,W Ex),(8,.bool true)] []<|bh [] [] [(9,.bool true)]<|A.block ?_
 obtain⟨mO,hH,mW,hm⟩:=nv hm;refine asL (F:=mO) hm (λ()=>[(0,.c4),(1,W 0),(2,W 0),(3,W Ex),(8,.bool true),(9,.bool true)]) (λ()=>[]) ?_ ?_
 ·exact gw
 rintro c1 ⟨⟩ hm;rw[mW]at hm;refine A.block<|bh [] [] [(10,W 0)] ?_
 refine A.seq<|bh [] [] [(23,.bool true)] ?_
 refine asC rfl rfl ?_;obtain⟨aG,h1,hm⟩:=bw hm;refine bp [(3,TC 1 (ak8 h1) ahC)] [] [] ?_;cases hm;exact A.ret de
def alz(hm:VO=some r):dT prog 145 [] [.c4] (.cI []):=by
 refine dY func145 rfl rfl ?_;unfold VO at hm;refine bp [] [(0,.c4),(2,W 0)] [] ?_;obtain⟨aG,h1,hm⟩:=bw hm;obtain⟨bt,D,hm⟩:=bw hm;refine B3 [(4,cM (anM h1) ahu),(5,TC 1 (alk D) ahx)] [] [] ?_;obtain rfl:=kL hm;exact asy bS [] rfl (by kernel_rfl)
end
section
set_option linter.all false
open Go Go.Proofs.Tryz
def atB:Shelf.Ren:=
 {  f:=λx=>match x with|189=>145|125=>178|257=>182|128=>206|129=>207|294=>216|295=>217|296=>218|297=>219|298=>220|299=>221|216=>185|300=>222|301=>223|328=>243|329=>236|330=>237|331=>244|332=>245|215=>164|343=>260|n=>n,t:=λx=>match x with|28=>22|3=>3|46=>178|0=>0|51=>252|53=>254|4=>4|183=>246|182=>245|131=>89|5=>5|9=>9|218=>272|222=>276|228=>289|229=>290|n=>n,g:=λn=>n}
def atz:Lays.n189 prog atB:=
  {mixed:=by kernel_rfl,f125:=Eq.trans func178 (congrArg some (by kernel_rfl)),f128:=Eq.trans func206 (congrArg some (by kernel_rfl)),
     f129:=Eq.trans func207 (congrArg some (by kernel_rfl)),f189:=Eq.trans func145 (congrArg some (by kernel_rfl)),f215:=Eq.trans func164 (congrArg some (by kernel_rfl)),
     f216:=Eq.trans func185 (congrArg some (by kernel_rfl)),f257:=Eq.trans func182 (congrArg some (by kernel_rfl)),f294:=Eq.trans func216 (congrArg some (by kernel_rfl)),
     f295:=Eq.trans func217 (congrArg some (by kernel_rfl)),f296:=Eq.trans func218 (congrArg some (by kernel_rfl)),f297:=Eq.trans func219 (congrArg some (by kernel_rfl)),
     f298:=Eq.trans func220 (congrArg some (by kernel_rfl)),f299:=Eq.trans func221 (congrArg some (by kernel_rfl)),f300:=Eq.trans func222 (congrArg some (by kernel_rfl)),
     f301:=Eq.trans func223 (congrArg some (by kernel_rfl)),f328:=Eq.trans func243 (congrArg some (by kernel_rfl)),f329:=Eq.trans func236 (congrArg some (by kernel_rfl)),
     f330:=Eq.trans func237 (congrArg some (by kernel_rfl)),f331:=Eq.trans func244 (congrArg some (by kernel_rfl)),f332:=Eq.trans func245 (congrArg some (by kernel_rfl)),
     f343:=Eq.trans func260 (congrArg some (by kernel_rfl)),t0:=underlying0,a0:=isAgg0,z0:=sizeOf0,v0:=zeroValue0,t3:=underlying3,a3:=isAgg3,
     z3:=sizeOf3,v3:=zeroValue3,t4:=underlying4,a4:=isAgg4,z4:=sizeOf4,v4:=zeroValue4,t5:=underlying5,a5:=isAgg5,z5:=sizeOf5,
     v5:=zeroValue5,t9:=underlying9,a9:=isAgg9,z9:=sizeOf9,v9:=zeroValue9,t28:=underlying22,a28:=isAgg22,z28:=sizeOf22,v28:=zeroValue22,
     t46:=underlying178,a46:=isAgg178,z46:=sizeOf178,v46:=zeroValue178,t51:=underlying252,a51:=isAgg252,z51:=sizeOf252,v51:=zeroValue252,
     t53:=underlying254,a53:=isAgg254,z53:=sizeOf254,v53:=zeroValue254,t131:=underlying89,a131:=isAgg89,z131:=sizeOf89,v131:=zeroValue89,
     t182:=underlying245,a182:=isAgg245,z182:=sizeOf245,v182:=zeroValue245,t183:=underlying246,a183:=isAgg246,z183:=sizeOf246,v183:=zeroValue246,
     t218:=underlying272,a218:=isAgg272,z218:=sizeOf272,v218:=zeroValue272,t222:=underlying276,a222:=isAgg276,z222:=sizeOf276,v222:=zeroValue276,
     t228:=underlying289,a228:=isAgg289,z228:=sizeOf289,v228:=zeroValue289,t229:=underlying290,a229:=isAgg290,z229:=sizeOf290,v229:=zeroValue290}
def aas:Qj prog 145:=λb1 off aO zs w h1 D aj=>Any.slices_Sort_int atz b1 off aO zs w h1 D aj
end
section
set_option linter.all false
open Go Go.Proofs.Tryz
def aat{d T:Nat}(zs:cq)(h:zs.length<4611686018427387904):eP prog 145 [(d,.slice T 1 (ax aI zs) 0 false)] [.own d] (λa az=>a=.cI []∧az=[(d,.slice T 1 (ax aI (fN zs)) 0 false)]):=
 XU aas (alz (r:=()) (by kernel_rfl)) zs h
end
section
open Go Go.Proofs.Tryz List
set_option maxRecDepth 100000
set_option linter.all false
def anF{t:cq}{r:eD}(hm:Ea t=some r):eP prog 12 [] [bO aI t] (λa az=>a=.ptr 1 0∧az=[(1,.cells 103 (iS r))]):=by
 refine dY func12 rfl rfl ?_;unfold Ea at hm;refine bp [] [(0,bO aI t)] [] ?_;obtain⟨ew,h1,hm⟩:=bw hm;refine bp [(2,aN (eG aI t)),(4,iA (sl aI h1)),(6,.al 108)] [(2,.ptr 108 0)] [(108,.c 103 [bO aI ew,W 0])]<|A.ret ?_
 obtain rfl:=kL hm;exact asy bS [.mu 108 1] rfl (by kernel_rfl)
variable {r:Int×eD}{t:eD}
def alP(hm:DH t=some r):eP prog 61 [(1,.cells 103 (iS t))] [.ptr 1 0] (λa az=>a=W r.1∧az=[(1,.cells 103 (iS r.2))]):=by
 refine dY func61 rfl rfl ?_;unfold DH at hm;refine bp [] [(0,.ptr 1 0)] [(1,.cells 103 (iS t))]<|A.seq<|bh [(8,aN (eG aI t.L))] [] [(12,.d ((t.L.length:Int)≤t.At))] ?_
 rcases cD hm with⟨bl,hm⟩|⟨bl,hm⟩
 ·refine cm bl<|bh [] [0,12] [(2,W 0)] ?_
  cases hm;exact A.ret de
 refine ck bl<|A.skip<|fs [] [12] [] [1] [(1,.c 103 [bO aI t.L,W (aF (t.At+1))])] ?_
 obtain⟨en,h1,hm⟩:=bw hm;refine bh [(9,ds (ix aI h1))] [0] [(2,W en)] ?_;cases hm;exact A.ret de
def anG{fh:Int}{n:Int}{r:Int}(hm:Eb fh n=some r):dT prog 60 [] [W fh,W n] (W r):=by
 refine dY func60 rfl rfl ?_;unfold Eb at hm;refine bp [] [(0,W fh),(1,W n)] []<|A.seq<|bh [] [] [(6,.d (n<1))] ?_
 rcases cD hm with⟨bl,hm⟩|⟨bl,hm⟩
 ·refine cm bl<|bp [] [(4,W 0)] [] ?_
  cases hm;exact A.ret de
 refine ck bl<|A.skip ?_
 obtain⟨h1,hm⟩:=qc hm;refine bh [(2,.qr n (of_decide_eq_true h1))] [0,6] [(0,W (Int.tmod fh n))] ?_;obtain⟨eC,j0,hm⟩:=je hm;refine A.J (J:=eC) (r:=r) (λaG=>[(0,W aG)]) (λaG=>[]) ?_ ?_
 ·refine bh [] [] [(11,.d (Int.tmod fh n<0))] ?_;rcases cD hm with⟨b2,hm⟩|⟨b2,hm⟩
  ·exact cm b2<|B3 [] [(0,W (aF ((Int.tmod fh n)+n)))] []<|cR (aF ((Int.tmod fh n)+n)) hm
  exact ck b2<|A.skip<|cR (Int.tmod fh n) hm
 rintro aG hm;rw[j0]at hm;refine bp [] [(4,W aG)] [] ?_;cases hm;exact A.ret de
def ti{n:Int}(hm:pz t n=some r):eP prog 14 [(1,.cells 103 (iS t))] [.ptr 1 0,W n] (λa az=>a=W r.1∧az=[(1,.cells 103 (iS r.2))]):=by
 refine dY func14 rfl rfl ?_;unfold pz at hm;refine bp [] [(0,.ptr 1 0),(1,W n)] [(1,.cells 103 (iS t))] ?_;obtain⟨aG,h1,hm⟩:=bw hm;obtain⟨bt,D,hm⟩:=bw hm;refine bp [(1,fM [] (alP h1) aiF),(3,cM (anG D) aiE)] [(4,W bt)] [(1,.cells 103 (iS aG.2))] ?_;cases hm;exact A.ret de
def Mm{lo:Int}{hi:Int}(hm:yD t lo hi=some r):eP prog 28 [(1,.cells 103 (iS t))] [.ptr 1 0,W lo,W hi] (λa az=>a=W r.1∧az=[(1,.cells 103 (iS r.2))]):=by
 refine dY func28 rfl rfl ?_;unfold yD at hm;refine bp [] [(0,.ptr 1 0),(1,W lo),(2,W hi)] [(1,.cells 103 (iS t))] ?_;obtain⟨aG,h1,hm⟩:=bw hm;refine bp [(6,fM [] (ti h1) uj)] [(6,W (aF (lo+aG.1)))] [(1,.cells 103 (iS aG.2))] ?_;cases hm;exact A.ret de
variable {l:cq}
def GB(hm:w8 t l=some r):eP prog 59 [(1,.cells 103 (iS t))] [.ptr 1 0,bO aI l] (λa az=>a=W r.1∧az=[(1,.cells 103 (iS r.2))]):=by
 refine dY func59 rfl rfl ?_;unfold w8 at hm;refine bp [] [(0,.ptr 1 0),(1,bO aI l)] [(1,.cells 103 (iS t))] ?_;obtain⟨aG,h1,hm⟩:=bw hm;obtain⟨en,D,hm⟩:=bw hm;refine bp [(3,aN (eG aI l)),(4,fM [] (ti h1) uj),(5,ds (ix aI D))] [(4,W en)] [(1,.cells 103 (iS aG.2))] ?_;cases hm;exact A.ret de
variable {l5:Int}
def anA{r:Bool}(hm:Ek l l5=some r):dT prog 26 [] [bO aI l,W l5] (.bool r):=by
 refine dY func26 rfl rfl ?_;unfold Ek at hm;refine bp [] [(0,bO aI l),(1,W l5)] []<|A.seq<|bh [] [] [(5,W 0)]<|A.block<|asH 0 rfl λfA=>?_
 obtain⟨hJ,hK,hv,hw,hm⟩:=iM hm;refine asz (l:=l) (hj:=0) (B:=hJ) (K:=hK) hm (λbk=>λ()=>[(0,bO aI l),(1,W l5),(5,W bk)]) (λbk=>λ()=>[]) ?_ ?_ ?_
 ·exact gw
 ·rintro bk aJ c1 ⟨⟩ hP cH hm;rw[hv]at hm;refine A.seq<|bh [(2,aN (eG aI l))] [] [(9,.d ((bk:Int)<l.length))] ?_
  refine cm (iC cH)<|A.skip<|A.seq<|A.block<|bh [(2,ds (ix aI (gT cH)))] [9] [(17,.d (aJ=l5))] ?_
  rcases cD hm with⟨bl,hm⟩|⟨bl,hm⟩
  ·refine cm bl<|bp [] [(4,.bool true)] [] ?_
   cases hm;exact A.ret de
  exact ck bl<|A.skip<|dV [(1,aN (hY cH fA))] [5,17] [(5,W ((bk+1:Nat):Int))]<|cR () hm
 rintro bk ⟨⟩ hP gh hm;rw[hw]at hm;refine A.seq<|bh [(2,aN (eG aI l))] [] [(9,.d ((bk:Int)<l.length))] ?_
 refine ck (iB gh)<|A.exit<|bp [] [(4,.bool false)] [] ?_
 cases hm;exact A.ret de
def V1{r:(cq)}(hm:xc l l5=some r):dT prog 46 [] [bO aI l,W l5] (bO aI r):=by
 refine dY func46 rfl rfl ?_;unfold xc at hm;refine bp [] [(0,bO aI l),(1,W l5)] []<|bh [] [] [(5,W 0)]<|A.seq<|A.block ?_
 obtain⟨mO,hH,mW,hm⟩:=nv hm;refine asL (F:=mO) hm (λkj=>[(0,bO aI l),(1,W l5),(5,W kj)]) (λkj=>[]) ?_ ?_
 ·exact gw
 rintro c1 kj hm;rw[mW]at hm;refine A.seq ?_;obtain⟨eC,j0,hm⟩:=je hm;refine A.J (J:=eC) (r:=r) (λfT=>[(0,bO aI l),(1,W l5),(5,W kj),(18,.bool fT)]) (λfT=>[]) ?_ ?_
 ·rcases cD hm with⟨bl,hm⟩|⟨bl,hm⟩
  ·obtain⟨en,h1,hm⟩:=bw hm;exact dV [(2,aN (eG aI l)),(4,aN (cg bl)),(7,ds (ix aI h1))] [] [(18,.d (en<l5))]<|cR (decide (en<l5)) hm
  exact dV [(2,aN (eG aI l)),(4,aN (cg bl))] [] [(18,.bool false)]<|cR false hm
 rintro fT hm;rw[j0]at hm;rcases cD hm with⟨b2,hm⟩|⟨b2,hm⟩
 ·exact cm b2<|A.skip<|A.block<|dV [] [5,18] [(5,W (aF (kj+1)))]<|cR (aF (kj+1)) hm
 refine ck b2<|A.exit<|A.seq ?_
 obtain⟨fZ,j1,hm⟩:=je hm;refine A.J (J:=fZ) (r:=r) (λmw=>[(0,bO aI l),(1,W l5),(5,W kj),(32,.bool mw)]) (λmw=>[]) ?_ ?_
 ·rcases cD hm with⟨c9,hm⟩|⟨c9,hm⟩
  ·obtain⟨er,D,hm⟩:=bw hm;exact dV [(2,aN (eG aI l)),(4,aN (cg c9)),(7,ds (ix aI D))] [18] [(32,.d (er=l5))]<|cR (decide (er=l5)) hm
  exact dV [(2,aN (eG aI l)),(4,aN (cg c9))] [18] [(32,.bool false)]<|cR false hm
 rintro mw hm;rw[j1]at hm;rcases cD hm with⟨e3,hm⟩|⟨e3,hm⟩
 ·refine cm e3<|bp [] [(4,bO aI l)] [] ?_
  cases hm;exact A.ret de
 refine ck e3<|A.skip ?_
 obtain⟨ew,aj,hm⟩:=bw hm;obtain⟨gr,a1,hm⟩:=bw hm;refine fs [(1,.al 46035),(4,iA (ami aI aj)),(5,oE 110 (ap aI (bytes:=8) (by decide) a1))] [1,32] [(6,.own 110)] [] [(110,.slice 3 1 (ax aI gr) 0 false)] ?_;obtain⟨jy,bU,hm⟩:=bw hm;obtain⟨lM,dP,hm⟩:=bw hm;refine asx bS [.c5 [110]] [(3,zc (sl aI bU)),(5,ajw 111 FP (ap aI (bytes:=8) (by decide) dP) (afC aI a1 (Nat.succ_pos _)))] [(4,.own 111)] [(111,.slice 3 1 (ax aI lM) 0 false)] (by kernel_rfl)<|A.ret ?_
 obtain rfl:=kL hm;exact asy bS [.c5 [111]] rfl (by kernel_rfl)
end
section
open Go Go.Proofs.Tryz List
set_option maxRecDepth 100000
set_option linter.all false
def anY{t:eD}{lP:Int}{r:bA×eD}(hm:Es t lP=some r):eP prog 13 [(1,.cells 103 (iS t))] [.ptr 1 0,W lP] (λa az=>a=.agg [bO ec r.1.bC,.own 22]∧az=[(1,.cells 103 (iS r.2)),(22,.slice 62 5 (ax eT r.1.Links) 0 false)]):=by
 refine dY func13 rfl rfl ?_;unfold Es at hm;refine bp [(0,.al 12)] [(0,.ptr 1 0),(1,W lP),(4,.ptr 12 0)] [(1,.cells 103 (iS t)),(12,.c 28 [.c4,.c4])] ?_;obtain⟨aG,h1,hm⟩:=bw hm;refine fs [(2,fM [] (Mm h1) KV)] [1] [(5,W aG.1)] [1] [(1,.cells 103 (iS aG.2))]<|fs [(0,.al 13)] [] [(6,.ptr 13 0)] [] [(13,.c 28 [.c4,.c4])]<|bh [] [] [(7,W 0)]<|A.seq<|bh [] [] [(8,W 0)]<|A.block ?_
 obtain⟨yW,hm⟩:=qc hm;obtain⟨hJ,hK,hv,hw,hm⟩:=zG hm;refine as4 (hi:=aG.1) (B:=hJ) (K:=hK) hm rfl (λbk=>λ(vt,ct,eN,dU)=>[(0,.ptr 1 0),(4,.ptr 12 0),(5,W aG.1),(6,.ptr 13 0),(7,W vt),(8,W bk)]) (λbk=>λ(vt,ct,eN,dU)=>[(1,.c 103 [bO aI eN,W dU]),(12,.c 28 [.c4,.c4]),(13,.c 28 [.own 17,.c4]),(17,.slice 31 2 (ax ec ct) 0 false)]) ?_ ?_ ?_
 ·exact kK [.ac 13 17 31 2 0] []
 ·rintro bk c1 ⟨vt,ct,eN,dU⟩ hP cH hm;rw[hv]at hm;refine A.seq<|bh [] [] [(24,.d ((bk:Int)<aG.1))] ?_
  refine asC rfl (decide_eq_true cH)<|A.skip<|A.seq<|A.block ?_
  obtain⟨bt,D,hm⟩:=bw hm;refine fs [(3,fM [] (GB D) Ge)] [7,24] [(7,W (aF (vt+bt.1)))] [1] [(1,.cells 103 (iS bt.2))] ?_;obtain⟨ew,aj,hm⟩:=bw hm;exact jj [(5,oE 88 (ap ec (bytes:=16) (by decide) aj))] [] [] [13,17] [(13,.c 28 [.own 88,.c4]),(88,.slice 31 2 (ax ec ew) 0 false)]<|dV [(1,aN (Ah (by omega) cH (of_decide_eq_true yW)))] [8] [(8,W (bk+1:Int))]<|Exists.intro (aF (vt+bt.1),ew,bt.2.L,bt.2.At) (And.intro hm (kK [.mu 88 17] []))
 rintro bk ⟨vt,ct,eN,dU⟩ hP gh hm;rw[hw]at hm;refine A.seq<|bh [] [] [(24,.d ((bk:Int)<aG.1))] ?_
 refine asA rfl (AT gh)<|A.exit ?_
 obtain⟨a1,hm⟩:=qc hm;refine fs [(1,akq 13040 aG.1 RB Rq a1 (by decide))] [7,8,24] [(9,.own 13040)] [] [(13040,.slice 106 1 (List.replicate aG.1.toNat [.c4]) 0 false)]<|asD ((aut (d:=13040) (e:=450013040) 4 1 iu.enc (ahc a1) rfl rfl rfl rfl rfl))<|A.seq<|bp [(1,xz 4 1 iu.enc (List.replicate aG.1.toNat []:jd) x7)] [(0,.ptr 1 0),(4,.ptr 12 0),(5,W aG.1),(6,.ptr 13 0),(9,.own 13040),(42,W ((List.replicate aG.1.toNat []:jd).length:Int)),(43,W 0)] [(1,.c 103 [bO aI eN,W dU]),(12,.c 28 [.c4,.c4]),(13,.c 28 [.own 17,.c4]),(17,.slice 31 2 (ax ec ct) 0 false),(13040,.eO 106 450013040 aG.1.toNat none),(450013040,.b9 (encS 4 1 iu.enc (List.replicate aG.1.toNat []:jd)))]<|A.block ?_
 obtain⟨aj3,hm⟩:=qc hm;obtain⟨nO,km,n0,n3,hm⟩:=zG hm;refine as4 (hi:=((List.replicate aG.1.toNat []:jd).length:Int)) (B:=nO) (K:=km) hm rfl (λdn=>λcE=>[(0,.ptr 1 0),(4,.ptr 12 0),(5,W aG.1),(6,.ptr 13 0),(9,.own 13040),(42,W ((List.replicate aG.1.toNat []:jd).length:Int)),(43,W dn)]) (λdn=>λcE=>[(1,.c 103 [bO aI eN,W dU]),(12,.c 28 [.c4,.c4]),(13,.c 28 [.own 17,.c4]),(17,.slice 31 2 (ax ec ct) 0 false),(13040,.eO 106 450013040 aG.1.toNat none),(450013040,.b9 (encS 4 1 iu.enc cE))]) ?_ ?_ ?_
 ·exact gw
 ·rintro dn hR cE j2 gi hm;rw[n0]at hm;refine bh [] [] [(44,.d ((dn:Int)<((List.replicate aG.1.toNat []:jd).length:Int)))]<|A.seq<|asC rfl (decide_eq_true gi)<|A.skip<|A.seq<|A.block<|bh [] [44] [(10,W dn)] ?_
  obtain⟨bU,hm⟩:=qc hm;obtain⟨en,dP,hm⟩:=bw hm;exact jj [(3,y8 (a:=.bool false) 13049 false iu.enc aG.1 Rr Rs rfl (λI=>by simp[bc]) bU (by decide)),(4,yZ 4 1 iu.enc x7 dP),(5,akG 4 1 89 iu.enc (List.replicate (aG.1).toNat false) Fx dP)] [10] [] [13040,450013040] [(13040,.eO 106 89 aG.1.toNat none),(89,.b9 (encS 4 1 iu.enc (List.set cE (dn:Int).toNat (List.replicate (aG.1).toNat false))))]<|dV [(0,aN (Ah (by omega) gi (of_decide_eq_true aj3)))] [43] [(43,W (dn+1:Int))]<|Exists.intro (List.set cE (dn:Int).toNat (List.replicate (aG.1).toNat false)) (And.intro hm (kK [.rn 89 450013040] []))
 rintro dn cE j2 kU hm;rw[n3]at hm;refine bh [] [] [(44,.d ((dn:Int)<((List.replicate aG.1.toNat []:jd).length:Int)))]<|A.seq<|asA rfl (AT kU)<|A.exit<|A.seq<|bh [] [42,43,44] [(11,W 1)]<|A.block ?_
 obtain⟨aj4,hm⟩:=qc hm;obtain⟨s9,tb,tC,tD,hm⟩:=zG hm;refine as4 (hi:=aG.1) (B:=s9) (K:=tb) hm rfl (λeZ=>λ(gp,qt,qZ)=>[(0,.ptr 1 0),(4,.ptr 12 0),(5,W aG.1),(6,.ptr 13 0),(9,.own 13040),(11,W eZ)]) (λeZ=>λ(gp,qt,qZ)=>[(1,.c 103 [bO aI gp,W qt]),(12,.c 28 [.c4,.c4]),(13,.c 28 [.own 17,.c4]),(17,.slice 31 2 (ax ec ct) 0 false),(13040,.eO 106 450013040 aG.1.toNat none),(450013040,.b9 (encS 4 1 iu.enc qZ))]) ?_ ?_ ?_
 ·exact gw
 ·rintro eZ lp ⟨gp,qt,qZ⟩ pM k9 hm;rw[tC]at hm;refine A.seq<|bh [] [] [(54,.d ((eZ:Int)<aG.1))] ?_
  refine asC rfl (decide_eq_true k9)<|A.skip ?_
  obtain⟨eC,j0,hm⟩:=je hm;refine A.J (J:=eC) (r:=r) (λ(Bw,Bx,CO)=>[(0,.ptr 1 0),(4,.ptr 12 0),(5,W aG.1),(6,.ptr 13 0),(9,.own 13040),(11,W eZ)]) (λ(Bw,Bx,CO)=>[(1,.c 103 [bO aI Bx,W CO]),(12,.c 28 [.c4,.c4]),(13,.c 28 [.own 17,.c4]),(17,.slice 31 2 (ax ec ct) 0 false),(13040,.eO 106 450013040 aG.1.toNat none),(450013040,.b9 (encS 4 1 iu.enc Bw))]) ?_ ?_
  ·refine A.block ?_;obtain⟨dy,fz,hm⟩:=bw hm;refine fs [(1,fM [] (ti fz) uj)] [54] [(59,.d (dy.1<11))] [1] [(1,.cells 103 (iS dy.2))] ?_;rcases cD hm with⟨bl,hm⟩|⟨bl,hm⟩
   ·refine cm bl ?_;obtain⟨dz,ka,hm⟩:=bw hm;obtain⟨er,iy,hm⟩:=bw hm;obtain⟨rE,oT,hm⟩:=bw hm;obtain⟨gr,tv,hm⟩:=bw hm;refine as6 (A.R bS [] [(3,fM [] (ti ka) uj),(4,yZ 4 1 iu.enc x7 iy),(5,L5 4 1 530013003 530013002 iu.enc Fx iy),(7,ds (ix iu oT)),(8,o1 530013002 (st iu (off:=0) (ca:=[.bool true]) oT tv rfl) (qd oT).1.1)] [(0,.ptr 1 0),(4,.ptr 12 0),(5,W aG.1),(6,.ptr 13 0),(9,.own 13040),(11,W eZ)] [(1,.cells 103 (iS dz.2)),(12,.c 28 [.c4,.c4]),(13,.c 28 [.own 17,.c4]),(17,.slice 31 2 (ax ec ct) 0 false),(13040,.eO 106 530013003 aG.1.toNat (some (some dz.1.toNat,530013002))),(530013003,.b9 (encS 4 1 iu.enc (List.set qZ dz.1.toNat []))),(530013002,.slice 4 1 (ax iu gr) 0 false)] (by kernel_rfl) ?_);refine⟨_,_,(atp (d:=13040) (e:=530013003) (e2:=530013004) (t:=530013002) qZ iu.enc gr rfl rfl rfl rfl rfl rfl rfl),?_⟩;exact Exists.intro ((List.set qZ dz.1.toNat gr),dz.2.L,dz.2.At) (And.intro hm (kK [.rn 530013004 450013040] []))
   exact ck bl<|A.skip<|cR (qZ,dy.2.L,dy.2.At) hm
  rintro⟨Bw,Bx,CO⟩ hm;rw[j0]at hm;exact dV [(1,aN (Ah (by omega) k9 (of_decide_eq_true aj4)))] [11] [(11,W (eZ+1:Int))]<|cR (Bx,CO,Bw) hm
 rintro eZ ⟨gp,qt,qZ⟩ pM mY hm;rw[tD]at hm;refine A.seq<|bh [] [] [(54,.d ((eZ:Int)<aG.1))] ?_
 refine asA rfl (AT mY)<|A.exit<|A.seq ?_
 obtain⟨gN,tw,hm⟩:=bw hm;refine fs [(3,fM [] (ti tw) uj)] [11,54] [(12,W gN.1)] [1] [(1,.cells 103 (iS gN.2))]<|A.block ?_
 obtain⟨Jy,als,Lt,hm⟩:=nv hm;refine asL (F:=Jy) hm (λ(c3,CP,CQ,h7)=>[(0,.ptr 1 0),(4,.ptr 12 0),(5,W aG.1),(6,.ptr 13 0),(9,.own 13040),(12,W c3)]) (λ(c3,CP,CQ,h7)=>[(1,.c 103 [bO aI CP,W CQ]),(12,.c 28 [.c4,.c4]),(13,.c 28 [.own 17,.c4]),(17,.slice 31 2 (ax ec ct) 0 false),(13040,.eO 106 450013040 aG.1.toNat none),(450013040,.b9 (encS 4 1 iu.enc h7))]) ?_ ?_
 ·exact gw
 rintro te ⟨c3,CP,CQ,h7⟩ hm;rw[Lt]at hm;refine A.seq<|bh [] [] [(73,.d (0<c3))] ?_
 rcases cD hm with⟨b2,hm⟩|⟨b2,hm⟩
 ·refine cm b2<|A.skip ?_
  obtain⟨fZ,j1,hm⟩:=je hm;refine A.J (J:=fZ) (r:=r) (λ(CR,CS,CT)=>[(0,.ptr 1 0),(4,.ptr 12 0),(5,W aG.1),(6,.ptr 13 0),(9,.own 13040),(12,W c3)]) (λ(CR,CS,CT)=>[(1,.c 103 [bO aI CS,W CT]),(12,.c 28 [.c4,.c4]),(13,.c 28 [.own 17,.c4]),(17,.slice 31 2 (ax ec ct) 0 false),(13040,.eO 106 450013040 aG.1.toNat none),(450013040,.b9 (encS 4 1 iu.enc CR))]) ?_ ?_
  ·refine A.block ?_;obtain⟨hD,qf,hm⟩:=bw hm;obtain⟨e0,yM,hm⟩:=bw hm;refine fs [(2,fM [] (ti qf) uj),(5,fM [] (ti yM) uj)] [73] [(13,W hD.1),(14,W e0.1)] [1] [(1,.cells 103 (iS e0.2))]<|bh [] [] [(84,.bool (!decide (hD.1=e0.1)))] ?_
   rcases cD hm with⟨c9,hm⟩|⟨c9,hm⟩
   ·refine cm c9 ?_;obtain⟨nU,xh,hm⟩:=bw hm;obtain⟨tj,yN,hm⟩:=bw hm;obtain⟨jy,AW,hm⟩:=bw hm;refine as6 (A.R bS [] [(4,yZ 4 1 iu.enc x7 xh),(5,L5 4 1 530013006 530013005 iu.enc Fx xh),(9,ds (ix iu yN)),(10,o1 530013005 (st iu (off:=0) (ca:=[.bool true]) yN AW rfl) (qd yN).1.1)] [(0,.ptr 1 0),(4,.ptr 12 0),(5,W aG.1),(6,.ptr 13 0),(9,.own 13040),(12,W c3)] [(1,.cells 103 (iS e0.2)),(12,.c 28 [.c4,.c4]),(13,.c 28 [.own 17,.c4]),(17,.slice 31 2 (ax ec ct) 0 false),(13040,.eO 106 530013006 aG.1.toNat (some (some (if e0.1<hD.1 then e0.1 else hD.1).toNat,530013005))),(530013006,.b9 (encS 4 1 iu.enc (List.set h7 (if e0.1<hD.1 then e0.1 else hD.1).toNat []))),(530013005,.slice 4 1 (ax iu jy) 0 false)] (by kernel_rfl) ?_);refine⟨_,_,(atp (d:=13040) (e:=530013006) (e2:=530013007) (t:=530013005) h7 iu.enc jy rfl rfl rfl rfl rfl rfl rfl),?_⟩;exact Exists.intro ((List.set h7 (if e0.1<hD.1 then e0.1 else hD.1).toNat jy),e0.2.L,e0.2.At) (And.intro hm (kK [.rn 530013007 450013040] []))
   exact ck c9<|A.skip<|cR (h7,e0.2.L,e0.2.At) hm
  rintro⟨CR,CS,CT⟩ hm;rw[j1]at hm;exact dV [] [12] [(12,W (aF (c3-1)))]<|cR (aF (c3-1),CS,CT,CR) hm
 refine ck b2<|A.exit ?_
 obtain⟨gn,GC,hm⟩:=bw hm;refine fs [(1,fM [] (ti GC) uj)] [5,12,73] [(15,.d (gn.1=0))] [1] [(1,.cells 103 (iS gn.2))]<|A.seq<|bh [(1,xz 4 1 iu.enc h7 x7)] [] [(99,W h7.length),(100,W 0)]<|A.block ?_
 obtain⟨aj5,hm⟩:=qc hm;obtain⟨Js,JA,Lo,LB,hm⟩:=zG hm;refine as4 (hi:=(h7.length:Int)) (B:=Js) (K:=JA) hm rfl (λj3=>λ(wU,wV,wW)=>[(0,.ptr 1 0),(4,.ptr 12 0),(6,.ptr 13 0),(9,.own 13040),(15,.d (gn.1=0)),(99,W h7.length),(100,W j3)]) (λj3=>λ(wU,wV,wW)=>[(1,.c 103 [bO aI wV,W wW]),(12,.c 28 [.c4,.c4]),(13,.c 28 [.own 17,.own 37]),(17,.slice 31 2 (ax ec ct) 0 false),(13040,.eO 106 450013040 aG.1.toNat none),(450013040,.b9 (encS 4 1 iu.enc h7)),(37,.slice 62 5 (ax eT wU) 0 false)]) ?_ ?_ ?_
 ·exact kK [.ac 13 37 62 5 1] []
 ·rintro j3 vA ⟨wU,wV,wW⟩ L0 zh hm;rw[Lo]at hm;refine bh [] [] [(101,.d ((j3:Int)<h7.length))]<|A.seq<|asC rfl (decide_eq_true zh)<|A.skip<|A.seq<|A.block<|bh [] [101] [(16,W j3)]<|bh [(1,xz 4 1 iu.enc h7 x7)] [] [(104,W h7.length),(105,W 0)]<|A.block ?_
  obtain⟨aj6,hm⟩:=qc hm;obtain⟨Jt,JB,Lp,LC,hm⟩:=zG hm;refine as4 (hi:=(h7.length:Int)) (B:=Jt) (K:=JB) hm rfl (λlg=>λ(r1,uk,um)=>[(0,.ptr 1 0),(4,.ptr 12 0),(6,.ptr 13 0),(9,.own 13040),(15,.d (gn.1=0)),(16,W j3),(99,W h7.length),(100,W j3),(104,W h7.length),(105,W lg)]) (λlg=>λ(r1,uk,um)=>[(1,.c 103 [bO aI uk,W um]),(12,.c 28 [.c4,.c4]),(13,.c 28 [.own 17,.own 37]),(17,.slice 31 2 (ax ec ct) 0 false),(13040,.eO 106 450013040 aG.1.toNat none),(450013040,.b9 (encS 4 1 iu.enc h7)),(37,.slice 62 5 (ax eT r1) 0 false)]) ?_ ?_ ?_
  ·exact gw
  ·rintro lg C4 ⟨r1,uk,um⟩ L1 Bd hm;rw[Lp]at hm;refine bh [] [] [(106,.d ((lg:Int)<h7.length))]<|A.seq<|asC rfl (decide_eq_true Bd)<|A.skip ?_
   obtain⟨j7,oB,hm⟩:=je hm;refine A.J (J:=j7) (r:=r) (λ(CU,CF,CG)=>[(0,.ptr 1 0),(4,.ptr 12 0),(6,.ptr 13 0),(9,.own 13040),(15,.d (gn.1=0)),(16,W j3),(99,W h7.length),(100,W j3),(104,W h7.length),(105,W lg)]) (λ(CU,CF,CG)=>[(1,.c 103 [bO aI CU,W CF]),(12,.c 28 [.c4,.c4]),(13,.c 28 [.own 17,.own 37]),(17,.slice 31 2 (ax ec ct) 0 false),(13040,.eO 106 450013040 aG.1.toNat none),(450013040,.b9 (encS 4 1 iu.enc h7)),(37,.slice 62 5 (ax eT CG) 0 false)]) ?_ ?_
   ·refine A.block<|bh [] [106] [(17,W lg)] ?_
    refine A.seq ?_;obtain⟨qK,DI,hm⟩:=bw hm;obtain⟨sv,xk,hm⟩:=bw hm;refine fs [(2,yZ 4 1 iu.enc x7 DI),(3,L5 4 1 530013009 530013008 iu.enc Fx DI),(5,ds (ix iu xk)),(6,hb 530013008 0 (ix iu xk))] [] [(115,.bool (!sv))] [13040,450013040] [(13040,.eO 106 530013009 aG.1.toNat (some (some (j3:Int).toNat,530013008))),(530013009,.b9 (encS 4 1 iu.enc (List.set h7 (j3:Int).toNat []))),(530013008,.slice 4 1 (ax iu qK) 0 false)]<|asD ((auu (d:=13040) (e:=530013009) (e2:=530013010) (t:=530013008) h7 iu.enc DI rfl rfl rfl rfl rfl rfl rfl)) ?_
    rcases cD hm with⟨e3,hm⟩|⟨e3,hm⟩
    ·exact cm e3<|A.exit<|Exists.intro (uk,um,r1) (And.intro hm (kK [.rn 530013010 450013040] []))
    refine ck e3<|A.skip ?_
    obtain⟨uI,uM,hm⟩:=bw hm;obtain⟨uJ,AX,hm⟩:=bw hm;obtain⟨dX,Lj,hm⟩:=bw hm;refine bp [(3,ds (ix ec uM)),(5,hb 17 0 (ix ec uM)),(9,ds (ix ec AX)),(11,hb 17 0 (ix ec AX)),(14,fM [] (GB Lj) Ge),(16,.al 70)] [(0,.ptr 1 0),(4,.ptr 12 0),(6,.ptr 13 0),(9,.own 13040),(15,.d (gn.1=0)),(16,W j3),(99,W h7.length),(100,W j3),(104,W h7.length),(105,W lg),(18,.ptr 70 0)] [(1,.cells 103 (iS dX.2)),(12,.c 28 [.c4,.c4]),(13,.c 28 [.own 17,.own 37]),(17,.slice 31 2 (ax ec ct) 0 false),(13040,.eO 106 530013010 aG.1.toNat none),(530013010,.b9 (encS 4 1 iu.enc h7)),(37,.slice 62 5 (ax eT r1) 0 false),(70,.c 62 [W uI.cu,W uJ.cu,W 1,W 1,W dX.1])] ?_;obtain⟨CX,GF,hm⟩:=je hm;refine A.J (J:=CX) (r:=r) (λ(CH,CI,De,Df)=>[(0,.ptr 1 0),(4,.ptr 12 0),(6,.ptr 13 0),(9,.own 13040),(15,.d (gn.1=0)),(16,W j3),(18,.ptr 70 0),(99,W h7.length),(100,W j3),(104,W h7.length),(105,W lg)]) (λ(CH,CI,De,Df)=>[(1,.c 103 [bO aI CH,W CI]),(12,.c 28 [.c4,.c4]),(13,.c 28 [.own 17,.own 37]),(17,.slice 31 2 (ax ec ct) 0 false),(13040,.eO 106 530013010 aG.1.toNat none),(530013010,.b9 (encS 4 1 iu.enc h7)),(37,.slice 62 5 (ax eT r1) 0 false),(70,.c 62 [W uI.cu,W uJ.cu,W De,W Df,W dX.1])]) ?_ ?_
    ·refine bh [] [] [(133,.bool (!(decide (gn.1=0))))] ?_;rcases cD hm with⟨gm,hm⟩|⟨gm,hm⟩
     ·refine cm gm ?_;obtain⟨Aa,GD,hm⟩:=bw hm;obtain⟨rX,Lk,hm⟩:=bw hm;refine fs [(2,fM [] (Mm GD) KV),(4,fM [] (GB Lk) Ge)] [133] [] [1,70] [(1,.cells 103 (iS rX.2)),(70,.c 62 [W uI.cu,W uJ.cu,W rX.1,W 1,W dX.1])] ?_;obtain⟨x3,aja,hm⟩:=bw hm;obtain⟨iG,ajb,hm⟩:=bw hm;exact jj [(6,fM [] (Mm aja) KV),(8,fM [] (GB ajb) Ge)] [] [] [1,70] [(1,.cells 103 (iS iG.2)),(70,.c 62 [W uI.cu,W uJ.cu,W rX.1,W iG.1,W dX.1])]<|cR (iG.2.L,iG.2.At,rX.1,iG.1) hm
     exact ck gm<|A.skip<|cR (dX.2.L,dX.2.At,(1:Int),(1:Int)) hm
    rintro⟨CH,CI,De,Df⟩ hm;rw[GF]at hm;obtain⟨lM,ajc,hm⟩:=bw hm;exact jj [(4,oE 109 (ap eT (bytes:=40) (by decide) ajc))] [18] [] [13,37,70] [(13,.c 28 [.own 17,.own 109]),(109,.slice 62 5 (ax eT lM) 0 false)]<|Exists.intro (CH,CI,lM) (And.intro hm (kK [.mu 109 37,.rn 530013010 450013040] []))
   rintro⟨CU,CF,CG⟩ hm;rw[oB]at hm;exact dV [(0,aN (Ah (by omega) Bd (of_decide_eq_true aj6)))] [105] [(105,W (lg+1:Int))]<|cR (CG,CU,CF) hm
  rintro lg ⟨r1,uk,um⟩ L1 L4 hm;rw[LC]at hm;exact bh [] [] [(106,.d ((lg:Int)<h7.length))]<|A.seq<|asA rfl (AT L4)<|A.exit<|dV [(0,aN (Ah (by omega) zh (of_decide_eq_true aj5)))] [16,100,104,105,106] [(100,W (j3+1:Int))]<|cR (r1,uk,um) hm
 rintro j3 ⟨wU,wV,wW⟩ L0 L3 hm;rw[LB]at hm;refine bh [] [] [(101,.d ((j3:Int)<h7.length))]<|A.seq<|asA rfl (AT L3)<|A.exit<|asD (auy (d:=13040) (e:=450013040) h7 iu.enc rfl rfl)<|bp [] [(4,.ptr 12 0)] [(1,.c 103 [bO aI wV,W wW]),(12,.c 28 [.own 17,.own 37]),(17,.slice 31 2 (ax ec ct) 0 false),(37,.slice 62 5 (ax eT wU) 0 false)]<|A.ret ?_
 obtain rfl:=kL hm;exact asy bS [.c5 [17],.mu 37 22] rfl (by kernel_rfl)
def WA{t:eD}{p:bA}{n:Int}{r:(cq)×eD}(hm:Bt t p n=some r):eP prog 15 [(1,.cells 103 (iS t))] [.ptr 1 0,.agg (cK p),W n] (λa az=>a=bO aI r.1∧az=[(1,.cells 103 (iS r.2))]):=by
 refine dY func15 rfl rfl ?_;unfold Bt at hm;refine bp [(0,.al 63)] [(0,.ptr 1 0),(2,W n),(4,.ptr 63 0)] [(1,.cells 103 (iS t)),(63,.cells 28 (cK p))]<|bh [] [] [(7,.c4)]<|A.seq ?_
 obtain⟨aG,h1,hm⟩:=bw hm;refine fs [(3,fM [] (ti h1) uj)] [2] [(8,W aG.1)] [1] [(1,.cells 103 (iS aG.2))]<|A.block ?_
 obtain⟨mO,hH,mW,hm⟩:=nv hm;refine asL (F:=mO) hm (λ(jO,c3,ct,eN)=>[(0,.ptr 1 0),(4,.ptr 63 0),(7,bO aI jO),(8,W c3)]) (λ(jO,c3,ct,eN)=>[(1,.c 103 [bO aI ct,W eN]),(63,.cells 28 (cK p))]) ?_ ?_
 ·exact kK [] [7]
 rintro c1 ⟨jO,c3,ct,eN⟩ hm;rw[mW]at hm;refine A.seq<|asK [(0,.ptr 1 0),(4,.ptr 63 0),(7,bO aI jO),(8,W c3),(20,.bool ((decide (0<c3))&&(decide (0<(p.bC.length:Int)))))] [(1,.c 103 [bO aI ct,W eN]),(63,.cells 28 (cK p))] (λhk=>?_) ?_
 ·rcases j5 (decide (0<c3))with bl|bl
  ·exact bp [(2,aN (cg bl)),(5,aN (eG ec p.bC)),(7,aN (oh (q:=decide (0<(p.bC.length:Int))) bl))] _ _ hk
  exact bp [(2,aN (cg bl)),(7,aN (r6 (q:=decide (0<(p.bC.length:Int))) bl))] _ _ hk
 rcases cD hm with⟨b2,hm⟩|⟨b2,hm⟩
 ·refine cm b2<|A.skip<|A.seq<|A.block ?_
  obtain⟨bt,D,hm⟩:=bw hm;obtain⟨en,aj,hm⟩:=bw hm;obtain⟨dy,a1,hm⟩:=bw hm;exact jj [(6,aN (eG ec p.bC)),(7,fM [] (ti D) uj),(8,ds (ix ec aj)),(11,cM (V1 a1) Um)] [7,20] [(7,bO aI dy)] [1] [(1,.cells 103 (iS bt.2))]<|dV [] [8] [(8,W (aF (c3-1)))]<|Exists.intro (dy,aF (c3-1),bt.2.L,bt.2.At) (And.intro hm (kK [] [7]))
 refine ck b2<|A.exit<|fs [] [0,4,7,8,20] [(6,bO aI jO)] [63] [] ?_
 cases hm;exact A.ret de
end
section
open Go Go.Proofs.Tryz List
set_option maxRecDepth 100000
set_option linter.all false
variable {r:Int}
def al4{a:b6}{b:b6}(hm:Hr a b=some r):dT prog 125 [] [.agg (pT a),.agg (pT b)] (W r):=by
 refine dY func125 rfl rfl ?_;unfold Hr at hm;refine bp [(0,.al 114),(1,.al 115)] [(2,.ptr 114 0),(3,.ptr 115 0)] [(114,.cells 84 (pT a)),(115,.cells 84 (pT b))] ?_;obtain⟨aG,h1,hm⟩:=bw hm;obtain⟨bt,D,hm⟩:=bw hm;obtain⟨dy,aj,hm⟩:=bw hm;refine bp [(4,cM (vG h1) wB),(9,cM (vG D) wB),(11,cM (MO aj) Kn)] [(4,W dy)] [] ?_;cases hm;exact A.ret de
def an9{a:bB}{b:bB}(hm:HY a b=some r):dT prog 128 [] [.agg (vX a),.agg (vX b)] (W r):=by
 refine dY func128 rfl rfl ?_;unfold HY at hm;refine bp [(0,.al 116),(1,.al 117)] [(2,.ptr 116 0),(3,.ptr 117 0)] [(116,.cells 175 (vX a)),(117,.cells 175 (vX b))] ?_;obtain⟨aG,h1,hm⟩:=bw hm;obtain⟨bt,D,hm⟩:=bw hm;obtain⟨dy,aj,hm⟩:=bw hm;refine bp [(6,cM (vG h1) wB),(13,cM (vG D) wB),(15,cM (MO aj) Kn)] [(4,W dy)] [] ?_;cases hm;exact A.ret de
def anI{a:ey}{b:ey}(hm:Hu a b=some r):dT prog 189 [] [.agg (Bn a),.agg (Bn b)] (W r):=by
 refine dY func189 rfl rfl ?_;unfold Hu at hm;refine bp [(0,.al 128),(1,.al 129)] [(2,.ptr 128 0),(3,.ptr 129 0)] [(128,.cells 237 (Bn a)),(129,.cells 237 (Bn b))] ?_;obtain⟨aG,h1,hm⟩:=bw hm;refine bp [(4,cM (vG h1) wB)] [(4,W aG)] [] ?_;cases hm;exact A.ret de
end
section
set_option linter.all false
open Go Go.Proofs.Tryz Go.Sort Go.Lib Go.Shelf Go.RowKit
set_option maxRecDepth 100000
def FB(x y:Int):Int:=if x<y then -1 else if y<x then 1 else 0
def Oy(x y:Int):p8 x y=some (FB x y):=by
 unfold p8 Bf FB;by_cases h:x<y
 ·simp[h,aW]
 ·by_cases D:y<x<;>simp[h,D,aW]
def atx:Shelf.Ren:=
 {  f:=λx=>match x with|6=>124|15=>178|14=>177|28=>206|29=>207|20=>198|21=>199|22=>200|23=>201|24=>202|25=>203|26=>204|27=>205|46=>235|47=>236|48=>237|49=>238|50=>239|57=>258|n=>n,t:=λx=>match x with|22=>34|24=>84|25=>158|3=>3|39=>178|0=>0|53=>252|55=>254|4=>4|46=>246|45=>245|50=>89|5=>5|9=>9|66=>272|70=>276|76=>289|77=>290|n=>n,g:=λn=>n}
def atg:SlLaysF0.n6 prog atx:=
  {mixed:=by kernel_rfl,f6:=⟨ "slices.SortFunc[[]bitcast/api.Hop,bitcast/api.Hop]",of_decide_eq_true (by kernel_rfl),func124.trans (by kernel_rfl)⟩,
   f14:=⟨ "slices.pdqsortCmpFunc[bitcast/api.Hop]",of_decide_eq_true (by kernel_rfl),func177.trans (by kernel_rfl)⟩,f15:=func178.trans (by kernel_rfl),
   f20:=⟨ "slices.insertionSortCmpFunc[bitcast/api.Hop]",of_decide_eq_true (by kernel_rfl),func198.trans (by kernel_rfl)⟩,f21:=⟨ "slices.heapSortCmpFunc[bitcast/api.Hop]",
   of_decide_eq_true (by kernel_rfl),func199.trans (by kernel_rfl)⟩,f22:=⟨ "slices.breakPatternsCmpFunc[bitcast/api.Hop]",of_decide_eq_true (by kernel_rfl),func200.trans (by kernel_rfl)⟩,
   f23:=⟨ "slices.choosePivotCmpFunc[bitcast/api.Hop]",of_decide_eq_true (by kernel_rfl),func201.trans (by kernel_rfl)⟩,f24:=⟨ "slices.reverseRangeCmpFunc[bitcast/api.Hop]",
   of_decide_eq_true (by kernel_rfl),func202.trans (by kernel_rfl)⟩,f25:=⟨ "slices.partialInsertionSortCmpFunc[bitcast/api.Hop]",of_decide_eq_true (by kernel_rfl),
   func203.trans (by kernel_rfl)⟩,f26:=⟨ "slices.partitionEqualCmpFunc[bitcast/api.Hop]",of_decide_eq_true (by kernel_rfl),func204.trans (by kernel_rfl)⟩,
   f27:=⟨ "slices.partitionCmpFunc[bitcast/api.Hop]",of_decide_eq_true (by kernel_rfl),func205.trans (by kernel_rfl)⟩,f28:=func206.trans (by kernel_rfl),
   f29:=func207.trans (by kernel_rfl),f46:=⟨ "slices.siftDownCmpFunc[bitcast/api.Hop]",of_decide_eq_true (by kernel_rfl),func235.trans (by kernel_rfl)⟩,
   f47:=func236.trans (by kernel_rfl),f48:=func237.trans (by kernel_rfl),f49:=⟨ "slices.medianAdjacentCmpFunc[bitcast/api.Hop]",of_decide_eq_true (by kernel_rfl),
   func238.trans (by kernel_rfl)⟩,f50:=⟨ "slices.medianCmpFunc[bitcast/api.Hop]",of_decide_eq_true (by kernel_rfl),func239.trans (by kernel_rfl)⟩,
   f57:=⟨ "slices.order2CmpFunc[bitcast/api.Hop]",of_decide_eq_true (by kernel_rfl),func258.trans (by kernel_rfl)⟩,t0:=underlying0,a0:=isAgg0,z0:=sizeOf0,
   v0:=zeroValue0,t3:=underlying3,a3:=isAgg3,z3:=sizeOf3,v3:=zeroValue3,t4:=underlying4,a4:=isAgg4,z4:=sizeOf4,v4:=zeroValue4,
   t5:=underlying5,a5:=isAgg5,z5:=sizeOf5,v5:=zeroValue5,t9:=underlying9,a9:=isAgg9,z9:=sizeOf9,v9:=zeroValue9,t22:=underlying34,
   a22:=isAgg34,z22:=sizeOf34,v22:=zeroValue34,t25:=underlying158,a25:=isAgg158,z25:=sizeOf158,v25:=zeroValue158,t39:=underlying178,
   a39:=isAgg178,z39:=sizeOf178,v39:=zeroValue178,t45:=underlying245,a45:=isAgg245,z45:=sizeOf245,v45:=zeroValue245,t46:=underlying246,
   a46:=isAgg246,z46:=sizeOf246,v46:=zeroValue246,t50:=underlying89,a50:=isAgg89,z50:=sizeOf89,v50:=zeroValue89,t53:=underlying252,
   a53:=isAgg252,z53:=sizeOf252,v53:=zeroValue252,t55:=underlying254,a55:=isAgg254,z55:=sizeOf254,v55:=zeroValue254,t66:=underlying272,
   a66:=isAgg272,z66:=sizeOf272,v66:=zeroValue272,t70:=underlying276,a70:=isAgg276,z70:=sizeOf276,v70:=zeroValue276,t76:=underlying289,
   a76:=isAgg289,z76:=sizeOf289,v76:=zeroValue289,t77:=underlying290,a77:=isAgg290,z77:=sizeOf290,v77:=zeroValue290}
def B7(x:b6):dZ:=[.int .i64 x.bz,.int .i64 x.br]
def anR(I:bs)(x:b6)(vs:dZ):cV I (jX.enc x) vs↔vs=B7 x:=by
 show cV I [.int .i64 x.bz,.int .i64 x.br] vs↔vs=_;simp only[cV,bc];constructor
 ·rintro⟨_,_,rfl,rfl,⟨_,_,rfl,rfl,rfl⟩⟩;rfl
 ·rintro rfl;exact⟨_,_,rfl,rfl,⟨_,_,rfl,rfl,rfl⟩⟩
def anT(I:bs)(β:Nat→Value)(x:b6):bW I β (jX.enc x) (B7 x):=by
 show bW I β [.int .i64 x.bz,.int .i64 x.br] _;simp only[bW,au,bc];exact⟨_,_,rfl,rfl,⟨_,_,rfl,rfl,rfl⟩⟩
def anL(x:b6):∀v∈B7 x,v.oneCell'=true:=by
 intro v aa;simp only[B7,List.mem_cons,List.not_mem_nil,or_false]at aa;rcases aa with rfl|rfl<;>rfl
def ahG(a b:b6):Hr a b=some (ht [λx:b6=>x.bz,λx:b6=>x.br] a b):=by
 unfold Hr vO;simp only[Oy,FB,ht];rcases Int.lt_trichotomy a.bz b.bz with bM|bM|bM<;>rcases Int.lt_trichotomy a.br b.br with h1|h1|h1<;>simp[aW,ez,bM,h1]<;>(repeat (first|rw[if_neg (by omega)]|rw[if_pos (by omega)]))<;>simp
def abL:FR prog 124 125 B7 2 (ht [λx:b6=>x.bz,λx:b6=>x.br]):=λb1 off aO d w n2 U X=>
 AnyQ.slices_SortFunc atg 2 isAgg84 sizeOf84 B7 (λ_=>rfl) anL _ (Oc _) 125 #[] b1 off aO d w (enters_of func125 (by kernel_rfl) rfl)
  (Nr anT (λx y=>al4 (ahG x y)) b1 off d.size w) n2 U X
def aav{d T:Nat}{zs bx:zu}(h:nG (ht [λx:b6=>x.bz,λx:b6=>x.br]) zs=some bx):eP prog 124 [(d,.slice T 2 (ax jX zs) 0 false)] [.own d,.fn 125 []] (λr az=>r=.cI []∧az=[(d,.slice T 2 (ax jX bx) 0 false)]):=
 NO anR (by decide) (λ_=>rfl) (λ_=>rfl) (zB _) abL (λp aO yH w=>AnyF.slices_SortFunc_none atg p aO yH w) h
def aty:Shelf.Ren:=
 {  f:=λx=>match x with|6=>127|15=>178|14=>179|28=>206|29=>207|20=>208|21=>209|22=>210|23=>211|24=>212|25=>213|26=>214|27=>215|46=>240|47=>236|48=>237|49=>241|50=>242|57=>259|n=>n,t:=λx=>match x with|22=>111|24=>175|25=>177|3=>3|39=>178|0=>0|53=>252|55=>254|4=>4|46=>246|45=>245|50=>89|5=>5|9=>9|66=>272|70=>276|76=>289|77=>290|n=>n,g:=λn=>n}
def ath:SlLaysF0.n6 prog aty:=
  {mixed:=by kernel_rfl,f6:=⟨ "slices.SortFunc[[]bitcast/arbor.Arc,bitcast/arbor.Arc]",of_decide_eq_true (by kernel_rfl),func127.trans (by kernel_rfl)⟩,
   f14:=⟨ "slices.pdqsortCmpFunc[bitcast/arbor.Arc]",of_decide_eq_true (by kernel_rfl),func179.trans (by kernel_rfl)⟩,f15:=func178.trans (by kernel_rfl),
   f20:=⟨ "slices.insertionSortCmpFunc[bitcast/arbor.Arc]",of_decide_eq_true (by kernel_rfl),func208.trans (by kernel_rfl)⟩,f21:=⟨ "slices.heapSortCmpFunc[bitcast/arbor.Arc]",
   of_decide_eq_true (by kernel_rfl),func209.trans (by kernel_rfl)⟩,f22:=⟨ "slices.breakPatternsCmpFunc[bitcast/arbor.Arc]",of_decide_eq_true (by kernel_rfl),func210.trans (by kernel_rfl)⟩,
   f23:=⟨ "slices.choosePivotCmpFunc[bitcast/arbor.Arc]",of_decide_eq_true (by kernel_rfl),func211.trans (by kernel_rfl)⟩,f24:=⟨ "slices.reverseRangeCmpFunc[bitcast/arbor.Arc]",
   of_decide_eq_true (by kernel_rfl),func212.trans (by kernel_rfl)⟩,f25:=⟨ "slices.partialInsertionSortCmpFunc[bitcast/arbor.Arc]",of_decide_eq_true (by kernel_rfl),
   func213.trans (by kernel_rfl)⟩,f26:=⟨ "slices.partitionEqualCmpFunc[bitcast/arbor.Arc]",of_decide_eq_true (by kernel_rfl),func214.trans (by kernel_rfl)⟩,
   f27:=⟨ "slices.partitionCmpFunc[bitcast/arbor.Arc]",of_decide_eq_true (by kernel_rfl),func215.trans (by kernel_rfl)⟩,f28:=func206.trans (by kernel_rfl),
   f29:=func207.trans (by kernel_rfl),f46:=⟨ "slices.siftDownCmpFunc[bitcast/arbor.Arc]",of_decide_eq_true (by kernel_rfl),func240.trans (by kernel_rfl)⟩,
   f47:=func236.trans (by kernel_rfl),f48:=func237.trans (by kernel_rfl),f49:=⟨ "slices.medianAdjacentCmpFunc[bitcast/arbor.Arc]",of_decide_eq_true (by kernel_rfl),
   func241.trans (by kernel_rfl)⟩,f50:=⟨ "slices.medianCmpFunc[bitcast/arbor.Arc]",of_decide_eq_true (by kernel_rfl),func242.trans (by kernel_rfl)⟩,
   f57:=⟨ "slices.order2CmpFunc[bitcast/arbor.Arc]",of_decide_eq_true (by kernel_rfl),func259.trans (by kernel_rfl)⟩,t0:=underlying0,a0:=isAgg0,z0:=sizeOf0,
   v0:=zeroValue0,t3:=underlying3,a3:=isAgg3,z3:=sizeOf3,v3:=zeroValue3,t4:=underlying4,a4:=isAgg4,z4:=sizeOf4,v4:=zeroValue4,
   t5:=underlying5,a5:=isAgg5,z5:=sizeOf5,v5:=zeroValue5,t9:=underlying9,a9:=isAgg9,z9:=sizeOf9,v9:=zeroValue9,t22:=underlying111,
   a22:=isAgg111,z22:=sizeOf111,v22:=zeroValue111,t25:=underlying177,a25:=isAgg177,z25:=sizeOf177,v25:=zeroValue177,t39:=underlying178,
   a39:=isAgg178,z39:=sizeOf178,v39:=zeroValue178,t45:=underlying245,a45:=isAgg245,z45:=sizeOf245,v45:=zeroValue245,t46:=underlying246,
   a46:=isAgg246,z46:=sizeOf246,v46:=zeroValue246,t50:=underlying89,a50:=isAgg89,z50:=sizeOf89,v50:=zeroValue89,t53:=underlying252,
   a53:=isAgg252,z53:=sizeOf252,v53:=zeroValue252,t55:=underlying254,a55:=isAgg254,z55:=sizeOf254,v55:=zeroValue254,t66:=underlying272,
   a66:=isAgg272,z66:=sizeOf272,v66:=zeroValue272,t70:=underlying276,a70:=isAgg276,z70:=sizeOf276,v70:=zeroValue276,t76:=underlying289,
   a76:=isAgg289,z76:=sizeOf289,v76:=zeroValue289,t77:=underlying290,a77:=isAgg290,z77:=sizeOf290,v77:=zeroValue290}
def B0(x:bB):dZ:=[.int .i64 x.Hop.bz,.int .i64 x.Hop.br,.int .i64 x.c6]
def ahH(I:bs)(x:bB)(vs:dZ):cV I (dN.enc x) vs↔vs=B0 x:=by
 show cV I [.int .i64 x.Hop.bz,.int .i64 x.Hop.br,.int .i64 x.c6] vs↔vs=_;simp only[cV,bc];constructor
 ·rintro⟨_,_,rfl,rfl,⟨_,_,rfl,rfl,⟨_,_,rfl,rfl,rfl⟩⟩⟩;rfl
 ·rintro rfl;exact⟨_,_,rfl,rfl,⟨_,_,rfl,rfl,⟨_,_,rfl,rfl,rfl⟩⟩⟩
def ahI(I:bs)(β:Nat→Value)(x:bB):bW I β (dN.enc x) (B0 x):=by
 show bW I β [.int .i64 x.Hop.bz,.int .i64 x.Hop.br,.int .i64 x.c6] _;simp only[bW,au,bc];exact⟨_,_,rfl,rfl,⟨_,_,rfl,rfl,⟨_,_,rfl,rfl,rfl⟩⟩⟩
def ahJ(x:bB):∀v∈B0 x,v.oneCell'=true:=by
 intro v aa;simp only[B0,List.mem_cons,List.not_mem_nil,or_false]at aa;rcases aa with rfl|rfl|rfl<;>rfl
def ahK(a b:bB):HY a b=some (ht [λx:bB=>x.Hop.bz,λx:bB=>x.Hop.br] a b):=by
 unfold HY vO;simp only[Oy,FB,ht];rcases Int.lt_trichotomy a.Hop.bz b.Hop.bz with bM|bM|bM<;>rcases Int.lt_trichotomy a.Hop.br b.Hop.br with h1|h1|h1<;>simp[aW,ez,bM,h1]<;>(repeat (first|rw[if_neg (by omega)]|rw[if_pos (by omega)]))<;>simp
def abM:FR prog 127 128 B0 3 (ht [λx:bB=>x.Hop.bz,λx:bB=>x.Hop.br]):=λb1 off aO d w n2 U X=>
 AnyQ.slices_SortFunc ath 3 isAgg175 sizeOf175 B0 (λ_=>rfl) ahJ _ (Oc _) 128 #[] b1 off aO d w (enters_of func128 (by kernel_rfl) rfl)
  (Nr ahI (λx y=>an9 (ahK x y)) b1 off d.size w) n2 U X
def aax{d T:Nat}{zs bx:wX}(h:nG (ht [λx:bB=>x.Hop.bz,λx:bB=>x.Hop.br]) zs=some bx):eP prog 127 [(d,.slice T 3 (ax dN zs) 0 false)] [.own d,.fn 128 []] (λr az=>r=.cI []∧az=[(d,.slice T 3 (ax dN bx) 0 false)]):=
 NO ahH (by decide) (λ_=>rfl) (λ_=>rfl) (zB _) abM (λp aO yH w=>AnyF.slices_SortFunc_none ath p aO yH w) h
def atP:Shelf.Ren:=
 {  f:=λx=>match x with|6=>188|15=>178|14=>232|28=>206|29=>207|20=>249|21=>250|22=>251|23=>252|24=>253|25=>254|26=>255|27=>256|46=>262|47=>236|48=>237|49=>263|50=>264|57=>265|n=>n,t:=λx=>match x with|22=>234|24=>237|25=>239|3=>3|39=>178|0=>0|53=>252|55=>254|4=>4|46=>246|45=>245|50=>89|5=>5|9=>9|66=>272|70=>276|76=>289|77=>290|n=>n,g:=λn=>n}
def ati:SlLaysF0.n6 prog atP:=
  {mixed:=by kernel_rfl,f6:=⟨ "slices.SortFunc[[]bitcast/shortest.step,bitcast/shortest.step]",of_decide_eq_true (by kernel_rfl),func188.trans (by kernel_rfl)⟩,
   f14:=⟨ "slices.pdqsortCmpFunc[bitcast/shortest.step]",of_decide_eq_true (by kernel_rfl),func232.trans (by kernel_rfl)⟩,f15:=func178.trans (by kernel_rfl),
   f20:=⟨ "slices.insertionSortCmpFunc[bitcast/shortest.step]",of_decide_eq_true (by kernel_rfl),func249.trans (by kernel_rfl)⟩,f21:=⟨ "slices.heapSortCmpFunc[bitcast/shortest.step]",
   of_decide_eq_true (by kernel_rfl),func250.trans (by kernel_rfl)⟩,f22:=⟨ "slices.breakPatternsCmpFunc[bitcast/shortest.step]",of_decide_eq_true (by kernel_rfl),
   func251.trans (by kernel_rfl)⟩,f23:=⟨ "slices.choosePivotCmpFunc[bitcast/shortest.step]",of_decide_eq_true (by kernel_rfl),func252.trans (by kernel_rfl)⟩,
   f24:=⟨ "slices.reverseRangeCmpFunc[bitcast/shortest.step]",of_decide_eq_true (by kernel_rfl),func253.trans (by kernel_rfl)⟩,
   f25:=⟨ "slices.partialInsertionSortCmpFunc[bitcast/shortest.step]",of_decide_eq_true (by kernel_rfl),func254.trans (by kernel_rfl)⟩,
   f26:=⟨ "slices.partitionEqualCmpFunc[bitcast/shortest.step]",of_decide_eq_true (by kernel_rfl),func255.trans (by kernel_rfl)⟩,f27:=⟨ "slices.partitionCmpFunc[bitcast/shortest.step]",
   of_decide_eq_true (by kernel_rfl),func256.trans (by kernel_rfl)⟩,f28:=func206.trans (by kernel_rfl),f29:=func207.trans (by kernel_rfl),
   f46:=⟨ "slices.siftDownCmpFunc[bitcast/shortest.step]",of_decide_eq_true (by kernel_rfl),func262.trans (by kernel_rfl)⟩,f47:=func236.trans (by kernel_rfl),
   f48:=func237.trans (by kernel_rfl),f49:=⟨ "slices.medianAdjacentCmpFunc[bitcast/shortest.step]",of_decide_eq_true (by kernel_rfl),func263.trans (by kernel_rfl)⟩,
   f50:=⟨ "slices.medianCmpFunc[bitcast/shortest.step]",of_decide_eq_true (by kernel_rfl),func264.trans (by kernel_rfl)⟩,f57:=⟨ "slices.order2CmpFunc[bitcast/shortest.step]",
   of_decide_eq_true (by kernel_rfl),func265.trans (by kernel_rfl)⟩,t0:=underlying0,a0:=isAgg0,z0:=sizeOf0,v0:=zeroValue0,t3:=underlying3,a3:=isAgg3,
   z3:=sizeOf3,v3:=zeroValue3,t4:=underlying4,a4:=isAgg4,z4:=sizeOf4,v4:=zeroValue4,t5:=underlying5,a5:=isAgg5,z5:=sizeOf5,
   v5:=zeroValue5,t9:=underlying9,a9:=isAgg9,z9:=sizeOf9,v9:=zeroValue9,t22:=underlying234,a22:=isAgg234,z22:=sizeOf234,v22:=zeroValue234,
   t25:=underlying239,a25:=isAgg239,z25:=sizeOf239,v25:=zeroValue239,t39:=underlying178,a39:=isAgg178,z39:=sizeOf178,v39:=zeroValue178,
   t45:=underlying245,a45:=isAgg245,z45:=sizeOf245,v45:=zeroValue245,t46:=underlying246,a46:=isAgg246,z46:=sizeOf246,v46:=zeroValue246,
   t50:=underlying89,a50:=isAgg89,z50:=sizeOf89,v50:=zeroValue89,t53:=underlying252,a53:=isAgg252,z53:=sizeOf252,v53:=zeroValue252,
   t55:=underlying254,a55:=isAgg254,z55:=sizeOf254,v55:=zeroValue254,t66:=underlying272,a66:=isAgg272,z66:=sizeOf272,v66:=zeroValue272,
   t70:=underlying276,a70:=isAgg276,z70:=sizeOf276,v70:=zeroValue276,t76:=underlying289,a76:=isAgg289,z76:=sizeOf289,v76:=zeroValue289,
   t77:=underlying290,a77:=isAgg290,z77:=sizeOf290,v77:=zeroValue290}
def B1(x:ey):dZ:=[.int .i64 x.gX,.int .i64 x.lB]
def ahL(I:bs)(x:ey)(vs:dZ):cV I (e7.enc x) vs↔vs=B1 x:=by
 show cV I [.int .i64 x.gX,.int .i64 x.lB] vs↔vs=_;simp only[cV,bc];constructor
 ·rintro⟨_,_,rfl,rfl,⟨_,_,rfl,rfl,rfl⟩⟩;rfl
 ·rintro rfl;exact⟨_,_,rfl,rfl,⟨_,_,rfl,rfl,rfl⟩⟩
def ahM(I:bs)(β:Nat→Value)(x:ey):bW I β (e7.enc x) (B1 x):=by
 show bW I β [.int .i64 x.gX,.int .i64 x.lB] _;simp only[bW,au,bc];exact⟨_,_,rfl,rfl,⟨_,_,rfl,rfl,rfl⟩⟩
def ahN(x:ey):∀v∈B1 x,v.oneCell'=true:=by
 intro v aa;simp only[B1,List.mem_cons,List.not_mem_nil,or_false]at aa;rcases aa with rfl|rfl<;>rfl
def ahe(a b:ey):Hu a b=some (ht [λx:ey=>x.gX] a b):=by
 unfold Hu;simp only[Oy];unfold FB ht;simp only[aW,ht]
def abN:FR prog 188 189 B1 2 (ht [λx:ey=>x.gX]):=λb1 off aO d w n2 U X=>
 AnyQ.slices_SortFunc ati 2 isAgg237 sizeOf237 B1 (λ_=>rfl) ahN _ (Oc _) 189 #[] b1 off aO d w (enters_of func189 (by kernel_rfl) rfl)
  (Nr ahM (λx y=>anI (ahe x y)) b1 off d.size w) n2 U X
def Z0{d T:Nat}{zs bx:xQ}(h:nG (ht [λx:ey=>x.gX]) zs=some bx):eP prog 188 [(d,.slice T 2 (ax e7 zs) 0 false)] [.own d,.fn 189 []] (λr az=>r=.cI []∧az=[(d,.slice T 2 (ax e7 bx) 0 false)]):=
 NO ahL (by decide) (λ_=>rfl) (λ_=>rfl) (zB _) abN (λp aO yH w=>AnyF.slices_SortFunc_none ati p aO yH w) h
end
section
open Go Go.Proofs.Tryz List
set_option maxRecDepth 100000
set_option linter.all false
def MZ{t:bA}{r:(wX)}(hm:zw t=some r):eP prog 64 [] [.agg (cK t)] (λa az=>a=.own 29∧az=[(29,.slice 175 3 (ax dN r) 0 false)]):=by
 refine dY func64 rfl rfl ?_;unfold zw at hm;refine bp [(0,.al 105)] [(1,.ptr 105 0)] [(105,.cells 28 (cK t))]<|bh [] [] [(3,.c4)]<|A.seq<|fs [(2,aN (eG eT t.Links))] [1] [(7,bO eT t.Links),(8,W t.Links.length),(9,W 0)] [105] []<|A.block<|asH 7 rfl λfA=>?_
 obtain⟨hJ,hK,hv,hw,hm⟩:=iM hm;refine asz (l:=t.Links) (hj:=0) (B:=hJ) (K:=hK) hm (λbk=>λjO=>[(3,.own 600064003),(7,bO eT t.Links),(8,W t.Links.length),(9,W bk)]) (λbk=>λjO=>[(600064003,.slice 175 3 (ax dN jO) 0 false)]) ?_ ?_ ?_
 ·exact kK [.ad 3 600064003 175 3] []
 ·rintro bk aJ c1 jO hP cH hm;rw[hv]at hm;refine bh [] [] [(10,.d ((bk:Int)<t.Links.length))]<|A.seq<|cm (iC cH)<|A.skip<|A.seq<|A.block<|fs [(0,ds (ix eT (gT cH))),(2,.al 133)] [10] [(5,.ptr 133 0)] [] [(133,.cells 62 (gv aJ))] ?_
  obtain⟨ew,h1,hm⟩:=bw hm;exact jj [(18,oE 94 (ap dN (bytes:=24) (by decide) h1))] [3,5] [(3,.own 94)] [600064003,133] [(94,.slice 175 3 (ax dN ew) 0 false)]<|dV [(0,aN (hY cH fA))] [9] [(9,W ((bk+1:Nat):Int))]<|Exists.intro ew (And.intro hm (kK [.mu 94 600064003] []))
 rintro bk jO hP gh hm;rw[hw]at hm;refine bh [] [] [(10,.d ((bk:Int)<t.Links.length))]<|A.seq<|ck (iB gh)<|A.exit ?_
 obtain⟨gr,D,hm⟩:=bw hm;refine bp [(1,fM [] (aax (d:=600064003) (T:=175) D) ahV)] [(3,.own 600064003)] [(600064003,.slice 175 3 (ax dN gr) 0 false)]<|bh [] [3] [(2,.own 600064003)]<|A.ret ?_
 obtain rfl:=kL hm;exact asy bS [.mu 600064003 29] rfl (by kernel_rfl)
end
section
open Go Go.Proofs.Tryz List
set_option maxRecDepth 100000
set_option linter.all false
variable {r:Bool}
def Mw{l:cq}(hm:AU l=some r):dT prog 74 [] [bO aI l] (.bool r):=by
 refine dY func74 rfl rfl ?_;unfold AU at hm;refine bp [] [(0,bO aI l)] []<|A.seq<|bh [] [] [(3,W 1)]<|A.block<|asH 0 rfl λfA=>?_
 obtain⟨hJ,hK,hv,hw,hm⟩:=iM hm;refine asz (l:=l) (hj:=1) (B:=hJ) (K:=hK) hm (λbk=>λ()=>[(0,bO aI l),(3,W bk)]) (λbk=>λ()=>[]) ?_ ?_ ?_
 ·exact gw
 ·rintro bk aJ c1 ⟨⟩ hP cH hm;rw[hv]at hm;refine A.seq<|bh [(2,aN (eG aI l))] [] [(7,.d ((bk:Int)<l.length))] ?_
  refine cm (iC cH)<|A.skip<|A.seq<|A.block ?_
  obtain⟨en,h1,hm⟩:=bw hm;refine bh [(3,ds (ix aI h1)),(7,ds (ix aI (gT cH)))] [7] [(19,.d (aJ≤en))] ?_;rcases cD hm with⟨bl,hm⟩|⟨bl,hm⟩
  ·refine cm bl<|bp [] [(2,.bool false)] [] ?_
   cases hm;exact A.ret de
  exact ck bl<|A.skip<|dV [(1,aN (hY cH fA))] [3,19] [(3,W ((bk+1:Nat):Int))]<|cR () hm
 rintro bk ⟨⟩ hP gh hm;rw[hw]at hm;refine A.seq<|bh [(2,aN (eG aI l))] [] [(7,.d ((bk:Int)<l.length))] ?_
 refine ck (iB gh)<|A.exit<|bp [] [(2,.bool true)] [] ?_
 cases hm;exact A.ret de
variable {hd:cq}{t:bA}
def MD{root:Int}{r:Int}(hm:yJ t root hd=some r):dT prog 62 [] [.agg (cK t),W root,bO aI hd] (W r):=by
 refine dY func62 rfl rfl ?_;unfold yJ at hm;refine bp [(0,.al 55)] [(1,W root),(2,bO aI hd),(3,.ptr 55 0)] [(55,.cells 28 (cK t))]<|A.seq ?_
 obtain⟨aG,h1,hm⟩:=bw hm;refine bh [(1,cM (Mz h1) KY)] [] [(11,.bool (!decide (aG=0)))] ?_;rcases cD hm with⟨bl,hm⟩|⟨bl,hm⟩
 ·refine cm bl<|bp [] [(6,W 1)] [] ?_
  cases hm;exact A.ret de
 refine ck bl<|A.skip<|A.seq ?_
 obtain⟨bt,D,hm⟩:=bw hm;refine bh [(1,cM (Mw D) KZ)] [11] [(14,.bool (!bt))] ?_;rcases cD hm with⟨b2,hm⟩|⟨b2,hm⟩
 ·refine cm b2<|bp [] [(6,W 25)] [] ?_
  cases hm;exact A.ret de
 refine ck b2<|A.skip<|A.seq ?_
 obtain⟨ew,aj,hm⟩:=bw hm;refine fs [(1,.al 62016),(3,oE 60 (ap aI (bytes:=8) (by decide) aj)),(4,aN (eG aI ew))] [1,2,14] [(18,.own 60),(19,W ew.length),(20,W 0)] [] [(60,.slice 3 1 (ax aI ew) 0 false)]<|A.block<|as8 18 rfl rfl λfA=>?_
 obtain⟨hJ,hK,hv,hw,hm⟩:=iM hm;refine asz (l:=ew) (hj:=0) (B:=hJ) (K:=hK) hm (λbk=>λ()=>[(3,.ptr 55 0),(18,.own 60),(19,W ew.length),(20,W bk)]) (λbk=>λ()=>[(55,.cells 28 (cK t)),(60,.slice 3 1 (ax aI ew) 0 false)]) ?_ ?_ ?_
 ·exact gw
 ·rintro bk aJ c1 ⟨⟩ hP cH hm;rw[hv]at hm;refine bh [] [] [(21,.d ((bk:Int)<ew.length))]<|A.seq<|cm (iC cH)<|A.skip<|A.seq<|A.block<|bh [(0,ds (ix aI (gT cH))),(1,hb 60 0 (ix aI (gT cH)))] [21] [(8,W aJ)] ?_
  obtain⟨dy,a1,hm⟩:=bw hm;refine bh [(2,cM (V7 a1) Up)] [8] [(27,.bool (!dy))] ?_;rcases cD hm with⟨c9,hm⟩|⟨c9,hm⟩
  ·refine cm c9<|bp [] [(6,W 4)] [] ?_
   cases hm;exact A.ret de
  exact ck c9<|A.skip<|dV [(0,aN (hY cH fA))] [20,27] [(20,W ((bk+1:Nat):Int))]<|cR () hm
 rintro bk ⟨⟩ hP gh hm;rw[hw]at hm;refine bh [] [] [(21,.d ((bk:Int)<ew.length))]<|A.seq<|ck (iB gh)<|A.exit<|bp [] [(6,W 0)] [] ?_
 cases hm;exact A.ret de
def al5{oq:Int}{kY:fe}(hm:Hs oq kY=some r):dT prog 171 [] [W oq,.fO (vZ kY)] (.bool r):=by
 refine dY func171 rfl rfl ?_;unfold Hs at hm;refine bp [] [(0,W oq),(1,.fO (vZ kY))] [] ?_;obtain⟨aG,h1,hm⟩:=bw hm;refine bp [(3,cM (DD h1) Dd)] [(3,.bool aG)] [] ?_;cases hm;exact A.ret de
variable {l:zy}
def anJ{root:Int}(hm:Ec t root hd l=some r):dT prog 108 [] [.agg (cK t),W root,bO aI hd,bO g1 l] (.bool r):=by
 refine dY func108 rfl rfl ?_;unfold Ec at hm;refine bp [(0,.al 35)] [(1,W root),(2,bO aI hd),(3,bO g1 l),(4,.ptr 35 0)] [(35,.cells 28 (cK t))]<|A.seq<|bh [(1,aN (eG g1 l))] [] [(20,.d (200<(l.length:Int)))] ?_
 rcases cD hm with⟨bl,hm⟩|⟨bl,hm⟩
 ·refine cm bl<|bp [] [(8,.bool false)] [] ?_
  cases hm;exact A.ret de
 refine ck bl<|A.skip<|A.seq<|bh [(1,aN (eG g1 l))] [20] [(21,bO g1 l),(22,W l.length),(23,W 0)]<|A.block<|asH 3 rfl λfA=>?_
 obtain⟨hJ,hK,hv,hw,hm⟩:=iM hm;refine asz (l:=l) (hj:=0) (B:=hJ) (K:=hK) hm (λbk=>λ()=>[(1,W root),(2,bO aI hd),(3,bO g1 l),(4,.ptr 35 0),(21,bO g1 l),(22,W l.length),(23,W bk)]) (λbk=>λ()=>[(35,.cells 28 (cK t))]) ?_ ?_ ?_
 ·exact gw
 ·rintro bk aJ c1 ⟨⟩ hP cH hm;rw[hv]at hm;refine bh [] [] [(24,.d ((bk:Int)<l.length))]<|A.seq<|cm (iC cH)<|A.skip<|A.seq<|A.block<|fs [(0,ds (ix g1 (gT cH))),(2,.al 42)] [24] [(10,.ptr 42 0)] [] [(42,.cells 120 (vZ aJ))]<|A.seq ?_
  obtain⟨eC,j0,hm⟩:=je hm;refine A.J (J:=eC) (r:=r) (λfT=>[(1,W root),(2,bO aI hd),(3,bO g1 l),(4,.ptr 35 0),(10,.ptr 42 0),(21,bO g1 l),(22,W l.length),(23,W bk),(46,.bool fT)]) (λfT=>[(35,.cells 28 (cK t)),(42,.cells 120 (vZ aJ))]) ?_ ?_
  ·rcases cD hm with⟨b2,hm⟩|⟨b2,hm⟩
   ·exact dV [(3,aN (cg b2))] [] [(46,.bool true)]<|cR true hm
   rcases cD hm with⟨c9,hm⟩|⟨c9,hm⟩
   ·exact dV [(3,aN (cg b2)),(8,aN (cg c9))] [] [(46,.bool true)]<|cR true hm
   obtain⟨aG,h1,hm⟩:=bw hm;rcases cD hm with⟨e3,hm⟩|⟨e3,hm⟩
   ·exact dV [(3,aN (cg b2)),(8,aN (cg c9)),(11,cM (Mw h1) KZ),(14,aN (cg e3))] [] [(46,.bool true)]<|cR true hm
   obtain⟨bt,D,hm⟩:=bw hm;exact dV [(3,aN (cg b2)),(8,aN (cg c9)),(11,cM (Mw h1) KZ),(14,aN (cg e3)),(18,cM (DD D) Dd)] [] [(46,.bool bt)]<|cR bt hm
  rintro fT hm;rw[j0]at hm;rcases cD hm with⟨gm,hm⟩|⟨gm,hm⟩
  ·refine cm gm<|bp [] [(8,.bool false)] [] ?_
   cases hm;exact A.ret de
  refine ck gm<|A.skip<|A.seq<|bh [(2,aN (eG aI aJ.bC))] [46] [(48,bO aI aJ.bC),(49,W aJ.bC.length),(50,W 0)]<|A.block<|asH 48 rfl λeS=>?_
  obtain⟨nO,km,n0,n3,hm⟩:=iM hm;refine asz (l:=aJ.bC) (hj:=0) (B:=nO) (K:=km) hm (λdn=>λ()=>[(1,W root),(2,bO aI hd),(3,bO g1 l),(4,.ptr 35 0),(10,.ptr 42 0),(21,bO g1 l),(22,W l.length),(23,W bk),(48,bO aI aJ.bC),(49,W aJ.bC.length),(50,W dn)]) (λdn=>λ()=>[(35,.cells 28 (cK t)),(42,.cells 120 (vZ aJ))]) ?_ ?_ ?_
  ·exact gw
  ·rintro dn e2 hR ⟨⟩ j2 gi hm;rw[n0]at hm;refine bh [] [] [(51,.d ((dn:Int)<aJ.bC.length))]<|A.seq<|cm (iC gi)<|A.skip<|A.seq<|A.block<|bh [(0,ds (ix aI (gT gi)))] [51] [(12,W e2)] ?_
   obtain⟨dy,aj,hm⟩:=bw hm;refine bh [(2,cM (V7 aj) Up)] [12] [(57,.bool (!dy))] ?_;rcases cD hm with⟨hT,hm⟩|⟨hT,hm⟩
   ·refine cm hT<|bp [] [(8,.bool false)] [] ?_
    cases hm;exact A.ret de
   exact ck hT<|A.skip<|dV [(0,aN (hY gi eS))] [50,57] [(50,W ((dn+1:Nat):Int))]<|cR () hm
  rintro dn ⟨⟩ j2 kU hm;rw[n3]at hm;refine bh [] [] [(51,.d ((dn:Int)<aJ.bC.length))]<|A.seq<|ck (iB kU)<|A.exit ?_
  obtain⟨dz,a1,hm⟩:=bw hm;refine fs [(2,hle [42] (alw (iW:=171) (jY:=[.fO (vZ aJ)]) (nX:=aht) (nW:=λ_ _ h=>al5 h) a1) ahs)] [10,48,49,50,51] [(62,.bool (!dz))] [42] [] ?_;rcases cD hm with⟨jc,hm⟩|⟨jc,hm⟩
  ·refine cm jc<|bp [] [(8,.bool false)] [] ?_
   cases hm;exact A.ret de
  exact ck jc<|A.skip<|dV [(0,aN (hY cH fA))] [23,62] [(23,W ((bk+1:Nat):Int))]<|cR () hm
 rintro bk ⟨⟩ hP gh hm;rw[hw]at hm;refine bh [] [] [(24,.d ((bk:Int)<l.length))]<|A.seq<|ck (iB gh)<|A.exit<|A.seq ?_
 obtain⟨gN,bU,hm⟩:=bw hm;refine bp [(1,fM [29] (MZ bU) KX),(2,aN (eG dN gN))] [(3,bO g1 l),(65,.own 29),(66,W gN.length),(67,W 0)] [(29,.slice 175 3 (ax dN gN) 0 false)]<|A.block<|as8 65 rfl rfl λrI=>?_
 obtain⟨s9,tb,tC,tD,hm⟩:=iM hm;refine asz (l:=gN) (hj:=0) (B:=s9) (K:=tb) hm (λeZ=>λ()=>[(3,bO g1 l),(65,.own 29),(66,W gN.length),(67,W eZ)]) (λeZ=>λ()=>[(29,.slice 175 3 (ax dN gN) 0 false)]) ?_ ?_ ?_
 ·exact gw
 ·rintro eZ dm lp ⟨⟩ pM k9 hm;rw[tC]at hm;refine bh [] [] [(68,.d ((eZ:Int)<gN.length))]<|A.seq<|cm (iC k9)<|A.skip<|A.seq<|A.block<|fs [(0,ds (ix dN (gT k9))),(1,hb 29 0 (ix dN (gT k9))),(2,.al 43)] [68] [(14,.ptr 43 0)] [] [(43,.cells 175 (vX dm))]<|bh [] [] [(15,W 0)]<|A.seq<|bh [(1,aN (eG g1 l))] [] [(71,bO g1 l),(72,W l.length),(73,W 0)]<|A.block<|asH 3 rfl λLJ=>?_
  obtain⟨Jr,Jz,Ln,LA,hm⟩:=iM hm;refine asz (l:=l) (hj:=0) (B:=Jr) (K:=Jz) hm (λmF=>λk7=>[(3,bO g1 l),(14,.ptr 43 0),(15,W k7),(65,.own 29),(66,W gN.length),(67,W eZ),(71,bO g1 l),(72,W l.length),(73,W mF)]) (λmF=>λk7=>[(29,.slice 175 3 (ax dN gN) 0 false),(43,.cells 175 (vX dm))]) ?_ ?_ ?_
  ·exact gw
  ·rintro mF gb te k7 LZ ql hm;rw[Ln]at hm;refine bh [] [] [(74,.d ((mF:Int)<l.length))]<|A.seq<|cm (iC ql)<|A.skip ?_
   obtain⟨fZ,j1,hm⟩:=je hm;refine A.J (J:=fZ) (r:=r) (λCp=>[(3,bO g1 l),(14,.ptr 43 0),(15,W Cp),(65,.own 29),(66,W gN.length),(67,W eZ),(71,bO g1 l),(72,W l.length),(73,W mF)]) (λCp=>[(29,.slice 175 3 (ax dN gN) 0 false),(43,.cells 175 (vX dm))]) ?_ ?_
   ·refine A.block<|fs [(0,ds (ix g1 (gT ql))),(2,.al 75)] [74] [(17,.ptr 75 0)] [] [(75,.cells 120 (vZ gb))] ?_
    obtain⟨j7,oB,hm⟩:=je hm;refine A.J (J:=j7) (r:=r) (λmw=>[(3,bO g1 l),(14,.ptr 43 0),(15,W k7),(17,.ptr 75 0),(65,.own 29),(66,W gN.length),(67,W eZ),(71,bO g1 l),(72,W l.length),(73,W mF),(91,.bool mw)]) (λmw=>[(29,.slice 175 3 (ax dN gN) 0 false),(43,.cells 175 (vX dm)),(75,.cells 120 (vZ gb))]) ?_ ?_
    ·obtain⟨hD,dP,hm⟩:=bw hm;rcases cD hm with⟨kN,hm⟩|⟨kN,hm⟩
     ·obtain⟨e0,fz,hm⟩:=bw hm;exact dV [(5,cM (DD dP) Dd),(6,aN (cg kN)),(12,cM (DD fz) Dd)] [] [(91,.bool (!e0))]<|cR (!e0) hm
     exact dV [(5,cM (DD dP) Dd),(6,aN (cg kN))] [] [(91,.bool false)]<|cR false hm
    rintro mw hm;rw[oB]at hm;rcases cD hm with⟨kX,hm⟩|⟨kX,hm⟩
    ·exact cm kX<|jj [] [15,17,91] [(15,W (aF (k7+gb.Value)))] [75] []<|cR (aF (k7+gb.Value)) hm
    exact ck kX<|A.skip<|cR k7 hm
   rintro Cp hm;rw[j1]at hm;exact dV [(0,aN (hY ql LJ))] [73] [(73,W ((mF+1:Nat):Int))]<|cR Cp hm
  rintro mF k7 LZ GQ hm;rw[LA]at hm;refine bh [] [] [(74,.d ((mF:Int)<l.length))]<|A.seq<|ck (iB GQ)<|A.exit<|fs [] [14,15,71,72,73,74] [(100,.d (dm.c6<k7))] [43] [] ?_
  rcases cD hm with⟨l8,hm⟩|⟨l8,hm⟩
  ·refine cm l8<|bp [] [(8,.bool false)] [] ?_
   cases hm;exact A.ret de
  exact ck l8<|A.skip<|dV [(0,aN (hY k9 rI))] [67,100] [(67,W ((eZ+1:Nat):Int))]<|cR () hm
 rintro eZ ⟨⟩ pM mY hm;rw[tD]at hm;refine bh [] [] [(68,.d ((eZ:Int)<gN.length))]<|A.seq<|ck (iB mY)<|A.exit<|bp [] [(8,.bool true)] [] ?_
 cases hm;exact A.ret de
def VS{root:Int}{r:Int×Int}(hm:yE t root hd l=some r):dT prog 48 [] [.agg (cK t),W root,bO aI hd,bO g1 l] (.cI [W r.1,W r.2]):=by
 refine dY func48 rfl rfl ?_;unfold yE at hm;refine bp [(0,.al 84)] [(1,W root),(2,bO aI hd),(3,bO g1 l),(4,.ptr 84 0)] [(84,.cells 28 (cK t))]<|A.seq ?_
 obtain⟨aG,h1,hm⟩:=bw hm;refine bh [(3,cM (MD h1) KW)] [] [(10,W aG)]<|bh [] [] [(19,.bool (!decide (aG=0)))] ?_
 rcases cD hm with⟨bl,hm⟩|⟨bl,hm⟩
 ·refine cm bl<|bp [] [(8,W 0),(9,W aG)] [] ?_
  cases hm;exact A.ret de
 refine ck bl<|A.skip<|A.seq ?_
 obtain⟨bt,D,hm⟩:=bw hm;refine bp [(4,cM (anJ D) ahQ)] [(3,bO g1 l),(26,.bool (!bt))] [] ?_;rcases cD hm with⟨b2,hm⟩|⟨b2,hm⟩
 ·refine cm b2<|bp [] [(8,W 0),(9,W 1)] [] ?_
  cases hm;exact A.ret de
 refine ck b2<|A.skip<|bh [] [26] [(11,W 0)]<|A.seq<|bh [(1,aN (eG g1 l))] [3] [(27,bO g1 l),(28,W l.length),(29,W 0)]<|A.block<|asH 27 rfl λfA=>?_
 obtain⟨hJ,hK,hv,hw,hm⟩:=iM hm;refine asz (l:=l) (hj:=0) (B:=hJ) (K:=hK) hm (λbk=>λk7=>[(11,W k7),(27,bO g1 l),(28,W l.length),(29,W bk)]) (λbk=>λk7=>[]) ?_ ?_ ?_
 ·exact gw
 ·rintro bk aJ c1 k7 hP cH hm;rw[hv]at hm;exact bh [] [] [(30,.d ((bk:Int)<l.length))]<|A.seq<|cm (iC cH)<|A.skip<|A.seq<|A.block<|fs [(0,ds (ix g1 (gT cH))),(2,.al 130)] [30] [(13,.ptr 130 0)] [] [(130,.cells 120 (vZ aJ))]<|jj [] [11,13] [(11,W (aF (k7+aJ.Value)))] [130] []<|dV [(0,aN (hY cH fA))] [29] [(29,W ((bk+1:Nat):Int))]<|cR (aF (k7+aJ.Value)) hm
 rintro bk k7 hP gh hm;rw[hw]at hm;refine bh [] [] [(30,.d ((bk:Int)<l.length))]<|A.seq<|ck (iB gh)<|A.exit<|bp [] [(8,W k7),(9,W 0)] [] ?_
 cases hm;exact A.ret de
end
section
open Go Go.Proofs.Tryz List
set_option maxRecDepth 100000
set_option linter.all false
variable {r:Int}{t:bA}
def Wa{nm:Int}(hm:Ev t nm=some r):dT prog 172 [] [.agg (cK t),W nm] (W r):=by
 refine dY func172 rfl rfl ?_;unfold Ev at hm;refine bp [(0,.al 64)] [(1,W nm),(2,.ptr 64 0)] [(64,.cells 28 (cK t))]<|A.seq<|bh [] [] [(5,W 0)]<|A.block<|asS 2 0 rfl rfl rfl λfA=>?_
 obtain⟨hJ,hK,hv,hw,hm⟩:=iM hm;refine asz (l:=t.bC) (hj:=0) (B:=hJ) (K:=hK) hm (λbk=>λ()=>[(1,W nm),(2,.ptr 64 0),(5,W bk)]) (λbk=>λ()=>[(64,.cells 28 (cK t))]) ?_ ?_ ?_
 ·exact gw
 ·rintro bk aJ c1 ⟨⟩ hP cH hm;rw[hv]at hm;refine A.seq<|bh [(3,aN (eG ec t.bC))] [] [(10,.d ((bk:Int)<t.bC.length))] ?_
  refine cm (iC cH)<|A.skip<|A.seq<|A.block<|bh [(3,ds (ix ec (gT cH)))] [10] [(20,.d (aJ.cu=nm))] ?_
  rcases cD hm with⟨bl,hm⟩|⟨bl,hm⟩
  ·refine cm bl<|bp [] [(4,W bk)] [] ?_
   cases hm;exact A.ret de
  exact ck bl<|A.skip<|dV [(1,aN (hY cH fA))] [5,20] [(5,W ((bk+1:Nat):Int))]<|cR () hm
 rintro bk ⟨⟩ hP gh hm;rw[hw]at hm;refine A.seq<|bh [(3,aN (eG ec t.bC))] [] [(10,.d ((bk:Int)<t.bC.length))] ?_
 refine ck (iB gh)<|A.exit<|bp [] [(4,W 0)] [] ?_
 cases hm;exact A.ret de
def XF{yj:Int}{r:(cq)}(hm:EK t yj=some r):dT prog 110 [] [.agg (cK t),W yj] (bO aI r):=by
 refine dY func110 rfl rfl ?_;unfold EK at hm;refine bp [(0,.al 27)] [(1,W yj),(2,.ptr 27 0)] [(27,.cells 28 (cK t))] ?_;obtain⟨h1,hm⟩:=qc hm;refine fs [(2,aN (eG ec t.bC)),(3,y8 (a:=W 0) 87 (0:Int) aI.enc (t.bC.length:Int) FP SU rfl (λI=>by simp[bc]) h1 (by decide))] [] [(5,.own 87)] [] [(87,.slice 3 1 (ax aI (List.replicate ((t.bC.length:Int)).toNat (0:Int))) 0 false)]<|A.seq<|bh [] [] [(6,W 0)]<|A.block ?_
 obtain⟨mO,hH,mW,hm⟩:=nv hm;refine asL (F:=mO) hm (λ(uF,c3)=>[(1,W yj),(2,.ptr 27 0),(5,.own 25),(6,W c3)]) (λ(uF,c3)=>[(27,.cells 28 (cK t)),(25,.slice 3 1 (ax aI uF) 0 false)]) ?_ ?_
 ·exact kK [.mu 87 25] []
 rintro c1 ⟨uF,c3⟩ hm;rw[mW]at hm;refine A.seq<|bh [(2,aN (eG aI uF))] [] [(19,.d (c3<(uF.length:Int)))] ?_
 rcases cD hm with⟨bl,hm⟩|⟨bl,hm⟩
 ·refine cm bl<|A.skip ?_
  obtain⟨eC,j0,hm⟩:=je hm;refine A.J (J:=eC) (r:=r) (λAJ=>[(1,W yj),(2,.ptr 27 0),(5,.own 25),(6,W c3)]) (λAJ=>[(27,.cells 28 (cK t)),(25,.slice 3 1 (ax aI AJ) 0 false)]) ?_ ?_
  ·refine A.block ?_;obtain⟨en,D,hm⟩:=bw hm;obtain⟨ew,aj,hm⟩:=bw hm;refine fs [(2,ds (ix aI D)),(3,o1 25 (st aI (off:=0) (ca:=[W 1073741824]) D aj rfl) (qd D).1.1)] [19] [] [25] [(25,.slice 3 1 (ax aI ew) 0 false)] ?_;obtain⟨er,a1,hm⟩:=bw hm;refine bh [(3,ds (ix ec a1))] [] [(32,.d (er.cu=yj))] ?_;rcases cD hm with⟨b2,hm⟩|⟨b2,hm⟩
   ·refine cm b2 ?_;obtain⟨rE,bU,hm⟩:=bw hm;obtain⟨gr,dP,hm⟩:=bw hm;exact jj [(2,ds (ix aI bU)),(3,o1 25 (st aI (off:=0) (ca:=[W 0]) bU dP rfl) (qd bU).1.1)] [32] [] [25] [(25,.slice 3 1 (ax aI gr) 0 false)]<|cR gr hm
   exact ck b2<|A.skip<|cR ew hm
  rintro AJ hm;rw[j0]at hm;exact dV [] [6] [(6,W (aF (c3+1)))]<|cR (AJ,aF (c3+1)) hm
 refine ck bl<|A.exit<|A.seq<|bh [] [1,6,19] [(7,W 0)]<|A.block ?_
 obtain⟨yu,g3,yP,hm⟩:=nv hm;refine asL (F:=yu) hm (λ(vH,sJ)=>[(2,.ptr 27 0),(5,.own 25),(7,W sJ)]) (λ(vH,sJ)=>[(27,.cells 28 (cK t)),(25,.slice 3 1 (ax aI vH) 0 false)]) ?_ ?_
 ·exact gw
 rintro hR ⟨vH,sJ⟩ hm;rw[yP]at hm;refine A.seq<|bh [(2,aN (eG aI vH))] [] [(39,.d (sJ<(vH.length:Int)))] ?_
 rcases cD hm with⟨c9,hm⟩|⟨c9,hm⟩
 ·refine cm c9<|A.skip<|A.seq<|A.block<|bh [] [39] [(8,W 0)]<|A.block<|asS 2 1 rfl rfl rfl λrI=>?_
  obtain⟨s9,tb,tC,tD,hm⟩:=iM hm;refine asz (l:=t.Links) (hj:=0) (B:=s9) (K:=tb) hm (λeZ=>λrD=>[(2,.ptr 27 0),(5,.own 25),(7,W sJ),(8,W eZ)]) (λeZ=>λrD=>[(27,.cells 28 (cK t)),(25,.slice 3 1 (ax aI rD) 0 false)]) ?_ ?_ ?_
  ·exact gw
  ·rintro eZ dm lp rD pM k9 hm;rw[tC]at hm;refine A.seq<|bh [(3,aN (eG eT t.Links))] [] [(46,.d ((eZ:Int)<t.Links.length))] ?_
   refine cm (iC k9)<|A.skip ?_
   obtain⟨fZ,j1,hm⟩:=je hm;refine A.J (J:=fZ) (r:=r) (λAK=>[(2,.ptr 27 0),(5,.own 25),(7,W sJ),(8,W eZ)]) (λAK=>[(27,.cells 28 (cK t)),(25,.slice 3 1 (ax aI AK) 0 false)]) ?_ ?_
   ·refine A.block<|fs [(3,ds (ix eT (gT k9))),(5,.al 66)] [46] [(9,.ptr 66 0)] [] [(66,.cells 62 (gv dm))] ?_
    obtain⟨aG,fz,hm⟩:=bw hm;obtain⟨bt,ka,hm⟩:=bw hm;refine bh [(3,cM (Wa fz) S6),(7,cM (Wa ka) S6)] [] [(10,W aG),(11,W bt)] ?_;obtain⟨j7,oB,hm⟩:=je hm;refine A.J (J:=j7) (r:=r) (λvI=>[(2,.ptr 27 0),(5,.own 25),(7,W sJ),(8,W eZ),(9,.ptr 66 0),(10,W aG),(11,W bt)]) (λvI=>[(27,.cells 28 (cK t)),(25,.slice 3 1 (ax aI vI) 0 false),(66,.cells 62 (gv dm))]) ?_ ?_
    ·obtain⟨nU,iy,hm⟩:=bw hm;refine bh [(2,ds (ix aI iy)),(3,hb 25 0 (ix aI iy))] [] [(66,.d (nU<1073741824))] ?_;rcases cD hm with⟨e3,hm⟩|⟨e3,hm⟩
     ·refine cm e3 ?_;obtain⟨tj,oT,hm⟩:=bw hm;obtain⟨jy,tv,hm⟩:=bw hm;exact jj [(4,ds (ix aI oT)),(5,hb 25 0 (ix aI oT)),(10,ds (ix aI iy)),(11,hb 25 0 (ix aI iy)),(14,ds (ix aI oT)),(15,o1 25 (st aI (off:=0) (ca:=[W (if(aF (dm.kP+nU))<tj then aF (dm.kP+nU)else tj)]) oT tv rfl) (qd oT).1.1)] [66] [] [25] [(25,.slice 3 1 (ax aI jy) 0 false)]<|cR jy hm
     exact ck e3<|A.skip<|cR rD hm
    rintro vI hm;rw[oB]at hm;obtain⟨qK,tw,hm⟩:=bw hm;refine bh [(2,ds (ix aI tw)),(3,hb 25 0 (ix aI tw))] [] [(86,.d (qK<1073741824))] ?_;rcases cD hm with⟨gm,hm⟩|⟨gm,hm⟩
    ·refine cm gm ?_;obtain⟨sv,qf,hm⟩:=bw hm;obtain⟨lM,yM,hm⟩:=bw hm;exact jj [(4,ds (ix aI qf)),(5,hb 25 0 (ix aI qf)),(10,ds (ix aI tw)),(11,hb 25 0 (ix aI tw)),(14,ds (ix aI qf)),(15,o1 25 (st aI (off:=0) (ca:=[W (if(aF (dm.kQ+qK))<sv then aF (dm.kQ+qK)else sv)]) qf yM rfl) (qd qf).1.1)] [9,10,11,86] [] [25,66] [(25,.slice 3 1 (ax aI lM) 0 false)]<|cR lM hm
    exact ck gm<|A.skip<|cR vI hm
   rintro AK hm;rw[j1]at hm;exact dV [(1,aN (hY k9 rI))] [8] [(8,W ((eZ+1:Nat):Int))]<|cR AK hm
  rintro eZ rD pM mY hm;rw[tD]at hm;refine A.seq<|bh [(3,aN (eG eT t.Links))] [] [(46,.d ((eZ:Int)<t.Links.length))] ?_
  exact ck (iB mY)<|A.exit<|dV [] [7,8,46] [(7,W (aF (sJ+1)))]<|cR (rD,aF (sJ+1)) hm
 refine ck c9<|A.exit<|fs [] [2,5,7,39] [(4,.own 25)] [27] []<|A.ret ?_
 obtain rfl:=kL hm;exact asy bS [.c5 [25]] rfl (by kernel_rfl)
def XG{d:cq}{zS:Int}(hm:Bu t d zS=some r):dT prog 109 [] [.agg (cK t),bO aI d,W zS] (W r):=by
 refine dY func109 rfl rfl ?_;unfold Bu at hm;refine bp [(0,.al 61)] [(1,bO aI d),(2,W zS),(3,.ptr 61 0)] [(61,.cells 28 (cK t))]<|A.seq<|bh [] [] [(7,W 0)]<|A.block<|asS 3 0 rfl rfl rfl λfA=>?_
 obtain⟨hJ,hK,hv,hw,hm⟩:=iM hm;refine asz (l:=t.bC) (hj:=0) (B:=hJ) (K:=hK) hm (λbk=>λ()=>[(1,bO aI d),(2,W zS),(3,.ptr 61 0),(7,W bk)]) (λbk=>λ()=>[(61,.cells 28 (cK t))]) ?_ ?_ ?_
 ·exact gw
 ·rintro bk aJ c1 ⟨⟩ hP cH hm;rw[hv]at hm;refine A.seq<|bh [(3,aN (eG ec t.bC))] [] [(12,.d ((bk:Int)<t.bC.length))] ?_
  refine cm (iC cH)<|A.skip<|A.seq<|A.block<|bh [(3,ds (ix ec (gT cH)))] [12] [(22,.d (aJ.cu=zS))] ?_
  rcases cD hm with⟨bl,hm⟩|⟨bl,hm⟩
  ·refine cm bl ?_;obtain⟨en,h1,hm⟩:=bw hm;refine bp [(2,ds (ix aI h1))] [(6,W en)] [] ?_;cases hm;exact A.ret de
  exact ck bl<|A.skip<|dV [(1,aN (hY cH fA))] [7,22] [(7,W ((bk+1:Nat):Int))]<|cR () hm
 rintro bk ⟨⟩ hP gh hm;rw[hw]at hm;refine A.seq<|bh [(3,aN (eG ec t.bC))] [] [(12,.d ((bk:Int)<t.bC.length))] ?_
 refine ck (iB gh)<|A.exit<|bp [] [(6,W 1073741824)] [] ?_
 cases hm;exact A.ret de
def aoa{k5:Int}{oi:Int}{r:Int×Bool}(hm:Ez t k5 oi=some r):dT prog 49 [] [.agg (cK t),W k5,W oi] (.cI [W r.1,.bool r.2]):=by
 refine dY func49 rfl rfl ?_;unfold Ez at hm;refine bp [(0,.al 79)] [(1,W k5),(2,W oi),(3,.ptr 79 0)] [(79,.cells 28 (cK t))]<|A.seq ?_
 obtain⟨eC,j0,hm⟩:=je hm;refine A.J (J:=eC) (r:=r) (λfT=>[(1,W k5),(2,W oi),(3,.ptr 79 0),(18,.bool fT)]) (λfT=>[(79,.cells 28 (cK t))]) ?_ ?_
 ·obtain⟨aG,h1,hm⟩:=bw hm;rcases cD hm with⟨bl,hm⟩|⟨bl,hm⟩
  ·exact dV [(2,cM (MM h1) K0),(4,aN (cg bl))] [] [(18,.bool true)]<|cR true hm
  obtain⟨bt,D,hm⟩:=bw hm;exact dV [(2,cM (MM h1) K0),(4,aN (cg bl)),(7,cM (MM D) K0)] [] [(18,.bool (!bt))]<|cR (!bt) hm
 rintro fT hm;rw[j0]at hm;rcases cD hm with⟨b2,hm⟩|⟨b2,hm⟩
 ·refine cm b2<|bp [] [(6,W 0),(7,.bool false)] [] ?_
  cases hm;exact A.ret de
 refine ck b2<|A.skip ?_
 obtain⟨dy,aj,hm⟩:=bw hm;obtain⟨dz,a1,hm⟩:=bw hm;refine bp [(3,cM (XF aj) ahS),(5,cM (XG a1) ahR)] [(8,W dz)] []<|A.seq<|bh [] [] [(26,.d (dz=1073741824))] ?_
 rcases cD hm with⟨c9,hm⟩|⟨c9,hm⟩
 ·refine cm c9<|bp [] [(6,W 0),(7,.bool false)] [] ?_
  cases hm;exact A.ret de
 refine ck c9<|A.skip<|bp [] [(6,W dz),(7,.bool true)] [] ?_
 cases hm;exact A.ret de
end
end Go.Proofs.YtmnbolcmepihlaaGreat
namespace Go.Proofs.YtmnbolcmepihlaaGreat
set_option linter.all false
open Go Go.Proofs.Tryz List
def sk(s:Int×Int):Q:=.agg [.int .i64 s.1,.int .i64 s.2]
def b0(m:List (Int×Int))(r:Int):Int:=(aD m r).getD 2305843009213693951
abbrev et(aq:wX)(cF:List (List Q))(m1:List (Int×Int))(ei:List (List Q))(m2:List (Int×(Int×Int))):Y:=
 [(910000000,.cells 165 [.bf false (ax dN aq),.own 74,.own 82]),(74,.gP 144 cF 910000002),(910000002,.map 3 3 (bQ .i64 (c0 .i64) m1)),(82,.gP 166 ei 910000004),(910000004,.map 3 169 (bQ .i64 sk m2))]
def OB:∀w,∃v,(zeroValue 3).run prog w=.ok v w∧∀I,bc I (c0 .i64 0) v:=λw=>⟨_,zeroValue3 w,λI=>by simp[bc,c0]⟩
variable {aq:wX}{cF ei:List (List Q)}{m1:List (Int×Int)}{m2:List (Int×(Int×Int))}
def Cb(r:Int):dT prog 120 (et aq cF m1 ei m2) [.ptr 910000000 0,.int .i64 (cF.length:Int),.int .i64 r] (.int .i64 (b0 m1 r)):=by
 refine dY func120 rfl rfl ?_;refine asx bS [] [] [(0,.ptr 910000000 0),(1,.int .i64 (cF.length:Int)),(2,.int .i64 r)] (et aq cF m1 ei m2) (by kernel_rfl) ?_;refine A.seq ?_;refine asx bS [] [(5,Be (xs:=cF) (i:=(cF.length:Int)) Cx ⟨by omega,by omega⟩),(6,o3 (xs:=cF) (p:=(cF.length:Int).toNat) Cv (by omega)),(8,DU (lk (E:=3) (k:=.i64) (enc:=c0 .i64) m1 r 0 OB))] [(7,.int .i64 ((aD m1 r).getD 0)),(8,.bool (aD m1 r).isSome)] (et aq cF m1 ei m2) (by kernel_rfl) ?_;refine asx bS [] [] [(7,.int .i64 ((aD m1 r).getD 0)),(21,.bool (aD m1 r).isSome)] (et aq cF m1 ei m2) (by kernel_rfl) ?_;cases bu:aD m1 r with
 |some c=>
  refine asC rfl rfl ?_;refine asx bS [] [] [(6,.int .i64 c)] (et aq cF m1 ei m2) (by kernel_rfl) ?_;refine A.ret ?_;have e:b0 m1 r=c:=by unfold b0;rw[bu];rfl
  rw[e];exact asy bS [] rfl (by kernel_rfl)
 |none=>
  refine asA rfl rfl ?_;refine A.skip ?_;show aS _ _ _ _ _;refine asx bS [] [] [(6,.int .i64 2305843009213693951)] (et aq cF m1 ei m2) (by kernel_rfl) ?_;refine A.ret ?_;have e:b0 m1 r=2305843009213693951:=by unfold b0;rw[bu];rfl
  rw[e];exact asy bS [] rfl (by kernel_rfl)
def R4{rows:List (List (Int×Int))}{s:Int}{m:List (Int×Int)}(r:Int)(X:di rows s=some m):
  dT prog 120 (et aq (rows.map λm=>[.dw (bQ .i64 (c0 .i64) m)]) m1 ei m2) [.ptr 910000000 0,.int .i64 s,.int .i64 r] (.int .i64 (b0 m r)):=by
 obtain⟨bM,h1⟩:=(show 0≤s∧rows[s.toNat]?=some m by unfold di at X;split at X;exact⟨‹_›,X⟩;cases X);have bL:=(List.getElem?_eq_some_iff.1 h1).1;have iz:(rows.map λm=>[Q.dw (bQ .i64 (c0 .i64) m)])[s.toNat]?=some [.dw (bQ .i64 (c0 .i64) m)]:=by rw[List.getElem?_map,h1];rfl
 have eA:0≤s∧s<((rows.map λm=>[Q.dw (bQ .i64 (c0 .i64) m)]).length:Int)+1:=by rw[length_map];omega
 generalize zi:(rows.map λm=>[Q.dw (bQ .i64 (c0 .i64) m)])=cF at iz eA ⊢;refine dY func120 rfl rfl ?_;refine asx bS [] [] [(0,.ptr 910000000 0),(1,.int .i64 s),(2,.int .i64 r)] (et aq cF m1 ei m2) (by kernel_rfl) ?_;refine A.seq ?_;refine asx bS [] [(5,Be (xs:=cF) (i:=s) Cx eA),(6,VE (xs:=cF) (p:=s.toNat) Cv iz),(8,oF (k:=.i64) m r (c0 .i64) 0 o5 OB)] [(7,.int .i64 ((aD m r).getD 0)),(8,.bool (aD m r).isSome)] (et aq cF m1 ei m2) (by kernel_rfl) ?_;refine asx bS [] [] [(7,.int .i64 ((aD m r).getD 0)),(21,.bool (aD m r).isSome)] (et aq cF m1 ei m2) (by kernel_rfl) ?_;cases bu:aD m r with
 |some c=>
  refine asC rfl rfl ?_;refine asx bS [] [] [(6,.int .i64 c)] (et aq cF m1 ei m2) (by kernel_rfl) ?_;refine A.ret ?_;have e:b0 m r=c:=by unfold b0;rw[bu];rfl
  rw[e];exact asy bS [] rfl (by kernel_rfl)
 |none=>
  refine asA rfl rfl ?_;refine A.skip ?_;show aS _ _ _ _ _;refine asx bS [] [] [(6,.int .i64 2305843009213693951)] (et aq cF m1 ei m2) (by kernel_rfl) ?_;refine A.ret ?_;have e:b0 m r=2305843009213693951:=by unfold b0;rw[bu];rfl
  rw[e];exact asy bS [] rfl (by kernel_rfl)
def IZ(r c vh vo:Int)(af:b0 m1 r≤c):
  eP prog 119 (et aq cF m1 ei m2) [.ptr 910000000 0,.int .i64 (cF.length:Int),.int .i64 r,.int .i64 c,.agg [.int .i64 vh,.int .i64 vo]] (λa az=>a=.bool false∧az=et aq cF m1 ei m2):=by
 refine dY func119 rfl rfl ?_;refine asx bS [] [(0,.al 99)] [(0,.ptr 910000000 0),(1,.int .i64 (cF.length:Int)),(2,.int .i64 r),(3,.int .i64 c)] (et aq cF m1 ei m2) (by kernel_rfl) ?_;refine A.seq ?_;refine asx bS [] [(4,cM (Cb (aq:=aq) (cF:=cF) (m1:=m1) (ei:=ei) (m2:=m2) r) wC)] [(16,.bool (decide (b0 m1 r≤c)))] (et aq cF m1 ei m2) (by kernel_rfl) ?_;refine asC rfl (decide_eq_true af) ?_;refine asx bS [] [] [(10,.bool false)] (et aq cF m1 ei m2) (by kernel_rfl) ?_;refine A.ret ?_;exact asy bS [] rfl (by kernel_rfl)
def Xf:∀w,(zeroValue 169).run prog w=.ok (.agg #[.int .i64 0,.int .i64 0]) w:=λw=>zeroValue169 w
def Xg:∀I,bc I (sk (0,0)) (.agg #[.int .i64 0,.int .i64 0]):=λI=>by
 simp only[sk,bc,cV];exact⟨_,rfl,_,_,rfl,rfl,_,_,rfl,rfl,rfl⟩
def I1(r c vh vo:Int)(aH:ei.length=cF.length)(af:c<b0 m1 r):
  eP prog 119 (et aq cF m1 ei m2) [.ptr 910000000 0,.int .i64 (cF.length:Int),.int .i64 r,.int .i64 c,.agg [.int .i64 vh,.int .i64 vo]] (λa az=>a=.bool true∧az=et aq cF (bG m1 r c) ei (bG m2 r (vh,vo))):=by
 rw[←NS r ((aD m1 r).getD 0) c m1,←NS r ((aD m2 r).getD (0,0)) (vh,vo) m2];refine dY func119 rfl rfl ?_;refine asx bS [] [(0,.al 99)] [(0,.ptr 910000000 0),(1,.int .i64 (cF.length:Int)),(2,.int .i64 r),(3,.int .i64 c),(9,.ptr 99 0)] (et aq cF m1 ei m2++[(99,.cells 169 [.int .i64 vh,.int .i64 vo])]) (by kernel_rfl) ?_;refine A.seq ?_;refine asx bS [] [(4,cM (Cb (aq:=aq) (cF:=cF) (m1:=m1) (ei:=ei) (m2:=m2) r) wC)] [(0,.ptr 910000000 0),(1,.int .i64 (cF.length:Int)),(2,.int .i64 r),(3,.int .i64 c),(9,.ptr 99 0),(16,.bool (decide (b0 m1 r≤c)))] (et aq cF m1 ei m2++[(99,.cells 169 [.int .i64 vh,.int .i64 vo])]) (by kernel_rfl) ?_;refine asA rfl (decide_eq_false (by omega)) ?_;refine A.skip ?_;show aS _ _ _ _ _;refine atv (d:=910000002) (K:=3) (E:=3) (bH:=bQ .i64 (c0 .i64) m1) rfl λpH gv=>?_;refine atv (d:=910000004) (K:=3) (E:=169) (bH:=bQ .i64 sk m2) rfl λUH cK=>?_
 refine asx bS [] [(5,Be (xs:=cF) (i:=(cF.length:Int)) Cx ⟨by omega,by omega⟩),(6,o3 (xs:=cF) (p:=(cF.length:Int).toNat) Cv (by omega)),(13,Be (xs:=ei) (i:=(cF.length:Int)) SZ ⟨by omega,by omega⟩),(14,o3 (xs:=ei) (p:=(cF.length:Int).toNat) S0 (by omega)),
   (18,Vk (k:=.i64) r m1 (c0 .i64) 0 pH gv o5 (λw=>zeroValue3 w) (λI=>by simp[bc,c0])),(20,jt (k:=.i64) (a0:=(aD m1 r).getD 0) r (.int .i64 0) (bG m1 r ((aD m1 r).getD 0)) (c0 .i64) c pH gv (EP _ _ _) rfl),
   (21,Vk (k:=.i64) r m2 sk (0,0) UH cK Fo Xf Xg),(23,jt (k:=.i64) (a0:=(aD m2 r).getD (0,0)) r (.agg #[.int .i64 0,.int .i64 0]) (bG m2 r ((aD m2 r).getD (0,0))) sk (vh,vo) UH cK (EP _ _ _) rfl)]
  [] (et aq cF (bG (bG m1 r ((aD m1 r).getD 0)) r c) ei (bG (bG m2 r ((aD m2 r).getD (0,0))) r (vh,vo))) (by kernel_rfl) ?_
 refine asx bS [] [] [(10,.bool true)] (et aq cF (bG (bG m1 r ((aD m1 r).getD 0)) r c) ei (bG (bG m2 r ((aD m2 r).getD (0,0))) r (vh,vo))) (by kernel_rfl) ?_;refine A.ret ?_;exact asy bS [] rfl (by kernel_rfl)
end Go.Proofs.YtmnbolcmepihlaaGreat
namespace Go.Proofs.YtmnbolcmepihlaaGreat
set_option linter.all false
open Go Go.Proofs.Tryz List
def Ng{α:Type}{n x:Int}(v:α)(h:x≠n):∀l:List (Int×α),aD (bG l n v) x=aD l x
 |[]=>by
  have:¬n=x:=λe=>h e.symm;simp[bG,aD,this]
 |p::r=>by
  unfold bG;split
  ·rename_i aC;have:¬p.1=x:=λe=>h (by rw[←e,aC]);have D:¬n=x:=λe=>h e.symm;rw[jN,jN,if_neg this,if_neg D]
  ·rw[jN,jN,Ng v h r]
def sK(m:List (Int×Int))(r c x:Int):b0 (bG m r c) x=if x=r then c else b0 m x:=by
 unfold b0;split
 ·rename_i h;subst h;rw[EP];rfl
 ·rename_i h;rw[Ng _ h]
def nj(aq:wX)(m:List (Int×Int)):Nat:=(aq.map λa=>(b0 m a.Hop.bz).toNat).sum
def Jg{m hF:List (Int×Int)}(h:∀x,b0 hF x≤b0 m x):∀aq:wX,nj aq hF≤nj aq m
 |[]=>Nat.le_refl _
 |a::r=>by
  have h1:=Jg h r;have D:=h a.Hop.bz;unfold nj at h1 ⊢;simp only[map_cons,sum_cons];omega
def JP{m hF:List (Int×Int)}(h:∀x,b0 hF x≤b0 m x){a:bB}(bM:0≤b0 hF a.Hop.bz)(bL:b0 hF a.Hop.bz<b0 m a.Hop.bz):∀{aq:wX},a∈aq→nj aq hF<nj aq m
 |[],ay=>by cases ay
 |b::r,ay=>by
  have D:=h b.Hop.bz;rcases mem_cons.1 ay with rfl|ay
  ·have h1:=Jg h r;unfold nj at h1 ⊢;simp only[map_cons,sum_cons];omega
  ·have h1:=JP h bM bL ay;unfold nj at h1 ⊢;simp only[map_cons,sum_cons];omega
def Z2{aq:wX}{cF:List (List Q)}{m1:List (Int×Int)}{ei:List (List Q)}{m2:List (Int×(Int×Int))}(aH:ei.length=cF.length)(J:List (Int×Int)→List (Int×(Int×Int))→Prop)(bM:J m1 m2)
  (U:∀m1 m2,J m1 m2→∀r,0≤b0 m1 r∧b0 m1 r≤2305843009213693951) (ay:∀a∈aq,0≤a.c6∧a.c6≤1000000)
  (iQ:∀m1 m2 a,J m1 m2→a∈aq→a.c6+b0 m1 a.Hop.br<b0 m1 a.Hop.bz→J (bG m1 a.Hop.bz (a.c6+b0 m1 a.Hop.br)) (bG m2 a.Hop.bz (a.Hop.br,0))) :
  eP prog 121 (et aq cF m1 ei m2) [.ptr 910000000 0,.int .i64 (cF.length:Int)] (λa az=>a=.cI []∧∃hH g3,J hH g3∧(∀a∈aq,b0 hH a.Hop.bz≤a.c6+b0 hH a.Hop.br)∧az=et aq cF hH ei g3):=by
 refine dY func121 rfl rfl ?_;refine asx bS [] [] [(0,.ptr 910000000 0),(1,.int .i64 (cF.length:Int)),(4,.bool true)] (et aq cF m1 ei m2) (by kernel_rfl) ?_;refine A.block ?_;refine A.loop (α:=List (Int×Int)×List (Int×(Int×Int))×Bool) (λg=>[(0,.ptr 910000000 0),(1,.int .i64 (cF.length:Int)),(4,.bool g.2.2)]) (λg=>et aq cF g.1 ei g.2.1) (λg=>J g.1 g.2.1∧(g.2.2=false→∀a∈aq,b0 g.1 a.Hop.bz≤a.c6+b0 g.1 a.Hop.br)) (λg=>nj aq g.1+(bif g.2.2 then 1 else 0)) (m1,m2,true) ⟨bM,λh=>by cases h⟩ (cr.go [] [] (by kernel_rfl)) ?_;rintro⟨hy,jA,kO⟩ ⟨hu,X⟩;simp only at hu X;refine A.seq ?_;refine asx bS [] [] [(0,.ptr 910000000 0),(1,.int .i64 (cF.length:Int)),(4,.bool kO),(7,.bool kO)] (et aq cF hy ei jA) (by kernel_rfl) ?_;cases kO with
 |false=>
  refine asA rfl rfl ?_;refine A.exit ?_;refine pW.mono (asy bS [] (R:=.cI []) (σ2:=et aq cF hy ei jA) rfl (by kernel_rfl)) ?_;rintro a s ⟨rfl,rfl⟩;exact⟨rfl,hy,jA,hu,X rfl,rfl⟩
 |true=>
  refine asC rfl rfl ?_;refine A.skip ?_;show aS _ _ _ _ _;refine A.block ?_;refine asx bS [] [] [(0,.ptr 910000000 0),(1,.int .i64 (cF.length:Int)),(4,.bool false)] (et aq cF hy ei jA) (by kernel_rfl) ?_;refine asx bS [] [(4,aN (eG dN aq))] [(0,.ptr 910000000 0),(1,.int .i64 (cF.length:Int)),(4,.bool false),(11,.bf false (ax dN aq)),(12,.int .i64 (aq.length:Int)),(13,.int .i64 0)] (et aq cF hy ei jA) (by kernel_rfl) ?_;refine A.block ?_;refine asH 11 rfl λtI=>?_
  refine A.loop (α:=Nat×List (Int×Int)×List (Int×(Int×Int))×Bool) (λg=>[(0,.ptr 910000000 0),(1,.int .i64 (cF.length:Int)),(4,.bool g.2.2.2),(11,.bf false (ax dN aq)),(12,.int .i64 (aq.length:Int)),(13,.int .i64 (g.1:Int))]) (λg=>et aq cF g.2.1 ei g.2.2.1)
   (λg=>g.1≤aq.length∧J g.2.1 g.2.2.1∧(g.2.2.2=false→(g.2.1=hy∧g.2.2.1=jA)∧∀i a,i<g.1→aq[i]?=some a→b0 hy a.Hop.bz≤a.c6+b0 hy a.Hop.br)∧(g.2.2.2=true→nj aq g.2.1<nj aq hy)∧∀x,b0 g.2.1 x≤b0 hy x) (λg=>aq.length-g.1) (0,hy,jA,false) ⟨Nat.zero_le _,hu,λ_=>⟨⟨rfl,rfl⟩,λi a hi=>by omega⟩,λh=>(by cases h),λx=>Int.le_refl _⟩ (cr.go [] [] (by kernel_rfl)) ?_
  rintro⟨j,dK,fS,kO⟩ ⟨aT,aa,aR,ag,hle⟩;simp only at aT aa aR ag hle;refine asx bS [] [] [(0,.ptr 910000000 0),(1,.int .i64 (cF.length:Int)),(4,.bool kO),(11,.bf false (ax dN aq)),(12,.int .i64 (aq.length:Int)),(13,.int .i64 (j:Int)),(14,.bool (decide ((j:Int)<(aq.length:Int))))] (et aq cF dK ei fS) (by kernel_rfl) ?_;refine A.seq ?_;by_cases nB:j<aq.length
  ·have u:aq[j]?=some aq[j]:=List.getElem?_eq_getElem nB;generalize aq[j]=e at u;have A3:e∈aq:=List.mem_of_getElem? u;obtain⟨kW,bl⟩:=ay e A3;obtain⟨Dy,dO⟩:=U dK fS aa e.Hop.br;have an:aF (e.c6+b0 dK e.Hop.br)=e.c6+b0 dK e.Hop.br:=iU (by omega) (by omega);refine asC rfl (iC u) ?_;refine A.skip ?_;show aS _ _ _ _ _;refine A.seq ?_;refine A.block ?_;refine asx bS [] [(0,ds (ix dN (gT u))),(2,.al 100)] [(0,.ptr 910000000 0),(1,.int .i64 (cF.length:Int)),(4,.bool kO),(11,.bf false (ax dN aq)),(12,.int .i64 (aq.length:Int)),(13,.int .i64 (j:Int)),(6,.ptr 100 0)] (et aq cF dK ei fS++[(100,.cells 175 [.int .i64 e.Hop.bz,.int .i64 e.Hop.br,.int .i64 e.c6])]) (by kernel_rfl) ?_;by_cases bL:e.c6+b0 dK e.Hop.br<b0 dK e.Hop.bz
   ·refine asx bS [] [(12,cM (Cb (aq:=aq) (cF:=cF) (m1:=dK) (ei:=ei) (m2:=fS) e.Hop.br) wC),(13,aN (show Q.int .i64 (aF (e.c6+b0 dK e.Hop.br))=Q.int .i64 (e.c6+b0 dK e.Hop.br)by rw[an])),(18,fM [] (I1 (aq:=aq) (m1:=dK) (m2:=fS) e.Hop.bz (e.c6+b0 dK e.Hop.br) e.Hop.br 0 aH bL) x9)] [(0,.ptr 910000000 0),(1,.int .i64 (cF.length:Int)),(11,.bf false (ax dN aq)),(12,.int .i64 (aq.length:Int)),(13,.int .i64 (j:Int)),(35,.bool true)] (et aq cF (bG dK e.Hop.bz (e.c6+b0 dK e.Hop.br)) ei (bG fS e.Hop.bz (e.Hop.br,0))) (by kernel_rfl) ?_;refine asC rfl rfl ?_;refine A.R bS [] [] [(0,.ptr 910000000 0),(1,.int .i64 (cF.length:Int)),(4,.bool true),(11,.bf false (ax dN aq)),(12,.int .i64 (aq.length:Int)),(13,.int .i64 (j:Int))] (et aq cF (bG dK e.Hop.bz (e.c6+b0 dK e.Hop.br)) ei (bG fS e.Hop.bz (e.Hop.br,0))) (by kernel_rfl) ?_;show aS _ _ _ _ _;refine A.R bS [] [(0,aN (hY u tI))] [(0,.ptr 910000000 0),(1,.int .i64 (cF.length:Int)),(4,.bool true),(11,.bf false (ax dN aq)),(12,.int .i64 (aq.length:Int)),(13,.int .i64 ((j+1:Nat):Int))] (et aq cF (bG dK e.Hop.bz (e.c6+b0 dK e.Hop.br)) ei (bG fS e.Hop.bz (e.Hop.br,0))) (by kernel_rfl) ?_;have DK:=iQ dK fS e aa A3 bL
    have DT:∀x,b0 (bG dK e.Hop.bz (e.c6+b0 dK e.Hop.br)) x≤b0 dK x:=λx=>by
     rw[sK];split
     ·rename_i h;subst h;omega
     ·omega
    have GX:nj aq (bG dK e.Hop.bz (e.c6+b0 dK e.Hop.br))<nj aq dK:=JP DT (U _ _ DK _).1 (by rw[sK,if_pos rfl];exact bL) A3;have KK:nj aq dK≤nj aq hy:=Jg hle aq;refine⟨(j+1,bG dK e.Hop.bz (e.c6+b0 dK e.Hop.br),bG fS e.Hop.bz (e.Hop.br,0),true),⟨nB,DK,λh=>(by cases h),λ_=>Nat.lt_of_lt_of_le GX KK,λx=>Int.le_trans (DT x) (hle x)⟩,by simp only;omega,cr.go [] [] (by kernel_rfl)⟩
   ·refine asx bS [] [(12,cM (Cb (aq:=aq) (cF:=cF) (m1:=dK) (ei:=ei) (m2:=fS) e.Hop.br) wC),(13,aN (show Q.int .i64 (aF (e.c6+b0 dK e.Hop.br))=Q.int .i64 (e.c6+b0 dK e.Hop.br)by rw[an])),(18,fM [] (IZ (aq:=aq) (cF:=cF) (m1:=dK) (ei:=ei) (m2:=fS) e.Hop.bz (e.c6+b0 dK e.Hop.br) e.Hop.br 0 (Int.not_lt.1 bL)) x9)] [(0,.ptr 910000000 0),(1,.int .i64 (cF.length:Int)),(4,.bool kO),(11,.bf false (ax dN aq)),(12,.int .i64 (aq.length:Int)),(13,.int .i64 (j:Int)),(35,.bool false)] (et aq cF dK ei fS) (by kernel_rfl) ?_;refine asA rfl rfl ?_;refine A.skip ?_;show aS _ _ _ _ _;refine A.R bS [] [(0,aN (hY u tI))] [(0,.ptr 910000000 0),(1,.int .i64 (cF.length:Int)),(4,.bool kO),(11,.bf false (ax dN aq)),(12,.int .i64 (aq.length:Int)),(13,.int .i64 ((j+1:Nat):Int))] (et aq cF dK ei fS) (by kernel_rfl) ?_;refine⟨(j+1,dK,fS,kO),⟨nB,aa,λh=>⟨(aR h).1,λi a hi uP=>?_⟩,ag,hle⟩,by simp only;omega,cr.go [] [] (by kernel_rfl)⟩;rcases Nat.lt_or_eq_of_le (Nat.le_of_lt_succ hi)with hi|hi
    ·exact(aR h).2 i a hi uP
    ·subst hi;rw[u]at uP;cases uP;have:=(aR h).1.1;rw[←this];omega
  ·refine asA rfl (iB (by omega)) ?_;refine A.exit ?_;refine⟨(dK,fS,kO),⟨aa,λh a GK=>?_⟩,?_,cr.go [] [] (by kernel_rfl)⟩
   ·obtain⟨⟨aJ,e2⟩,aj⟩:=aR h;obtain⟨i,hi⟩:=List.getElem?_of_mem GK;rw[aJ];exact aj i a (by have:=(List.getElem?_eq_some_iff.1 hi).1;omega) hi
   ·cases kO with
    |true=>have:=ag rfl;simp only[cond_true];omega
    |false=>
     have:=(aR rfl).1.1;rw[this];simp only[cond_false,cond_true];omega
end Go.Proofs.YtmnbolcmepihlaaGreat
namespace Go.Proofs.YtmnbolcmepihlaaGreat
set_option linter.all false
open Go Go.Proofs.Tryz List
def fK:jS (List (Int×Int)):=⟨λm=>[.dw (bQ .i64 (c0 .i64) m)],1,λ_=>rfl,λ_=>rfl,λ_=>rfl⟩
def fQ:jS (List (Int×(Int×Int))):=⟨λm=>[.dw (bQ .i64 sk m)],1,λ_=>rfl,λ_=>rfl,λ_=>rfl⟩
abbrev nt(o:Nat)(l:zu):Y:=[(59,.cells 34 [.own o]),(o,.slice 84 2 (ax jX l) 0 false)]
def Z3{α:Type}{l r:List α}(h:l.length+r.length≤549755813888):jR l r=some (l++r):=by unfold jR;rw[if_pos (by unfold aO;exact h)]
def Z4{l:zu}(h:b6)(aH:l.length+1≤549755813888):
  eP prog 123 (nt 910000011 l) [.agg [.int .i64 h.bz,.int .i64 h.br],.ptr 59 0] (λa az=>a=.cI []∧az=nt 910000012 (l++[h])):=by
 have ajv:jR l ([h]:zu)=some (l++[h]):=Z3 aH;refine dY func123 rfl rfl ?_;refine asx bS [] [(0,.al 140)] [(1,.ptr 59 0),(2,.ptr 140 0)] (nt 910000011 l++[(140,.cells 84 [.int .i64 h.bz,.int .i64 h.br])]) (by kernel_rfl) ?_;refine A.R bS [] [(3,oE 910000014 (ap jX (bytes:=16) (by decide) ajv))] [] (nt 910000014 (l++[h])) (by kernel_rfl) ?_;exact asy bS [.mu 910000014 910000012] rfl (by kernel_rfl)
inductive pt(st:List (List (Int×(Int×Int)))):Int→Int→List b6→Prop
 |leaf {s r:Int} {m:List (Int×(Int×Int))} (h:di st s=some m) (aR:(aD m r).getD (0,0)=(0,0)):pt st s r []
 |next {s r:Int} {m:List (Int×(Int×Int))} {x:Int×Int} {H:zu} (h:di st s=some m) (u:(aD m r).getD (0,0)=x) (aR:x.1≠0) (af:pt st s x.1 H):pt st s r (b6.mk r x.1::H)
 |part {s r:Int} {m:List (Int×(Int×Int))} {x:Int×Int} {H K:zu} {eg:Int} (h:di st s=some m) (u:(aD m r).getD (0,0)=x) (h1:x.1=0) (aR:x.2≠0) (D:eg=lW .andNot .i64 s x.2) (af:pt st x.2 r H) (hk:pt st eg r K):pt st s r (H++K)
def OG:∀w,∃v,(zeroValue 169).run prog w=.ok v w∧∀I,bc I (sk (0,0)) v:=λw=>⟨_,Xf w,Xg⟩
def Yu{aq:wX}{wI:List (List (Int×Int))}{st:List (List (Int×(Int×Int)))}{s r:Int}{H:zu}(n1:pt st s r H):∀{l:zu},l.length+H.length≤549755813888→
  eP prog 122 (nt 910000011 l) [.fO [.bf false (ax dN aq),.bf false (ax fK wI),.bf false (ax fQ st)],.int .i64 s,.int .i64 r,.fn 123 [.ptr 59 0]] (λa az=>a=.cI []∧az=nt 910000012 (l++H)):=by
 induction n1 with
 |@leaf s r m h aR=>
  intro l _;rw[append_nil];refine dY func122 rfl rfl ?_;refine asx bS [] [(5,ds (ix fQ h)),(8,oF (k:=.i64) m r sk (0,0) Fo OG),(9,.al 56)] [(8,.ptr 56 0)] (nt 910000011 l++[(56,.cells 169 [.int .i64 ((aD m r).getD (0,0)).1,.int .i64 ((aD m r).getD (0,0)).2])]) (by kernel_rfl) ?_;refine A.block ?_;refine asx bS [] [] [(8,.ptr 56 0),(18,.bool (!decide (((aD m r).getD (0,0)).1=(0:Int))))] (nt 910000011 l++[(56,.cells 169 [.int .i64 ((aD m r).getD (0,0)).1,.int .i64 ((aD m r).getD (0,0)).2])]) (by kernel_rfl) ?_;refine asA rfl (by rw[aR];rfl) ?_;refine asx bS [] [] [(34,.bool (!decide (((aD m r).getD (0,0)).2=(0:Int))))] (nt 910000011 l) (by kernel_rfl) ?_;refine asA rfl (by rw[aR];rfl) ?_;refine A.skip ?_;exact asy bS [.rn 910000011 910000012] rfl (by kernel_rfl)
 |@next s r m x H h u aR af bg=>
  intro l aH;subst u;simp only[length_cons]at aH;rw[show l++(b6.mk r ((aD m r).getD (0,0)).1::H)=(l++[b6.mk r ((aD m r).getD (0,0)).1])++H by simp];have akX:=@bg (l++[b6.mk r ((aD m r).getD (0,0)).1]) (by simp;omega);refine dY func122 rfl rfl ?_;refine asx bS [] [(5,ds (ix fQ h)),(8,oF (k:=.i64) m r sk (0,0) Fo OG),(9,.al 56)] [(0,.fO [.bf false (ax dN aq),.bf false (ax fK wI),.bf false (ax fQ st)]),(1,.int .i64 s),(2,.int .i64 r),(3,.fn 123 [.ptr 59 0]),(8,.ptr 56 0)] (nt 910000011 l++[(56,.cells 169 [.int .i64 ((aD m r).getD (0,0)).1,.int .i64 ((aD m r).getD (0,0)).2])]) (by kernel_rfl) ?_;refine A.block ?_;refine asx bS [] [] [(0,.fO [.bf false (ax dN aq),.bf false (ax fK wI),.bf false (ax fQ st)]),(1,.int .i64 s),(2,.int .i64 r),(3,.fn 123 [.ptr 59 0]),(8,.ptr 56 0),(18,.bool (!decide (((aD m r).getD (0,0)).1=(0:Int))))] (nt 910000011 l++[(56,.cells 169 [.int .i64 ((aD m r).getD (0,0)).1,.int .i64 ((aD m r).getD (0,0)).2])]) (by kernel_rfl) ?_;refine asC rfl (by simp[aR]) ?_;refine asx bS [] [(5,fM [910000012] (Z4 (l:=l) (b6.mk r ((aD m r).getD (0,0)).1) (by omega)) ahT)] [(0,.fO [.bf false (ax dN aq),.bf false (ax fK wI),.bf false (ax fQ st)]),(1,.int .i64 s),(3,.fn 123 [.ptr 59 0]),(8,.ptr 56 0)] (nt 910000012 (l++[b6.mk r ((aD m r).getD (0,0)).1])++[(56,.cells 169 [.int .i64 ((aD m r).getD (0,0)).1,.int .i64 ((aD m r).getD (0,0)).2])]) (by kernel_rfl) ?_;refine A.R bS [] [(5,fM [910000017] (oP.at [(910000011,910000012),(910000012,910000017)] akX) FT)] [] (nt 910000017 ((l++[b6.mk r ((aD m r).getD (0,0)).1])++H)) (by kernel_rfl) ?_;exact asy bS [.mu 910000017 910000012] rfl (by kernel_rfl)
 |@part s r m x H K eg h u h1 aR D af hk Mo zm=>
  intro l aH;subst u;subst D;rw[length_append]at aH;rw[show l++(H++K)=(l++H)++K by simp];have akY:=@Mo l (by omega);have akZ:=@zm (l++H) (by simp;omega);refine dY func122 rfl rfl ?_;refine asx bS [] [(5,ds (ix fQ h)),(8,oF (k:=.i64) m r sk (0,0) Fo OG),(9,.al 56)] [(0,.fO [.bf false (ax dN aq),.bf false (ax fK wI),.bf false (ax fQ st)]),(1,.int .i64 s),(2,.int .i64 r),(3,.fn 123 [.ptr 59 0]),(8,.ptr 56 0)] (nt 910000011 l++[(56,.cells 169 [.int .i64 ((aD m r).getD (0,0)).1,.int .i64 ((aD m r).getD (0,0)).2])]) (by kernel_rfl) ?_;refine A.block ?_;refine asx bS [] [] [(0,.fO [.bf false (ax dN aq),.bf false (ax fK wI),.bf false (ax fQ st)]),(1,.int .i64 s),(2,.int .i64 r),(3,.fn 123 [.ptr 59 0]),(8,.ptr 56 0),(18,.bool (!decide (((aD m r).getD (0,0)).1=(0:Int))))] (nt 910000011 l++[(56,.cells 169 [.int .i64 ((aD m r).getD (0,0)).1,.int .i64 ((aD m r).getD (0,0)).2])]) (by kernel_rfl) ?_;refine asA rfl (by simp[h1]) ?_;refine asx bS [] [] [(0,.fO [.bf false (ax dN aq),.bf false (ax fK wI),.bf false (ax fQ st)]),(1,.int .i64 s),(2,.int .i64 r),(3,.fn 123 [.ptr 59 0]),(8,.ptr 56 0),(34,.bool (!decide (((aD m r).getD (0,0)).2=(0:Int))))] (nt 910000011 l++[(56,.cells 169 [.int .i64 ((aD m r).getD (0,0)).1,.int .i64 ((aD m r).getD (0,0)).2])]) (by kernel_rfl) ?_;refine asC rfl (by simp[aR]) ?_;refine asx bS [] [(5,fM [910000012] akY FT)] [(0,.fO [.bf false (ax dN aq),.bf false (ax fK wI),.bf false (ax fQ st)]),(1,.int .i64 s),(2,.int .i64 r),(3,.fn 123 [.ptr 59 0]),(8,.ptr 56 0)] (nt 910000012 (l++H)++[(56,.cells 169 [.int .i64 ((aD m r).getD (0,0)).1,.int .i64 ((aD m r).getD (0,0)).2])]) (by kernel_rfl) ?_;refine A.R bS [] [(7,fM [910000017] (oP.at [(910000011,910000012),(910000012,910000017)] akZ) FT)] [] (nt 910000017 ((l++H)++K)) (by kernel_rfl) ?_;exact asy bS [.mu 910000017 910000012] rfl (by kernel_rfl)
end Go.Proofs.YtmnbolcmepihlaaGreat
namespace Go.Proofs.YtmnbolcmepihlaaGreat
set_option linter.all false
open Go List
def i2(a b:Nat):Nat:=(BitVec.ofNat 64 a &&& ~~~ BitVec.ofNat 64 b).toNat
variable {a b:Nat}
def IU(ay:a<2 ^ 60)(U:b<2 ^ 60)(i:Nat):(i2 a b).testBit i=(a.testBit i&&!b.testBit i):=by
 unfold i2;rw[BitVec.toNat_and,Nat.testBit_and,BitVec.toNat_ofNat,Nat.mod_eq_of_lt (by omega)];by_cases hi:i<64
 ·congr 1;rw[←BitVec.getLsbD,BitVec.getLsbD_not,BitVec.getLsbD_ofNat];simp[hi]
 ·have:a.testBit i=false:=Nat.testBit_lt_two_pow (Nat.lt_of_lt_of_le ay (Nat.pow_le_pow_right (by omega) (by omega)));rw[this];rfl
def OA(ay:a<2 ^ 60):i2 a b≤a:=by
 unfold i2;rw[BitVec.toNat_and,BitVec.toNat_ofNat,Nat.mod_eq_of_lt (by omega)];exact Nat.and_le_left
def Of(ay:a<2 ^ 60)(U:b<2 ^ 60):lW .and .i64 (a:Int) (b:Int)=((a &&& b:Nat):Int):=by
 have h1:(a &&& b)≤a:=Nat.and_le_left;show aF (((BitVec.ofInt 64 (a:Int) &&& BitVec.ofInt 64 (b:Int)).toNat:Nat):Int)=_;rw[BitVec.ofInt_natCast,BitVec.ofInt_natCast,BitVec.toNat_and,BitVec.toNat_ofNat,BitVec.toNat_ofNat,Nat.mod_eq_of_lt (by omega),Nat.mod_eq_of_lt (by omega)];exact iU (by omega) (by omega)
def ND(ay:a<2 ^ 60):lW .andNot .i64 (a:Int) (b:Int)=((i2 a b:Nat):Int):=by
 have h1:=OA (a:=a) (b:=b) ay;show aF (((BitVec.ofInt 64 (a:Int) &&& ~~~ BitVec.ofInt 64 (b:Int)).toNat:Nat):Int)=_;rw[BitVec.ofInt_natCast,BitVec.ofInt_natCast];exact iU (by show -9223372036854775808≤((i2 a b:Nat):Int);omega) (by show((i2 a b:Nat):Int)≤_;omega)
def P6:∀(p S q:Nat),p &&& S=p→q &&& S=q→q<p→q≤(p-1) &&& S:=by
 intro p;induction p using Nat.strongRecOn with
 |_ p bg=>
  intro S q aC bV bL
  have d2:∀a b:Nat,(a &&& b) / 2=a / 2 &&& b / 2:=λa b=>by
   have:=Nat.and_div_two_pow (a:=a) (b:=b) (n:=1);simpa using this
  have m2:∀a b:Nat,(a &&& b)%2=(a%2) &&& (b%2):=λa b=>by
   have:=Nat.and_mod_two_pow (a:=a) (b:=b) (n:=1);simpa using this
  have uU:p / 2 &&& S / 2=p / 2:=by rw[←d2,aC]
  have DZ:q / 2 &&& S / 2=q / 2:=by rw[←d2,bV]
  have akC:(q%2) &&& (S%2)=q%2:=by rw[←m2,bV]
  have aqH:(p%2) &&& (S%2)=p%2:=by rw[←m2,aC]
  have e2:=d2 (p-1) S;have dm:=m2 (p-1) S;rcases Nat.mod_two_eq_zero_or_one p with GY|GY
  ·have h1:(p-1) / 2=p / 2-1:=by omega
   have D:(p-1)%2=1:=by omega
   have aj:=bg (p / 2) (by omega) (S / 2) (q / 2) uU DZ (by omega);rw[h1]at e2;rw[D]at dm;have a1:1 &&& (S%2)=S%2:=by rcases Nat.mod_two_eq_zero_or_one S with h|h<;>rw[h]<;>rfl
   rw[a1]at dm;have bU:q%2≤S%2:=by rw[←akC];exact Nat.and_le_right
   omega
  ·have h1:(p-1) / 2=p / 2:=by omega
   rw[h1,uU]at e2;omega
variable {S:Nat}
def Pe(p:Nat):(a &&& S) &&& S=a &&& S:=by
 rw[Nat.and_assoc,Nat.and_self]
def Z5(i:Nat):2 ^ i &&& (2 ^ i-1)=0:=by
 apply Nat.eq_of_testBit_eq;intro j;rw[Nat.testBit_and,Nat.testBit_two_pow,Nat.testBit_two_pow_sub_one];by_cases h:i=j
 ·subst h;simp
 ·simp[h]
def gx(rows:List (List (Int×Int)))(S:Nat):List (Int×Int):=rows.getD S []
def xY(aq:wX)(ts:cq)(rows:List (List (Int×Int)))(S:Nat)(m:List (Int×Int))(v c:Int)(x:Int×Int):Prop:=
 (x.1≠0∧∃a∈aq,a.Hop.bz=v∧a.Hop.br=x.1∧a.c6+b0 m x.1≤c)∨
 (x.1=0∧∃P:Nat,x.2=(P:Int)∧0<P∧P<S∧P &&& S=P∧c=b0 (gx rows P) v+b0 (gx rows (i2 S P)) v∧b0 (gx rows P) v<2305843009213693951∧b0 (gx rows (i2 S P)) v<2305843009213693951)∨
 (x=(0,0)∧∃i,ts[i]?=some v∧S=2 ^ i∧c=0)
variable {aq:wX}{hF m:List (Int×Int)}{rows:List (List (Int×Int))}{ts:cq}{x:Int×Int}
def xY.mono{v c:Int}(h:xY aq ts rows S m v c x)(hle:∀r,b0 hF r≤b0 m r):xY aq ts rows S hF v c x:=by
 rcases h with⟨h1,a,D,aj,a1,bU⟩|h|h
 ·have:=hle x.1;exact .inl ⟨h1,a,D,aj,a1,by omega⟩
 ·exact .inr (.inl h)
 ·exact .inr (.inr h)
def Pf{α:Type}(n:Int)(v:α):∀l:List (Int×α),(bG l n v).map (·.1)=if n∈l.map (·.1)then l.map (·.1)else l.map (·.1)++[n]
 |[]=>by simp[bG]
 |p::r=>by
  unfold bG;by_cases aC:p.1=n
  ·simp[aC]
  ·have aR:¬n=p.1:=λe=>aC e.symm;rw[if_neg aC,map_cons,Pf n v r];simp only[map_cons,mem_cons,aR,false_or];split<;>rfl
def abP{α:Type}{n:Int}{v:α}{l:List (Int×α)}(h:(l.map (·.1)).Nodup):((bG l n v).map (·.1)).Nodup:=by
 rw[Pf];split
 ·exact h
 ·rename_i aR;rw[nodup_append];exact⟨h,by simp,λa ay b U=>by rw[List.mem_singleton.1 U];exact λe=>aR (e▸ay)⟩
def WU{α:Type}{n:Int}{v:α}:∀{l:List (Int×α)},(l.map (·.1)).Nodup→(n,v)∈l→aD l n=some v
 |[],_,h=>by cases h
 |p::r,aR,h=>by
  rw[jN];simp only[map_cons,nodup_cons]at aR;rcases mem_cons.1 h with h|h
  ·rw[←h];simp
  ·have:¬p.1=n:=λe=>aR.1 (List.mem_map.2 ⟨(n,v),h,e.symm⟩);rw[if_neg this];exact WU aR.2 h
def WV{α:Type}{n:Int}{v:α}:∀{l:List (Int×α)},aD l n=some v→(n,v)∈l
 |[],h=>by simp[aD]at h
 |p::r,h=>by
  rw[jN]at h;split at h
  ·rename_i aC;cases h;exact mem_cons.2 (.inl (by rw[←aC]))
  ·exact mem_cons.2 (.inr (WV h))
structure l2(aq:List bB)(ts:List Int)(rows:List (List (Int×Int)))(S:Nat)(ej:Nat→Int→Prop)(m1:List (Int×Int))(m2:List (Int×(Int×Int))):Prop where
 ok:∀v c,aD m1 v=some c→(0≤c∧c<2305843009213693951)∧xY aq ts rows S m1 v c ((aD m2 v).getD (0,0))
 part:∀P v,ej P v→b0 m1 v≤b0 (gx rows P) v+b0 (gx rows (i2 S P)) v
 nd:(m1.map (·.1)).Nodup
variable {m1:List (Int×Int)}{m2:List (Int×(Int×Int))}
def l2.bd{ej:Nat→Int→Prop}(h:l2 aq ts rows S ej m1 m2)(r:Int):0≤b0 m1 r∧b0 m1 r≤2305843009213693951:=by
 unfold b0;cases bu:aD m1 r with
 |none=>simp
 |some c=>have:=(h.ok r c bu).1;exact⟨this.1,by show c≤_;omega⟩
def l2.put{ej:Nat→Int→Prop}(h:l2 aq ts rows S ej m1 m2){v c:Int}(bM:0≤c)(bL:c<b0 m1 v)
  (u:xY aq ts rows S (bG m1 v c) v c x):l2 aq ts rows S ej (bG m1 v c) (bG m2 v x):=by
 have hle:∀r,b0 (bG m1 v c) r≤b0 m1 r:=λr=>by
  rw[sK];split
  ·rename_i aB;subst aB;omega
  ·omega
 refine⟨λaA d hu=>?_,λP aA eX=>Int.le_trans (hle aA) (h.part P aA eX),abP h.nd⟩;by_cases VB:aA=v
 ·subst VB;rw[EP]at hu ⊢;cases hu;exact⟨⟨bM,by have:=(h.bd aA).2;omega⟩,u⟩
 ·rw[Ng _ VB]at hu ⊢;obtain⟨cp,cG⟩:=h.ok aA d hu;exact⟨cp,cG.mono hle⟩
def l2.nil(aq:wX)(ts:cq)(rows:List (List (Int×Int)))(S:Nat):l2 aq ts rows S (λ_ _=>False) [] []:=⟨λv c h=>by simp[aD]at h,λ_ _ h=>h.elim,by simp⟩
def l2.more{ej OY:Nat→Int→Prop}(h:l2 aq ts rows S ej m1 m2)(aC:∀P v,OY P v→b0 m1 v≤b0 (gx rows P) v+b0 (gx rows (i2 S P)) v):l2 aq ts rows S OY m1 m2:=⟨h.ok,aC,h.nd⟩
structure CJ(aq:List bB)(ts:List Int)(rows:List (List (Int×Int)))(S:Nat)(m1:List (Int×Int))(m2:List (Int×(Int×Int))):Prop where
 j:l2 aq ts rows S (λP _=>0<P∧P<S∧P &&& S=P) m1 m2
 one:∀i v,ts[i]?=some v→S=2 ^ i→b0 m1 v≤0
 hop:∀a∈aq,b0 m1 a.Hop.bz≤a.c6+b0 m1 a.Hop.br
structure wD(aq:List bB)(ts:List Int)(rows:List (List (Int×Int)))(steps:List (List (Int×(Int×Int)))):Prop where
 len:steps.length=rows.length
 row:∀S m1 m2,rows[S]?=some m1→steps[S]?=some m2→CJ aq ts rows S m1 m2
def IV(h:S<rows.length):gx (rows++[m]) S=gx rows S:=by
 unfold gx;rw[getD_eq_getElem?_getD,getD_eq_getElem?_getD,List.getElem?_append_left h]
def xY.app{v c:Int}(fq:S≤rows.length)(uN:S<2 ^ 60)(h:xY aq ts rows S m v c x):xY aq ts (rows++[hF]) S m v c x:=by
 rcases h with h|⟨h1,P,D,aj,a1,bU,dP,fz,ka⟩|h
 ·exact .inl h
 ·have aB:i2 S P<S:=by
   have iy:=OA (a:=S) (b:=P) uN;rcases Nat.lt_or_eq_of_le iy with iy|iy
   ·exact iy
   ·exfalso;obtain⟨i,hi⟩:∃i,P.testBit i=true:=Nat.exists_testBit_of_ne_zero (by omega);have dO:=IU (a:=S) (b:=P) uN (by omega) i;have ep:(P &&& S).testBit i=P.testBit i:=by rw[bU]
    rw[iy,hi]at dO;rw[Nat.testBit_and,hi]at ep;simp at dO ep;rw[dO]at ep;cases ep
  refine .inr (.inl ⟨h1,P,D,aj,a1,bU,?_⟩);rw[IV (by omega),IV (by omega)];exact⟨dP,fz,ka⟩
 ·exact .inr (.inr h)
def OC{P:Nat}(uN:S<2 ^ 60)(aj:0<P)(a1:P<S)(bU:P &&& S=P):i2 S P<S:=by
 have iy:=OA (a:=S) (b:=P) uN;rcases Nat.lt_or_eq_of_le iy with iy|iy
 ·exact iy
 ·exfalso;obtain⟨i,hi⟩:∃i,P.testBit i=true:=Nat.exists_testBit_of_ne_zero (by omega);have dO:=IU (a:=S) (b:=P) uN (by omega) i;have ep:(P &&& S).testBit i=P.testBit i:=by rw[bU]
  rw[iy,hi]at dO;rw[Nat.testBit_and,hi]at ep;simp at dO ep;rw[dO]at ep;cases ep
def CJ.app{aq:wX}{ts:cq}{rows:List (List (Int×Int))}{S:Nat}{m1:List (Int×Int)}{m2:List (Int×(Int×Int))}{hF:List (Int×Int)}(fq:S≤rows.length)(uN:S<2 ^ 60)(h:CJ aq ts rows S m1 m2):CJ aq ts (rows++[hF]) S m1 m2:=by
 refine⟨⟨λv c aa=>?_,λP v eX=>?_,h.j.nd⟩,h.one,h.hop⟩
 ·obtain⟨cp,cG⟩:=h.j.ok v c aa;exact⟨cp,cG.app fq uN⟩
 ·have:=OC uN eX.1 eX.2.1 eX.2.2;rw[IV (by omega),IV (by omega)];exact h.j.part P v eX
def wD.snoc{steps:List (List (Int×(Int×Int)))}(h:wD aq ts rows steps)(uN:rows.length<2 ^ 60)(hm:CJ aq ts rows rows.length m1 m2):wD aq ts (rows++[m1]) (steps++[m2]):=by
 refine⟨by simp[h.len],λS hH g3 h1 D=>?_⟩;by_cases fq:S<rows.length
 ·rw[List.getElem?_append_left fq]at h1;rw[List.getElem?_append_left (by rw[h.len];exact fq)]at D;exact(h.row S hH g3 h1 D).app (by omega) (by omega)
 ·have aH:=(List.getElem?_eq_some_iff.1 h1).1;simp only[length_append,length_singleton]at aH;have fq:S=rows.length:=by omega
  subst fq;rw[List.getElem?_append_right (Nat.le_refl _)]at h1;rw[List.getElem?_append_right (by rw[h.len];exact Nat.le_refl _),h.len]at D;simp at h1 D;subst h1 D;exact hm.app (Nat.le_refl _) uN
end Go.Proofs.YtmnbolcmepihlaaGreat
namespace Go.Proofs.YtmnbolcmepihlaaGreat
section
set_option linter.all false
set_option maxRecDepth 100000
open Go Go.Proofs.Tryz List
structure Xp(aq:List bB)(root:Int)(ts:List Int)(r:List b6×Int×Bool):Prop where
 nil:ts=[]→r=([],0,true)
 rows:ts≠[]→∃rows steps,rows.length=2 ^ ts.length∧wD aq ts rows steps∧((2305843009213693951≤b0 (gx rows (2 ^ ts.length-1)) root∧r=([],0,false))∨
  (b0 (gx rows (2 ^ ts.length-1)) root<2305843009213693951∧∃H,pt steps ((2 ^ ts.length-1:Nat):Int) root H∧nG (ht [λx:b6=>x.bz,λx:b6=>x.br]) H=some r.1∧r.2=(b0 (gx rows (2 ^ ts.length-1)) root,true)))
def afd{aq:wX}{rows:List (List (Int×Int))}{steps:List (List (Int×(Int×Int)))}{s:Int}{m:List (Int×Int)}(r:Int)(X:di rows s=some m):
  dT prog 120 [] [.fO [.bf false (ax dN aq),.bf false (ax fK rows),.bf false (ax fQ steps)],.int .i64 s,.int .i64 r] (.int .i64 (b0 m r)):=by
 refine dY func120 rfl rfl ?_;refine asx bS [] [] [(0,.fO [.bf false (ax dN aq),.bf false (ax fK rows),.bf false (ax fQ steps)]),(1,.int .i64 s),(2,.int .i64 r)] [] (by kernel_rfl) ?_;refine A.seq ?_;refine asx bS [] [(5,ds (ix fK X)),(8,oF (k:=.i64) m r (c0 .i64) 0 o5 OB)] [(7,.int .i64 ((aD m r).getD 0)),(8,.bool (aD m r).isSome)] [] (by kernel_rfl) ?_;refine asx bS [] [] [(7,.int .i64 ((aD m r).getD 0)),(21,.bool (aD m r).isSome)] [] (by kernel_rfl) ?_;cases bu:aD m r with
 |some c=>
  refine asC rfl rfl ?_;refine asx bS [] [] [(6,.int .i64 c)] [] (by kernel_rfl) ?_;refine A.ret ?_;have e:b0 m r=c:=by unfold b0;rw[bu];rfl
  rw[e];exact asy bS [] rfl (by kernel_rfl)
 |none=>
  refine asA rfl rfl ?_;refine A.skip ?_;show aS _ _ _ _ _;refine asx bS [] [] [(6,.int .i64 2305843009213693951)] [] (by kernel_rfl) ?_;refine A.ret ?_;have e:b0 m r=2305843009213693951:=by unfold b0;rw[bu];rfl
  rw[e];exact asy bS [] rfl (by kernel_rfl)
def atk{G:ch}{α:Type}{x y:Code}{bq:Exit→ah→Y→Prop}{env:ah}{σ:Y}(P:α→Prop)(fI:α→ah)(fV:α→Y)(h:aS G x (qX (λgy az=>∃g,P g∧cr G gy az (fI g) (fV g)) bq) env σ)(k:∀g,P g→aS G y bq (fI g) (fV g)):aS G (.seq x y) bq env σ:=by
 refine A.seq (h.mono ?_);intro e gy az bV;cases e with
 |normal=>
  obtain⟨g,bu,an⟩:=bV;exact asD an (k g bu)
 |_=>exact bV
def X0{aq:wX}{root:Int}{ts:cq}(hk:ts.length≤6)(ay:∀a∈aq,(1≤a.c6∧a.c6≤1000000)∧a.Hop.br≠0)
  (Us:∀rows steps,rows.length=2 ^ ts.length→wD aq ts rows steps→b0 (gx rows (2 ^ ts.length-1)) root<2305843009213693951→∃H,pt steps ((2 ^ ts.length-1:Nat):Int) root H∧H.length≤1000000∧∃qF,nG (ht [λx:b6=>x.bz,λx:b6=>x.br]) H=some qF) :
  eP prog 63 [] [.bf false (ax dN aq),.int .i64 root,.bf false (ax aI ts)] (λa az=>az=[]∧∃r,Xp aq root ts r∧a=.cI [.bf false (ax jX r.1),.int .i64 r.2.1,.bool r.2.2]):=by
 refine dY func63 rfl rfl ?_;refine asx bS [] [] [(0,.bf false (ax dN aq)),(1,.int .i64 root),(2,.bf false (ax aI ts))] [] (by kernel_rfl) ?_;refine A.seq ?_;refine asx bS [] [(1,aN (eG aI ts))] [(0,.bf false (ax dN aq)),(1,.int .i64 root),(2,.bf false (ax aI ts)),(21,.bool (decide ((ts.length:Int)=(0:Int))))] [] (by kernel_rfl) ?_;by_cases tT:ts=[]
 ·subst tT;refine asC rfl rfl ?_;refine asx bS [] [] [(6,.c4),(7,.int .i64 0),(8,.bool true)] [] (by kernel_rfl) ?_;refine A.ret ?_;refine pW.mono (asy bS [] (R:=.cI [.bf false (ax jX []),.int .i64 0,.bool true]) (σ2:=[]) rfl (by kernel_rfl)) ?_;rintro a s ⟨rfl,rfl⟩;exact⟨rfl,([],0,true),⟨λ_=>rfl,λh=>absurd rfl h⟩,rfl⟩
 have eA:1≤ts.length:=by cases ts with|nil=>exact absurd rfl tT|cons _ _=>simp
 refine asA rfl (decide_eq_false (by omega)) ?_;refine A.skip ?_;show aS _ _ _ _ _;have yO:2 ^ ts.length≤64:=Nat.le_trans (Nat.pow_le_pow_right (by omega) hk) (by decide);have Tb:IntKind.wrap .i64 (1*2 ^ min (ts.length:Int).toNat 64)=((2 ^ ts.length:Nat):Int):=by
  rw[Int.toNat_natCast,Nat.min_eq_left (by omega),Int.one_mul];have e:((2:Int) ^ ts.length)=((2 ^ ts.length:Nat):Int):=by simp
  rw[e];generalize 2 ^ ts.length=z at yO ⊢;exact iU (by omega) (by omega)
 generalize lE:2 ^ ts.length=dJ at Tb yO Us;refine asx bS [] [(1,aN (eG aI ts)),(2,.to (.sh (ts.length:Int) (by omega)) (.int .i64 (IntKind.wrap .i64 (1*2 ^ min (ts.length:Int).toNat 64))) (.int .i64 (dJ:Int)) (by rw[Tb]))] [(0,.bf false (ax dN aq)),(1,.int .i64 root),(2,.bf false (ax aI ts)),(9,.int .i64 (dJ:Int))] [] (by kernel_rfl) ?_;refine asx bS [] [(2,.al 910000000)] [(1,.int .i64 root),(2,.bf false (ax aI ts)),(9,.int .i64 (dJ:Int)),(10,.ptr 910000000 0)] [(910000000,.cells 165 [.bf false (ax dN aq),.c4,.c4])] (by kernel_rfl) ?_;refine A.seq ?_;refine asx bS [.ac 910000000 68 144 1 1,.ac 910000000 69 166 1 2] [] [(1,.int .i64 root),(2,.bf false (ax aI ts)),(9,.int .i64 (dJ:Int)),(10,.ptr 910000000 0),(28,.int .i64 (dJ:Int)),(29,.int .i64 0)] [(910000000,.cells 165 [.bf false (ax dN aq),.own 68,.own 69]),(68,.slice 144 1 (ax fK []) 0 false),(69,.slice 166 1 (ax fQ []) 0 false)] (by kernel_rfl) ?_;refine A.block ?_
 refine A.loop (α:=List (List (Int×Int))×List (List (Int×(Int×Int)))) (λg=>[(1,.int .i64 root),(2,.bf false (ax aI ts)),(9,.int .i64 (dJ:Int)),(10,.ptr 910000000 0),(28,.int .i64 (dJ:Int)),(29,.int .i64 (g.1.length:Int))])
  (λg=>[(910000000,.cells 165 [.bf false (ax dN aq),.own 68,.own 69]),(68,.slice 144 1 (ax fK g.1) 0 false),(69,.slice 166 1 (ax fQ g.2) 0 false)])
  (λg=>g.1.length≤dJ∧wD aq ts g.1 g.2) (λg=>dJ-g.1.length) ([],[]) ⟨Nat.zero_le _,rfl,λS m1 m2 h=>by simp at h⟩ (cr.go [] [] (by kernel_rfl)) ?_
 rintro⟨rows,steps⟩ ⟨zb,oW⟩;simp only at zb oW;refine asx bS [] [] [(1,.int .i64 root),(2,.bf false (ax aI ts)),(9,.int .i64 (dJ:Int)),(10,.ptr 910000000 0),(28,.int .i64 (dJ:Int)),(29,.int .i64 (rows.length:Int)),(30,.bool (decide ((rows.length:Int)<(dJ:Int))))] [(910000000,.cells 165 [.bf false (ax dN aq),.own 68,.own 69]),(68,.slice 144 1 (ax fK rows) 0 false),(69,.slice 166 1 (ax fQ steps) 0 false)] (by kernel_rfl) ?_;refine A.seq ?_;by_cases fq:rows.length<dJ
 ·refine asC rfl (decide_eq_true (by omega)) ?_;refine A.skip ?_;show aS _ _ _ _ _;have akF:rows.length<64:=by omega
  have mZ:steps.length=rows.length:=oW.len;generalize LG:rows.length=S at fq akF mZ;refine A.seq ?_;refine A.block ?_;refine asx bS [] [] [(1,.int .i64 root),(2,.bf false (ax aI ts)),(9,.int .i64 (dJ:Int)),(10,.ptr 910000000 0),(28,.int .i64 (dJ:Int)),(29,.int .i64 (S:Int)),(11,.int .i64 (S:Int))] [(910000000,.cells 165 [.bf false (ax dN aq),.own 68,.own 69]),(68,.slice 144 1 (ax fK rows) 0 false),(69,.slice 166 1 (ax fQ steps) 0 false)] (by kernel_rfl) ?_;refine asx bS [] [(6,.al 910000002),(7,TE bS 910000031),(8,VD 74 (xs:=ax fK rows) Rt (by rw[oz];omega) (by rw[oz];simp only[maxLen];omega)),(13,.al 910000004),(14,TE bS 910000033),(15,VD 82 (xs:=ax fQ steps) Ru (by rw[oz];omega) (by rw[oz];simp only[maxLen];omega))] [(1,.int .i64 root),(2,.bf false (ax aI ts)),(9,.int .i64 (dJ:Int)),(10,.ptr 910000000 0),(28,.int .i64 (dJ:Int)),(29,.int .i64 (S:Int)),(11,.int .i64 (S:Int))] (et aq (ax fK rows) [] (ax fQ steps) []) (by kernel_rfl) ?_;have gh:(ax fK rows).length=S:=by rw[oz];exact LG
  have kU:(ax fQ steps).length=(ax fK rows).length:=by rw[oz,gh];exact mZ
  refine atk (λg:List (Int×Int)×List (Int×(Int×Int))=>l2 aq ts rows S (λ_ _=>False) g.1 g.2∧∀i v,ts[i]?=some v→S=2 ^ i→b0 g.1 v≤0) (λ_=>[(1,.int .i64 root),(2,.bf false (ax aI ts)),(9,.int .i64 (dJ:Int)),(10,.ptr 910000000 0),(28,.int .i64 (dJ:Int)),(29,.int .i64 (S:Int)),(11,.int .i64 (S:Int))]) (λg=>et aq (ax fK rows) g.1 (ax fQ steps) g.2) ?_ ?_
  ·
   have L8:∀i,i<ts.length→S=2 ^ i→decide (lW .and .i64 (S:Int) (aF ((S:Int)-(1:Int)))=(0:Int))=true∧0<S:=λi hi h=>by
    have aC:0<S:=by rw[h];exact Nat.two_pow_pos i
    refine⟨decide_eq_true ?_,aC⟩;rw[iU (by omega) (by omega),show(S:Int)-1=((S-1:Nat):Int)by omega,Of (by omega) (by omega),h,Z5];rfl
   have DW:∀(c:¬(decide (lW .and .i64 (S:Int) (aF ((S:Int)-(1:Int)))=(0:Int))=true∧0<S)),∃g:List (Int×Int)×List (Int×(Int×Int)),(l2 aq ts rows S (λ_ _=>False) g.1 g.2∧∀i v,ts[i]?=some v→S=2 ^ i→b0 g.1 v≤0)∧g=([],[]):=λc=>
    ⟨([],[]),⟨l2.nil _ _ _ _,λi v aa he=>absurd (L8 i (List.getElem?_eq_some_iff.1 aa).1 he) c⟩,rfl⟩
   rcases j5 (decide (lW .and .i64 (S:Int) (aF ((S:Int)-(1:Int)))=(0:Int)))with c|c
   rotate_left
   ·refine asx bS [] [(4,aN (cg c))] [(1,.int .i64 root),(2,.bf false (ax aI ts)),(9,.int .i64 (dJ:Int)),(10,.ptr 910000000 0),(28,.int .i64 (dJ:Int)),(29,.int .i64 (S:Int)),(11,.int .i64 (S:Int)),(60,.bool false)] (et aq (ax fK rows) [] (ax fQ steps) []) (by kernel_rfl) ?_;refine asA rfl rfl ?_;refine A.skip ?_;obtain⟨g,bu,rfl⟩:=DW (λh=>by rw[h.1]at c;cases c);exact⟨([],[]),bu,cr.go [] [] (by kernel_rfl)⟩
   refine asx bS [] [(4,aN (cg c))] [(1,.int .i64 root),(2,.bf false (ax aI ts)),(9,.int .i64 (dJ:Int)),(10,.ptr 910000000 0),(28,.int .i64 (dJ:Int)),(29,.int .i64 (S:Int)),(11,.int .i64 (S:Int)),(60,.bool (decide ((0:Int)<(S:Int))))] (et aq (ax fK rows) [] (ax fQ steps) []) (by kernel_rfl) ?_;by_cases ajo:0<S
   rotate_left
   ·refine asA rfl (decide_eq_false (by omega)) ?_;refine A.skip ?_;obtain⟨g,bu,rfl⟩:=DW (λh=>ajo h.2);exact⟨([],[]),bu,cr.go [] [] (by kernel_rfl)⟩
   refine asC rfl (decide_eq_true (by omega)) ?_;refine asx bS [] [(1,aN (eG aI ts))] [(1,.int .i64 root),(2,.bf false (ax aI ts)),(9,.int .i64 (dJ:Int)),(10,.ptr 910000000 0),(28,.int .i64 (dJ:Int)),(29,.int .i64 (S:Int)),(11,.int .i64 (S:Int)),(61,.bf false (ax aI ts)),(62,.int .i64 (ts.length:Int)),(63,.int .i64 0)] (et aq (ax fK rows) [] (ax fQ steps) []) (by kernel_rfl) ?_;refine A.block ?_;refine asH 61 rfl λtI=>?_
   refine A.loop (α:=Nat×List (Int×Int)×List (Int×(Int×Int))) (λg=>[(1,.int .i64 root),(2,.bf false (ax aI ts)),(9,.int .i64 (dJ:Int)),(10,.ptr 910000000 0),(28,.int .i64 (dJ:Int)),(29,.int .i64 (S:Int)),(11,.int .i64 (S:Int)),(61,.bf false (ax aI ts)),(62,.int .i64 (ts.length:Int)),(63,.int .i64 (g.1:Int))]) (λg=>et aq (ax fK rows) g.2.1 (ax fQ steps) g.2.2)
    (λg=>g.1≤ts.length∧l2 aq ts rows S (λ_ _=>False) g.2.1 g.2.2∧∀i v,i<g.1→ts[i]?=some v→S=2 ^ i→b0 g.2.1 v≤0) (λg=>ts.length-g.1) (0,[],[]) ⟨Nat.zero_le _,l2.nil _ _ _ _,λi v hi=>by omega⟩ (cr.go [] [] (by kernel_rfl)) ?_
   rintro⟨j,m1,m2⟩ ⟨aT,tP,xA⟩;simp only at aT tP xA;refine asx bS [] [] [(1,.int .i64 root),(2,.bf false (ax aI ts)),(9,.int .i64 (dJ:Int)),(10,.ptr 910000000 0),(28,.int .i64 (dJ:Int)),(29,.int .i64 (S:Int)),(11,.int .i64 (S:Int)),(61,.bf false (ax aI ts)),(62,.int .i64 (ts.length:Int)),(63,.int .i64 (j:Int)),(64,.bool (decide ((j:Int)<(ts.length:Int))))] (et aq (ax fK rows) m1 (ax fQ steps) m2) (by kernel_rfl) ?_;refine A.seq ?_;by_cases nB:j<ts.length
   rotate_left
   ·refine asA rfl (iB (by omega)) ?_;refine A.exit ?_;exact⟨(m1,m2),⟨tP,λi v aa he=>xA i v (by have:=(List.getElem?_eq_some_iff.1 aa).1;omega) aa he⟩,cr.go [] [] (by kernel_rfl)⟩
   have u:ts[j]?=some ts[j]:=List.getElem?_eq_getElem nB;generalize ts[j]=t at u;refine asC rfl (iC u) ?_;refine A.skip ?_;show aS _ _ _ _ _;have akH:IntKind.wrap .i64 (1*2 ^ min (j:Int).toNat 64)=((2 ^ j:Nat):Int):=by
    rw[Int.toNat_natCast,Nat.min_eq_left (by omega),Int.one_mul];have dP:2 ^ j≤64:=Nat.le_trans (Nat.pow_le_pow_right (by omega) (show j≤6 by omega)) (by decide);have e:((2:Int) ^ j)=((2 ^ j:Nat):Int):=by simp
    rw[e];generalize 2 ^ j=z at dP ⊢;exact iU (by omega) (by omega)
   refine atk (λg:List (Int×Int)×List (Int×(Int×Int))=>l2 aq ts rows S (λ_ _=>False) g.1 g.2∧(∀x,b0 g.1 x≤b0 m1 x)∧(S=2 ^ j→b0 g.1 t≤0)) (λ_=>[(1,.int .i64 root),(2,.bf false (ax aI ts)),(9,.int .i64 (dJ:Int)),(10,.ptr 910000000 0),(28,.int .i64 (dJ:Int)),(29,.int .i64 (S:Int)),(11,.int .i64 (S:Int)),(61,.bf false (ax aI ts)),(62,.int .i64 (ts.length:Int)),(63,.int .i64 (j:Int))]) (λg=>et aq (ax fK rows) g.1 (ax fQ steps) g.2) ?_ ?_
   ·refine A.block ?_;refine asx bS [] [(1,ds (ix aI (gT u)))] [(1,.int .i64 root),(2,.bf false (ax aI ts)),(9,.int .i64 (dJ:Int)),(10,.ptr 910000000 0),(28,.int .i64 (dJ:Int)),(29,.int .i64 (S:Int)),(11,.int .i64 (S:Int)),(61,.bf false (ax aI ts)),(62,.int .i64 (ts.length:Int)),(63,.int .i64 (j:Int)),(12,.int .i64 (j:Int)),(13,.int .i64 t)] (et aq (ax fK rows) m1 (ax fQ steps) m2) (by kernel_rfl) ?_;refine asx bS [] [(2,.to (.sh (j:Int) (by omega)) (.int .i64 (IntKind.wrap .i64 (1*2 ^ min (j:Int).toNat 64))) (.int .i64 ((2 ^ j:Nat):Int)) (by rw[akH]))] [(1,.int .i64 root),(2,.bf false (ax aI ts)),(9,.int .i64 (dJ:Int)),(10,.ptr 910000000 0),(28,.int .i64 (dJ:Int)),(29,.int .i64 (S:Int)),(11,.int .i64 (S:Int)),(61,.bf false (ax aI ts)),(62,.int .i64 (ts.length:Int)),(63,.int .i64 (j:Int)),(13,.int .i64 t),(71,.bool (decide ((S:Int)=((2 ^ j:Nat):Int))))] (et aq (ax fK rows) m1 (ax fQ steps) m2) (by kernel_rfl) ?_;by_cases he:S=2 ^ j
    ·refine asC rfl (decide_eq_true (by rw[he])) ?_;by_cases bM:0<b0 m1 t
     ·have uV:=tP.put (v:=t) (c:=0) (x:=(0,0)) (Int.le_refl _) bM (.inr (.inr ⟨rfl,j,u,he,rfl⟩));have D3:=I1 (aq:=aq) (cF:=ax fK rows) (m1:=m1) (ei:=ax fQ steps) (m2:=m2) t 0 0 0 kU bM;rw[gh]at D3;refine A.R bS [] [(4,fM [] D3 x9)] [(1,.int .i64 root),(2,.bf false (ax aI ts)),(9,.int .i64 (dJ:Int)),(10,.ptr 910000000 0),(28,.int .i64 (dJ:Int)),(29,.int .i64 (S:Int)),(11,.int .i64 (S:Int)),(61,.bf false (ax aI ts)),(62,.int .i64 (ts.length:Int)),(63,.int .i64 (j:Int))] (et aq (ax fK rows) (bG m1 t 0) (ax fQ steps) (bG m2 t (0,0))) (by kernel_rfl) ?_;refine⟨(bG m1 t 0,bG m2 t (0,0)),⟨uV,λx=>?_,λ_=>by rw[sK,if_pos rfl];exact Int.le_refl _⟩,cr.go [] [] (by kernel_rfl)⟩;rw[sK];split
      ·rename_i uY;subst uY;omega
      ·omega
     ·have uX:=IZ (aq:=aq) (cF:=ax fK rows) (m1:=m1) (ei:=ax fQ steps) (m2:=m2) t 0 0 0 (by omega);rw[gh]at uX;refine A.R bS [] [(4,fM [] uX x9)] [(1,.int .i64 root),(2,.bf false (ax aI ts)),(9,.int .i64 (dJ:Int)),(10,.ptr 910000000 0),(28,.int .i64 (dJ:Int)),(29,.int .i64 (S:Int)),(11,.int .i64 (S:Int)),(61,.bf false (ax aI ts)),(62,.int .i64 (ts.length:Int)),(63,.int .i64 (j:Int))] (et aq (ax fK rows) m1 (ax fQ steps) m2) (by kernel_rfl) ?_;exact⟨(m1,m2),⟨tP,λx=>Int.le_refl _,λ_=>by show b0 m1 t≤0;omega⟩,cr.go [] [] (by kernel_rfl)⟩
    ·refine asA rfl (decide_eq_false λh=>he (by omega)) ?_;refine A.skip ?_;exact⟨(m1,m2),⟨tP,λx=>Int.le_refl _,λh=>absurd h he⟩,cr.go [] [] (by kernel_rfl)⟩
   rintro⟨hH,g3⟩ ⟨cp,cG,gC⟩;simp only at cp cG gC;refine A.R bS [] [(0,aN (hY u tI))] [(1,.int .i64 root),(2,.bf false (ax aI ts)),(9,.int .i64 (dJ:Int)),(10,.ptr 910000000 0),(28,.int .i64 (dJ:Int)),(29,.int .i64 (S:Int)),(11,.int .i64 (S:Int)),(61,.bf false (ax aI ts)),(62,.int .i64 (ts.length:Int)),(63,.int .i64 ((j+1:Nat):Int))] (et aq (ax fK rows) hH (ax fQ steps) g3) (by kernel_rfl) ?_;refine⟨(j+1,hH,g3),⟨nB,cp,λi v hi aa he=>?_⟩,by simp only;omega,cr.go [] [] (by kernel_rfl)⟩;rcases Nat.lt_or_eq_of_le (Nat.le_of_lt_succ hi)with hi|hi
   ·exact Int.le_trans (cG v) (xA i v hi aa he)
   ·subst hi;rw[u]at aa;cases aa
    exact gC he
  rintro⟨m1,m2⟩ ⟨aT,oU⟩;simp only at aT oU;have akw:lW .and .i64 (aF ((S:Int)-(1:Int))) (S:Int)=(((S-1) &&& S:Nat):Int):=by
   rcases Nat.eq_zero_or_pos S with bM|bM
   ·rw[bM];decide
   ·rw[iU (by omega) (by omega),show(S:Int)-1=((S-1:Nat):Int)by omega,Of (by omega) (by omega)]
  refine atk (λg:List (Int×Int)×List (Int×(Int×Int))=>l2 aq ts rows S (λP _=>0<P∧P<S∧P &&& S=P) g.1 g.2∧∀i v,ts[i]?=some v→S=2 ^ i→b0 g.1 v≤0) (λ_=>[(1,.int .i64 root),(2,.bf false (ax aI ts)),(9,.int .i64 (dJ:Int)),(10,.ptr 910000000 0),(28,.int .i64 (dJ:Int)),(29,.int .i64 (S:Int)),(11,.int .i64 (S:Int))]) (λg=>et aq (ax fK rows) g.1 (ax fQ steps) g.2) ?_ ?_
  ·
   refine asx bS [] [(3,aN (show Q.int .i64 (lW .and .i64 (aF ((S:Int)-(1:Int))) (S:Int))=Q.int .i64 (((S-1) &&& S:Nat):Int)by rw[akw]))] [(1,.int .i64 root),(2,.bf false (ax aI ts)),(9,.int .i64 (dJ:Int)),(10,.ptr 910000000 0),(28,.int .i64 (dJ:Int)),(29,.int .i64 (S:Int)),(11,.int .i64 (S:Int)),(14,.int .i64 (((S-1) &&& S:Nat):Int))] (et aq (ax fK rows) m1 (ax fQ steps) m2) (by kernel_rfl) ?_;refine A.block ?_
   refine A.loop (α:=Nat×List (Int×Int)×List (Int×(Int×Int))) (λg=>[(1,.int .i64 root),(2,.bf false (ax aI ts)),(9,.int .i64 (dJ:Int)),(10,.ptr 910000000 0),(28,.int .i64 (dJ:Int)),(29,.int .i64 (S:Int)),(11,.int .i64 (S:Int)),(14,.int .i64 (g.1:Int))]) (λg=>et aq (ax fK rows) g.2.1 (ax fQ steps) g.2.2)
    (λg=>(g.1 &&& S=g.1∧(0<g.1→g.1<S))∧l2 aq ts rows S (λP _=>g.1<P∧P<S∧P &&& S=P) g.2.1 g.2.2∧∀i v,ts[i]?=some v→S=2 ^ i→b0 g.2.1 v≤0) (λg=>g.1) ((S-1) &&& S,m1,m2) ⟨⟨Pe 0,λh=>?_⟩,aT.more λP v eX=>?_,oU⟩ (cr.go [] [] (by kernel_rfl)) ?_
   ·have:=Nat.and_le_left (n:=S-1) (m:=S);simp only at h ⊢;omega
   ·exfalso;have:=P6 S S P (Nat.and_self S) eX.2.2 eX.2.1;simp only at eX;omega
   rintro⟨p,hy,jA⟩ ⟨⟨GW,Ut⟩,tP,xA⟩;simp only at GW Ut tP xA;have done:∀(aC:p=0∨S=0),l2 aq ts rows S (λP _=>0<P∧P<S∧P &&& S=P) hy jA:=λaC=>tP.more λP v eX=>tP.part P v ⟨by omega,eX.2⟩;refine A.seq ?_;rcases j5 (decide ((0:Int)<(S:Int)))with c|c
   rotate_left
   ·have pE:=of_decide_eq_false c;refine asx bS [] [(1,aN (cg c))] [(1,.int .i64 root),(2,.bf false (ax aI ts)),(9,.int .i64 (dJ:Int)),(10,.ptr 910000000 0),(28,.int .i64 (dJ:Int)),(29,.int .i64 (S:Int)),(11,.int .i64 (S:Int)),(14,.int .i64 (p:Int)),(87,.bool false)] (et aq (ax fK rows) hy (ax fQ steps) jA) (by kernel_rfl) ?_;refine asA rfl rfl ?_;refine A.exit ?_;exact⟨(hy,jA),⟨done (by omega),xA⟩,cr.go [] [] (by kernel_rfl)⟩
   have pE:=of_decide_eq_true c;refine asx bS [] [(1,aN (cg c))] [(1,.int .i64 root),(2,.bf false (ax aI ts)),(9,.int .i64 (dJ:Int)),(10,.ptr 910000000 0),(28,.int .i64 (dJ:Int)),(29,.int .i64 (S:Int)),(11,.int .i64 (S:Int)),(14,.int .i64 (p:Int)),(87,.bool (decide ((0:Int)<(p:Int))))] (et aq (ax fK rows) hy (ax fQ steps) jA) (by kernel_rfl) ?_;by_cases aC:0<p
   rotate_left
   ·refine asA rfl (decide_eq_false (by omega)) ?_;refine A.exit ?_;exact⟨(hy,jA),⟨done (by omega),xA⟩,cr.go [] [] (by kernel_rfl)⟩
   refine asC rfl (decide_eq_true (by omega)) ?_;refine A.skip ?_;show aS _ _ _ _ _;have nD:=Ut aC;have iz:rows[p]?=some (gx rows p):=by
    unfold gx;rw[getD_eq_getElem?_getD,List.getElem?_eq_getElem (by omega)];rfl
   generalize hm:gx rows p=m at iz;have zi:(ax fK rows)[(p:Int).toNat]?=some [.dw (bQ .i64 (c0 .i64) m)]:=by
    rw[Int.toNat_natCast];simp[ax,iz,fK]
   refine atk (λg:List (Int×Int)×List (Int×(Int×Int))=>l2 aq ts rows S (λP _=>p≤P∧P<S∧P &&& S=P) g.1 g.2∧∀i v,ts[i]?=some v→S=2 ^ i→b0 g.1 v≤0) (λ_=>[(1,.int .i64 root),(2,.bf false (ax aI ts)),(9,.int .i64 (dJ:Int)),(10,.ptr 910000000 0),(28,.int .i64 (dJ:Int)),(29,.int .i64 (S:Int)),(11,.int .i64 (S:Int)),(14,.int .i64 (p:Int))]) (λg=>et aq (ax fK rows) g.1 (ax fQ steps) g.2) ?_ ?_
   ·refine A.block ?_;have ajn:i2 S p<S:=OC (by omega) aC nD GW;have Uu:di rows ((i2 S p:Nat):Int)=some (gx rows (i2 S p)):=by
     unfold di gx;rw[if_pos (by omega),Int.toNat_natCast,getD_eq_getElem?_getD,List.getElem?_eq_getElem (by omega)];rfl
    have Uv:∀bq,bq<S→∃g3,l2 aq ts rows bq (λP _=>0<P∧P<bq∧P &&& bq=P) (gx rows bq) g3:=λbq aql=>by
     have h1:rows[bq]?=some (gx rows bq):=by
      unfold gx;rw[getD_eq_getElem?_getD,List.getElem?_eq_getElem (by omega)];rfl
     exact⟨_,(oW.row bq _ _ h1 (List.getElem?_eq_getElem (by omega))).j⟩
    obtain⟨arl,pN⟩:=Uv p nD;obtain⟨arc,Vc⟩:=Uv (i2 S p) ajn;rw[hm]at pN
    refine A.seq (as9 bS 7 [] [(5,Be (xs:=ax fK rows) (i:=(p:Int)) Cx ⟨by omega,by rw[gh];omega⟩),(6,VE (xs:=ax fK rows) (p:=(p:Int).toNat) Cv zi)]
     [(98,.dw (bQ .i64 (c0 .i64) m)),(97,.ptr 74 (p:Int).toNat),(96,.int .i64 (p:Int)),(95,.own 74),(94,.ptr 910000000 1),(93,.ptr 910000000 0),(92,.ptr 910000000 0),(1,.int .i64 root),(2,.bf false (ax aI ts)),(9,.int .i64 (dJ:Int)),(10,.ptr 910000000 0),(28,.int .i64 (dJ:Int)),(29,.int .i64 (S:Int)),(11,.int .i64 (S:Int)),(14,.int .i64 (p:Int)),(87,.bool (decide ((0:Int)<(p:Int))))] (et aq (ax fK rows) hy (ax fQ steps) jA)
     (by kernel_rfl) (by kernel_rfl) (by kernel_rfl) rfl rfl (auE (b5:=910000040) (x:=.tmp 98) (bH:=bQ .i64 (c0 .i64) m) rfl rfl underlying144 rfl rfl) rfl rfl ?_)
    rintro bN az ⟨rfl,es,clock,rfl⟩;refine⟨[],_,_,rfl,?_⟩;show aS _ _ _ _ _;refine A.block ?_
    refine auM (k:=.i64) (enc:=c0 .i64) (l:=m) (b5:=910000040) (clock:=clock) (es:=es) (λq (g:List (Int×Int)×List (Int×(Int×Int)))=>l2 aq ts rows S (λP v=>(p<P∧P<S∧P &&& S=P)∨(P=p∧∃c,(v,c)∈q)) g.1 g.2∧∀i v,ts[i]?=some v→S=2 ^ i→b0 g.1 v≤0) (hy,jA)
     (λ_=>[(1,.int .i64 root),(2,.bf false (ax aI ts)),(9,.int .i64 (dJ:Int)),(10,.ptr 910000000 0),(28,.int .i64 (dJ:Int)),(29,.int .i64 (S:Int)),(11,.int .i64 (S:Int)),(14,.int .i64 (p:Int)),(99,.ptr 910000040 0)]) (λseen g=>et aq (ax fK rows) g.1 (ax fQ steps) g.2++[(910000040,.jP es clock (bQ .i64 (c0 .i64) m) seen)]) ⟨rfl,rfl,rfl⟩ ⟨rfl,rfl,rfl⟩ (by kernel_rfl)
     ⟨tP.more λP v eX=>tP.part P v (by rcases eX with h|⟨_,c,af⟩;exact h;cases af),xA⟩ (λ_=>rfl) (λ_ _=>rfl) (λ_ _ _=>rfl) (cr.go [] [] (by kernel_rfl)) ?_ ?_
    ·rintro seen e i n v q ⟨hn,jl⟩ he A6 ⟨an,Bc⟩;simp only at an Bc;refine A.block ?_;refine asx bS [] [(0,D5 910000040 clock .i64 seen (c0 .i64) he A6)] [(1,.int .i64 root),(2,.bf false (ax aI ts)),(9,.int .i64 (dJ:Int)),(10,.ptr 910000000 0),(28,.int .i64 (dJ:Int)),(29,.int .i64 (S:Int)),(11,.int .i64 (S:Int)),(14,.int .i64 (p:Int)),(99,.ptr 910000040 0),(15,.int .i64 n),(16,.int .i64 v)] (et aq (ax fK rows) hn (ax fQ steps) jl++[(910000040,.jP es clock (bQ .i64 (c0 .i64) m) (seen.push e.born))]) (by kernel_rfl) ?_;have Va:aD m n=some v:=WU pN.nd (List.mem_of_getElem? A6);have aa:=(pN.ok n v Va).1;have Gf:b0 m n=v:=by unfold b0;rw[Va];rfl
     have cf:=Vc.bd n;have kg:=an.bd n;have Uw:aF (v+b0 (gx rows (i2 S p)) n)=v+b0 (gx rows (i2 S p)) n:=iU (by omega) (by omega)
     have fB:∀{x:Int} {c:Int},(x,c)∈q++[(n,v)]→(∃c,(x,c)∈q)∨x=n:=λ{x c} h=>by
      rcases List.mem_append.1 h with h|h
      ·exact .inl ⟨c,h⟩
      ·simp at h;exact .inr h.1
     by_cases bL:v+b0 (gx rows (i2 S p)) n<b0 hn n
     ·have D3:=I1 (aq:=aq) (cF:=ax fK rows) (m1:=hn) (ei:=ax fQ steps) (m2:=jl) n (v+b0 (gx rows (i2 S p)) n) 0 (p:Int) kU bL;rw[gh]at D3;have uV:=an.put (v:=n) (c:=v+b0 (gx rows (i2 S p)) n) (x:=(0,(p:Int))) (by omega) bL (.inr (.inl ⟨rfl,p,rfl,aC,nD,GW,by rw[hm,Gf],by rw[hm,Gf];exact aa.2,by omega⟩))
      refine A.R bS [] [(7,aN (show Q.int .i64 (lW .andNot .i64 (S:Int) (p:Int))=Q.int .i64 ((i2 S p:Nat):Int)by rw[ND (by omega)])),(9,cM (R4 (aq:=aq) (rows:=rows) (m1:=hn) (ei:=ax fQ steps) (m2:=jl) n Uu) wC),(10,aN (show Q.int .i64 (aF (v+b0 (gx rows (i2 S p)) n))=Q.int .i64 (v+b0 (gx rows (i2 S p)) n)by rw[Uw])),(13,fM [] D3 x9)]
       [(1,.int .i64 root),(2,.bf false (ax aI ts)),(9,.int .i64 (dJ:Int)),(10,.ptr 910000000 0),(28,.int .i64 (dJ:Int)),(29,.int .i64 (S:Int)),(11,.int .i64 (S:Int)),(14,.int .i64 (p:Int)),(99,.ptr 910000040 0)] (et aq (ax fK rows) (bG hn n (v+b0 (gx rows (i2 S p)) n)) (ax fQ steps) (bG jl n (0,(p:Int)))++[(910000040,.jP es clock (bQ .i64 (c0 .i64) m) (seen.push e.born))]) (by kernel_rfl) ?_
      have hle:∀x,b0 (bG hn n (v+b0 (gx rows (i2 S p)) n)) x≤b0 hn x:=λx=>by
       rw[sK];split
       ·rename_i u;subst u;omega
       ·omega
      refine⟨(bG hn n (v+b0 (gx rows (i2 S p)) n),bG jl n (0,(p:Int))),⟨uV.more λP x eX=>?_,λi x u hi=>Int.le_trans (hle x) (Bc i x u hi)⟩,cr.go [] [] (by kernel_rfl)⟩;rcases eX with eX|⟨rfl,c,af⟩
      ·exact uV.part P x (.inl eX)
      ·rcases fB af with af|rfl
       ·exact uV.part _ x (.inr ⟨rfl,af⟩)
       ·rw[hm,Gf,sK,if_pos rfl];exact Int.le_refl _
     ·have uX:=IZ (aq:=aq) (cF:=ax fK rows) (m1:=hn) (ei:=ax fQ steps) (m2:=jl) n (v+b0 (gx rows (i2 S p)) n) 0 (p:Int) (by omega);rw[gh]at uX
      refine A.R bS [] [(7,aN (show Q.int .i64 (lW .andNot .i64 (S:Int) (p:Int))=Q.int .i64 ((i2 S p:Nat):Int)by rw[ND (by omega)])),(9,cM (R4 (aq:=aq) (rows:=rows) (m1:=hn) (ei:=ax fQ steps) (m2:=jl) n Uu) wC),(10,aN (show Q.int .i64 (aF (v+b0 (gx rows (i2 S p)) n))=Q.int .i64 (v+b0 (gx rows (i2 S p)) n)by rw[Uw])),(13,fM [] uX x9)]
       [(1,.int .i64 root),(2,.bf false (ax aI ts)),(9,.int .i64 (dJ:Int)),(10,.ptr 910000000 0),(28,.int .i64 (dJ:Int)),(29,.int .i64 (S:Int)),(11,.int .i64 (S:Int)),(14,.int .i64 (p:Int)),(99,.ptr 910000040 0)] (et aq (ax fK rows) hn (ax fQ steps) jl++[(910000040,.jP es clock (bQ .i64 (c0 .i64) m) (seen.push e.born))]) (by kernel_rfl) ?_
      refine⟨(hn,jl),⟨an.more λP x eX=>?_,Bc⟩,cr.go [] [] (by kernel_rfl)⟩;rcases eX with eX|⟨rfl,c,af⟩
      ·exact an.part P x (.inl eX)
      ·rcases fB af with af|rfl
       ·exact an.part _ x (.inr ⟨rfl,af⟩)
       ·rw[hm,Gf];omega
    ·rintro seen q ⟨hn,jl⟩ ahf ⟨an,Bc⟩;simp only at an Bc;refine⟨(hn,jl),⟨an.more λP x eX=>?_,Bc⟩,cr.go [] [] (by kernel_rfl)⟩;rcases Nat.lt_or_eq_of_le eX.1 with h|h
     ·exact an.part P x (.inl ⟨h,eX.2⟩)
     ·subst h;cases bu:aD m x with
      |some c=>exact an.part _ x (.inr ⟨rfl,c,ahf.mem_iff.2 (WV bu)⟩)
      |none=>
       have h1:b0 m x=2305843009213693951:=by unfold b0;rw[bu];rfl
       have D:=(an.bd x).2;have aj:=(Vc.bd x).1;rw[hm,h1];omega
   rintro⟨hH,g3⟩ ⟨rN,Dg⟩;simp only at rN Dg;have uT:lW .and .i64 (aF ((p:Int)-(1:Int))) (S:Int)=(((p-1) &&& S:Nat):Int):=by
    rw[iU (by omega) (by omega),show(p:Int)-1=((p-1:Nat):Int)by omega,Of (by omega) (by omega)]
   refine A.R bS [] [(3,aN (show Q.int .i64 (lW .and .i64 (aF ((p:Int)-(1:Int))) (S:Int))=Q.int .i64 (((p-1) &&& S:Nat):Int)by rw[uT]))] [(1,.int .i64 root),(2,.bf false (ax aI ts)),(9,.int .i64 (dJ:Int)),(10,.ptr 910000000 0),(28,.int .i64 (dJ:Int)),(29,.int .i64 (S:Int)),(11,.int .i64 (S:Int)),(14,.int .i64 (((p-1) &&& S:Nat):Int))] (et aq (ax fK rows) hH (ax fQ steps) g3) (by kernel_rfl) ?_;have hle:=Nat.and_le_left (n:=p-1) (m:=S);refine⟨((p-1) &&& S,hH,g3),⟨⟨Pe 0,λ_=>by show(p-1) &&& S<S;omega⟩,rN.more λP v eX=>rN.part P v ⟨?_,eX.2⟩,Dg⟩,by simp only;omega,cr.go [] [] (by kernel_rfl)⟩;have aqi:(p-1) &&& S<P:=eX.1;apply Classical.byContradiction;intro aR;have:=P6 p S P GW eX.2.2 (by omega);omega
  rintro⟨hH,g3⟩ ⟨rN,Dg⟩;simp only at rN Dg
  have GZ:=Z2 (aq:=aq) (cF:=ax fK rows) (m1:=hH) (ei:=ax fQ steps) (m2:=g3) kU (λa b=>l2 aq ts rows S (λP _=>0<P∧P<S∧P &&& S=P) a b∧∀i v,ts[i]?=some v→S=2 ^ i→b0 a v≤0) ⟨rN,Dg⟩ (λa b h r=>h.1.bd r) (λa h=>by have:=(ay a h).1;omega) (λa b e h he bL=>by
   have n1:=(ay e he).1;have aQ:=h.1.bd e.Hop.br;have LV:e.Hop.br≠e.Hop.bz:=λLS=>by rw[LS]at bL;omega
   refine⟨h.1.put (by omega) bL (.inl ⟨(ay e he).2,e,he,rfl,rfl,?_⟩),λi v aa hi=>?_⟩
   ·show e.c6+b0 (bG a e.Hop.bz (e.c6+b0 a e.Hop.br)) e.Hop.br≤_;rw[sK,if_neg LV];exact Int.le_refl _
   ·have:=h.2 i v aa hi;rw[sK];split
    ·rename_i u;subst u;omega
    ·exact this)
  rw[gh]at GZ;refine as9 bS 2 [] [] [(120,.int .i64 (S:Int)),(119,.ptr 910000000 0),(1,.int .i64 root),(2,.bf false (ax aI ts)),(9,.int .i64 (dJ:Int)),(10,.ptr 910000000 0),(28,.int .i64 (dJ:Int)),(29,.int .i64 (S:Int)),(11,.int .i64 (S:Int))] (et aq (ax fK rows) hH (ax fQ steps) g3) (by kernel_rfl) (by kernel_rfl) (by kernel_rfl) rfl rfl (atr [] rfl rfl rfl rfl rfl rfl ?_ GZ Sh) rfl rfl ?_
  ·rintro r σ2 ⟨rfl,gv,cK,_,_,rfl⟩;exact⟨rfl,rfl⟩
  rintro bN az ⟨σ2,⟨rfl,gv,cK,⟨hk,akg⟩,akI,rfl⟩,rfl⟩;refine⟨[],_,_,rfl,?_⟩;show aS _ _ _ _ _;refine A.R bS [] [(0,aN (show Q.int .i64 (aF ((S:Int)+(1:Int)))=Q.int .i64 (((rows++[gv]).length:Nat):Int)by rw[iU (by omega) (by omega),length_append,LG];simp))] [(1,.int .i64 root),(2,.bf false (ax aI ts)),(9,.int .i64 (dJ:Int)),(10,.ptr 910000000 0),(28,.int .i64 (dJ:Int)),(29,.int .i64 (((rows++[gv]).length:Nat):Int))] (et aq (ax fK rows) gv (ax fQ steps) cK) (by kernel_rfl) ?_;have aJ:ax fK (rows++[gv])=ax fK rows++[[.dw (bQ .i64 (c0 .i64) gv)]]:=by simp[ax,fK]
  have e2:ax fQ (steps++[cK])=ax fQ steps++[[.dw (bQ .i64 sk cK)]]:=by simp[ax,fQ]
  refine⟨(rows++[gv],steps++[cK]),⟨by simp only[length_append,length_singleton];omega,oW.snoc (by omega) (by rw[LG];exact⟨hk,akg,akI⟩)⟩,by simp only[length_append,length_singleton];omega,?_⟩;show cr _ _ _ _ [(910000000,.cells 165 [.bf false (ax dN aq),.own 68,.own 69]),(68,.slice 144 1 (ax fK (rows++[gv])) 0 false),(69,.slice 166 1 (ax fQ (steps++[cK])) 0 false)];rw[aJ,e2]
  exact(cr.go (dB:=[(1,.int .i64 root),(2,.bf false (ax aI ts)),(9,.int .i64 (dJ:Int)),(10,.ptr 910000000 0),(28,.int .i64 (dJ:Int)),(29,.int .i64 (((rows++[gv]).length:Nat):Int))]) (σ2:=[(910000000,.cells 165 [.bf false (ax dN aq),.own 74,.own 82]),(74,.gP 144 (ax fK rows) 910000002),(910000002,.kf 3 3 (bQ .i64 (c0 .i64) gv)),(82,.gP 166 (ax fQ steps) 910000004),(910000004,.kf 3 169 (bQ .i64 sk cK))]) [.c5 [910000002,910000004]] [] (by kernel_rfl)).trans
   ((atK 74 910000002 rfl rfl).trans ((atK 82 910000004 rfl rfl).trans (cr.go [.mu 74 68,.mu 82 69] [] (by kernel_rfl))))
 ·refine asA rfl (decide_eq_false (by omega)) ?_;refine A.exit ?_;show aS _ _ _ _ _;have sF:rows.length=dJ:=by omega
  have eV:1≤dJ:=by rw[←lE];exact Nat.two_pow_pos _
  have ahg:di rows ((dJ-1:Nat):Int)=some (gx rows (dJ-1)):=by
   unfold di gx;rw[if_pos (by omega),Int.toNat_natCast,getD_eq_getElem?_getD,List.getElem?_eq_getElem (by omega)];rfl
  have Ux:aF ((dJ:Int)-(1:Int))=((dJ-1:Nat):Int):=by rw[iU (by omega) (by omega)];omega
  refine asD ((cr.go (dB:=[(1,.int .i64 root),(9,.int .i64 (dJ:Int)),(10,.ptr 910000000 0)]) (σ2:=[(910000000,.cells 165 [.bf false (ax dN aq),.bf false (ax fK rows),.bf false (ax fQ steps)])]) [.c5 [68,69],.sc 910000000 []] [] (by kernel_rfl)).trans
   (atd (T:=165) (cs:=[.bf false (ax dN aq),.bf false (ax fK rows),.bf false (ax fQ steps)]) 10 910000000 rfl rfl rfl)) ?_
  refine asx bS [] [(2,aN (show Q.int .i64 (aF ((dJ:Int)-(1:Int)))=Q.int .i64 ((dJ-1:Nat):Int)by rw[Ux])),(4,cM (afd (aq:=aq) (rows:=rows) (steps:=steps) root ahg) wC)] [(1,.int .i64 root),(9,.int .i64 (dJ:Int)),(10,.fO [.bf false (ax dN aq),.bf false (ax fK rows),.bf false (ax fQ steps)]),(17,.int .i64 (b0 (gx rows (dJ-1)) root))] [] (by kernel_rfl) ?_;refine A.seq ?_;refine asx bS [] [] [(1,.int .i64 root),(9,.int .i64 (dJ:Int)),(10,.fO [.bf false (ax dN aq),.bf false (ax fK rows),.bf false (ax fQ steps)]),(17,.int .i64 (b0 (gx rows (dJ-1)) root)),(129,.bool (decide ((2305843009213693951:Int)≤b0 (gx rows (dJ-1)) root)))] [] (by kernel_rfl) ?_;by_cases KL:2305843009213693951≤b0 (gx rows (dJ-1)) root
  ·refine asC rfl (decide_eq_true KL) ?_;refine asx bS [] [] [(6,.c4),(7,.int .i64 0),(8,.bool false)] [] (by kernel_rfl) ?_;refine A.ret ?_;refine pW.mono (asy bS [] (R:=.cI [.bf false (ax jX []),.int .i64 0,.bool false]) (σ2:=[]) rfl (by kernel_rfl)) ?_;rintro a s ⟨rfl,rfl⟩;exact⟨rfl,([],0,false),⟨λh=>absurd h tT,λ_=>⟨rows,steps,by rw[lE];exact sF,oW,by rw[lE];exact .inl ⟨KL,rfl⟩⟩⟩,rfl⟩
  ·refine asA rfl (decide_eq_false KL) ?_;refine A.skip ?_;show aS _ _ _ _ _;obtain⟨H,n1,aqj,qF,Vy⟩:=Us rows steps sF oW (by omega);have hX:=Yu (aq:=aq) (wI:=rows) n1 (l:=[]) (by simp;omega);rw[nil_append]at hX;refine asx bS [] [(0,.al 59)] [(1,.int .i64 root),(9,.int .i64 (dJ:Int)),(10,.fO [.bf false (ax dN aq),.bf false (ax fK rows),.bf false (ax fQ steps)]),(17,.int .i64 (b0 (gx rows (dJ-1)) root)),(18,.ptr 59 0)] [(59,.cells 34 [.c4])] (by kernel_rfl) ?_;refine asx bS [.ac 59 910000011 84 2 0] [(2,aN (show Q.int .i64 (aF ((dJ:Int)-(1:Int)))=Q.int .i64 ((dJ-1:Nat):Int)by rw[Ux])),(5,fM [910000012] hX FT)] [(17,.int .i64 (b0 (gx rows (dJ-1)) root)),(18,.ptr 59 0)] (nt 910000012 H) (by kernel_rfl) ?_;refine asx bS [] [(1,fM [] (aav (d:=910000012) (T:=84) Vy) ahU)] [(17,.int .i64 (b0 (gx rows (dJ-1)) root)),(18,.ptr 59 0)] (nt 910000012 qF) (by kernel_rfl) ?_;refine asx bS [] [] [(6,.own 910000012),(7,.int .i64 (b0 (gx rows (dJ-1)) root)),(8,.bool true)] [(910000012,.slice 84 2 (ax jX qF) 0 false)] (by kernel_rfl) ?_;refine A.ret ?_;refine pW.mono (asy bS [.c5 [910000012]] (R:=.cI [.bf false (ax jX qF),.int .i64 (b0 (gx rows (dJ-1)) root),.bool true]) (σ2:=[]) rfl (by kernel_rfl)) ?_;rintro a s ⟨rfl,rfl⟩;exact⟨rfl,(qF,b0 (gx rows (dJ-1)) root,true),⟨λh=>absurd h tT,λ_=>⟨rows,steps,by rw[lE];exact sF,oW,by rw[lE];exact .inr ⟨by omega,H,n1,Vy,rfl⟩⟩⟩,rfl⟩
end
end Go.Proofs.YtmnbolcmepihlaaGreat
namespace Go.Proofs.YtmnbolcmepihlaaGreat
set_option linter.all false
open Go List
def EV{m:List (Int×Int)}{v:Int}(h:b0 m v<2305843009213693951):aD m v=some (b0 m v):=by
 unfold b0 at h ⊢;cases bu:aD m v with
 |none=>rw[bu]at h;simp at h
 |some c=>rfl
def Z6{m:List (Int×Int)}{v c:Int}(h:aD m v=some c):b0 m v=c:=by unfold b0;rw[h];rfl
def Fe{α:Type}{l:List α}{S:Nat}(h:S<l.length):∃x,l[S]?=some x:=⟨l[S],List.getElem?_eq_getElem h⟩
def Q9{rows:List (List (Int×Int))}{S:Nat}{m:List (Int×Int)}(h:rows[S]?=some m):gx rows S=m:=by
 unfold gx;rw[getD_eq_getElem?_getD,h];rfl
def Y4{S P:Nat}(fq:S<2 ^ 60)(oD:P<S)(h:P &&& S=P):P &&& i2 S P=0∧P ||| i2 S P=S:=by
 have U:=IU (a:=S) (b:=P) fq (by omega);have aC:∀i,(P.testBit i&&S.testBit i)=P.testBit i:=λi=>by rw[←Nat.testBit_and,h]
 constructor
 ·apply Nat.eq_of_testBit_eq;intro i;rw[Nat.testBit_and,U,Nat.zero_testBit];cases P.testBit i<;>simp
 ·apply Nat.eq_of_testBit_eq;intro i;have:=aC i;rw[Nat.testBit_or,U];cases h1:P.testBit i<;>cases D:S.testBit i<;>rw[h1,D]at this<;>simp at this ⊢
def Y5{S P R:Nat}(fq:S<2 ^ 60)(oD:P<2 ^ 60)(bM:P &&& R=0)(h:P ||| R=S):R=i2 S P∧P &&& S=P:=by
 have U:=IU (a:=S) (b:=P) fq oD;have hz:∀i,(P.testBit i&&R.testBit i)=false:=λi=>by rw[←Nat.testBit_and,bM,Nat.zero_testBit]
 have ai:∀i,(P.testBit i||R.testBit i)=S.testBit i:=λi=>by rw[←Nat.testBit_or,h]
 constructor
 ·apply Nat.eq_of_testBit_eq;intro i;have h1:=hz i;have D:=ai i;rw[U,←D];cases aC:P.testBit i<;>cases aB:R.testBit i<;>rw[aC,aB]at h1<;>simp at h1 ⊢
 ·apply Nat.eq_of_testBit_eq;intro i;have D:=ai i;rw[Nat.testBit_and,←D];cases P.testBit i<;>simp
section
variable {aq:wX}{ts:cq}{rows:List (List (Int×Int))}{steps:List (List (Int×(Int×Int)))}
def P7(h:wD aq ts rows steps)(eo:pR aq)(yO:rows.length≤64):∀(S:Nat),S<rows.length→∀(n:Nat) (v c:Int),c.toNat=n→aD (gx rows S) v=some c→∃hf,nr eR aq ts.length (λi=>ts.getD i 0) S v hf∧gB eR hf=c∧pt steps (S:Int) v (hf.map (·.Hop)):=by
 intro S;induction S using Nat.strongRecOn with
 |_ S zn=>
  intro fq n;induction n using Nat.strongRecOn with
  |_ n VI=>
   intro v c LL aa;obtain⟨m1,uS⟩:=Fe fq;obtain⟨m2,vS⟩:=Fe (l:=steps) (S:=S) (by rw[h.len];exact fq);have k0:=h.row S m1 m2 uS vS;rw[Q9 uS]at aa VI;obtain⟨⟨GM,GN⟩,mZ⟩:=k0.j.ok v c aa;have vQ:di steps (S:Int)=some m2:=by unfold di;rw[if_pos (by omega),Int.toNat_natCast];exact vS
   rcases mZ with⟨u,a,ay,h1,D,aj⟩|⟨u,P,h1,D,aj,a1,bU,dP,fz⟩|⟨u,i,h1,D,aj⟩
   ·have af:=eo.cost a ay;have aj7:=k0.hop a ay;rw[h1,D,Z6 aa]at aj7;have LS:b0 m1 ((aD m2 v).getD (0,0)).1=c-a.c6:=by omega
    have hk:aD m1 ((aD m2 v).getD (0,0)).1=some (c-a.c6):=by rw[←LS];exact EV (by omega)
    have bM:=(k0.j.bd ((aD m2 v).getD (0,0)).1).1;obtain⟨hf,cp,cG,gC⟩:=VI (c-a.c6).toNat (by omega) _ (c-a.c6) rfl hk;refine⟨a::hf,?_,by rw[qM,cG];show a.c6+_=_;omega,?_⟩
    ·have:=nr.hop (N:=eR) a ay (show nr eR aq ts.length (λi=>ts.getD i 0) S (eR.dst a) hf by show nr _ _ _ _ S a.Hop.br hf;rw[D];exact cp);have e:eR.src a=v:=h1;rw[e]at this;exact this
    ·have e:(a::hf).map (·.Hop)=b6.mk v ((aD m2 v).getD (0,0)).1::hf.map (·.Hop):=by
      rw[map_cons,←D,←h1]
     rw[e];exact pt.next vQ rfl u gC
   ·have cf:=OC (by omega) D aj a1;obtain⟨hf,cp,cG,gC⟩:=zn P aj (by omega) _ v _ rfl (EV dP);obtain⟨Xx,gv,cK,pT⟩:=zn (i2 S P) cf (by omega) _ v _ rfl (EV fz);obtain⟨cQ,dM⟩:=Y4 (S:=S) (P:=P) (by omega) aj a1;refine⟨hf++Xx,?_,by rw[WS,cG,cK,bU],?_⟩
    ·have:=nr.part cQ cp gv;rw[dM]at this;exact this
    ·rw[List.map_append];refine pt.part vQ rfl u (by rw[h1];omega) rfl (by rw[h1];exact gC) ?_;rw[h1,ND (by omega)];exact pT
   ·refine⟨[],?_,by rw[aj];rfl,pt.leaf vQ u⟩;have e:ts.getD i 0=v:=by rw[getD_eq_getElem?_getD,h1];rfl
    have:=nr.one (N:=eR) (L:=aq) (k:=ts.length) (ts:=λi=>ts.getD i 0) i (List.getElem?_eq_some_iff.1 h1).1;simp only[e]at this;rw[D];exact this
def Z7(h:wD aq ts rows steps)(eo:pR aq)(aH:rows.length=2 ^ ts.length)(yO:rows.length≤64):JD eR aq ts.length (λi=>ts.getD i 0) (λS v=>b0 (gx rows S) v):=by
 have F:∀S,S<rows.length→∃m2,CJ aq ts rows S (gx rows S) m2:=λS fq=>by
  obtain⟨m1,uS⟩:=Fe fq;obtain⟨m2,vS⟩:=Fe (l:=steps) (S:=S) (by rw[h.len];exact fq);exact⟨m2,by rw[Q9 uS];exact h.row S m1 m2 uS vS⟩
 refine⟨λa ay=>by have:=(eo.cost a ay).1;show 0≤a.c6;omega,λi hi=>?_,λS bM fq a ay=>?_,λS P R fq oD cf bM ai v=>?_⟩
 ·obtain⟨m2,k0⟩:=F (2 ^ i) (by rw[aH];exact Nat.pow_lt_pow_right (by omega) hi);refine k0.one i _ ?_ rfl;rw[getD_eq_getElem?_getD,List.getElem?_eq_getElem hi];rfl
 ·obtain⟨m2,k0⟩:=F S (by rw[aH];exact fq);exact k0.hop a ay
 ·obtain⟨m2,k0⟩:=F S (by rw[aH];exact fq);have bL:=zN bM ai cf;obtain⟨aJ,e2⟩:=Y5 (S:=S) (P:=P) (by omega) (by omega) bM ai;have:=k0.j.part P v ⟨oD,bL,e2⟩;rw[←aJ]at this;exact this
def xH:∀{l:wX},(∀a∈l,1≤a.c6∧a.c6≤1000)→(l.length:Int)≤gB eR l∧gB eR l≤1000*l.length
 |[],_=>by simp[gB]
 |a::l,h=>by
  have h1:=h a (by simp);have D:=xH λb U=>h b (mem_cons.2 (.inr U));rw[qM,length_cons];have:eR.cost a=a.c6:=rfl;omega
def P8{k i:Nat}:(2 ^ k-1).testBit i=decide (i<k):=by rw[Nat.testBit_two_pow_sub_one]
def R5{v:Int}{K:wX}:(∀i,(2 ^ ts.length-1).testBit i=true→eL eR K v (ts.getD i 0))↔∀t,t∈ts→eL eR K v t:=by
 constructor
 ·intro h t bE;obtain⟨i,hi⟩:=List.getElem?_of_mem bE;have:=h i (by rw[P8];exact decide_eq_true (List.getElem?_eq_some_iff.1 hi).1)
  rwa [getD_eq_getElem?_getD,hi]at this
 ·intro h i hi;rw[P8]at hi;have hi:=of_decide_eq_true hi;refine h _ ?_;rw[getD_eq_getElem?_getD,List.getElem?_eq_getElem hi];exact List.getElem_mem hi
def P9(h:wD aq ts rows steps)(eo:pR aq)(aH:rows.length=2 ^ ts.length)(hk:ts.length≤6)(h1:1≤ts.length){root:Int}:
  (2305843009213693951≤b0 (gx rows (2 ^ ts.length-1)) root→¬∀t,t∈ts→eL eR aq root t)∧
  (b0 (gx rows (2 ^ ts.length-1)) root<2305843009213693951→∃hf:wX,lS eR aq (λt=>t∈ts) root hf∧gB eR hf=b0 (gx rows (2 ^ ts.length-1)) root∧pt steps ((2 ^ ts.length-1:Nat):Int) root (hf.map (·.Hop))):=by
 have yO:rows.length≤64:=by rw[aH];exact Nat.le_trans (Nat.pow_le_pow_right (by omega) hk) (by decide)
 have akl:=Z7 h eo aH yO;have uT:2 ^ 1≤2 ^ ts.length:=Nat.pow_le_pow_right (by omega) h1
 have hle:∀K,(∀a∈K,a∈aq)→(∀t,t∈ts→eL eR K root t)→b0 (gx rows (2 ^ ts.length-1)) root≤gB eR K:=λK h8 af=>
  akl.le K.length K (Nat.le_refl _) h8 (2 ^ ts.length-1) (by omega) (by omega) root (R5.2 af)
 constructor
 ·intro bm af;have D:=hle aq (λa ay=>ay) af;have aj:=(xH eo.cost).2;have a1:=eo.len;omega
 ·intro bm;obtain⟨hf,cp,cG,gC⟩:=P7 h eo yO (2 ^ ts.length-1) (by omega) _ root _ rfl (EV bm);refine⟨hf,⟨cp.sub,λa ay=>by have:=(eo.cost a ay).1;show 0<a.c6;omega,R5.1 cp.pF,λK h8 af=>by rw[cG];exact hle K h8 af⟩,cG,gC⟩
end
end Go.Proofs.YtmnbolcmepihlaaGreat
namespace Go.Proofs.YtmnbolcmepihlaaGreat
set_option linter.all false
open Go Go.Proofs.Tryz List
def Pg{α:Type}{ee:α→α→Int}(bE:∀a b c,ee a b<0→ee b c<0→ee a c<0){x:α}:∀{l:List α},(l.Pairwise λa b=>ee a b<0)→(∀y∈l,ee x y<0∨ee y x<0)→(wL ee x l).Pairwise λa b=>ee a b<0
 |[],_,_=>by simp[wL]
 |y::r,h,u=>by
  rw[pairwise_cons]at h;simp only[wL];split
  ·rename_i rO;rw[pairwise_cons];refine⟨λz hz=>?_,Pg bE h.2 λz hz=>u z (by simp[hz])⟩;rcases mem_cons.1 ((Ix ee x r).mem_iff.1 hz)with rfl|hz
   ·exact rO
   ·exact h.1 z hz
  ·rename_i rO;have m0:ee x y<0:=by rcases u y (by simp)with q|q;exact q;exact absurd q rO
   rw[pairwise_cons];refine⟨λz hz=>?_,pairwise_cons.2 h⟩;rcases mem_cons.1 hz with rfl|hz
   ·exact m0
   ·exact bE _ _ _ m0 (h.1 z hz)
def WW{α:Type}{ee:α→α→Int}(bE:∀a b c,ee a b<0→ee b c<0→ee a c<0):∀{l:List α},(l.Pairwise λa b=>ee a b<0∨ee b a<0)→(rS ee l).Pairwise λa b=>ee a b<0
 |[],_=>by simp[rS]
 |x::r,h=>by
  rw[pairwise_cons]at h;exact Pg bE (WW bE h.2) λy ag=>h.1 y ((Br ee r).mem_iff.1 ag)
def Ph{α:Type}{ee:α→α→Int}:∀{l:List α},(l.Pairwise λa b=>ee a b<0)→wM ee l=true
 |[],_=>rfl
 |[x],_=>rfl
 |a::b::r,h=>by
  rw[pairwise_cons]at h;simp only[wM,Bool.and_eq_true,decide_eq_true_eq];exact⟨h.1 b (by simp),Ph h.2⟩
def Pj{α:Type}{ks:List (α→Int)}{l:List α}(h:l.Pairwise λa b=>ht ks a b<0∨ht ks b a<0)(aH:l.length≤1000000):∃m,nG (ht ks) l=some m∧m.Perm l∧m.Pairwise λa b=>ht ks a b<0:=by
 have h1:=WW (zB ks) h;refine⟨rS (ht ks) l,?_,Br _ _,h1⟩;unfold nG;have:(decide (l.length<4611686018427387904))=true:=by simp;omega
 rw[Ph h1,this];rfl
def NX{aq:wX}{T:Int→Prop}{root:Int}{hf:wX}(eo:pR aq)(h:lS eR aq T root hf)(aH:hf.length≤1000000):∃m,nG (ht [λx:b6=>x.bz,λx:b6=>x.br]) (hf.map (·.Hop))=some m∧m.Perm (hf.map (·.Hop))∧m.Pairwise λa b=>ht [λx:b6=>x.bz,λx:b6=>x.br] a b<0:=by
 refine Pj ?_ (by simpa using aH);rw[pairwise_map];have fR:hf.Pairwise λa b=>a≠b:=h.nodup;refine fR.imp_of_mem λ{a b} ay U hW=>?_;have cb:a.Hop≠b.Hop:=λe=>hW (eo.hop a (h.sub a ay) b (h.sub b U) e);rw[sy,sy,sy,sy];have D:a.Hop.bz≠b.Hop.bz∨a.Hop.br≠b.Hop.br:=by
  apply Classical.byContradiction;intro aR;have aJ:a.Hop.bz=b.Hop.bz:=Classical.byContradiction λx=>aR (.inl x);have e2:a.Hop.br=b.Hop.br:=Classical.byContradiction λx=>aR (.inr x);apply cb;cases LI:a.Hop;cases ha:b.Hop
  rw[LI,ha]at aJ e2;simp only at aJ e2;rw[aJ,e2]
 simp only[ht];omega
def abQ{st:List (List (Int×(Int×Int)))}{s r:Int}{H:zu}(h:pt st s r H):∀qF,pt st s r qF→H=qF:=by
 induction h with
 |leaf h aR=>
  intro qF b3;cases b3 with
  |leaf _ _=>rfl
  |next D u nC _=>rw[h]at D;cases D;rw[aR]at u;subst u;exact absurd rfl nC
  |part D u _ nC _ _ _=>rw[h]at D;cases D;rw[aR]at u;subst u;exact absurd rfl nC
 |next h u aR _ bg=>
  intro qF b3;cases b3 with
  |leaf D nC=>rw[h]at D;cases D;rw[nC]at u;subst u;exact absurd rfl aR
  |next D gi _ qO=>rw[h]at D;cases D;rw[u]at gi;subst gi;rw[bg _ qO]
  |part D gi aj _ _ _ _=>rw[h]at D;cases D;rw[u]at gi;subst gi;exact absurd aj aR
 |part h u h1 aR X _ _ Mo zm=>
  intro qF b3;cases b3 with
  |leaf D nC=>rw[h]at D;cases D;rw[nC]at u;subst u;exact absurd rfl aR
  |next D gi nC _=>rw[h]at D;cases D;rw[u]at gi;subst gi;exact absurd h1 nC
  |part D gi _ _ ef qh qO=>rw[h]at D;cases D;rw[u]at gi;subst gi;subst X;subst ef;rw[Mo _ qh,zm _ qO]
def anB{β:Type}{aq:wX}{root:Int}{ts:cq}{K:(zu×Int×Bool)→Option β}{r:β}(hm:Hw aq root ts K=some r):
  eP prog 63 [] [.bf false (ax dN aq),.int .i64 root,.bf false (ax aI ts)] (λa az=>az=[]∧∃x,K x=some r∧a=.cI [.bf false (ax jX x.1),.int .i64 x.2.1,.bool x.2.2]):=by
 unfold Hw at hm;split at hm
 rotate_left
 ·cases hm
 rename_i af;obtain⟨eo,hk⟩:=af;have ny:=Y2 hm
 have small:∀(hf:wX),lS eR aq (λt=>t∈ts) root hf→hf.length≤1000000:=λhf kb=>by
  have h1:=(xH λa ay=>eo.cost a (kb.sub a ay)).1;have D:=kb.min aq (λa ay=>ay) (λt bE=>(kb.pF t bE).mono kb.sub);have aj:=(xH eo.cost).2;have a1:=eo.len;omega
 have an:=X0 (aq:=aq) (root:=root) (ts:=ts) hk (λa ay=>⟨by have:=eo.cost a ay;omega,eo.to a ay⟩) (λrows steps aH k0 bm=>by
  by_cases tT:1≤ts.length
  ·obtain⟨hf,cp,cG,gC⟩:=(P9 k0 eo aH hk tT (root:=root)).2 bm;have X:=small hf cp;obtain⟨m,hm,_⟩:=NX eo cp X;exact⟨_,gC,by simpa using X,m,hm⟩
  ·have bM:ts=[]:=eq_nil_of_length_eq_zero (by omega);subst bM;have gh:rows.length=1:=aH;obtain⟨m2,vS⟩:=Fe (l:=steps) (S:=0) (by rw[k0.len,gh];omega);obtain⟨hf,cp,cG,gC⟩:=P7 k0 eo (by omega) 0 (by omega) _ root _ rfl (EV bm);exfalso
   have:∀{S:Nat} {v:Int} {H:wX},nr eR aq 0 (λi=>([]:cq).getD i 0) S v H→False:=λh=>by
    induction h with
    |one i hi=>omega
    |hop _ _ _ bg=>exact bg
    |part _ _ _ bg _=>exact bg
   exact this cp)
 refine an.mono ?_;rintro a s ⟨rfl,x,u,rfl⟩;refine⟨rfl,x,ny x ?_,rfl⟩;by_cases tT:ts=[]
 ·rw[u.nil tT]
  have kb:lS eR aq (λt=>t∈ts) root []:=by
   refine⟨λa ay=>(by cases ay),λa ay=>by have:=(eo.cost a ay).1;show 0<a.c6;omega,λt bE=>(by rw[tT]at bE;cases bE),λK h8 _=>?_⟩;have:=(xH λa ay=>eo.cost a (h8 a ay)).1;have e:gB eR ([]:wX)=0:=rfl;rw[e];omega
  exact .inl ⟨rfl,⟨[],kb,rfl,List.Perm.refl _⟩,Pairwise.nil⟩
 ·have h1:1≤ts.length:=by cases akM:ts with|nil=>exact absurd akM tT|cons _ _=>simp
  obtain⟨rows,steps,aH,k0,h⟩:=u.rows tT;have hb:=P9 k0 eo aH hk h1 (root:=root);rcases h with⟨bm,rfl⟩|⟨bm,H,n1,X,aB⟩
  ·exact .inr ⟨rfl,hb.1 bm⟩
  ·refine .inl ⟨by rw[aB],?_⟩;obtain⟨hf,cp,cG,gC⟩:=hb.2 bm;have e:=abQ n1 _ gC;subst e;obtain⟨m,uS,vS,akn⟩:=NX eo cp (small hf cp);rw[uS]at X;have e2:=Option.some.inj X;refine⟨⟨hf,cp,by rw[cG,aB],by rw[←e2];exact vS⟩,by rw[←e2];exact akn⟩
end Go.Proofs.YtmnbolcmepihlaaGreat
