/- Several texts in one. No condition but those that stand in each. -/
import Derived.Test.YtmnbolcmepihlaaGreatZ4
import Derived.Test.YtmnbolcmepihlaaGreatZ1
import Derived.Shelf.Sort.Plain
import Derived.Test.YtmnbolcmepihlaaGreatZ3
import Derived.Test.YtmnbolcmepihlaaGreatZ2
namespace Go.Proofs.YtmnbolcmepihlaaGreat
section
open Go Go.Proofs.Tryz List
set_option maxRecDepth 100000
set_option linter.all false
variable {e5:Int}{r:Bool}
def X8(hm:CG e5=some r):dR prog 164 [] [Y e5] (.bool r):=by
 refine dN func164 rfl rfl ?_;unfold CG at hm;refine bl [] [(0,Y e5)] []<|bl [] [(2,.bool (!decide (e5=e5)))] [] ?_
 cases hm;exact A.ret cM
def sx{y:Int}{r:Int}(hm:oK e5 y=some r):dR prog 106 [] [Y e5,Y y] (Y r):=by
 refine dN func106 rfl rfl ?_;unfold oK at hm;refine bl [] [(0,Y e5),(1,Y y)] [] ?_;obtain⟨aD,h1,hm⟩:=bo hm;refine aW [(1,ch (X8 h1) U8)] [] [(5,.bool aD)] ?_;obtain⟨bB,D,hm⟩:=bo hm;refine aW [(1,ch (X8 D) U8)] [] [(6,.bool bB)]<|A.seq<|aW [] [5] [(11,.bool aD)] ?_
 rcases cg hm with⟨bk,hm⟩|⟨bk,hm⟩
 ·refine bX bk<|A.seq<|bl [] [(12,.bool bB)] [] ?_
  rcases cg hm with⟨bK,hm⟩|⟨bK,hm⟩
  ·refine bX bK<|bl [] [(4,Y 0)] [] ?_
   cases hm;exact A.ret cM
  refine bW bK<|A.skip<|bl [] [(4,Y (-1))] [] ?_
  cases hm;exact A.ret cM
 refine bW bk<|A.skip<|A.seq<|aW [] [6,11] [(13,.bool bB)] ?_
 rcases cg hm with⟨cq,hm⟩|⟨cq,hm⟩
 ·refine bX cq<|bl [] [(4,Y 1)] [] ?_
  cases hm;exact A.ret cM
 refine bW cq<|A.skip<|A.seq<|aW [] [13] [(16,.d (e5<y))] ?_
 rcases cg hm with⟨en,hm⟩|⟨en,hm⟩
 ·refine bX en<|bl [] [(4,Y (-1))] [] ?_
  cases hm;exact A.ret cM
 refine bW en<|A.skip<|A.seq<|bl [] [(19,.d (y<e5))] [] ?_
 rcases cg hm with⟨fK,hm⟩|⟨fK,hm⟩
 ·refine bX fK<|bl [] [(4,Y 1)] [] ?_
  cases hm;exact A.ret cM
 refine bW fK<|A.skip<|bl [] [(4,Y 0)] [] ?_
 cases hm;exact A.ret cM
def FP{gA:cO}{r:Int}(hm:tI gA=some r):dR prog 126 [] [bC aB gA] (Y r):=by
 refine dN func126 rfl rfl ?_;unfold tI at hm;refine bl [] [(0,bC aB gA)] []<|aW [] [] [(3,Y 0)]<|A.seq<|aW [(1,aN (dZ aB gA))] [0] [(6,bC aB gA),(7,Y gA.length),(8,Y 0)]<|A.block<|avJ 6 rfl λfu=>?_
 obtain⟨gU,gV,gK,gL,hm⟩:=hJ hm;refine avD (l:=gA) (gC:=0) (B:=gU) (K:=gV) hm (λa1=>λ()=>[(3,Y 0),(6,bC aB gA),(7,Y gA.length),(8,Y a1)]) (λa1=>λ()=>[]) ?_ ?_ ?_
 ·exact fN
 ·rintro a1 aK cI ⟨⟩ gM cr hm;rw[gK]at hm;refine aW [] [] [(9,.d ((a1:Int)<gA.length))]<|A.seq<|bX (hv cr)<|A.skip<|A.seq<|A.block<|aW [(0,c8 (ix aB (fS cr)))] [9] [(5,Y aK)]<|aW [] [] [(14,.bool (!decide (aK=0)))] ?_
  rcases cg hm with⟨bk,hm⟩|⟨bk,hm⟩
  ·refine bX bk<|bl [] [(2,Y aK)] [] ?_
   cases hm;exact A.ret cM
  exact bW bk<|A.skip<|dF [(0,aN (hg cr fu))] [8,5,14] [(8,Y ((a1+1:Nat):Int))]<|cF () hm
 rintro a1 ⟨⟩ gM fv hm;rw[gL]at hm;refine aW [] [] [(9,.d ((a1:Int)<gA.length))]<|A.seq<|bW (ht fv)<|A.exit<|bl [] [(2,Y 0)] [] ?_
 cases hm;exact A.ret cM
variable {gF:Nat}{hq:List W}
def anN{e5:zA}{target:dy}{hE:dy→dy→jO}(iZ:c0 prog gF)(i0:∀(hH:dy) (j8:dy) (q:Int),hE hH j8=some q→dR prog gF [] ([.agg (gy hH),.agg (gy j8)]++hq) (Y q)){r:Int×Bool}(hm:EH e5 target hE=some r):dR prog 130 [] [bC fe e5,.agg (gy target),.e7 gF hq] (.c5 [Y r.1,.bool r.2]):=by
 refine dN func130 rfl rfl ?_;unfold EH at hm;refine bl [(0,.al 71)] [(0,bC fe e5),(2,.e7 gF hq),(4,.ptr 71 0)] [(71,.cells 62 (gy target))]<|aW [(1,aN (dZ fe e5))] [] [(8,Y e5.length)]<|aW [] [] [(9,Y 0),(10,Y e5.length)]<|A.seq<|A.block ?_
 obtain⟨k9,hp,lu,hm⟩:=mM hm;refine avN (F:=k9) hm (λ(ct,e0)=>[(0,bC fe e5),(2,.e7 gF hq),(4,.ptr 71 0),(8,Y e5.length),(9,Y ct),(10,Y e0)]) (λ(ct,e0)=>[(71,.cells 62 (gy target))]) ?_ ?_
 ·exact fN
 rintro cI ⟨ct,e0⟩ hm;rw[lu]at hm;refine A.seq<|aW [] [] [(17,.d (ct<e0))] ?_
 rcases cg hm with⟨bk,hm⟩|⟨bk,hm⟩
 ·refine bX bk<|A.skip<|A.block<|aW [(4,.sh (1:Int) (by decide))] [17] [(11,Y (aG (Int.fdiv (IntKind.wrap .u64 (aG (ct+e0))) (2 ^ min (1:Int).toNat 64))))] ?_
  obtain⟨dJ,h1,hm⟩:=bo hm;obtain⟨aD,D,hm⟩:=bo hm;refine aW [(3,c8 (ix fe h1)),(6,oZ (i0 _ _ _ D) iZ)] [] [(31,.d (aD<0))] ?_;rcases cg hm with⟨bK,hm⟩|⟨bK,hm⟩
  ·exact bX bK<|dF [] [9,11,31] [(9,Y (aG ((aG (Int.fdiv (IntKind.wrap .u64 (aG (ct+e0))) (2 ^ min (1:Int).toNat 64)))+(1:Int))))]<|cF (aG ((aG (Int.fdiv (IntKind.wrap .u64 (aG (ct+e0))) (2 ^ min (1:Int).toNat 64)))+(1:Int)),e0) hm
  exact bW bK<|dF [] [10,11,31] [(10,Y (aG (Int.fdiv (IntKind.wrap .u64 (aG (ct+e0))) (2 ^ min (1:Int).toNat 64))))]<|cF (ct,aG (Int.fdiv (IntKind.wrap .u64 (aG (ct+e0))) (2 ^ min (1:Int).toNat 64))) hm
 refine bW bk<|A.exit ?_
 rcases cg hm with⟨cq,hm⟩|⟨cq,hm⟩
 ·obtain⟨eo,aq,hm⟩:=bo hm;obtain⟨bB,aZ,hm⟩:=bo hm;refine bl [(4,aN (cK cq)),(8,c8 (ix fe aq)),(11,oZ (i0 _ _ _ aZ) iZ)] [(6,Y ct),(7,.d (bB=0))] [] ?_;cases hm;exact A.ret cM
 refine bl [(4,aN (cK cq))] [(6,Y ct),(7,.bool false)] [] ?_;cases hm;exact A.ret cM
def WU{e5:AU}{target:Int}{hE:ez→Int→jO}(iZ:c0 prog gF)(i0:∀(hH:ez) (j8:Int) (q:Int),hE hH j8=some q→dR prog gF [] ([.agg (o7 hH),Y j8]++hq) (Y q)){r:Int×Bool}(hm:BV e5 target hE=some r):dR prog 136 [] [bC eD e5,Y target,.e7 gF hq] (.c5 [Y r.1,.bool r.2]):=by
 refine dN func136 rfl rfl ?_;unfold BV at hm;refine bl [] [(0,bC eD e5),(1,Y target),(2,.e7 gF hq)] []<|aW [(1,aN (dZ eD e5))] [] [(8,Y e5.length)]<|aW [] [] [(9,Y 0),(10,Y e5.length)]<|A.seq<|A.block ?_
 obtain⟨k9,hp,lu,hm⟩:=mM hm;refine avN (F:=k9) hm (λ(ct,e0)=>[(0,bC eD e5),(1,Y target),(2,.e7 gF hq),(8,Y e5.length),(9,Y ct),(10,Y e0)]) (λ(ct,e0)=>[]) ?_ ?_
 ·exact fN
 rintro cI ⟨ct,e0⟩ hm;rw[lu]at hm;refine A.seq<|aW [] [] [(17,.d (ct<e0))] ?_
 rcases cg hm with⟨bk,hm⟩|⟨bk,hm⟩
 ·refine bX bk<|A.skip<|A.block<|aW [(4,.sh (1:Int) (by decide))] [17] [(11,Y (aG (Int.fdiv (IntKind.wrap .u64 (aG (ct+e0))) (2 ^ min (1:Int).toNat 64))))] ?_
  obtain⟨dJ,h1,hm⟩:=bo hm;obtain⟨aD,D,hm⟩:=bo hm;refine aW [(3,c8 (ix eD h1)),(6,oZ (i0 _ _ _ D) iZ)] [] [(31,.d (aD<0))] ?_;rcases cg hm with⟨bK,hm⟩|⟨bK,hm⟩
  ·exact bX bK<|dF [] [9,11,31] [(9,Y (aG ((aG (Int.fdiv (IntKind.wrap .u64 (aG (ct+e0))) (2 ^ min (1:Int).toNat 64)))+(1:Int))))]<|cF (aG ((aG (Int.fdiv (IntKind.wrap .u64 (aG (ct+e0))) (2 ^ min (1:Int).toNat 64)))+(1:Int)),e0) hm
  exact bW bK<|dF [] [10,11,31] [(10,Y (aG (Int.fdiv (IntKind.wrap .u64 (aG (ct+e0))) (2 ^ min (1:Int).toNat 64))))]<|cF (ct,aG (Int.fdiv (IntKind.wrap .u64 (aG (ct+e0))) (2 ^ min (1:Int).toNat 64))) hm
 refine bW bk<|A.exit ?_
 rcases cg hm with⟨cq,hm⟩|⟨cq,hm⟩
 ·obtain⟨eo,aq,hm⟩:=bo hm;obtain⟨bB,aZ,hm⟩:=bo hm;refine bl [(4,aN (cK cq)),(8,c8 (ix eD aq)),(11,oZ (i0 _ _ _ aZ) iZ)] [(6,Y ct),(7,.d (bB=0))] [] ?_;cases hm;exact A.ret cM
 refine bl [(4,aN (cK cq))] [(6,Y ct),(7,.bool false)] [] ?_;cases hm;exact A.ret cM
variable {ei:cO}
def aoN{v:Int}{r:Int}(hm:IV ei v=some r):dR prog 146 [] [bC aB ei,Y v] (Y r):=by
 refine dN func146 rfl rfl ?_;unfold IV at hm;refine bl [] [(0,bC aB ei),(1,Y v)] []<|A.seq<|aW [(1,aN (dZ aB ei))] [] [(7,Y ei.length),(8,Y 0)]<|A.block<|avJ 0 rfl λfu=>?_
 obtain⟨gU,gV,gK,gL,hm⟩:=hJ hm;refine avD (l:=ei) (gC:=0) (B:=gU) (K:=gV) hm (λa1=>λ()=>[(0,bC aB ei),(1,Y v),(7,Y ei.length),(8,Y a1)]) (λa1=>λ()=>[]) ?_ ?_ ?_
 ·exact fN
 ·rintro a1 aK cI ⟨⟩ gM cr hm;rw[gK]at hm;refine aW [] [] [(9,.d ((a1:Int)<ei.length))]<|A.seq<|bX (hv cr)<|A.skip<|A.seq<|A.block<|aW [] [9] [(5,Y a1)]<|aW [(3,c8 (ix aB (fS cr)))] [] [(16,.d (v=aK))] ?_
  rcases cg hm with⟨bk,hm⟩|⟨bk,hm⟩
  ·refine bX bk<|bl [] [(4,Y a1)] [] ?_
   cases hm;exact A.ret cM
  exact bW bk<|A.skip<|dF [(0,aN (hg cr fu))] [8,5,16] [(8,Y ((a1+1:Nat):Int))]<|cF () hm
 rintro a1 ⟨⟩ gM fv hm;rw[gL]at hm;refine aW [] [] [(9,.d ((a1:Int)<ei.length))]<|A.seq<|bW (ht fv)<|A.exit<|bl [] [(4,Y (-1))] [] ?_
 cases hm;exact A.ret cM
variable {jL:Nat}{kN:List W}
def anX{ei:AU}{f:ez→j9}(oP:c0 prog jL)(oO:∀(hH:ez) (q:Bool),f hH=some q→dR prog jL [] ([.agg (o7 hH)]++kN) (.bool q)){r:Int}(hm:Ip ei f=some r):dR prog 180 [] [bC eD ei,.e7 jL kN] (Y r):=by
 refine dN func180 rfl rfl ?_;unfold Ip at hm;refine bl [] [(0,bC eD ei),(1,.e7 jL kN)] []<|A.seq<|aW [(1,aN (dZ eD ei))] [] [(7,Y ei.length),(8,Y 0)]<|A.block<|avJ 0 rfl λfu=>?_
 obtain⟨gU,gV,gK,gL,hm⟩:=hJ hm;refine avD (l:=ei) (gC:=0) (B:=gU) (K:=gV) hm (λa1=>λ()=>[(0,bC eD ei),(1,.e7 jL kN),(7,Y ei.length),(8,Y a1)]) (λa1=>λ()=>[]) ?_ ?_ ?_
 ·exact fN
 ·rintro a1 aK cI ⟨⟩ gM cr hm;rw[gK]at hm;refine aW [] [] [(9,.d ((a1:Int)<ei.length))]<|A.seq<|bX (hv cr)<|A.skip<|A.seq<|A.block<|aW [] [9] [(5,Y a1)] ?_
  obtain⟨aD,h1,hm⟩:=bo hm;refine aW [(3,c8 (ix eD (fS cr))),(5,oZ (oO _ _ h1) oP)] [] [(16,.bool aD)] ?_;rcases cg hm with⟨bk,hm⟩|⟨bk,hm⟩
  ·refine bX bk<|bl [] [(4,Y a1)] [] ?_
   cases hm;exact A.ret cM
  exact bW bk<|A.skip<|dF [(0,aN (hg cr fu))] [8,5,16] [(8,Y ((a1+1:Nat):Int))]<|cF () hm
 rintro a1 ⟨⟩ gM fv hm;rw[gL]at hm;refine aW [] [] [(9,.d ((a1:Int)<ei.length))]<|A.seq<|bW (ht fv)<|A.exit<|bl [] [(4,Y (-1))] [] ?_
 cases hm;exact A.ret cM
def aof{ei:zA}{f:dy→j9}(oP:c0 prog jL)(oO:∀(hH:dy) (q:Bool),f hH=some q→dR prog jL [] ([.agg (gy hH)]++kN) (.bool q)){r:Int}(hm:Il ei f=some r):dR prog 181 [] [bC fe ei,.e7 jL kN] (Y r):=by
 refine dN func181 rfl rfl ?_;unfold Il at hm;refine bl [] [(0,bC fe ei),(1,.e7 jL kN)] []<|A.seq<|aW [(1,aN (dZ fe ei))] [] [(7,Y ei.length),(8,Y 0)]<|A.block<|avJ 0 rfl λfu=>?_
 obtain⟨gU,gV,gK,gL,hm⟩:=hJ hm;refine avD (l:=ei) (gC:=0) (B:=gU) (K:=gV) hm (λa1=>λ()=>[(0,bC fe ei),(1,.e7 jL kN),(7,Y ei.length),(8,Y a1)]) (λa1=>λ()=>[]) ?_ ?_ ?_
 ·exact fN
 ·rintro a1 aK cI ⟨⟩ gM cr hm;rw[gK]at hm;refine aW [] [] [(9,.d ((a1:Int)<ei.length))]<|A.seq<|bX (hv cr)<|A.skip<|A.seq<|A.block<|aW [] [9] [(5,Y a1)] ?_
  obtain⟨aD,h1,hm⟩:=bo hm;refine aW [(3,c8 (ix fe (fS cr))),(5,oZ (oO _ _ h1) oP)] [] [(16,.bool aD)] ?_;rcases cg hm with⟨bk,hm⟩|⟨bk,hm⟩
  ·refine bX bk<|bl [] [(4,Y a1)] [] ?_
   cases hm;exact A.ret cM
  exact bW bk<|A.skip<|dF [(0,aN (hg cr fu))] [8,5,16] [(8,Y ((a1+1:Nat):Int))]<|cF () hm
 rintro a1 ⟨⟩ gM fv hm;rw[gL]at hm;refine aW [] [] [(9,.d ((a1:Int)<ei.length))]<|A.seq<|bW (ht fv)<|A.exit<|bl [] [(4,Y (-1))] [] ?_
 cases hm;exact A.ret cM
variable {f:Int→j9}
def aou(oP:c0 prog jL)(oO:∀(hH:Int) (q:Bool),f hH=some q→dR prog jL [] ([Y hH]++kN) (.bool q)){r:Int}(hm:Iq ei f=some r):dR prog 195 [] [bC aB ei,.e7 jL kN] (Y r):=by
 refine dN func195 rfl rfl ?_;unfold Iq at hm;refine bl [] [(0,bC aB ei),(1,.e7 jL kN)] []<|A.seq<|aW [(1,aN (dZ aB ei))] [] [(7,Y ei.length),(8,Y 0)]<|A.block<|avJ 0 rfl λfu=>?_
 obtain⟨gU,gV,gK,gL,hm⟩:=hJ hm;refine avD (l:=ei) (gC:=0) (B:=gU) (K:=gV) hm (λa1=>λ()=>[(0,bC aB ei),(1,.e7 jL kN),(7,Y ei.length),(8,Y a1)]) (λa1=>λ()=>[]) ?_ ?_ ?_
 ·exact fN
 ·rintro a1 aK cI ⟨⟩ gM cr hm;rw[gK]at hm;refine aW [] [] [(9,.d ((a1:Int)<ei.length))]<|A.seq<|bX (hv cr)<|A.skip<|A.seq<|A.block<|aW [] [9] [(5,Y a1)] ?_
  obtain⟨aD,h1,hm⟩:=bo hm;refine aW [(3,c8 (ix aB (fS cr))),(5,oZ (oO _ _ h1) oP)] [] [(16,.bool aD)] ?_;rcases cg hm with⟨bk,hm⟩|⟨bk,hm⟩
  ·refine bX bk<|bl [] [(4,Y a1)] [] ?_
   cases hm;exact A.ret cM
  exact bW bk<|A.skip<|dF [(0,aN (hg cr fu))] [8,5,16] [(8,Y ((a1+1:Nat):Int))]<|cF () hm
 rintro a1 ⟨⟩ gM fv hm;rw[gL]at hm;refine aW [] [] [(9,.d ((a1:Int)<ei.length))]<|A.seq<|bW (ht fv)<|A.exit<|bl [] [(4,Y (-1))] [] ?_
 cases hm;exact A.ret cM
def B3{v:Int}(hm:wF ei v=some r):dR prog 76 [] [bC aB ei,Y v] (.bool r):=by
 refine dN func76 rfl rfl ?_;unfold wF at hm;refine bl [] [(0,bC aB ei),(1,Y v)] [] ?_;obtain⟨aD,h1,hm⟩:=bo hm;refine bl [(2,ch (aoN h1) ajm)] [(4,.d (0≤aD))] [] ?_;cases hm;exact A.ret cM
def anV{ei:AU}{f:ez→j9}(oP:c0 prog jL)(oO:∀(hH:ez) (q:Bool),f hH=some q→dR prog jL [] ([.agg (o7 hH)]++kN) (.bool q))(hm:EF ei f=some r):dR prog 132 [] [bC eD ei,.e7 jL kN] (.bool r):=by
 refine dN func132 rfl rfl ?_;unfold EF at hm;refine bl [] [(0,bC eD ei),(1,.e7 jL kN)] [] ?_;obtain⟨aD,h1,hm⟩:=bo hm;refine bl [(2,ch (anX (oP:=oP) (oO:=oO) h1) akz)] [(4,.d (0≤aD))] [] ?_;cases hm;exact A.ret cM
def M2{ei:zA}{f:dy→j9}(oP:c0 prog jL)(oO:∀(hH:dy) (q:Bool),f hH=some q→dR prog jL [] ([.agg (gy hH)]++kN) (.bool q))(hm:zI ei f=some r):dR prog 138 [] [bC fe ei,.e7 jL kN] (.bool r):=by
 refine dN func138 rfl rfl ?_;unfold zI at hm;refine bl [] [(0,bC fe ei),(1,.e7 jL kN)] [] ?_;obtain⟨aD,h1,hm⟩:=bo hm;refine bl [(2,ch (aof (oP:=oP) (oO:=oO) h1) akA)] [(4,.d (0≤aD))] [] ?_;cases hm;exact A.ret cM
def aop(oP:c0 prog jL)(oO:∀(hH:Int) (q:Bool),f hH=some q→dR prog jL [] ([Y hH]++kN) (.bool q))(hm:EN ei f=some r):dR prog 170 [] [bC aB ei,.e7 jL kN] (.bool r):=by
 refine dN func170 rfl rfl ?_;unfold EN at hm;refine bl [] [(0,bC aB ei),(1,.e7 jL kN)] [] ?_;obtain⟨aD,h1,hm⟩:=bo hm;refine bl [(2,ch (aou (oP:=oP) (oO:=oO) h1) akE)] [(4,.d (0≤aD))] [] ?_;cases hm;exact A.ret cM
def zN{n:Int}{least:Int}{mI:Int}(hm:yB n least mI=some r):dR prog 134 [] [Y n,Y least,Y mI] (.bool r):=by
 refine dN func134 rfl rfl ?_;unfold yB at hm;refine bl [] [(0,Y n),(1,Y least),(2,Y mI)] []<|avM [(6,.bool ((decide (least≤n))&&(decide (n≤mI))))] [] (λhk=>?_) ?_
 ·rcases j6 (decide (least≤n))with bk|bk
  ·exact bl [(3,aN (cK bk)),(8,aN (mE (q:=decide (n≤mI)) bk))] _ _ hk
  exact bl [(3,aN (cK bk)),(8,aN (pa (q:=decide (n≤mI)) bk))] _ _ hk
 cases hm;exact A.ret cM
def X2{a:dy}{b:dy}{r:Int}(hm:Ca a b=some r):dR prog 131 [] [.agg (gy a),.agg (gy b)] (Y r):=by
 refine dN func131 rfl rfl ?_;unfold Ca at hm;refine bl [(0,.al 155),(1,.al 156)] [(2,.ptr 155 0),(3,.ptr 156 0)] [(155,.cells 62 (gy a)),(156,.cells 62 (gy b))] ?_;obtain⟨aD,h1,hm⟩:=bo hm;obtain⟨bB,D,hm⟩:=bo hm;obtain⟨cm,aq,hm⟩:=bo hm;refine bl [(4,ch (sx h1) s7),(9,ch (sx D) s7),(11,ch (FP aq) Ec)] [(4,Y cm)] [] ?_;cases hm;exact A.ret cM
variable {id:Int}{qm:ez}
def X9{r:Int}(hm:CH qm id=some r):dR prog 137 [] [.agg (o7 qm),Y id] (Y r):=by
 refine dN func137 rfl rfl ?_;unfold CH at hm;refine bl [(0,.al 158)] [(1,Y id),(2,.ptr 158 0)] [(158,.cells 31 (o7 qm))] ?_;obtain⟨aD,h1,hm⟩:=bo hm;refine bl [(3,ch (sx h1) s7)] [(4,Y aD)] [] ?_;cases hm;exact A.ret cM
def aqj(hm:I7 qm=some r):dR prog 133 [] [.agg (o7 qm)] (.bool r):=by
 refine dN func133 rfl rfl ?_;unfold I7 at hm;refine bl [(0,.al 157)] [(1,.ptr 157 0)] [(157,.cells 31 (o7 qm))] ?_;obtain⟨aD,h1,hm⟩:=bo hm;refine bl [(2,ch (zN h1) Bb)] [(2,.bool (!aD))] [] ?_;cases hm;exact A.ret cM
variable {l:dy}
def aqk(hm:FB l=some r):dR prog 139 [] [.agg (gy l)] (.bool r):=by
 refine dN func139 rfl rfl ?_;unfold FB at hm;refine bl [(0,.al 159)] [(1,.ptr 159 0)] [(159,.cells 62 (gy l))] ?_;obtain⟨aD,h1,hm⟩:=bo hm;rcases cg hm with⟨bk,hm⟩|⟨bk,hm⟩
 ·refine bl [(2,ch (zN h1) Bb),(4,aN (cK bk))] [(2,.bool true)] [] ?_;cases hm;exact A.ret cM
 obtain⟨bB,D,hm⟩:=bo hm;rcases cg hm with⟨bK,hm⟩|⟨bK,hm⟩
 ·refine bl [(2,ch (zN h1) Bb),(4,aN (cK bk)),(7,ch (zN D) Bb),(10,aN (cK bK))] [(2,.bool true)] [] ?_;cases hm;exact A.ret cM
 obtain⟨cm,aq,hm⟩:=bo hm;refine bl [(2,ch (zN h1) Bb),(4,aN (cK bk)),(7,ch (zN D) Bb),(10,aN (cK bK)),(13,ch (zN aq) Bb)] [(2,.bool (!cm))] [] ?_;cases hm;exact A.ret cM
variable {lX:bz}
def Oe(hm:Cb id lX=some r):dR prog 135 [] [Y id,.gq (cn lX)] (.bool r):=by
 refine dN func135 rfl rfl ?_;unfold Cb at hm;refine bl [] [(0,Y id),(1,.gq (cn lX))] [] ?_;obtain⟨aD,h1,hm⟩:=bo hm;refine bl [(3,ch (WU (gF:=137) (hq:=[]) (iZ:=Ud) (i0:=λ_ _ _ h=>X9 h) h1) Uc)] [(5,.bool aD.2)] []<|bl [] [(3,.bool (!aD.2))] [] ?_
 cases hm;exact A.ret cM
def aql(hm:I8 l lX=some r):dR prog 140 [] [.agg (gy l),.gq [.fn 135 [.gq (cn lX)]]] (.bool r):=by
 refine dN func140 rfl rfl ?_;unfold I8 at hm;refine bl [(0,.al 160)] [(1,.gq [.fn 135 [.gq (cn lX)]]),(2,.ptr 160 0)] [(160,.cells 62 (gy l))] ?_;obtain⟨aD,h1,hm⟩:=bo hm;rcases cg hm with⟨bk,hm⟩|⟨bk,hm⟩
 ·refine bl [(3,hle [] (Oe h1) L0),(4,aN (cK bk))] [(3,.bool true)] [] ?_;cases hm;exact A.ret cM
 obtain⟨bB,D,hm⟩:=bo hm;refine bl [(3,hle [] (Oe h1) L0),(4,aN (cK bk)),(8,hle [] (Oe D) L0)] [(3,.bool bB)] [] ?_;cases hm;exact A.ret cM
def aqm(hm:I9 l=some r):dR prog 141 [] [.agg (gy l)] (.bool r):=by
 refine dN func141 rfl rfl ?_;unfold I9 at hm;refine bl [(0,.al 161)] [(1,.ptr 161 0)] [(161,.cells 62 (gy l))]<|bl [] [(2,.d (l.B≤l.A))] [] ?_
 cases hm;exact A.ret cM
variable {t:bz}
def Ja{r:Int}(hm:yb t=some r):dR prog 71 [] [.agg (cn t)] (Y r):=by
 refine dN func71 rfl rfl ?_;unfold yb at hm;refine bl [(0,.al 28)] [(1,.ptr 28 0)] [(28,.cells 28 (cn t))]<|A.seq<|A.block<|avM [(1,.ptr 28 0),(6,.bool ((decide (24<(t.bx.length:Int)))||(decide (60<(t.Links.length:Int)))))] [(28,.cells 28 (cn t))] (λhk=>?_) ?_
 ·rcases j6 (decide (24<(t.bx.length:Int)))with bk|bk
  ·exact bl [(2,aN (dZ eD t.bx)),(4,aN (cK bk)),(10,aN (tb (q:=decide (60<(t.Links.length:Int))) bk))] _ _ hk
  exact bl [(2,aN (dZ eD t.bx)),(4,aN (cK bk)),(7,aN (dZ fe t.Links)),(10,aN (mc (q:=decide (60<(t.Links.length:Int))) bk))] _ _ hk
 rcases cg hm with⟨bK,hm⟩|⟨bK,hm⟩
 ·refine bX bK<|bl [] [(2,Y 3)] [] ?_
  cases hm;exact A.ret cM
 refine bW bK ?_;obtain⟨aD,h1,hm⟩:=bo hm;refine aW [(2,ch (anV (jL:=133) (kN:=[]) (oP:=ajM) (oO:=λ_ _ h=>aqj h) h1) ajL)] [6] [(17,.bool aD)] ?_;rcases cg hm with⟨cq,hm⟩|⟨cq,hm⟩
 ·refine bX cq<|bl [] [(2,Y 2)] [] ?_
  cases hm;exact A.ret cM
 refine bW cq<|A.skip<|A.seq<|aW [(2,aN (dZ eD t.bx))] [17] [(23,Y t.bx.length),(24,Y 0)]<|A.block<|avW 1 0 rfl rfl rfl λfu=>?_
 obtain⟨gU,gV,gK,gL,hm⟩:=hJ hm;refine avD (l:=t.bx) (gC:=0) (B:=gU) (K:=gV) hm (λa1=>λ()=>[(1,.ptr 28 0),(23,Y t.bx.length),(24,Y a1)]) (λa1=>λ()=>[(28,.cells 28 (cn t))]) ?_ ?_ ?_
 ·exact fN
 ·rintro a1 aK cI ⟨⟩ gM cr hm;rw[gK]at hm;refine aW [] [] [(25,.d ((a1:Int)<t.bx.length))]<|A.seq<|bX (hv cr)<|A.skip<|A.seq<|A.block<|aW [] [25] [(3,Y a1)] ?_
  obtain⟨dK,iH,hm⟩:=jd hm;refine A.J (J:=dK) (r:=r) (λfx=>[(1,.ptr 28 0),(23,Y t.bx.length),(24,Y a1),(44,.bool fx)]) (λfx=>[(28,.cells 28 (cn t))]) ?_ ?_
  ·rcases cg hm with⟨en,hm⟩|⟨en,hm⟩
   ·obtain⟨dJ,D,hm⟩:=bo hm;exact dF [(2,aN (cK en)),(7,c8 (ix eD D)),(13,c8 (ix eD (fS cr)))] [3] [(44,.d (aK.cS≤dJ.cS))]<|cF (decide (aK.cS≤dJ.cS)) hm
   exact dF [(2,aN (cK en))] [3] [(44,.bool false)]<|cF false hm
  rintro fx hm;rw[iH]at hm;rcases cg hm with⟨fK,hm⟩|⟨fK,hm⟩
  ·refine bX fK<|bl [] [(2,Y 25)] [] ?_
   cases hm;exact A.ret cM
  exact bW fK<|A.skip<|dF [(0,aN (hg cr fu))] [24,44] [(24,Y ((a1+1:Nat):Int))]<|cF () hm
 rintro a1 ⟨⟩ gM fv hm;rw[gL]at hm;refine aW [] [] [(25,.d ((a1:Int)<t.bx.length))]<|A.seq<|bW (ht fv)<|A.exit<|et [(1,.al 125)] [23,24,25] [(4,.ptr 125 0)] [] [(125,.c 188 [.fn 135 [.ptr 28 0]])]<|A.seq<|A.block ?_
 obtain⟨bB,aq,hm⟩:=bo hm;refine aW [(2,ch (M2 (jL:=139) (kN:=[]) (oP:=ajN) (oO:=λ_ _ h=>aqk h) aq) L1)] [] [(47,.bool bB)] ?_;rcases cg hm with⟨hj,hm⟩|⟨hj,hm⟩
 ·refine bX hj<|bl [] [(2,Y 2)] [] ?_
  cases hm;exact A.ret cM
 refine bW hj ?_;obtain⟨cm,aZ,hm⟩:=bo hm;refine et [(3,hle [125,28] (M2 (jL:=140) (kN:=[.gq [.fn 135 [.gq (cn t)]]]) (oP:=ajO) (oO:=λ_ _ h=>aql h) aZ) L1)] [4,47] [(51,.bool cm)] [125] [] ?_;rcases cg hm with⟨jU,hm⟩|⟨jU,hm⟩
 ·refine bX jU<|bl [] [(2,Y 4)] [] ?_
  cases hm;exact A.ret cM
 refine bW jU ?_;obtain⟨bZ,bV,hm⟩:=bo hm;refine aW [(2,ch (M2 (jL:=141) (kN:=[]) (oP:=ajP) (oO:=λ_ _ h=>aqm h) bV) L1)] [51] [(56,.bool bZ)] ?_;rcases cg hm with⟨lI,hm⟩|⟨lI,hm⟩
 ·refine bX lI<|bl [] [(2,Y 8)] [] ?_
  cases hm;exact A.ret cM
 refine bW lI<|A.skip<|A.seq<|aW [(2,aN (dZ fe t.Links))] [56] [(62,Y t.Links.length),(63,Y 0)]<|A.block<|avW 1 1 rfl rfl rfl λeO=>?_
 obtain⟨k8,jm,ll,lz,hm⟩:=hJ hm;refine avD (l:=t.Links) (gC:=0) (B:=k8) (K:=jm) hm (λcf=>λ()=>[(1,.ptr 28 0),(62,Y t.Links.length),(63,Y cf)]) (λcf=>λ()=>[(28,.cells 28 (cn t))]) ?_ ?_ ?_
 ·exact fN
 ·rintro cf e2 gn ⟨⟩ jb eW hm;rw[ll]at hm;refine aW [] [] [(64,.d ((cf:Int)<t.Links.length))]<|A.seq<|bX (hv eW)<|A.skip<|A.seq<|A.block<|aW [] [64] [(5,Y cf)] ?_
  obtain⟨gv,jt,hm⟩:=jd hm;refine A.J (J:=gv) (r:=r) (λnE=>[(1,.ptr 28 0),(62,Y t.Links.length),(63,Y cf),(82,.bool nE)]) (λnE=>[(28,.cells 28 (cn t))]) ?_ ?_
  ·rcases cg hm with⟨lW,hm⟩|⟨lW,hm⟩
   ·obtain⟨eo,dU,hm⟩:=bo hm;obtain⟨gJ,eR,hm⟩:=bo hm;exact dF [(2,aN (cK lW)),(7,c8 (ix fe dU)),(12,c8 (ix fe (fS eW))),(14,ch (X2 eR) Ub)] [5] [(82,.d (0≤gJ))]<|cF (decide (0≤gJ)) hm
   exact dF [(2,aN (cK lW))] [5] [(82,.bool false)]<|cF false hm
  rintro nE hm;rw[jt]at hm;rcases cg hm with⟨mw,hm⟩|⟨mw,hm⟩
  ·refine bX mw<|bl [] [(2,Y 25)] [] ?_
   cases hm;exact A.ret cM
  exact bW mw<|A.skip<|dF [(0,aN (hg eW eO))] [63,82] [(63,Y ((cf+1:Nat):Int))]<|cF () hm
 rintro cf ⟨⟩ jb jE hm;rw[lz]at hm;refine aW [] [] [(64,.d ((cf:Int)<t.Links.length))]<|A.seq<|bW (ht jE)<|A.exit<|bl [] [(2,Y 0)] [] ?_
 cases hm;exact A.ret cM
def Oi(hm:CB t=some r):dR prog 129 [] [.agg (cn t)] (.bool r):=by
 refine dN func129 rfl rfl ?_;unfold CB at hm;refine bl [(0,.al 154)] [(1,.ptr 154 0)] [(154,.cells 28 (cn t))] ?_;obtain⟨aD,h1,hm⟩:=bo hm;refine bl [(1,ch (Ja h1) HS)] [(2,.d (aD=0))] [] ?_;cases hm;exact A.ret cM
variable {nH:Int}
def aqK{r:ez×Bool}(hm:FD t nH=some r):dR prog 144 [] [.agg (cn t),Y nH] (.c5 [.agg (o7 r.1),.bool r.2]):=by
 refine dN func144 rfl rfl ?_;unfold FD at hm;refine bl [(0,.al 108),(1,.al 89)] [(1,Y nH),(2,.ptr 108 0),(4,.ptr 89 0)] [(108,.cells 28 (cn t)),(89,.c 31 [Y 0,.bool false])] ?_;obtain⟨aD,h1,hm⟩:=bo hm;refine aW [(3,ch (WU (gF:=137) (hq:=[]) (iZ:=Ud) (i0:=λ_ _ _ h=>X9 h) h1) Uc)] [1] [(6,Y aD.1),(7,.bool aD.2)]<|A.seq<|aW [] [7] [(16,.bool (!aD.2))] ?_
 rcases cg hm with⟨bk,hm⟩|⟨bk,hm⟩
 ·refine bX bk<|et [] [2,6,16] [(5,.bool false)] [108] [] ?_
  cases hm;exact A.ret cM
 refine bW bk<|A.skip ?_
 obtain⟨dJ,D,hm⟩:=bo hm;refine bl [(3,c8 (ix eD D))] [(4,.ptr 89 0),(5,.bool true)] [(89,.cells 31 (o7 dJ))] ?_;cases hm;exact A.ret cM
def On(hm:Aq t nH=some r):dR prog 73 [] [.agg (cn t),Y nH] (.bool r):=by
 refine dN func73 rfl rfl ?_;unfold Aq at hm;refine bl [(0,.al 136)] [(1,Y nH),(2,.ptr 136 0)] [(136,.cells 28 (cn t))] ?_;obtain⟨aD,h1,hm⟩:=bo hm;refine aW [(2,ch (aqK h1) ajR),(6,.al 73005)] [1] [(6,.bool aD.2)] ?_;obtain⟨bB,D,hm⟩:=bo hm;rcases cg hm with⟨bk,hm⟩|⟨bk,hm⟩
 ·refine bl [(1,ch (Oi D) LZ),(2,aN (cK bk))] [(4,.bool aD.2)] [] ?_;cases hm;exact A.ret cM
 refine bl [(1,ch (Oi D) LZ),(2,aN (cK bk))] [(4,.bool false)] [] ?_;cases hm;exact A.ret cM
def Ya{hV:Int}{iQ:Int}{r:Int×Bool}(hm:CI t hV iQ=some r):dR prog 70 [] [.agg (cn t),Y hV,Y iQ] (.c5 [Y r.1,.bool r.2]):=by
 refine dN func70 rfl rfl ?_;unfold CI at hm;refine bl [(0,.al 91)] [(1,Y hV),(2,Y iQ),(3,.ptr 91 0)] [(91,.cells 28 (cn t))]<|A.seq ?_
 obtain⟨aD,h1,hm⟩:=bo hm;refine aW [(1,ch (Oi h1) LZ)] [] [(12,.bool (!aD))] ?_;rcases cg hm with⟨bk,hm⟩|⟨bk,hm⟩
 ·refine bX bk<|bl [] [(6,Y 0),(7,.bool false)] [] ?_
  cases hm;exact A.ret cM
 refine bW bk<|A.skip ?_
 obtain⟨bB,D,hm⟩:=bo hm;refine aW [(9,ch (anN (gF:=131) (hq:=[]) (iZ:=Ub) (i0:=λ_ _ _ h=>X2 h) D) ajK)] [12] [(8,Y bB.1),(9,.bool bB.2)]<|A.seq<|A.block<|aW [] [9] [(26,.bool (!bB.2))] ?_
 rcases cg hm with⟨bK,hm⟩|⟨bK,hm⟩
 ·refine bX bK<|bl [] [(6,Y 0),(7,.bool false)] [] ?_
  cases hm;exact A.ret cM
 refine bW bK<|aW [] [1,2,26] [(29,.d (hV<iQ))] ?_
 rcases cg hm with⟨cq,hm⟩|⟨cq,hm⟩
 ·refine bX cq ?_;obtain⟨dJ,aq,hm⟩:=bo hm;refine bl [(3,c8 (ix fe aq))] [(6,Y dJ.lg),(7,.bool true)] [] ?_;cases hm;exact A.ret cM
 refine bW cq<|A.skip ?_
 obtain⟨eo,aZ,hm⟩:=bo hm;refine bl [(3,c8 (ix fe aZ))] [(6,Y eo.lp),(7,.bool true)] [] ?_;cases hm;exact A.ret cM
end
section
open Go Go.Proofs.Tryz List
set_option maxRecDepth 100000
set_option linter.all false
variable {e5:Int}
def aqD{r:Int}(hm:Oo e5=some r):dR prog 207 [] [.int .u64 e5] (Y r):=by
 refine dN func207 rfl rfl ?_;unfold Oo at hm;refine bl [] [(0,.int .u64 e5),(2,Y 0)] [] ?_;obtain⟨dK,iH,hm⟩:=jd hm;refine A.J (J:=dK) (r:=r) (λ(aD,gN)=>[(0,.int .u64 aD),(2,Y gN)]) (λ(aD,gN)=>[]) ?_ ?_
 ·refine aW [] [] [(4,.d (4294967296≤e5))] ?_;rcases cg hm with⟨bk,hm⟩|⟨bk,hm⟩
  ·exact bX bk<|bl [(1,.sh (32:Int) (by decide))] [(0,.int .u64 (Int.fdiv e5 (2 ^ min (32:Int).toNat 64)))] []<|dF [] [] [(2,Y 32)]<|cF (Int.fdiv e5 (2 ^ min (32:Int).toNat 64),(32:Int)) hm
  exact bW bk<|A.skip<|cF (e5,(0:Int)) hm
 rintro⟨aD,gN⟩ hm;rw[iH]at hm;obtain⟨gv,jt,hm⟩:=jd hm;refine A.J (J:=gv) (r:=r) (λ(bB,xy)=>[(0,.int .u64 bB),(2,Y xy)]) (λ(bB,xy)=>[]) ?_ ?_
 ·refine aW [] [] [(8,.d (65536≤aD))] ?_;rcases cg hm with⟨bK,hm⟩|⟨bK,hm⟩
  ·exact bX bK<|aW [(1,.sh (16:Int) (by decide))] [0,8] [(0,.int .u64 (Int.fdiv aD (2 ^ min (16:Int).toNat 64)))]<|dF [] [2] [(2,Y (aG (gN+16)))]<|cF (Int.fdiv aD (2 ^ min (16:Int).toNat 64),aG (gN+16)) hm
  exact bW bK<|A.skip<|cF (aD,gN) hm
 rintro⟨bB,xy⟩ hm;rw[jt]at hm;obtain⟨kV,ox,hm⟩:=jd hm;refine A.J (J:=kV) (r:=r) (λ(cm,CV)=>[(0,.int .u64 cm),(2,Y CV)]) (λ(cm,CV)=>[]) ?_ ?_
 ·refine aW [] [] [(14,.d (256≤bB))] ?_;rcases cg hm with⟨cq,hm⟩|⟨cq,hm⟩
  ·exact bX cq<|aW [(1,.sh (8:Int) (by decide))] [0,14] [(0,.int .u64 (Int.fdiv bB (2 ^ min (8:Int).toNat 64)))]<|dF [] [2] [(2,Y (aG (xy+8)))]<|cF (Int.fdiv bB (2 ^ min (8:Int).toNat 64),aG (xy+8)) hm
  exact bW cq<|A.skip<|cF (bB,xy) hm
 rintro⟨cm,CV⟩ hm;rw[ox]at hm;obtain⟨pq,h1,hm⟩:=bo hm;refine bl [(3,.is (⟨#[0,1,2,2,3,3,3,3,4,4,4,4,4,4,4,4,5,5,5,5,5,5,5,5,5,5,5,5,5,5,5,5,6,6,6,6,6,6,6,6,6,6,6,6,6,6,6,6,6,6,6,6,6,6,6,6,6,6,6,6,6,6,6,6,7,7,7,7,7,7,7,7,7,7,7,7,7,7,7,7,7,7,7,7,7,7,7,7,7,7,7,7,7,7,7,7,7,7,7,7,7,7,7,7,7,7,7,7,7,7,7,7,7,7,7,7,7,7,7,7,7,7,7,7,7,7,7,7,8,8,8,8,8,8,8,8,8,8,8,8,8,8,8,8,8,8,8,8,8,8,8,8,8,8,8,8,8,8,8,8,8,8,8,8,8,8,8,8,8,8,8,8,8,8,8,8,8,8,8,8,8,8,8,8,8,8,8,8,8,8,8,8,8,8,8,8,8,8,8,8,8,8,8,8,8,8,8,8,8,8,8,8,8,8,8,8,8,8,8,8,8,8,8,8,8,8,8,8,8,8,8,8,8,8,8,8,8,8,8,8,8,8,8,8,8,8,8,8,8,8,8,8,8,8,8,8]⟩:ByteArray) (IntKind.wrap .u8 cm) pq (abE h1))] [(2,Y (aG (CV+(aG (pq.toNat:Int)))))] [] ?_;cases hm;exact A.ret cM
def aqL{r:Int}(hm:OA e5=some r):dR prog 178 [] [.int .u64 e5] (Y r):=by
 refine dN func178 rfl rfl ?_;unfold OA at hm;refine bl [] [(0,.int .u64 e5)] []<|A.seq<|avG rfl rfl<|A.skip ?_
 obtain⟨aD,h1,hm⟩:=bo hm;refine bl [(1,ch (aqD h1) akG)] [(2,Y aD)] [] ?_;cases hm;exact A.ret cM
variable {r:Unit}
def aog(hm:M5=some r):dR prog 216 [] [.c6,Y 0,Y 0] (.c5 []):=by
 refine dN func216 rfl rfl ?_;unfold M5 at hm;refine bl [] [(0,.c6),(1,Y 0),(2,Y 0),(6,Y 1)] []<|A.block ?_
 obtain⟨k9,hp,lu,hm⟩:=mM hm;refine avN (F:=k9) hm (λ()=>[(0,.c6),(1,Y 0),(2,Y 0),(6,Y 1)]) (λ()=>[]) ?_ ?_
 ·exact fN
 rintro cI ⟨⟩ hm;rw[lu]at hm;refine A.seq<|aW [] [] [(12,.bool false)] ?_
 refine avG rfl rfl<|A.exit ?_
 obtain rfl:=jN hm;exact avC bN [] rfl (by kernel_rfl)
def aoj{FQ:Int}(hm:N0 FQ=some r):dR prog 182 [] [.c6,Y 0,Y 0,Y FQ] (.c5 []):=by
 refine dN func182 rfl rfl ?_;unfold N0 at hm;refine bl [] [(0,.c6),(1,Y 0),(2,Y 0),(3,Y FQ),(8,.bool true)] []<|aW [] [] [(9,.bool true)]<|A.block ?_
 obtain⟨k9,hp,lu,hm⟩:=mM hm;refine avN (F:=k9) hm (λ()=>[(0,.c6),(1,Y 0),(2,Y 0),(3,Y FQ),(8,.bool true),(9,.bool true)]) (λ()=>[]) ?_ ?_
 ·exact fN
 rintro cI ⟨⟩ hm;rw[lu]at hm;refine A.block<|aW [] [] [(10,Y 0)] ?_
 refine A.seq<|aW [] [] [(23,.bool true)] ?_
 refine avH rfl rfl ?_;obtain⟨aD,h1,hm⟩:=bo hm;refine bl [(3,VE 1 (aog h1) akH)] [] [] ?_;cases hm;exact A.ret cM
def aov(hm:XV=some r):dR prog 145 [] [.c6] (.c5 []):=by
 refine dN func145 rfl rfl ?_;unfold XV at hm;refine bl [] [(0,.c6),(2,Y 0)] [] ?_;obtain⟨aD,h1,hm⟩:=bo hm;obtain⟨bB,D,hm⟩:=bo hm;refine AW [(4,ch (aqL h1) aky),(5,VE 1 (aoj D) akB)] [] [] ?_;obtain rfl:=jN hm;exact avC bN [] rfl (by kernel_rfl)
end
section
set_option linter.all false
open Go Go.Proofs.Tryz
def awE:Shelf.Ren:=
 {  f:=λx=>match x with|189=>145|125=>178|257=>182|128=>206|129=>207|294=>216|295=>217|296=>218|297=>219|298=>220|299=>221|216=>185|300=>222|301=>223|328=>243|329=>236|330=>237|331=>244|332=>245|215=>164|343=>260|n=>n,t:=λx=>match x with|28=>22|3=>3|46=>178|0=>0|51=>252|53=>254|4=>4|183=>246|182=>245|131=>89|5=>5|9=>9|218=>272|222=>276|228=>289|229=>290|n=>n,g:=λn=>n}
def awD:Lays.n189 prog awE:=
  {mixed:=by kernel_rfl,f125:=Eq.trans func178 (congrArg some (by kernel_rfl)),f128:=Eq.trans func206 (congrArg some (by kernel_rfl)),
     f129:=Eq.trans func207 (congrArg some (by kernel_rfl)),f189:=Eq.trans func145 (congrArg some (by kernel_rfl)),f215:=Eq.trans func164 (congrArg some (by kernel_rfl)),
     f216:=Eq.trans func185 (congrArg some (by kernel_rfl)),f257:=Eq.trans func182 (congrArg some (by kernel_rfl)),f294:=Eq.trans func216 (congrArg some (by kernel_rfl)),
     f295:=Eq.trans func217 (congrArg some (by kernel_rfl)),f296:=Eq.trans func218 (congrArg some (by kernel_rfl)),f297:=Eq.trans func219 (congrArg some (by kernel_rfl)),
     f298:=Eq.trans func220 (congrArg some (by kernel_rfl)),f299:=Eq.trans func221 (congrArg some (by kernel_rfl)),f300:=Eq.trans func222 (congrArg some (by kernel_rfl)),
     f301:=Eq.trans func223 (congrArg some (by kernel_rfl)),f328:=Eq.trans func243 (congrArg some (by kernel_rfl)),f329:=Eq.trans func236 (congrArg some (by kernel_rfl)),
     f330:=Eq.trans func237 (congrArg some (by kernel_rfl)),f331:=Eq.trans func244 (congrArg some (by kernel_rfl)),f332:=Eq.trans func245 (congrArg some (by kernel_rfl)),
     f343:=Eq.trans func260 (congrArg some (by kernel_rfl)),t0:=underlying0,a0:=isAgg0,z0:=sizeOf0,v0:=zeroValue0,t3:=underlying3,a3:=isAgg3,
     z3:=sizeOf3,v3:=zeroValue3,t4:=underlying4,a4:=isAgg4,z4:=sizeOf4,v4:=zeroValue4,t5:=underlying5,a5:=isAgg5,z5:=sizeOf5,
     v5:=zeroValue5,t9:=underlying9,a9:=isAgg9,z9:=sizeOf9,v9:=zeroValue9,t28:=underlying22,a28:=isAgg22,z28:=sizeOf22,v28:=zeroValue22,
     t46:=underlying178,a46:=isAgg178,z46:=sizeOf178,v46:=zeroValue178,t51:=underlying252,a51:=isAgg252,z51:=sizeOf252,v51:=zeroValue252,
     t53:=underlying254,a53:=isAgg254,z53:=sizeOf254,v53:=zeroValue254,t131:=underlying89,a131:=isAgg89,z131:=sizeOf89,v131:=zeroValue89,
     t182:=underlying245,a182:=isAgg245,z182:=sizeOf245,v182:=zeroValue245,t183:=underlying246,a183:=isAgg246,z183:=sizeOf246,v183:=zeroValue246,
     t218:=underlying272,a218:=isAgg272,z218:=sizeOf272,v218:=zeroValue272,t222:=underlying276,a222:=isAgg276,z222:=sizeOf276,v222:=zeroValue276,
     t228:=underlying289,a228:=isAgg289,z228:=sizeOf289,v228:=zeroValue289,t229:=underlying290,a229:=isAgg290,z229:=sizeOf290,v229:=zeroValue290}
def abr:RE prog 145:=λcb off aV zs w h1 D aq=>Any.slices_Sort_int awD cb off aV zs w h1 D aq
end
section
set_option linter.all false
open Go Go.Proofs.Tryz
def Si{d T:Nat}(zs:cO)(h:zs.length<4611686018427387904):eT prog 145 [(d,.slice T 1 (ar aB zs) 0 false)] [.own d] (λa aH=>a=.c5 []∧aH=[(d,.slice T 1 (ar aB (fW zs)) 0 false)]):=
 Z0 abr (aov (r:=()) (by kernel_rfl)) zs h
end
section
open Go Go.Proofs.Tryz List
set_option maxRecDepth 100000
set_option linter.all false
def aqE{t:cO}{r:dL}(hm:Fv t=some r):eT prog 12 [] [bC aB t] (λa aH=>a=.ptr 1 0∧aH=[(1,.cells 103 (hO r))]):=by
 refine dN func12 rfl rfl ?_;unfold Fv at hm;refine bl [] [(0,bC aB t)] [] ?_;obtain⟨cv,h1,hm⟩:=bo hm;refine bl [(2,aN (dZ aB t)),(4,jh (sl aB h1)),(6,.al 138)] [(2,.ptr 138 0)] [(138,.c 103 [bC aB cv,Y 0])]<|A.ret ?_
 obtain rfl:=jN hm;exact avC bN [.kz 138 1] rfl (by kernel_rfl)
variable {r:Int×dL}{t:dL}
def aoH(hm:EO t=some r):eT prog 61 [(1,.cells 103 (hO t))] [.ptr 1 0] (λa aH=>a=Y r.1∧aH=[(1,.cells 103 (hO r.2))]):=by
 refine dN func61 rfl rfl ?_;unfold EO at hm;refine bl [] [(0,.ptr 1 0)] [(1,.cells 103 (hO t))]<|A.seq<|aW [(8,aN (dZ aB t.L))] [] [(12,.d ((t.L.length:Int)≤t.At))] ?_
 rcases cg hm with⟨bk,hm⟩|⟨bk,hm⟩
 ·refine bX bk<|aW [] [0,12] [(2,Y 0)] ?_
  cases hm;exact A.ret cM
 refine bW bk<|A.skip<|et [] [12] [] [1] [(1,.c 103 [bC aB t.L,Y (aG (t.At+1))])] ?_
 obtain⟨dJ,h1,hm⟩:=bo hm;refine aW [(9,c8 (ix aB h1))] [0] [(2,Y dJ)] ?_;cases hm;exact A.ret cM
def aqF{e5:Int}{n:Int}{r:Int}(hm:Fw e5 n=some r):dR prog 60 [] [Y e5,Y n] (Y r):=by
 refine dN func60 rfl rfl ?_;unfold Fw at hm;refine bl [] [(0,Y e5),(1,Y n)] []<|A.seq<|aW [] [] [(6,.d (n<1))] ?_
 rcases cg hm with⟨bk,hm⟩|⟨bk,hm⟩
 ·refine bX bk<|bl [] [(4,Y 0)] [] ?_
  cases hm;exact A.ret cM
 refine bW bk<|A.skip ?_
 obtain⟨h1,hm⟩:=pX hm;refine aW [(2,.qr n (of_decide_eq_true h1))] [0,6] [(0,Y (Int.tmod e5 n))] ?_;obtain⟨dK,iH,hm⟩:=jd hm;refine A.J (J:=dK) (r:=r) (λaD=>[(0,Y aD)]) (λaD=>[]) ?_ ?_
 ·refine aW [] [] [(11,.d (Int.tmod e5 n<0))] ?_;rcases cg hm with⟨bK,hm⟩|⟨bK,hm⟩
  ·exact bX bK<|AW [] [(0,Y (aG ((Int.tmod e5 n)+n)))] []<|cF (aG ((Int.tmod e5 n)+n)) hm
  exact bW bK<|A.skip<|cF (Int.tmod e5 n) hm
 rintro aD hm;rw[iH]at hm;refine bl [] [(4,Y aD)] [] ?_;cases hm;exact A.ret cM
def rF{n:Int}(hm:oJ t n=some r):eT prog 14 [(1,.cells 103 (hO t))] [.ptr 1 0,Y n] (λa aH=>a=Y r.1∧aH=[(1,.cells 103 (hO r.2))]):=by
 refine dN func14 rfl rfl ?_;unfold oJ at hm;refine bl [] [(0,.ptr 1 0),(1,Y n)] [(1,.cells 103 (hO t))] ?_;obtain⟨aD,h1,hm⟩:=bo hm;obtain⟨bB,D,hm⟩:=bo hm;refine bl [(1,fq [] (aoH h1) als),(3,ch (aqF D) alr)] [(4,Y bB)] [(1,.cells 103 (hO aD.2))] ?_;cases hm;exact A.ret cM
def zJ{lo:Int}{hi:Int}(hm:uJ t lo hi=some r):eT prog 28 [(1,.cells 103 (hO t))] [.ptr 1 0,Y lo,Y hi] (λa aH=>a=Y r.1∧aH=[(1,.cells 103 (hO r.2))]):=by
 refine dN func28 rfl rfl ?_;unfold uJ at hm;refine bl [] [(0,.ptr 1 0),(1,Y lo),(2,Y hi)] [(1,.cells 103 (hO t))] ?_;obtain⟨aD,h1,hm⟩:=bo hm;refine bl [(6,fq [] (rF h1) r9)] [(6,Y (aG (lo+aD.1)))] [(1,.cells 103 (hO aD.2))] ?_;cases hm;exact A.ret cM
variable {l:cO}
def EM(hm:wJ t l=some r):eT prog 59 [(1,.cells 103 (hO t))] [.ptr 1 0,bC aB l] (λa aH=>a=Y r.1∧aH=[(1,.cells 103 (hO r.2))]):=by
 refine dN func59 rfl rfl ?_;unfold wJ at hm;refine bl [] [(0,.ptr 1 0),(1,bC aB l)] [(1,.cells 103 (hO t))] ?_;obtain⟨aD,h1,hm⟩:=bo hm;obtain⟨dJ,D,hm⟩:=bo hm;refine bl [(3,aN (dZ aB l)),(4,fq [] (rF h1) r9),(5,c8 (ix aB D))] [(4,Y dJ)] [(1,.cells 103 (hO aD.2))] ?_;cases hm;exact A.ret cM
def aqw{h3:Int}{r:(cO)}(hm:Fx l h3=some r):dR prog 46 [] [bC aB l,Y h3] (bC aB r):=by
 refine dN func46 rfl rfl ?_;unfold Fx at hm;refine bl [] [(0,bC aB l),(1,Y h3)] []<|aW [] [] [(5,Y 0)]<|A.seq<|A.block ?_
 obtain⟨k9,hp,lu,hm⟩:=mM hm;refine avN (F:=k9) hm (λk5=>[(0,bC aB l),(1,Y h3),(5,Y k5)]) (λk5=>[]) ?_ ?_
 ·exact fN
 rintro cI k5 hm;rw[lu]at hm;refine A.seq ?_;obtain⟨dK,iH,hm⟩:=jd hm;refine A.J (J:=dK) (r:=r) (λfx=>[(0,bC aB l),(1,Y h3),(5,Y k5),(18,.bool fx)]) (λfx=>[]) ?_ ?_
 ·rcases cg hm with⟨bk,hm⟩|⟨bk,hm⟩
  ·obtain⟨dJ,h1,hm⟩:=bo hm;exact dF [(2,aN (dZ aB l)),(4,aN (cK bk)),(7,c8 (ix aB h1))] [] [(18,.d (dJ<h3))]<|cF (decide (dJ<h3)) hm
  exact dF [(2,aN (dZ aB l)),(4,aN (cK bk))] [] [(18,.bool false)]<|cF false hm
 rintro fx hm;rw[iH]at hm;rcases cg hm with⟨bK,hm⟩|⟨bK,hm⟩
 ·exact bX bK<|A.skip<|A.block<|dF [] [5,18] [(5,Y (aG (k5+1)))]<|cF (aG (k5+1)) hm
 refine bW bK<|A.exit<|A.seq ?_
 obtain⟨gv,jt,hm⟩:=jd hm;refine A.J (J:=gv) (r:=r) (λnE=>[(0,bC aB l),(1,Y h3),(5,Y k5),(32,.bool nE)]) (λnE=>[]) ?_ ?_
 ·rcases cg hm with⟨cq,hm⟩|⟨cq,hm⟩
  ·obtain⟨eo,D,hm⟩:=bo hm;exact dF [(2,aN (dZ aB l)),(4,aN (cK cq)),(7,c8 (ix aB D))] [18] [(32,.d (eo=h3))]<|cF (decide (eo=h3)) hm
  exact dF [(2,aN (dZ aB l)),(4,aN (cK cq))] [18] [(32,.bool false)]<|cF false hm
 rintro nE hm;rw[jt]at hm;rcases cg hm with⟨en,hm⟩|⟨en,hm⟩
 ·refine bX en<|bl [] [(4,bC aB l)] [] ?_
  cases hm;exact A.ret cM
 refine bW en<|A.skip ?_
 obtain⟨cv,aq,hm⟩:=bo hm;obtain⟨fB,aZ,hm⟩:=bo hm;refine et [(1,.al 46035),(4,jh (ao0 aB aq)),(5,l3 141 (ap aB (bytes:=8) (by decide) aZ))] [1,32] [(6,.own 141)] [] [(141,.slice 3 1 (ar aB fB) 0 false)] ?_;obtain⟨hC,bV,hm⟩:=bo hm;obtain⟨jZ,dU,hm⟩:=bo hm;refine avB bN [.cT [141]] [(3,wZ (sl aB bV)),(5,amj 142 HD (ap aB (bytes:=8) (by decide) dU) (agx aB aZ (Nat.succ_pos _)))] [(4,.own 142)] [(142,.slice 3 1 (ar aB jZ) 0 false)] (by kernel_rfl)<|A.ret ?_
 obtain rfl:=jN hm;exact avC bN [.cT [142]] rfl (by kernel_rfl)
end
section
open Go Go.Proofs.Tryz List
set_option maxRecDepth 100000
set_option linter.all false
def aq4{t:dL}{mI:Int}{r:bz×dL}(hm:FM t mI=some r):eT prog 13 [(1,.cells 103 (hO t))] [.ptr 1 0,Y mI] (λa aH=>a=.agg [bC eD r.1.bx,.own 25]∧aH=[(1,.cells 103 (hO r.2)),(25,.slice 62 5 (ar fe r.1.Links) 0 false)]):=by
 refine dN func13 rfl rfl ?_;unfold FM at hm;refine bl [(0,.al 12)] [(0,.ptr 1 0),(1,Y mI),(4,.ptr 12 0)] [(1,.cells 103 (hO t)),(12,.c 28 [.c6,.c6])] ?_;obtain⟨aD,h1,hm⟩:=bo hm;refine et [(2,fq [] (zJ h1) Bp)] [1] [(5,Y aD.1)] [1] [(1,.cells 103 (hO aD.2))]<|et [(0,.al 13)] [] [(6,.ptr 13 0)] [] [(13,.c 28 [.c6,.c6])]<|aW [] [] [(7,Y 0)]<|A.seq<|aW [] [] [(8,Y 0)]<|A.block ?_
 obtain⟨z7,hm⟩:=pX hm;obtain⟨gU,gV,gK,gL,hm⟩:=yF hm;refine av6 (hi:=aD.1) (B:=gU) (K:=gV) hm rfl (λa1=>λ(wo,b1,cU,dH)=>[(0,.ptr 1 0),(4,.ptr 12 0),(5,Y aD.1),(6,.ptr 13 0),(7,Y wo),(8,Y a1)]) (λa1=>λ(wo,b1,cU,dH)=>[(1,.c 103 [bC aB cU,Y dH]),(12,.c 28 [.c6,.c6]),(13,.c 28 [.own 17,.c6]),(17,.slice 31 2 (ar eD b1) 0 false)]) ?_ ?_ ?_
 ·exact jx [.ac 13 17 31 2 0] []
 ·rintro a1 cI ⟨wo,b1,cU,dH⟩ gM cr hm;rw[gK]at hm;refine A.seq<|aW [] [] [(24,.d ((a1:Int)<aD.1))] ?_
  refine avH rfl (decide_eq_true cr)<|A.skip<|A.seq<|A.block ?_
  obtain⟨bB,D,hm⟩:=bo hm;refine et [(3,fq [] (EM D) Et)] [7,24] [(7,Y (aG (wo+bB.1)))] [1] [(1,.cells 103 (hO bB.2))] ?_;obtain⟨cv,aq,hm⟩:=bo hm;exact jl [(5,l3 115 (ap eD (bytes:=16) (by decide) aq))] [] [] [13,17] [(13,.c 28 [.own 115,.c6]),(115,.slice 31 2 (ar eD cv) 0 false)]<|dF [(1,aN (ze (by omega) cr (of_decide_eq_true z7)))] [8] [(8,Y (a1+1:Int))]<|Exists.intro (aG (wo+bB.1),cv,bB.2.L,bB.2.At) (And.intro hm (jx [.kz 115 17] []))
 rintro a1 ⟨wo,b1,cU,dH⟩ gM fv hm;rw[gL]at hm;refine A.seq<|aW [] [] [(24,.d ((a1:Int)<aD.1))] ?_
 refine avG rfl (zP fv)<|A.exit ?_
 obtain⟨aZ,hm⟩:=pX hm;refine et [(1,anf 13040 aD.1 To Tp aZ (by decide))] [7,8,24] [(9,.own 13040)] [] [(13040,.slice 106 1 (List.replicate aD.1.toNat [.c6]) 0 false)]<|avF ((axz (d:=13040) (e:=450013040) 4 1 i5.enc (aiV aZ) rfl rfl rfl rfl rfl))<|A.seq<|bl [(1,ys 4 1 i5.enc (List.replicate aD.1.toNat []:jV) y1)] [(0,.ptr 1 0),(4,.ptr 12 0),(5,Y aD.1),(6,.ptr 13 0),(9,.own 13040),(42,Y ((List.replicate aD.1.toNat []:jV).length:Int)),(43,Y 0)] [(1,.c 103 [bC aB cU,Y dH]),(12,.c 28 [.c6,.c6]),(13,.c 28 [.own 17,.c6]),(17,.slice 31 2 (ar eD b1) 0 false),(13040,.e9 106 450013040 aD.1.toNat none),(450013040,.cL (encS 4 1 i5.enc (List.replicate aD.1.toNat []:jV)))]<|A.block ?_
 obtain⟨amM,hm⟩:=pX hm;obtain⟨k8,jm,ll,lz,hm⟩:=yF hm;refine av6 (hi:=((List.replicate aD.1.toNat []:jV).length:Int)) (B:=k8) (K:=jm) hm rfl (λcf=>λcH=>[(0,.ptr 1 0),(4,.ptr 12 0),(5,Y aD.1),(6,.ptr 13 0),(9,.own 13040),(42,Y ((List.replicate aD.1.toNat []:jV).length:Int)),(43,Y cf)]) (λcf=>λcH=>[(1,.c 103 [bC aB cU,Y dH]),(12,.c 28 [.c6,.c6]),(13,.c 28 [.own 17,.c6]),(17,.slice 31 2 (ar eD b1) 0 false),(13040,.e9 106 450013040 aD.1.toNat none),(450013040,.cL (encS 4 1 i5.enc cH))]) ?_ ?_ ?_
 ·exact fN
 ·rintro cf gn cH jb eW hm;rw[ll]at hm;refine aW [] [] [(44,.d ((cf:Int)<((List.replicate aD.1.toNat []:jV).length:Int)))]<|A.seq<|avH rfl (decide_eq_true eW)<|A.skip<|A.seq<|A.block<|aW [] [44] [(10,Y cf)] ?_
  obtain⟨bV,hm⟩:=pX hm;obtain⟨dJ,dU,hm⟩:=bo hm;exact jl [(3,Af (a:=.bool false) 13049 false i5.enc aD.1 Tq Tr rfl (λI=>by simp[bm]) bV (by decide)),(4,Iz 4 1 i5.enc y1 dU),(5,anu 4 1 116 i5.enc (List.replicate (aD.1).toNat false) G9 dU)] [10] [] [13040,450013040] [(13040,.e9 106 116 aD.1.toNat none),(116,.cL (encS 4 1 i5.enc (List.set cH (cf:Int).toNat (List.replicate (aD.1).toNat false))))]<|dF [(0,aN (ze (by omega) eW (of_decide_eq_true amM)))] [43] [(43,Y (cf+1:Int))]<|Exists.intro (List.set cH (cf:Int).toNat (List.replicate (aD.1).toNat false)) (And.intro hm (jx [.rn 116 450013040] []))
 rintro cf cH jb jE hm;rw[lz]at hm;refine aW [] [] [(44,.d ((cf:Int)<((List.replicate aD.1.toNat []:jV).length:Int)))]<|A.seq<|avG rfl (zP jE)<|A.exit<|A.seq<|aW [] [42,43,44] [(11,Y 1)]<|A.block ?_
 obtain⟨amN,hm⟩:=pX hm;obtain⟨sp,sr,sE,sF,hm⟩:=yF hm;refine av6 (hi:=aD.1) (B:=sp) (K:=sr) hm rfl (λe4=>λ(gb,nW,nC)=>[(0,.ptr 1 0),(4,.ptr 12 0),(5,Y aD.1),(6,.ptr 13 0),(9,.own 13040),(11,Y e4)]) (λe4=>λ(gb,nW,nC)=>[(1,.c 103 [bC aB gb,Y nW]),(12,.c 28 [.c6,.c6]),(13,.c 28 [.own 17,.c6]),(17,.slice 31 2 (ar eD b1) 0 false),(13040,.e9 106 450013040 aD.1.toNat none),(450013040,.cL (encS 4 1 i5.enc nC))]) ?_ ?_ ?_
 ·exact fN
 ·rintro e4 lV ⟨gb,nW,nC⟩ py lC hm;rw[sE]at hm;refine A.seq<|aW [] [] [(54,.d ((e4:Int)<aD.1))] ?_
  refine avH rfl (decide_eq_true lC)<|A.skip ?_
  obtain⟨dK,iH,hm⟩:=jd hm;refine A.J (J:=dK) (r:=r) (λ(q8,CO,BC)=>[(0,.ptr 1 0),(4,.ptr 12 0),(5,Y aD.1),(6,.ptr 13 0),(9,.own 13040),(11,Y e4)]) (λ(q8,CO,BC)=>[(1,.c 103 [bC aB CO,Y BC]),(12,.c 28 [.c6,.c6]),(13,.c 28 [.own 17,.c6]),(17,.slice 31 2 (ar eD b1) 0 false),(13040,.e9 106 450013040 aD.1.toNat none),(450013040,.cL (encS 4 1 i5.enc q8))]) ?_ ?_
  ·refine A.block ?_;obtain⟨cm,eR,hm⟩:=bo hm;refine et [(1,fq [] (rF eR) r9)] [54] [(59,.d (cm.1<11))] [1] [(1,.cells 103 (hO cm.2))] ?_;rcases cg hm with⟨bk,hm⟩|⟨bk,hm⟩
   ·refine bX bk ?_;obtain⟨bZ,jS,hm⟩:=bo hm;obtain⟨eo,iy,hm⟩:=bo hm;obtain⟨oN,oQ,hm⟩:=bo hm;obtain⟨fB,sC,hm⟩:=bo hm;refine awc (A.R bN [] [(3,fq [] (rF jS) r9),(4,Iz 4 1 i5.enc y1 iy),(5,NK 4 1 530013003 530013002 i5.enc G9 iy),(7,c8 (ix i5 oQ)),(8,o0 530013002 (st i5 (off:=0) (ca:=[.bool true]) oQ sC rfl) (pY oQ).1.1)] [(0,.ptr 1 0),(4,.ptr 12 0),(5,Y aD.1),(6,.ptr 13 0),(9,.own 13040),(11,Y e4)] [(1,.cells 103 (hO bZ.2)),(12,.c 28 [.c6,.c6]),(13,.c 28 [.own 17,.c6]),(17,.slice 31 2 (ar eD b1) 0 false),(13040,.e9 106 530013003 aD.1.toNat (some (some bZ.1.toNat,530013002))),(530013003,.cL (encS 4 1 i5.enc (List.set nC bZ.1.toNat []))),(530013002,.slice 4 1 (ar i5 fB) 0 false)] (by kernel_rfl) ?_);refine⟨_,_,(aws (d:=13040) (e:=530013003) (e2:=530013004) (t:=530013002) nC i5.enc fB rfl rfl rfl rfl rfl rfl rfl),?_⟩;exact Exists.intro ((List.set nC bZ.1.toNat fB),bZ.2.L,bZ.2.At) (And.intro hm (jx [.rn 530013004 450013040] []))
   exact bW bk<|A.skip<|cF (nC,cm.2.L,cm.2.At) hm
  rintro⟨q8,CO,BC⟩ hm;rw[iH]at hm;exact dF [(1,aN (ze (by omega) lC (of_decide_eq_true amN)))] [11] [(11,Y (e4+1:Int))]<|cF (CO,BC,q8) hm
 rintro e4 ⟨gb,nW,nC⟩ py np hm;rw[sF]at hm;refine A.seq<|aW [] [] [(54,.d ((e4:Int)<aD.1))] ?_
 refine avG rfl (zP np)<|A.exit<|A.seq ?_
 obtain⟨gJ,qt,hm⟩:=bo hm;refine et [(3,fq [] (rF qt) r9)] [11,54] [(12,Y gJ.1)] [1] [(1,.cells 103 (hO gJ.2))]<|A.block ?_
 obtain⟨KX,aoh,Nc,hm⟩:=mM hm;refine avN (F:=KX) hm (λ(ct,BD,BE,iO)=>[(0,.ptr 1 0),(4,.ptr 12 0),(5,Y aD.1),(6,.ptr 13 0),(9,.own 13040),(12,Y ct)]) (λ(ct,BD,BE,iO)=>[(1,.c 103 [bC aB BD,Y BE]),(12,.c 28 [.c6,.c6]),(13,.c 28 [.own 17,.c6]),(17,.slice 31 2 (ar eD b1) 0 false),(13040,.e9 106 450013040 aD.1.toNat none),(450013040,.cL (encS 4 1 i5.enc iO))]) ?_ ?_
 ·exact fN
 rintro rC ⟨ct,BD,BE,iO⟩ hm;rw[Nc]at hm;refine A.seq<|aW [] [] [(73,.d (0<ct))] ?_
 rcases cg hm with⟨bK,hm⟩|⟨bK,hm⟩
 ·refine bX bK<|A.skip ?_
  obtain⟨gv,jt,hm⟩:=jd hm;refine A.J (J:=gv) (r:=r) (λ(BF,BG,BH)=>[(0,.ptr 1 0),(4,.ptr 12 0),(5,Y aD.1),(6,.ptr 13 0),(9,.own 13040),(12,Y ct)]) (λ(BF,BG,BH)=>[(1,.c 103 [bC aB BG,Y BH]),(12,.c 28 [.c6,.c6]),(13,.c 28 [.own 17,.c6]),(17,.slice 31 2 (ar eD b1) 0 false),(13040,.e9 106 450013040 aD.1.toNat none),(450013040,.cL (encS 4 1 i5.enc BF))]) ?_ ?_
  ·refine A.block ?_;obtain⟨eG,pZ,hm⟩:=bo hm;obtain⟨gR,wR,hm⟩:=bo hm;refine et [(2,fq [] (rF pZ) r9),(5,fq [] (rF wR) r9)] [73] [(13,Y eG.1),(14,Y gR.1)] [1] [(1,.cells 103 (hO gR.2))]<|aW [] [] [(84,.bool (!decide (eG.1=gR.1)))] ?_
   rcases cg hm with⟨cq,hm⟩|⟨cq,hm⟩
   ·refine bX cq ?_;obtain⟨mN,vC,hm⟩:=bo hm;obtain⟨rI,wS,hm⟩:=bo hm;obtain⟨hC,wT,hm⟩:=bo hm;refine awc (A.R bN [] [(4,Iz 4 1 i5.enc y1 vC),(5,NK 4 1 530013006 530013005 i5.enc G9 vC),(9,c8 (ix i5 wS)),(10,o0 530013005 (st i5 (off:=0) (ca:=[.bool true]) wS wT rfl) (pY wS).1.1)] [(0,.ptr 1 0),(4,.ptr 12 0),(5,Y aD.1),(6,.ptr 13 0),(9,.own 13040),(12,Y ct)] [(1,.cells 103 (hO gR.2)),(12,.c 28 [.c6,.c6]),(13,.c 28 [.own 17,.c6]),(17,.slice 31 2 (ar eD b1) 0 false),(13040,.e9 106 530013006 aD.1.toNat (some (some (if gR.1<eG.1 then gR.1 else eG.1).toNat,530013005))),(530013006,.cL (encS 4 1 i5.enc (List.set iO (if gR.1<eG.1 then gR.1 else eG.1).toNat []))),(530013005,.slice 4 1 (ar i5 hC) 0 false)] (by kernel_rfl) ?_);refine⟨_,_,(aws (d:=13040) (e:=530013006) (e2:=530013007) (t:=530013005) iO i5.enc hC rfl rfl rfl rfl rfl rfl rfl),?_⟩;exact Exists.intro ((List.set iO (if gR.1<eG.1 then gR.1 else eG.1).toNat hC),gR.2.L,gR.2.At) (And.intro hm (jx [.rn 530013007 450013040] []))
   exact bW cq<|A.skip<|cF (iO,gR.2.L,gR.2.At) hm
  rintro⟨BF,BG,BH⟩ hm;rw[jt]at hm;exact dF [] [12] [(12,Y (aG (ct-1)))]<|cF (aG (ct-1),BG,BH,BF) hm
 refine bW bK<|A.exit ?_
 obtain⟨qI,wU,hm⟩:=bo hm;refine et [(1,fq [] (rF wU) r9)] [5,12,73] [(15,.d (qI.1=0))] [1] [(1,.cells 103 (hO qI.2))]<|A.seq<|aW [(1,ys 4 1 i5.enc iO y1)] [] [(99,Y iO.length),(100,Y 0)]<|A.block ?_
 obtain⟨amO,hm⟩:=pX hm;obtain⟨KS,KY,M8,Nf,hm⟩:=yF hm;refine av6 (hi:=(iO.length:Int)) (B:=KS) (K:=KY) hm rfl (λkS=>λ(xR,xS,xT)=>[(0,.ptr 1 0),(4,.ptr 12 0),(6,.ptr 13 0),(9,.own 13040),(15,.d (qI.1=0)),(99,Y iO.length),(100,Y kS)]) (λkS=>λ(xR,xS,xT)=>[(1,.c 103 [bC aB xS,Y xT]),(12,.c 28 [.c6,.c6]),(13,.c 28 [.own 17,.own 42]),(17,.slice 31 2 (ar eD b1) 0 false),(13040,.e9 106 450013040 aD.1.toNat none),(450013040,.cL (encS 4 1 i5.enc iO)),(42,.slice 62 5 (ar fe xR) 0 false)]) ?_ ?_ ?_
 ·exact jx [.ac 13 42 62 5 1] []
 ·rintro kS wC ⟨xR,xS,xT⟩ ND Al hm;rw[M8]at hm;refine aW [] [] [(101,.d ((kS:Int)<iO.length))]<|A.seq<|avH rfl (decide_eq_true Al)<|A.skip<|A.seq<|A.block<|aW [] [101] [(16,Y kS)]<|aW [(1,ys 4 1 i5.enc iO y1)] [] [(104,Y iO.length),(105,Y 0)]<|A.block ?_
  obtain⟨amP,hm⟩:=pX hm;obtain⟨KT,KZ,M9,Ng,hm⟩:=yF hm;refine av6 (hi:=(iO.length:Int)) (B:=KT) (K:=KZ) hm rfl (λmo=>λ(tu,vg,vh)=>[(0,.ptr 1 0),(4,.ptr 12 0),(6,.ptr 13 0),(9,.own 13040),(15,.d (qI.1=0)),(16,Y kS),(99,Y iO.length),(100,Y kS),(104,Y iO.length),(105,Y mo)]) (λmo=>λ(tu,vg,vh)=>[(1,.c 103 [bC aB vg,Y vh]),(12,.c 28 [.c6,.c6]),(13,.c 28 [.own 17,.own 42]),(17,.slice 31 2 (ar eD b1) 0 false),(13040,.e9 106 450013040 aD.1.toNat none),(450013040,.cL (encS 4 1 i5.enc iO)),(42,.slice 62 5 (ar fe tu) 0 false)]) ?_ ?_ ?_
  ·exact fN
  ·rintro mo Eb ⟨tu,vg,vh⟩ NF Cy hm;rw[M9]at hm;refine aW [] [] [(106,.d ((mo:Int)<iO.length))]<|A.seq<|avH rfl (decide_eq_true Cy)<|A.skip ?_
   obtain⟨kV,ox,hm⟩:=jd hm;refine A.J (J:=kV) (r:=r) (λ(BI,BJ,BK)=>[(0,.ptr 1 0),(4,.ptr 12 0),(6,.ptr 13 0),(9,.own 13040),(15,.d (qI.1=0)),(16,Y kS),(99,Y iO.length),(100,Y kS),(104,Y iO.length),(105,Y mo)]) (λ(BI,BJ,BK)=>[(1,.c 103 [bC aB BI,Y BJ]),(12,.c 28 [.c6,.c6]),(13,.c 28 [.own 17,.own 42]),(17,.slice 31 2 (ar eD b1) 0 false),(13040,.e9 106 450013040 aD.1.toNat none),(450013040,.cL (encS 4 1 i5.enc iO)),(42,.slice 62 5 (ar fe BK) 0 false)]) ?_ ?_
   ·refine A.block<|aW [] [106] [(17,Y mo)] ?_
    refine A.seq ?_;obtain⟨rJ,yd,hm⟩:=bo hm;obtain⟨tH,vD,hm⟩:=bo hm;refine et [(2,Iz 4 1 i5.enc y1 yd),(3,NK 4 1 530013009 530013008 i5.enc G9 yd),(5,c8 (ix i5 vD)),(6,hf 530013008 0 (ix i5 vD))] [] [(115,.bool (!tH))] [13040,450013040] [(13040,.e9 106 530013009 aD.1.toNat (some (some (kS:Int).toNat,530013008))),(530013009,.cL (encS 4 1 i5.enc (List.set iO (kS:Int).toNat []))),(530013008,.slice 4 1 (ar i5 rJ) 0 false)]<|avF ((axA (d:=13040) (e:=530013009) (e2:=530013010) (t:=530013008) iO i5.enc yd rfl rfl rfl rfl rfl rfl rfl)) ?_
    rcases cg hm with⟨en,hm⟩|⟨en,hm⟩
    ·exact bX en<|A.exit<|Exists.intro (vg,vh,tu) (And.intro hm (jx [.rn 530013010 450013040] []))
    refine bW en<|A.skip ?_
    obtain⟨vA,vE,hm⟩:=bo hm;obtain⟨vB,Cf,hm⟩:=bo hm;obtain⟨hL,M6,hm⟩:=bo hm;refine bl [(3,c8 (ix eD vE)),(5,hf 17 0 (ix eD vE)),(9,c8 (ix eD Cf)),(11,hf 17 0 (ix eD Cf)),(14,fq [] (EM M6) Et),(16,.al 88)] [(0,.ptr 1 0),(4,.ptr 12 0),(6,.ptr 13 0),(9,.own 13040),(15,.d (qI.1=0)),(16,Y kS),(99,Y iO.length),(100,Y kS),(104,Y iO.length),(105,Y mo),(18,.ptr 88 0)] [(1,.cells 103 (hO hL.2)),(12,.c 28 [.c6,.c6]),(13,.c 28 [.own 17,.own 42]),(17,.slice 31 2 (ar eD b1) 0 false),(13040,.e9 106 530013010 aD.1.toNat none),(530013010,.cL (encS 4 1 i5.enc iO)),(42,.slice 62 5 (ar fe tu) 0 false),(88,.c 62 [Y vA.cS,Y vB.cS,Y 1,Y 1,Y hL.1])] ?_;obtain⟨D3,It,hm⟩:=jd hm;refine A.J (J:=D3) (r:=r) (λ(BL,BM,Eu,Ev)=>[(0,.ptr 1 0),(4,.ptr 12 0),(6,.ptr 13 0),(9,.own 13040),(15,.d (qI.1=0)),(16,Y kS),(18,.ptr 88 0),(99,Y iO.length),(100,Y kS),(104,Y iO.length),(105,Y mo)]) (λ(BL,BM,Eu,Ev)=>[(1,.c 103 [bC aB BL,Y BM]),(12,.c 28 [.c6,.c6]),(13,.c 28 [.own 17,.own 42]),(17,.slice 31 2 (ar eD b1) 0 false),(13040,.e9 106 530013010 aD.1.toNat none),(530013010,.cL (encS 4 1 i5.enc iO)),(42,.slice 62 5 (ar fe tu) 0 false),(88,.c 62 [Y vA.cS,Y vB.cS,Y Eu,Y Ev,Y hL.1])]) ?_ ?_
    ·refine aW [] [] [(133,.bool (!(decide (qI.1=0))))] ?_;rcases cg hm with⟨fK,hm⟩|⟨fK,hm⟩
     ·refine bX fK ?_;obtain⟨fz,Is,hm⟩:=bo hm;obtain⟨lN,M7,hm⟩:=bo hm;refine et [(2,fq [] (zJ Is) Bp),(4,fq [] (EM M7) Et)] [133] [] [1,88] [(1,.cells 103 (hO lN.2)),(88,.c 62 [Y vA.cS,Y vB.cS,Y lN.1,Y 1,Y hL.1])] ?_;obtain⟨h7,alV,hm⟩:=bo hm;obtain⟨o6,alW,hm⟩:=bo hm;exact jl [(6,fq [] (zJ alV) Bp),(8,fq [] (EM alW) Et)] [] [] [1,88] [(1,.cells 103 (hO o6.2)),(88,.c 62 [Y vA.cS,Y vB.cS,Y lN.1,Y o6.1,Y hL.1])]<|cF (o6.2.L,o6.2.At,lN.1,o6.1) hm
     exact bW fK<|A.skip<|cF (hL.2.L,hL.2.At,(1:Int),(1:Int)) hm
    rintro⟨BL,BM,Eu,Ev⟩ hm;rw[It]at hm;obtain⟨jZ,alX,hm⟩:=bo hm;exact jl [(4,l3 139 (ap fe (bytes:=40) (by decide) alX))] [18] [] [13,42,88] [(13,.c 28 [.own 17,.own 139]),(139,.slice 62 5 (ar fe jZ) 0 false)]<|Exists.intro (BL,BM,jZ) (And.intro hm (jx [.kz 139 42,.rn 530013010 450013040] []))
   rintro⟨BI,BJ,BK⟩ hm;rw[ox]at hm;exact dF [(0,aN (ze (by omega) Cy (of_decide_eq_true amP)))] [105] [(105,Y (mo+1:Int))]<|cF (BK,BI,BJ) hm
  rintro mo ⟨tu,vg,vh⟩ NF NJ hm;rw[Ng]at hm;exact aW [] [] [(106,.d ((mo:Int)<iO.length))]<|A.seq<|avG rfl (zP NJ)<|A.exit<|dF [(0,aN (ze (by omega) Al (of_decide_eq_true amO)))] [16,100,104,105,106] [(100,Y (kS+1:Int))]<|cF (tu,vg,vh) hm
 rintro kS ⟨xR,xS,xT⟩ ND NI hm;rw[Nf]at hm;refine aW [] [] [(101,.d ((kS:Int)<iO.length))]<|A.seq<|avG rfl (zP NI)<|A.exit<|avF (axE (d:=13040) (e:=450013040) iO i5.enc rfl rfl)<|bl [] [(4,.ptr 12 0)] [(1,.c 103 [bC aB xS,Y xT]),(12,.c 28 [.own 17,.own 42]),(17,.slice 31 2 (ar eD b1) 0 false),(42,.slice 62 5 (ar fe xR) 0 false)]<|A.ret ?_
 obtain rfl:=jN hm;exact avC bN [.cT [17],.kz 42 25] rfl (by kernel_rfl)
def ZN{t:dL}{p:bz}{n:Int}{r:(cO)×dL}(hm:F9 t p n=some r):eT prog 15 [(1,.cells 103 (hO t))] [.ptr 1 0,.agg (cn p),Y n] (λa aH=>a=bC aB r.1∧aH=[(1,.cells 103 (hO r.2))]):=by
 refine dN func15 rfl rfl ?_;unfold F9 at hm;refine bl [(0,.al 81)] [(0,.ptr 1 0),(2,Y n),(4,.ptr 81 0)] [(1,.cells 103 (hO t)),(81,.cells 28 (cn p))]<|aW [] [] [(7,.c6)]<|A.seq ?_
 obtain⟨aD,h1,hm⟩:=bo hm;refine et [(3,fq [] (rF h1) r9)] [2] [(8,Y aD.1)] [1] [(1,.cells 103 (hO aD.2))]<|A.block ?_
 obtain⟨k9,hp,lu,hm⟩:=mM hm;refine avN (F:=k9) hm (λ(e6,ct,b1,cU)=>[(0,.ptr 1 0),(4,.ptr 81 0),(7,bC aB e6),(8,Y ct)]) (λ(e6,ct,b1,cU)=>[(1,.c 103 [bC aB b1,Y cU]),(81,.cells 28 (cn p))]) ?_ ?_
 ·exact jx [] [7]
 rintro cI ⟨e6,ct,b1,cU⟩ hm;rw[lu]at hm;refine A.seq<|avM [(0,.ptr 1 0),(4,.ptr 81 0),(7,bC aB e6),(8,Y ct),(20,.bool ((decide (0<ct))&&(decide (0<(p.bx.length:Int)))))] [(1,.c 103 [bC aB b1,Y cU]),(81,.cells 28 (cn p))] (λhk=>?_) ?_
 ·rcases j6 (decide (0<ct))with bk|bk
  ·exact bl [(2,aN (cK bk)),(5,aN (dZ eD p.bx)),(7,aN (mE (q:=decide (0<(p.bx.length:Int))) bk))] _ _ hk
  exact bl [(2,aN (cK bk)),(7,aN (pa (q:=decide (0<(p.bx.length:Int))) bk))] _ _ hk
 rcases cg hm with⟨bK,hm⟩|⟨bK,hm⟩
 ·refine bX bK<|A.skip<|A.seq<|A.block ?_
  obtain⟨bB,D,hm⟩:=bo hm;obtain⟨dJ,aq,hm⟩:=bo hm;obtain⟨cm,aZ,hm⟩:=bo hm;exact jl [(6,aN (dZ eD p.bx)),(7,fq [] (rF D) r9),(8,c8 (ix eD aq)),(11,ch (aqw aZ) alj)] [7,20] [(7,bC aB cm)] [1] [(1,.cells 103 (hO bB.2))]<|dF [] [8] [(8,Y (aG (ct-1)))]<|Exists.intro (cm,aG (ct-1),bB.2.L,bB.2.At) (And.intro hm (jx [] [7]))
 refine bW bK<|A.exit<|et [] [0,4,7,8,20] [(6,bC aB e6)] [81] [] ?_
 cases hm;exact A.ret cM
end
section
open Go Go.Proofs.Tryz List
set_option maxRecDepth 100000
set_option linter.all false
def I5{n:Int}{r:Bool}(hm:Cc n=some r):dR prog 142 [] [Y n] (.bool r):=by
 refine dN func142 rfl rfl ?_;unfold Cc at hm;refine bl [] [(0,Y n)] []<|avM [(2,.bool ((decide (1≤n))&&(decide (n≤99))))] [] (λhk=>?_) ?_
 ·rcases j6 (decide (1≤n))with bk|bk
  ·exact bl [(2,aN (cK bk)),(6,aN (mE (q:=decide (n≤99)) bk))] _ _ hk
  exact bl [(2,aN (cK bk)),(6,aN (pa (q:=decide (n≤99)) bk))] _ _ hk
 cases hm;exact A.ret cM
variable {t:g2}
def aqp{r:(List (Int×Bool))}(hm:Fo t=some r):dR prog 143 [] [.agg (mG t)] (.c7 (bM .i64 ih r)):=by
 refine dN func143 rfl rfl ?_;unfold Fo at hm;refine bl [(0,.al 50)] [(1,.ptr 50 0)] [(50,.cells 36 (mG t))]<|et [(0,.al 49),(3,wX (rZ (k:=.i64) (enc:=ih) [] t.h9 true rfl))] [] [(3,.dm 49)] [] [(49,.map 3 4 (bM .i64 ih (bH [] t.h9 true)))]<|A.seq<|aW [] [] [(4,.bool true)]<|A.block ?_
 obtain⟨k9,hp,lu,hm⟩:=mM hm;refine avN (F:=k9) hm (λ(Dl,b1)=>[(1,.ptr 50 0),(3,.dm 49),(4,.bool Dl)]) (λ(Dl,b1)=>[(50,.cells 36 (mG t)),(49,.map 3 4 (bM .i64 ih b1))]) ?_ ?_
 ·exact fN
 rintro cI ⟨Dl,b1⟩ hm;rw[lu]at hm;refine A.seq<|aW [] [] [(11,.bool Dl)] ?_
 rcases cg hm with⟨bk,hm⟩|⟨bk,hm⟩
 ·refine bX bk<|A.skip<|A.block<|aW [] [4,11] [(4,.bool false)]<|aW [(2,aN (dZ eY t.Links))] [] [(13,bC eY t.Links),(14,Y t.Links.length),(15,Y 0)]<|A.block<|avJ 13 rfl λeO=>?_
  obtain⟨k8,jm,ll,lz,hm⟩:=hJ hm;refine avD (l:=t.Links) (gC:=0) (B:=k8) (K:=jm) hm (λcf=>λ(u1,cU)=>[(1,.ptr 50 0),(3,.dm 49),(4,.bool u1),(13,bC eY t.Links),(14,Y t.Links.length),(15,Y cf)]) (λcf=>λ(u1,cU)=>[(50,.cells 36 (mG t)),(49,.map 3 4 (bM .i64 ih cU))]) ?_ ?_ ?_
  ·exact fN
  ·rintro cf e2 gn ⟨u1,cU⟩ jb eW hm;rw[ll]at hm;refine aW [] [] [(16,.d ((cf:Int)<t.Links.length))]<|A.seq<|bX (hv eW)<|A.skip ?_
   obtain⟨dK,iH,hm⟩:=jd hm;refine A.J (J:=dK) (r:=r) (λ(Dm,dH)=>[(1,.ptr 50 0),(3,.dm 49),(4,.bool Dm),(13,bC eY t.Links),(14,Y t.Links.length),(15,Y cf)]) (λ(Dm,dH)=>[(50,.cells 36 (mG t)),(49,.map 3 4 (bM .i64 ih dH))]) ?_ ?_
   ·refine A.block<|et [(0,c8 (ix eY (fS eW))),(2,.al 132)] [16] [(6,.ptr 132 0)] [] [(132,.cells 84 (mb e2))] ?_
    refine avM [(1,.ptr 50 0),(3,.dm 49),(4,.bool u1),(13,bC eY t.Links),(14,Y t.Links.length),(15,Y cf),(6,.ptr 132 0),(29,.bool (((az cU e2.br).getD false)&&(!((az cU e2.bh).getD false))))] [(50,.cells 36 (mG t)),(49,.map 3 4 (bM .i64 ih cU)),(132,.cells 84 (mb e2))] (λhk=>?_) ?_
    ·rcases j6 ((az cU e2.br).getD false)with bK|bK
     ·exact bl [(3,wW (lk (E:=4) (k:=.i64) (enc:=ih) cU e2.br false (λw=>⟨_,zeroValue4 w,λI=>by simp[bm,c9,ih]⟩))),(4,aN (cK bK)),(8,wW (lk (E:=4) (k:=.i64) (enc:=ih) cU e2.bh false (λw=>⟨_,zeroValue4 w,λI=>by simp[bm,c9,ih]⟩))),(10,aN (mE (q:=!((az cU e2.bh).getD false)) bK))] _ _ hk
     exact bl [(3,wW (lk (E:=4) (k:=.i64) (enc:=ih) cU e2.br false (λw=>⟨_,zeroValue4 w,λI=>by simp[bm,c9,ih]⟩))),(4,aN (cK bK)),(10,aN (pa (q:=!((az cU e2.bh).getD false)) bK))] _ _ hk
    rcases cg hm with⟨cq,hm⟩|⟨cq,hm⟩
    ·exact bX cq<|jl [(3,wX (rZ (k:=.i64) (enc:=ih) cU e2.bh true rfl))] [4,6,29] [(4,.bool true)] [49,132] [(49,.map 3 4 (bM .i64 ih (bH cU e2.bh true)))]<|cF (true,bH cU e2.bh true) hm
    exact bW cq<|A.skip<|cF (u1,cU) hm
   rintro⟨Dm,dH⟩ hm;rw[iH]at hm;exact dF [(0,aN (hg eW eO))] [15] [(15,Y ((cf+1:Nat):Int))]<|cF (Dm,dH) hm
  rintro cf ⟨u1,cU⟩ jb jE hm;rw[lz]at hm;exact aW [] [] [(16,.d ((cf:Int)<t.Links.length))]<|A.seq<|bW (ht jE)<|A.exit<|cF (u1,cU) hm
 refine bW bk<|A.exit<|et [] [1,3,4,11] [(2,.dm 49)] [50] []<|A.ret ?_
 obtain rfl:=jN hm;exact avC bN [.cT [49]] rfl (by kernel_rfl)
def XZ{r:Int}(hm:Ce t=some r):dR prog 72 [] [.agg (mG t)] (Y r):=by
 refine dN func72 rfl rfl ?_;unfold Ce at hm;refine bl [(0,.al 26)] [(1,.ptr 26 0)] [(26,.cells 36 (mG t))]<|A.seq ?_
 obtain⟨aD,h1,hm⟩:=bo hm;refine aW [(2,ch (I5 h1) HH)] [] [(17,.bool (!aD))] ?_;rcases cg hm with⟨bk,hm⟩|⟨bk,hm⟩
 ·refine bX bk<|bl [] [(2,Y 2)] [] ?_
  cases hm;exact A.ret cM
 refine bW bk<|A.skip<|A.seq<|aW [(2,aN (dZ eY t.Links))] [17] [(19,bC eY t.Links),(20,Y t.Links.length),(21,Y 0)]<|A.block<|avJ 19 rfl λfu=>?_
 obtain⟨gU,gV,gK,gL,hm⟩:=hJ hm;refine avD (l:=t.Links) (gC:=0) (B:=gU) (K:=gV) hm (λa1=>λ()=>[(1,.ptr 26 0),(19,bC eY t.Links),(20,Y t.Links.length),(21,Y a1)]) (λa1=>λ()=>[(26,.cells 36 (mG t))]) ?_ ?_ ?_
 ·exact fN
 ·rintro a1 aK cI ⟨⟩ gM cr hm;rw[gK]at hm;refine aW [] [] [(22,.d ((a1:Int)<t.Links.length))]<|A.seq<|bX (hv cr)<|A.skip<|A.seq<|A.block<|et [(0,c8 (ix eY (fS cr))),(2,.al 173)] [22] [(4,.ptr 173 0)] [] [(173,.cells 84 (mb aK))] ?_
  obtain⟨dK,iH,hm⟩:=jd hm;refine A.J (J:=dK) (r:=r) (λfx=>[(1,.ptr 26 0),(19,bC eY t.Links),(20,Y t.Links.length),(21,Y a1),(34,.bool fx)]) (λfx=>[(26,.cells 36 (mG t))]) ?_ ?_
  ·obtain⟨bB,D,hm⟩:=bo hm;rcases cg hm with⟨bK,hm⟩|⟨bK,hm⟩
   ·exact jl [(2,ch (I5 D) HH),(4,aN (cK bK))] [4] [(34,.bool true)] [173] []<|cF true hm
   obtain⟨cm,aq,hm⟩:=bo hm;exact jl [(2,ch (I5 D) HH),(4,aN (cK bK)),(7,ch (I5 aq) HH)] [4] [(34,.bool (!cm))] [173] []<|cF (!cm) hm
  rintro fx hm;rw[iH]at hm;rcases cg hm with⟨cq,hm⟩|⟨cq,hm⟩
  ·refine bX cq<|bl [] [(2,Y 2)] [] ?_
   cases hm;exact A.ret cM
  exact bW cq<|A.skip<|dF [(0,aN (hg cr fu))] [21,34] [(21,Y ((a1+1:Nat):Int))]<|cF () hm
 rintro a1 ⟨⟩ gM fv hm;rw[gL]at hm;refine aW [] [] [(22,.d ((a1:Int)<t.Links.length))]<|A.seq<|bW (ht fv)<|A.exit<|A.seq<|aW [] [19,20,21,22] [(5,Y 1)]<|A.block<|avW 1 1 rfl rfl rfl λeO=>?_
 obtain⟨k8,jm,ll,lz,hm⟩:=hJ hm;refine avD (l:=t.Links) (gC:=1) (B:=k8) (K:=jm) hm (λcf=>λ()=>[(1,.ptr 26 0),(5,Y cf)]) (λcf=>λ()=>[(26,.cells 36 (mG t))]) ?_ ?_ ?_
 ·exact fN
 ·rintro cf e2 gn ⟨⟩ jb eW hm;rw[ll]at hm;refine A.seq<|aW [(3,aN (dZ eY t.Links))] [] [(40,.d ((cf:Int)<t.Links.length))] ?_
  refine bX (hv eW)<|A.skip<|A.seq<|A.block ?_
  obtain⟨dJ,aZ,hm⟩:=bo hm;refine et [(4,c8 (ix eY aZ)),(9,c8 (ix eY (fS eW))),(11,.al 174),(12,.al 175)] [40] [(6,.ptr 174 0),(7,.ptr 175 0)] [] [(174,.cells 84 (mb dJ)),(175,.cells 84 (mb e2))] ?_;obtain⟨bZ,bV,hm⟩:=bo hm;obtain⟨gJ,dU,hm⟩:=bo hm;obtain⟨eG,eR,hm⟩:=bo hm;refine et [(4,ch (sx bV) s7),(9,ch (sx dU) s7),(11,ch (FP eR) Ec)] [6,7] [(66,.d (0≤eG))] [174,175] [] ?_;rcases cg hm with⟨en,hm⟩|⟨en,hm⟩
  ·refine bX en<|bl [] [(2,Y 25)] [] ?_
   cases hm;exact A.ret cM
  exact bW en<|A.skip<|dF [(1,aN (hg eW eO))] [5,66] [(5,Y ((cf+1:Nat):Int))]<|cF () hm
 rintro cf ⟨⟩ jb jE hm;rw[lz]at hm;refine A.seq<|aW [(3,aN (dZ eY t.Links))] [] [(40,.d ((cf:Int)<t.Links.length))] ?_
 refine bW (ht jE)<|A.exit<|et [(0,.al 73),(3,wX (rZ (k:=.i64) (enc:=ih) [] t.h9 true rfl))] [5,40] [(8,.dm 73)] [] [(73,.map 3 4 (bM .i64 ih (bH [] t.h9 true)))]<|A.seq<|aW [(2,aN (dZ eY t.Links))] [] [(72,bC eY t.Links),(73,Y t.Links.length),(74,Y 0)]<|A.block<|avJ 72 rfl λp0=>?_
 obtain⟨sp,sr,sE,sF,hm⟩:=hJ hm;refine avD (l:=t.Links) (gC:=0) (B:=sp) (K:=sr) hm (λe4=>λb1=>[(1,.ptr 26 0),(8,.dm 73),(72,bC eY t.Links),(73,Y t.Links.length),(74,Y e4)]) (λe4=>λb1=>[(26,.cells 36 (mG t)),(73,.map 3 4 (bM .i64 ih b1))]) ?_ ?_ ?_
 ·exact fN
 ·rintro e4 dj lV b1 py lC hm;rw[sE]at hm;refine aW [] [] [(75,.d ((e4:Int)<t.Links.length))]<|A.seq<|bX (hv lC)<|A.skip<|A.seq<|A.block<|et [(0,c8 (ix eY (fS lC))),(2,.al 135)] [75] [(10,.ptr 135 0)] [] [(135,.cells 84 (mb dj))]<|A.seq<|aW [(3,wW (lk (E:=4) (k:=.i64) (enc:=ih) b1 dj.bh false (λw=>⟨_,zeroValue4 w,λI=>by simp[bm,c9,ih]⟩)))] [] [(81,.bool ((az b1 dj.bh).getD false))] ?_
  rcases cg hm with⟨fK,hm⟩|⟨fK,hm⟩
  ·refine bX fK<|bl [] [(2,Y 8)] [] ?_
   cases hm;exact A.ret cM
  exact bW fK<|A.skip<|jl [(3,wX (rZ (k:=.i64) (enc:=ih) b1 dj.bh true rfl))] [10,81] [] [73,135] [(73,.map 3 4 (bM .i64 ih (bH b1 dj.bh true)))]<|dF [(0,aN (hg lC p0))] [74] [(74,Y ((e4+1:Nat):Int))]<|cF (bH b1 dj.bh true) hm
 rintro e4 b1 py np hm;rw[sF]at hm;refine aW [] [] [(75,.d ((e4:Int)<t.Links.length))]<|A.seq<|bW (ht np)<|A.exit ?_
 obtain⟨gR,jS,hm⟩:=bo hm;refine et [(1,ch (aqp jS) ajQ)] [8,72,73,74,75] [(11,.c7 (bM .i64 ih gR))] [73] []<|A.seq<|et [(2,aN (dZ eY t.Links))] [1] [(89,bC eY t.Links),(90,Y t.Links.length),(91,Y 0)] [26] []<|A.block<|avJ 89 rfl λEZ=>?_
 obtain⟨D1,D4,EU,EY,hm⟩:=hJ hm;refine avD (l:=t.Links) (gC:=0) (B:=D1) (K:=D4) hm (λkR=>λ()=>[(11,.c7 (bM .i64 ih gR)),(89,bC eY t.Links),(90,Y t.Links.length),(91,Y kR)]) (λkR=>λ()=>[]) ?_ ?_ ?_
 ·exact fN
 ·rintro kR fF rC ⟨⟩ E5 o2 hm;rw[EU]at hm;refine aW [] [] [(92,.d ((kR:Int)<t.Links.length))]<|A.seq<|bX (hv o2)<|A.skip<|A.seq<|A.block<|et [(0,c8 (ix eY (fS o2))),(2,.al 176)] [92] [(13,.ptr 176 0)] [] [(176,.cells 84 (mb fF))]<|et [(3,nK gR fF.br ih false Tu (aq9 zeroValue4))] [13] [(99,.bool (!((az gR fF.br).getD false)))] [176] [] ?_
  rcases cg hm with⟨hj,hm⟩|⟨hj,hm⟩
  ·refine bX hj<|bl [] [(2,Y 10)] [] ?_
   cases hm;exact A.ret cM
  exact bW hj<|A.skip<|dF [(0,aN (hg o2 EZ))] [91,99] [(91,Y ((kR+1:Nat):Int))]<|cF () hm
 rintro kR ⟨⟩ E5 Cq hm;rw[EY]at hm;refine aW [] [] [(92,.d ((kR:Int)<t.Links.length))]<|A.seq<|bW (ht Cq)<|A.exit<|bl [] [(2,Y 0)] [] ?_
 cases hm;exact A.ret cM
def aqq{r:(cO)}(hm:Fp t=some r):dR prog 75 [] [.agg (mG t)] (bC aB r):=by
 refine dN func75 rfl rfl ?_;unfold Fp at hm;refine bl [(0,.al 112)] [(1,.ptr 112 0)] [(112,.cells 36 (mG t))]<|A.seq ?_
 obtain⟨aD,h1,hm⟩:=bo hm;refine aW [(1,ch (XZ h1) Wy)] [] [(8,.bool (!decide (aD=0)))] ?_;rcases cg hm with⟨bk,hm⟩|⟨bk,hm⟩
 ·refine bX bk<|bl [] [(2,.c6)] [] ?_
  cases hm;exact A.ret cM
 refine bW bk<|A.skip<|et [(2,.al 126)] [8] [(3,.own 126)] [] [(126,.slice 3 1 (ar aB ([t.h9]:cO)) 0 false)]<|A.seq<|et [(2,aN (dZ eY t.Links))] [1] [(13,bC eY t.Links),(14,Y t.Links.length),(15,Y 0)] [112] []<|A.block<|avJ 13 rfl λfu=>?_
 obtain⟨gU,gV,gK,gL,hm⟩:=hJ hm;refine avD (l:=t.Links) (gC:=0) (B:=gU) (K:=gV) hm (λa1=>λe6=>[(3,.own 600075003),(13,bC eY t.Links),(14,Y t.Links.length),(15,Y a1)]) (λa1=>λe6=>[(600075003,.slice 3 1 (ar aB e6) 0 false)]) ?_ ?_ ?_
 ·exact jx [.kz 126 600075003] []
 ·rintro a1 aK cI e6 gM cr hm;rw[gK]at hm;refine aW [] [] [(16,.d ((a1:Int)<t.Links.length))]<|A.seq<|bX (hv cr)<|A.skip<|A.seq<|A.block<|et [(0,c8 (ix eY (fS cr))),(2,.al 177)] [16] [(5,.ptr 177 0)] [] [(177,.cells 84 (mb aK))] ?_
  obtain⟨cv,D,hm⟩:=bo hm;exact jl [(4,l3 127 (ap aB (bytes:=8) (by decide) D))] [3,5] [(3,.own 127)] [600075003,177] [(127,.slice 3 1 (ar aB cv) 0 false)]<|dF [(0,aN (hg cr fu))] [15] [(15,Y ((a1+1:Nat):Int))]<|Exists.intro cv (And.intro hm (jx [.kz 127 600075003] []))
 rintro a1 e6 gM fv hm;rw[gL]at hm;refine aW [] [] [(16,.d ((a1:Int)<t.Links.length))]<|A.seq<|bW (ht fv)<|A.exit ?_
 obtain⟨aq,hm⟩:=pX hm;refine bl [(1,fq [] (Si (d:=600075003) (T:=3) e6 (of_decide_eq_true aq)) Ue)] [(3,.own 600075003)] [(600075003,.slice 3 1 (ar aB (fW e6)) 0 false)]<|aW [] [3] [(2,.own 600075003)]<|A.ret ?_
 obtain rfl:=jN hm;exact avC bN [.cT [600075003]] rfl (by kernel_rfl)
end
section
open Go Go.Proofs.Tryz List
set_option maxRecDepth 100000
set_option linter.all false
variable {a b:bO}{r:Int}
def aqn(hm:Jn a b=some r):dR prog 125 [] [.agg (mb a),.agg (mb b)] (Y r):=by
 refine dN func125 rfl rfl ?_;unfold Jn at hm;refine bl [(0,.al 150),(1,.al 151)] [(2,.ptr 150 0),(3,.ptr 151 0)] [(150,.cells 84 (mb a)),(151,.cells 84 (mb b))] ?_;obtain⟨aD,h1,hm⟩:=bo hm;obtain⟨bB,D,hm⟩:=bo hm;obtain⟨cm,aq,hm⟩:=bo hm;refine bl [(4,ch (sx h1) s7),(9,ch (sx D) s7),(11,ch (FP aq) Ec)] [(4,Y cm)] [] ?_;cases hm;exact A.ret cM
def aq5(hm:Jy a b=some r):dR prog 115 [] [.agg (mb a),.agg (mb b)] (Y r):=by
 refine dN func115 rfl rfl ?_;unfold Jy at hm;refine bl [(0,.al 148),(1,.al 149)] [(2,.ptr 148 0),(3,.ptr 149 0)] [(148,.cells 84 (mb a)),(149,.cells 84 (mb b))] ?_;obtain⟨aD,h1,hm⟩:=bo hm;obtain⟨bB,D,hm⟩:=bo hm;obtain⟨cm,aq,hm⟩:=bo hm;refine bl [(4,ch (sx h1) s7),(9,ch (sx D) s7),(11,ch (FP aq) Ec)] [(4,Y cm)] [] ?_;cases hm;exact A.ret cM
def ZI{a:bQ}{b:bQ}(hm:JH a b=some r):dR prog 128 [] [.agg (xd a),.agg (xd b)] (Y r):=by
 refine dN func128 rfl rfl ?_;unfold JH at hm;refine bl [(0,.al 152),(1,.al 153)] [(2,.ptr 152 0),(3,.ptr 153 0)] [(152,.cells 175 (xd a)),(153,.cells 175 (xd b))] ?_;obtain⟨aD,h1,hm⟩:=bo hm;obtain⟨bB,D,hm⟩:=bo hm;obtain⟨cm,aq,hm⟩:=bo hm;refine bl [(6,ch (sx h1) s7),(13,ch (sx D) s7),(15,ch (FP aq) Ec)] [(4,Y cm)] [] ?_;cases hm;exact A.ret cM
def aqx{a:eP}{b:eP}(hm:Je a b=some r):dR prog 189 [] [.agg (yD a),.agg (yD b)] (Y r):=by
 refine dN func189 rfl rfl ?_;unfold Je at hm;refine bl [(0,.al 164),(1,.al 165)] [(2,.ptr 164 0),(3,.ptr 165 0)] [(164,.cells 237 (yD a)),(165,.cells 237 (yD b))] ?_;obtain⟨aD,h1,hm⟩:=bo hm;refine bl [(4,ch (sx h1) s7)] [(4,Y aD)] [] ?_;cases hm;exact A.ret cM
end
section
set_option linter.all false
open Go Go.Proofs.Tryz Go.Sort Go.Lib Go.Shelf Go.RowKit
set_option maxRecDepth 100000
def A4(x y:Int):Int:=if x<y then -1 else if y<x then 1 else 0
def GJ(x y:Int):oK x y=some (A4 x y):=by
 unfold oK CG A4;by_cases h:x<y
 ·simp[h,aM]
 ·by_cases D:y<x<;>simp[h,D,aM]
def awz:Shelf.Ren:=
 {  f:=λx=>match x with|6=>124|15=>178|14=>177|28=>206|29=>207|20=>198|21=>199|22=>200|23=>201|24=>202|25=>203|26=>204|27=>205|46=>235|47=>236|48=>237|49=>238|50=>239|57=>258|n=>n,t:=λx=>match x with|22=>34|24=>84|25=>158|3=>3|39=>178|0=>0|53=>252|55=>254|4=>4|46=>246|45=>245|50=>89|5=>5|9=>9|66=>272|70=>276|76=>289|77=>290|n=>n,g:=λn=>n}
def av8:SlLaysF0.n6 prog awz:=
  {mixed:=by kernel_rfl,f6:=⟨ "slices.SortFunc[[]bitcast/api.Hop,bitcast/api.Hop]",of_decide_eq_true (by kernel_rfl),func124.trans (by kernel_rfl)⟩,
   f14:=⟨ "slices.pdqsortCmpFunc[bitcast/api.Hop]",of_decide_eq_true (by kernel_rfl),func177.trans (by kernel_rfl)⟩,f15:=func178.trans (by kernel_rfl),
   f20:=⟨ "slices.insertionSortCmpFunc[bitcast/api.Hop]",of_decide_eq_true (by kernel_rfl),func198.trans (by kernel_rfl)⟩,f21:=⟨ "slices.heapSortCmpFunc[bitcast/api.Hop]",
   of_decide_eq_true (by kernel_rfl),func199.trans (by kernel_rfl)⟩,f22:=⟨ "slices.breakPatternsCmpFunc[bitcast/api.Hop]",of_decide_eq_true (by kernel_rfl),func200.trans (by kernel_rfl)⟩,
   f23:=⟨ "slices.choosePivotCmpFunc[bitcast/api.Hop]",of_decide_eq_true (by kernel_rfl),func201.trans (by kernel_rfl)⟩,f24:=⟨ "slices.reverseRangeCmpFunc[bitcast/api.Hop]",
   of_decide_eq_true (by kernel_rfl),func202.trans (by kernel_rfl)⟩,f25:=⟨ "slices.partialInsertionSortCmpFunc[bitcast/api.Hop]",of_decide_eq_true (by kernel_rfl),
   func203.trans (by kernel_rfl)⟩,f26:=⟨ "slices.partitionEqualCmpFunc[bitcast/api.Hop]",of_decide_eq_true (by kernel_rfl),func204.trans (by kernel_rfl)⟩,
   f27:=⟨ "slices.partitionCmpFunc[bitcast/api.Hop]",of_decide_eq_true (by kernel_rfl),func205.trans (by kernel_rfl)⟩,f28:=func206.trans (by kernel_rfl),
   f29:=func207.trans (by kernel_rfl),f46:=⟨ "slices.siftDownCmpFunc[bitcast/api.Hop]",of_decide_eq_true (by kernel_rfl),func235.trans (by kernel_rfl)⟩,
   f47:=func236.trans (by kernel_rfl),f48:=func237.trans (by kernel_rfl),f49:=⟨ "slices.medianAdjacentCmpFunc[bitcast/api.Hop]",of_decide_eq_true (by kernel_rfl),
   func238.trans (by kernel_rfl)⟩,f50:=⟨ "slices.medianCmpFunc[bitcast/api.Hop]",of_decide_eq_true (by kernel_rfl),func239.trans (by kernel_rfl)⟩,
   f57:=⟨ "slices.order2CmpFunc[bitcast/api.Hop]",of_decide_eq_true (by kernel_rfl),func258.trans (by kernel_rfl)⟩,t0:=underlying0,a0:=isAgg0,z0:=sizeOf0,
   v0:=zeroValue0,t3:=underlying3,a3:=isAgg3,z3:=sizeOf3,v3:=zeroValue3,t4:=underlying4,a4:=isAgg4,z4:=sizeOf4,v4:=zeroValue4,
   t5:=underlying5,a5:=isAgg5,z5:=sizeOf5,v5:=zeroValue5,t9:=underlying9,a9:=isAgg9,z9:=sizeOf9,v9:=zeroValue9,t22:=underlying34,
   a22:=isAgg34,z22:=sizeOf34,v22:=zeroValue34,t25:=underlying158,a25:=isAgg158,z25:=sizeOf158,v25:=zeroValue158,t39:=underlying178,
   a39:=isAgg178,z39:=sizeOf178,v39:=zeroValue178,t45:=underlying245,a45:=isAgg245,z45:=sizeOf245,v45:=zeroValue245,t46:=underlying246,
   a46:=isAgg246,z46:=sizeOf246,v46:=zeroValue246,t50:=underlying89,a50:=isAgg89,z50:=sizeOf89,v50:=zeroValue89,t53:=underlying252,
   a53:=isAgg252,z53:=sizeOf252,v53:=zeroValue252,t55:=underlying254,a55:=isAgg254,z55:=sizeOf254,v55:=zeroValue254,t66:=underlying272,
   a66:=isAgg272,z66:=sizeOf272,v66:=zeroValue272,t70:=underlying276,a70:=isAgg276,z70:=sizeOf276,v70:=zeroValue276,t76:=underlying289,
   a76:=isAgg289,z76:=sizeOf289,v76:=zeroValue289,t77:=underlying290,a77:=isAgg290,z77:=sizeOf290,v77:=zeroValue290}
def s0(x:bO):dQ:=[.int .i64 x.br,.int .i64 x.bh]
def HU(I:bG)(x:bO)(vs:dQ):ds I (eY.enc x) vs↔vs=s0 x:=by
 show ds I [.int .i64 x.br,.int .i64 x.bh] vs↔vs=_;simp only[ds,bm];constructor
 ·rintro⟨_,_,rfl,rfl,⟨_,_,rfl,rfl,rfl⟩⟩;rfl
 ·rintro rfl;exact⟨_,_,rfl,rfl,⟨_,_,rfl,rfl,rfl⟩⟩
def WB(I:bG)(β:Nat→Value)(x:bO):b8 I β (eY.enc x) (s0 x):=by
 show b8 I β [.int .i64 x.br,.int .i64 x.bh] _;simp only[b8,aC,bm];exact⟨_,_,rfl,rfl,⟨_,_,rfl,rfl,rfl⟩⟩
def WC(x:bO):∀v∈s0 x,v.oneCell'=true:=by
 intro v aa;simp only[s0,List.mem_cons,List.not_mem_nil,or_false]at aa;rcases aa with rfl|rfl<;>rfl
def akL(a b:bO):Jn a b=some (fC [λx:bO=>x.br,λx:bO=>x.bh] a b):=by
 unfold Jn tI;simp only[GJ,A4,fC];rcases Int.lt_trichotomy a.br b.br with bJ|bJ|bJ<;>rcases Int.lt_trichotomy a.bh b.bh with h1|h1|h1<;>simp[aM,eE,bJ,h1]<;>(repeat (first|rw[if_neg (by omega)]|rw[if_pos (by omega)]))<;>simp
def aea:G4 prog 124 125 s0 2 (fC [λx:bO=>x.br,λx:bO=>x.bh]):=λcb off aV d w nn U Z=>
 AnyQ.slices_SortFunc av8 2 isAgg84 sizeOf84 s0 (λ_=>rfl) WC _ (Kv _) 125 #[] cb off aV d w (enters_of func125 (by kernel_rfl) rfl)
  (JQ WB (λx y=>aqn (akL x y)) cb off d.size w) nn U Z
variable {T:Nat}{bF zs:x2}
def abu{d:Nat}(h:l2 (fC [λx:bO=>x.br,λx:bO=>x.bh]) zs=some bF):eT prog 124 [(d,.slice T 2 (ar eY zs) 0 false)] [.own d,.fn 125 []] (λr aH=>r=.c5 []∧aH=[(d,.slice T 2 (ar eY bF) 0 false)]):=
 Kb HU (by decide) (λ_=>rfl) (λ_=>rfl) (xc _) aea (λp aV wQ w=>AnyF.slices_SortFunc_none av8 p aV wQ w) h
def akM(a b:bO):Jy a b=some (fC [λx:bO=>x.br,λx:bO=>x.bh] a b):=by
 unfold Jy tI;simp only[GJ,A4,fC];rcases Int.lt_trichotomy a.br b.br with bJ|bJ|bJ<;>rcases Int.lt_trichotomy a.bh b.bh with h1|h1|h1<;>simp[aM,eE,bJ,h1]<;>(repeat (first|rw[if_neg (by omega)]|rw[if_pos (by omega)]))<;>simp
def aeb:G4 prog 124 115 s0 2 (fC [λx:bO=>x.br,λx:bO=>x.bh]):=λcb off aV d w nn U Z=>
 AnyQ.slices_SortFunc av8 2 isAgg84 sizeOf84 s0 (λ_=>rfl) WC _ (Kv _) 115 #[] cb off aV d w (enters_of func115 (by kernel_rfl) rfl)
  (JQ WB (λx y=>aq5 (akM x y)) cb off d.size w) nn U Z
def abv{d:Nat}(h:l2 (fC [λx:bO=>x.br,λx:bO=>x.bh]) zs=some bF):eT prog 124 [(d,.slice T 2 (ar eY zs) 0 false)] [.own d,.fn 115 []] (λr aH=>r=.c5 []∧aH=[(d,.slice T 2 (ar eY bF) 0 false)]):=
 Kb HU (by decide) (λ_=>rfl) (λ_=>rfl) (xc _) aeb (λp aV wQ w=>AnyF.slices_SortFunc_none av8 p aV wQ w) h
def awA:Shelf.Ren:=
 {  f:=λx=>match x with|6=>127|15=>178|14=>179|28=>206|29=>207|20=>208|21=>209|22=>210|23=>211|24=>212|25=>213|26=>214|27=>215|46=>240|47=>236|48=>237|49=>241|50=>242|57=>259|n=>n,t:=λx=>match x with|22=>111|24=>175|25=>177|3=>3|39=>178|0=>0|53=>252|55=>254|4=>4|46=>246|45=>245|50=>89|5=>5|9=>9|66=>272|70=>276|76=>289|77=>290|n=>n,g:=λn=>n}
def awm:SlLaysF0.n6 prog awA:=
  {mixed:=by kernel_rfl,f6:=⟨ "slices.SortFunc[[]bitcast/arbor.Arc,bitcast/arbor.Arc]",of_decide_eq_true (by kernel_rfl),func127.trans (by kernel_rfl)⟩,
   f14:=⟨ "slices.pdqsortCmpFunc[bitcast/arbor.Arc]",of_decide_eq_true (by kernel_rfl),func179.trans (by kernel_rfl)⟩,f15:=func178.trans (by kernel_rfl),
   f20:=⟨ "slices.insertionSortCmpFunc[bitcast/arbor.Arc]",of_decide_eq_true (by kernel_rfl),func208.trans (by kernel_rfl)⟩,f21:=⟨ "slices.heapSortCmpFunc[bitcast/arbor.Arc]",
   of_decide_eq_true (by kernel_rfl),func209.trans (by kernel_rfl)⟩,f22:=⟨ "slices.breakPatternsCmpFunc[bitcast/arbor.Arc]",of_decide_eq_true (by kernel_rfl),func210.trans (by kernel_rfl)⟩,
   f23:=⟨ "slices.choosePivotCmpFunc[bitcast/arbor.Arc]",of_decide_eq_true (by kernel_rfl),func211.trans (by kernel_rfl)⟩,f24:=⟨ "slices.reverseRangeCmpFunc[bitcast/arbor.Arc]",
   of_decide_eq_true (by kernel_rfl),func212.trans (by kernel_rfl)⟩,f25:=⟨ "slices.partialInsertionSortCmpFunc[bitcast/arbor.Arc]",of_decide_eq_true (by kernel_rfl),
   func213.trans (by kernel_rfl)⟩,f26:=⟨ "slices.partitionEqualCmpFunc[bitcast/arbor.Arc]",of_decide_eq_true (by kernel_rfl),func214.trans (by kernel_rfl)⟩,
   f27:=⟨ "slices.partitionCmpFunc[bitcast/arbor.Arc]",of_decide_eq_true (by kernel_rfl),func215.trans (by kernel_rfl)⟩,f28:=func206.trans (by kernel_rfl),
   f29:=func207.trans (by kernel_rfl),f46:=⟨ "slices.siftDownCmpFunc[bitcast/arbor.Arc]",of_decide_eq_true (by kernel_rfl),func240.trans (by kernel_rfl)⟩,
   f47:=func236.trans (by kernel_rfl),f48:=func237.trans (by kernel_rfl),f49:=⟨ "slices.medianAdjacentCmpFunc[bitcast/arbor.Arc]",of_decide_eq_true (by kernel_rfl),
   func241.trans (by kernel_rfl)⟩,f50:=⟨ "slices.medianCmpFunc[bitcast/arbor.Arc]",of_decide_eq_true (by kernel_rfl),func242.trans (by kernel_rfl)⟩,
   f57:=⟨ "slices.order2CmpFunc[bitcast/arbor.Arc]",of_decide_eq_true (by kernel_rfl),func259.trans (by kernel_rfl)⟩,t0:=underlying0,a0:=isAgg0,z0:=sizeOf0,
   v0:=zeroValue0,t3:=underlying3,a3:=isAgg3,z3:=sizeOf3,v3:=zeroValue3,t4:=underlying4,a4:=isAgg4,z4:=sizeOf4,v4:=zeroValue4,
   t5:=underlying5,a5:=isAgg5,z5:=sizeOf5,v5:=zeroValue5,t9:=underlying9,a9:=isAgg9,z9:=sizeOf9,v9:=zeroValue9,t22:=underlying111,
   a22:=isAgg111,z22:=sizeOf111,v22:=zeroValue111,t25:=underlying177,a25:=isAgg177,z25:=sizeOf177,v25:=zeroValue177,t39:=underlying178,
   a39:=isAgg178,z39:=sizeOf178,v39:=zeroValue178,t45:=underlying245,a45:=isAgg245,z45:=sizeOf245,v45:=zeroValue245,t46:=underlying246,
   a46:=isAgg246,z46:=sizeOf246,v46:=zeroValue246,t50:=underlying89,a50:=isAgg89,z50:=sizeOf89,v50:=zeroValue89,t53:=underlying252,
   a53:=isAgg252,z53:=sizeOf252,v53:=zeroValue252,t55:=underlying254,a55:=isAgg254,z55:=sizeOf254,v55:=zeroValue254,t66:=underlying272,
   a66:=isAgg272,z66:=sizeOf272,v66:=zeroValue272,t70:=underlying276,a70:=isAgg276,z70:=sizeOf276,v70:=zeroValue276,t76:=underlying289,
   a76:=isAgg289,z76:=sizeOf289,v76:=zeroValue289,t77:=underlying290,a77:=isAgg290,z77:=sizeOf290,v77:=zeroValue290}
def Dn(x:bQ):dQ:=[.int .i64 x.Hop.br,.int .i64 x.Hop.bh,.int .i64 x.dn]
def akN(I:bG)(x:bQ)(vs:dQ):ds I (ey.enc x) vs↔vs=Dn x:=by
 show ds I [.int .i64 x.Hop.br,.int .i64 x.Hop.bh,.int .i64 x.dn] vs↔vs=_;simp only[ds,bm];constructor
 ·rintro⟨_,_,rfl,rfl,⟨_,_,rfl,rfl,⟨_,_,rfl,rfl,rfl⟩⟩⟩;rfl
 ·rintro rfl;exact⟨_,_,rfl,rfl,⟨_,_,rfl,rfl,⟨_,_,rfl,rfl,rfl⟩⟩⟩
def akO(I:bG)(β:Nat→Value)(x:bQ):b8 I β (ey.enc x) (Dn x):=by
 show b8 I β [.int .i64 x.Hop.br,.int .i64 x.Hop.bh,.int .i64 x.dn] _;simp only[b8,aC,bm];exact⟨_,_,rfl,rfl,⟨_,_,rfl,rfl,⟨_,_,rfl,rfl,rfl⟩⟩⟩
def akP(x:bQ):∀v∈Dn x,v.oneCell'=true:=by
 intro v aa;simp only[Dn,List.mem_cons,List.not_mem_nil,or_false]at aa;rcases aa with rfl|rfl|rfl<;>rfl
def akQ(a b:bQ):JH a b=some (fC [λx:bQ=>x.Hop.br,λx:bQ=>x.Hop.bh] a b):=by
 unfold JH tI;simp only[GJ,A4,fC];rcases Int.lt_trichotomy a.Hop.br b.Hop.br with bJ|bJ|bJ<;>rcases Int.lt_trichotomy a.Hop.bh b.Hop.bh with h1|h1|h1<;>simp[aM,eE,bJ,h1]<;>(repeat (first|rw[if_neg (by omega)]|rw[if_pos (by omega)]))<;>simp
def aec:G4 prog 127 128 Dn 3 (fC [λx:bQ=>x.Hop.br,λx:bQ=>x.Hop.bh]):=λcb off aV d w nn U Z=>
 AnyQ.slices_SortFunc awm 3 isAgg175 sizeOf175 Dn (λ_=>rfl) akP _ (Kv _) 128 #[] cb off aV d w (enters_of func128 (by kernel_rfl) rfl)
  (JQ akO (λx y=>ZI (akQ x y)) cb off d.size w) nn U Z
def acK{d:Nat}{zs bF:wu}(h:l2 (fC [λx:bQ=>x.Hop.br,λx:bQ=>x.Hop.bh]) zs=some bF):eT prog 127 [(d,.slice T 3 (ar ey zs) 0 false)] [.own d,.fn 128 []] (λr aH=>r=.c5 []∧aH=[(d,.slice T 3 (ar ey bF) 0 false)]):=
 Kb akN (by decide) (λ_=>rfl) (λ_=>rfl) (xc _) aec (λp aV wQ w=>AnyF.slices_SortFunc_none awm p aV wQ w) h
def awB:Shelf.Ren:=
 {  f:=λx=>match x with|6=>188|15=>178|14=>232|28=>206|29=>207|20=>249|21=>250|22=>251|23=>252|24=>253|25=>254|26=>255|27=>256|46=>262|47=>236|48=>237|49=>263|50=>264|57=>265|n=>n,t:=λx=>match x with|22=>234|24=>237|25=>239|3=>3|39=>178|0=>0|53=>252|55=>254|4=>4|46=>246|45=>245|50=>89|5=>5|9=>9|66=>272|70=>276|76=>289|77=>290|n=>n,g:=λn=>n}
def awn:SlLaysF0.n6 prog awB:=
  {mixed:=by kernel_rfl,f6:=⟨ "slices.SortFunc[[]bitcast/shortest.step,bitcast/shortest.step]",of_decide_eq_true (by kernel_rfl),func188.trans (by kernel_rfl)⟩,
   f14:=⟨ "slices.pdqsortCmpFunc[bitcast/shortest.step]",of_decide_eq_true (by kernel_rfl),func232.trans (by kernel_rfl)⟩,f15:=func178.trans (by kernel_rfl),
   f20:=⟨ "slices.insertionSortCmpFunc[bitcast/shortest.step]",of_decide_eq_true (by kernel_rfl),func249.trans (by kernel_rfl)⟩,f21:=⟨ "slices.heapSortCmpFunc[bitcast/shortest.step]",
   of_decide_eq_true (by kernel_rfl),func250.trans (by kernel_rfl)⟩,f22:=⟨ "slices.breakPatternsCmpFunc[bitcast/shortest.step]",of_decide_eq_true (by kernel_rfl),
   func251.trans (by kernel_rfl)⟩,f23:=⟨ "slices.choosePivotCmpFunc[bitcast/shortest.step]",of_decide_eq_true (by kernel_rfl),func252.trans (by kernel_rfl)⟩,
   f24:=⟨ "slices.reverseRangeCmpFunc[bitcast/shortest.step]",of_decide_eq_true (by kernel_rfl),func253.trans (by kernel_rfl)⟩,
   f25:=⟨ "slices.partialInsertionSortCmpFunc[bitcast/shortest.step]",of_decide_eq_true (by kernel_rfl),func254.trans (by kernel_rfl)⟩,
   f26:=⟨ "slices.partitionEqualCmpFunc[bitcast/shortest.step]",of_decide_eq_true (by kernel_rfl),func255.trans (by kernel_rfl)⟩,f27:=⟨ "slices.partitionCmpFunc[bitcast/shortest.step]",
   of_decide_eq_true (by kernel_rfl),func256.trans (by kernel_rfl)⟩,f28:=func206.trans (by kernel_rfl),f29:=func207.trans (by kernel_rfl),
   f46:=⟨ "slices.siftDownCmpFunc[bitcast/shortest.step]",of_decide_eq_true (by kernel_rfl),func262.trans (by kernel_rfl)⟩,f47:=func236.trans (by kernel_rfl),
   f48:=func237.trans (by kernel_rfl),f49:=⟨ "slices.medianAdjacentCmpFunc[bitcast/shortest.step]",of_decide_eq_true (by kernel_rfl),func263.trans (by kernel_rfl)⟩,
   f50:=⟨ "slices.medianCmpFunc[bitcast/shortest.step]",of_decide_eq_true (by kernel_rfl),func264.trans (by kernel_rfl)⟩,f57:=⟨ "slices.order2CmpFunc[bitcast/shortest.step]",
   of_decide_eq_true (by kernel_rfl),func265.trans (by kernel_rfl)⟩,t0:=underlying0,a0:=isAgg0,z0:=sizeOf0,v0:=zeroValue0,t3:=underlying3,a3:=isAgg3,
   z3:=sizeOf3,v3:=zeroValue3,t4:=underlying4,a4:=isAgg4,z4:=sizeOf4,v4:=zeroValue4,t5:=underlying5,a5:=isAgg5,z5:=sizeOf5,
   v5:=zeroValue5,t9:=underlying9,a9:=isAgg9,z9:=sizeOf9,v9:=zeroValue9,t22:=underlying234,a22:=isAgg234,z22:=sizeOf234,v22:=zeroValue234,
   t25:=underlying239,a25:=isAgg239,z25:=sizeOf239,v25:=zeroValue239,t39:=underlying178,a39:=isAgg178,z39:=sizeOf178,v39:=zeroValue178,
   t45:=underlying245,a45:=isAgg245,z45:=sizeOf245,v45:=zeroValue245,t46:=underlying246,a46:=isAgg246,z46:=sizeOf246,v46:=zeroValue246,
   t50:=underlying89,a50:=isAgg89,z50:=sizeOf89,v50:=zeroValue89,t53:=underlying252,a53:=isAgg252,z53:=sizeOf252,v53:=zeroValue252,
   t55:=underlying254,a55:=isAgg254,z55:=sizeOf254,v55:=zeroValue254,t66:=underlying272,a66:=isAgg272,z66:=sizeOf272,v66:=zeroValue272,
   t70:=underlying276,a70:=isAgg276,z70:=sizeOf276,v70:=zeroValue276,t76:=underlying289,a76:=isAgg289,z76:=sizeOf289,v76:=zeroValue289,
   t77:=underlying290,a77:=isAgg290,z77:=sizeOf290,v77:=zeroValue290}
def Dp(x:eP):dQ:=[.int .i64 x.fV,.int .i64 x.kF]
def akR(I:bG)(x:eP)(vs:dQ):ds I (eS.enc x) vs↔vs=Dp x:=by
 show ds I [.int .i64 x.fV,.int .i64 x.kF] vs↔vs=_;simp only[ds,bm];constructor
 ·rintro⟨_,_,rfl,rfl,⟨_,_,rfl,rfl,rfl⟩⟩;rfl
 ·rintro rfl;exact⟨_,_,rfl,rfl,⟨_,_,rfl,rfl,rfl⟩⟩
def akS(I:bG)(β:Nat→Value)(x:eP):b8 I β (eS.enc x) (Dp x):=by
 show b8 I β [.int .i64 x.fV,.int .i64 x.kF] _;simp only[b8,aC,bm];exact⟨_,_,rfl,rfl,⟨_,_,rfl,rfl,rfl⟩⟩
def akT(x:eP):∀v∈Dp x,v.oneCell'=true:=by
 intro v aa;simp only[Dp,List.mem_cons,List.not_mem_nil,or_false]at aa;rcases aa with rfl|rfl<;>rfl
def akU(a b:eP):Je a b=some (fC [λx:eP=>x.fV] a b):=by
 unfold Je;simp only[GJ];unfold A4 fC;simp only[aM,fC]
def aed:G4 prog 188 189 Dp 2 (fC [λx:eP=>x.fV]):=λcb off aV d w nn U Z=>
 AnyQ.slices_SortFunc awn 2 isAgg237 sizeOf237 Dp (λ_=>rfl) akT _ (Kv _) 189 #[] cb off aV d w (enters_of func189 (by kernel_rfl) rfl)
  (JQ akS (λx y=>aqx (akU x y)) cb off d.size w) nn U Z
def acM{d:Nat}{zs bF:yH}(h:l2 (fC [λx:eP=>x.fV]) zs=some bF):eT prog 188 [(d,.slice T 2 (ar eS zs) 0 false)] [.own d,.fn 189 []] (λr aH=>r=.c5 []∧aH=[(d,.slice T 2 (ar eS bF) 0 false)]):=
 Kb akR (by decide) (λ_=>rfl) (λ_=>rfl) (xc _) aed (λp aV wQ w=>AnyF.slices_SortFunc_none awn p aV wQ w) h
end
section
open Go Go.Proofs.Tryz List
set_option maxRecDepth 100000
set_option linter.all false
def OJ{t:bz}{r:(wu)}(hm:AD t=some r):eT prog 64 [] [.agg (cn t)] (λa aH=>a=.own 31∧aH=[(31,.slice 175 3 (ar ey r) 0 false)]):=by
 refine dN func64 rfl rfl ?_;unfold AD at hm;refine bl [(0,.al 134)] [(1,.ptr 134 0)] [(134,.cells 28 (cn t))]<|aW [] [] [(3,.c6)]<|A.seq<|et [(2,aN (dZ fe t.Links))] [1] [(7,bC fe t.Links),(8,Y t.Links.length),(9,Y 0)] [134] []<|A.block<|avJ 7 rfl λfu=>?_
 obtain⟨gU,gV,gK,gL,hm⟩:=hJ hm;refine avD (l:=t.Links) (gC:=0) (B:=gU) (K:=gV) hm (λa1=>λe6=>[(3,.own 600064003),(7,bC fe t.Links),(8,Y t.Links.length),(9,Y a1)]) (λa1=>λe6=>[(600064003,.slice 175 3 (ar ey e6) 0 false)]) ?_ ?_ ?_
 ·exact jx [.ad 3 600064003 175 3] []
 ·rintro a1 aK cI e6 gM cr hm;rw[gK]at hm;refine aW [] [] [(10,.d ((a1:Int)<t.Links.length))]<|A.seq<|bX (hv cr)<|A.skip<|A.seq<|A.block<|et [(0,c8 (ix fe (fS cr))),(2,.al 171)] [10] [(5,.ptr 171 0)] [] [(171,.cells 62 (gy aK))] ?_
  obtain⟨cv,h1,hm⟩:=bo hm;exact jl [(18,l3 122 (ap ey (bytes:=24) (by decide) h1))] [3,5] [(3,.own 122)] [600064003,171] [(122,.slice 175 3 (ar ey cv) 0 false)]<|dF [(0,aN (hg cr fu))] [9] [(9,Y ((a1+1:Nat):Int))]<|Exists.intro cv (And.intro hm (jx [.kz 122 600064003] []))
 rintro a1 e6 gM fv hm;rw[gL]at hm;refine aW [] [] [(10,.d ((a1:Int)<t.Links.length))]<|A.seq<|bW (ht fv)<|A.exit ?_
 obtain⟨fB,D,hm⟩:=bo hm;refine bl [(1,fq [] (acK (d:=600064003) (T:=175) D) ajJ)] [(3,.own 600064003)] [(600064003,.slice 175 3 (ar ey fB) 0 false)]<|aW [] [3] [(2,.own 600064003)]<|A.ret ?_
 obtain rfl:=jN hm;exact avC bN [.kz 600064003 31] rfl (by kernel_rfl)
end
section
open Go Go.Proofs.Tryz List
set_option maxRecDepth 100000
set_option linter.all false
variable {r:Bool}
def IW{l:cO}(hm:zO l=some r):dR prog 74 [] [bC aB l] (.bool r):=by
 refine dN func74 rfl rfl ?_;unfold zO at hm;refine bl [] [(0,bC aB l)] []<|A.seq<|aW [] [] [(3,Y 1)]<|A.block<|avJ 0 rfl λfu=>?_
 obtain⟨gU,gV,gK,gL,hm⟩:=hJ hm;refine avD (l:=l) (gC:=1) (B:=gU) (K:=gV) hm (λa1=>λ()=>[(0,bC aB l),(3,Y a1)]) (λa1=>λ()=>[]) ?_ ?_ ?_
 ·exact fN
 ·rintro a1 aK cI ⟨⟩ gM cr hm;rw[gK]at hm;refine A.seq<|aW [(2,aN (dZ aB l))] [] [(7,.d ((a1:Int)<l.length))] ?_
  refine bX (hv cr)<|A.skip<|A.seq<|A.block ?_
  obtain⟨dJ,h1,hm⟩:=bo hm;refine aW [(3,c8 (ix aB h1)),(7,c8 (ix aB (fS cr)))] [7] [(19,.d (aK≤dJ))] ?_;rcases cg hm with⟨bk,hm⟩|⟨bk,hm⟩
  ·refine bX bk<|bl [] [(2,.bool false)] [] ?_
   cases hm;exact A.ret cM
  exact bW bk<|A.skip<|dF [(1,aN (hg cr fu))] [3,19] [(3,Y ((a1+1:Nat):Int))]<|cF () hm
 rintro a1 ⟨⟩ gM fv hm;rw[gL]at hm;refine A.seq<|aW [(2,aN (dZ aB l))] [] [(7,.d ((a1:Int)<l.length))] ?_
 refine bW (ht fv)<|A.exit<|bl [] [(2,.bool true)] [] ?_
 cases hm;exact A.ret cM
variable {eL:cO}{root:Int}{t:bz}
def Jo{r:Int}(hm:ya t root eL=some r):dR prog 62 [] [.agg (cn t),Y root,bC aB eL] (Y r):=by
 refine dN func62 rfl rfl ?_;unfold ya at hm;refine bl [(0,.al 69)] [(1,Y root),(2,bC aB eL),(3,.ptr 69 0)] [(69,.cells 28 (cn t))]<|A.seq ?_
 obtain⟨aD,h1,hm⟩:=bo hm;refine aW [(1,ch (Ja h1) HS)] [] [(11,.bool (!decide (aD=0)))] ?_;rcases cg hm with⟨bk,hm⟩|⟨bk,hm⟩
 ·refine bX bk<|bl [] [(6,Y 1)] [] ?_
  cases hm;exact A.ret cM
 refine bW bk<|A.skip<|A.seq ?_
 obtain⟨bB,D,hm⟩:=bo hm;refine aW [(1,ch (IW D) HT)] [11] [(14,.bool (!bB))] ?_;rcases cg hm with⟨bK,hm⟩|⟨bK,hm⟩
 ·refine bX bK<|bl [] [(6,Y 25)] [] ?_
  cases hm;exact A.ret cM
 refine bW bK<|A.skip<|A.seq ?_
 obtain⟨cv,aq,hm⟩:=bo hm;refine et [(1,.al 62016),(3,l3 78 (ap aB (bytes:=8) (by decide) aq)),(4,aN (dZ aB cv))] [1,2,14] [(18,.own 78),(19,Y cv.length),(20,Y 0)] [] [(78,.slice 3 1 (ar aB cv) 0 false)]<|A.block<|awb 18 rfl rfl λfu=>?_
 obtain⟨gU,gV,gK,gL,hm⟩:=hJ hm;refine avD (l:=cv) (gC:=0) (B:=gU) (K:=gV) hm (λa1=>λ()=>[(3,.ptr 69 0),(18,.own 78),(19,Y cv.length),(20,Y a1)]) (λa1=>λ()=>[(69,.cells 28 (cn t)),(78,.slice 3 1 (ar aB cv) 0 false)]) ?_ ?_ ?_
 ·exact fN
 ·rintro a1 aK cI ⟨⟩ gM cr hm;rw[gK]at hm;refine aW [] [] [(21,.d ((a1:Int)<cv.length))]<|A.seq<|bX (hv cr)<|A.skip<|A.seq<|A.block<|aW [(0,c8 (ix aB (fS cr))),(1,hf 78 0 (ix aB (fS cr)))] [21] [(8,Y aK)] ?_
  obtain⟨cm,aZ,hm⟩:=bo hm;refine aW [(2,ch (On aZ) Mv)] [8] [(27,.bool (!cm))] ?_;rcases cg hm with⟨cq,hm⟩|⟨cq,hm⟩
  ·refine bX cq<|bl [] [(6,Y 4)] [] ?_
   cases hm;exact A.ret cM
  exact bW cq<|A.skip<|dF [(0,aN (hg cr fu))] [20,27] [(20,Y ((a1+1:Nat):Int))]<|cF () hm
 rintro a1 ⟨⟩ gM fv hm;rw[gL]at hm;refine aW [] [] [(21,.d ((a1:Int)<cv.length))]<|A.seq<|bW (ht fv)<|A.exit<|bl [] [(6,Y 0)] [] ?_
 cases hm;exact A.ret cM
variable {h3:g2}
def aqr{r:Int}(hm:Fq t h3 eL=some r):dR prog 20 [] [.agg (cn t),.agg (mG h3),bC aB eL] (Y r):=by
 refine dN func20 rfl rfl ?_;unfold Fq at hm;refine bl [(0,.al 43),(1,.al 41)] [(2,bC aB eL),(3,.ptr 43 0),(4,.ptr 41 0)] [(43,.cells 28 (cn t)),(41,.cells 36 (mG h3))]<|A.seq ?_
 obtain⟨aD,h1,hm⟩:=bo hm;refine aW [(1,ch (Ja h1) HS)] [] [(19,.bool (!decide (aD=0)))] ?_;rcases cg hm with⟨bk,hm⟩|⟨bk,hm⟩
 ·refine bX bk<|bl [] [(6,Y 1)] [] ?_
  cases hm;exact A.ret cM
 refine bW bk<|A.skip<|A.seq ?_
 obtain⟨bB,D,hm⟩:=bo hm;refine aW [(1,ch (XZ D) Wy)] [19] [(7,Y bB)]<|aW [] [] [(23,.bool (!decide (bB=0)))] ?_
 rcases cg hm with⟨bK,hm⟩|⟨bK,hm⟩
 ·refine bX bK<|bl [] [(6,Y bB)] [] ?_
  cases hm;exact A.ret cM
 refine bW bK<|A.skip<|A.seq ?_
 obtain⟨cv,aq,hm⟩:=bo hm;refine et [(2,.al 20027),(4,l3 76 (ap aB (bytes:=8) (by decide) aq)),(5,aN (dZ aB cv))] [7,23] [(29,.own 76),(30,Y cv.length),(31,Y 0)] [] [(76,.slice 3 1 (ar aB cv) 0 false)]<|A.block<|awb 29 rfl rfl λfu=>?_
 obtain⟨gU,gV,gK,gL,hm⟩:=hJ hm;refine avD (l:=cv) (gC:=0) (B:=gU) (K:=gV) hm (λa1=>λ()=>[(2,bC aB eL),(3,.ptr 43 0),(4,.ptr 41 0),(29,.own 76),(30,Y cv.length),(31,Y a1)]) (λa1=>λ()=>[(43,.cells 28 (cn t)),(41,.cells 36 (mG h3)),(76,.slice 3 1 (ar aB cv) 0 false)]) ?_ ?_ ?_
 ·exact fN
 ·rintro a1 aK cI ⟨⟩ gM cr hm;rw[gK]at hm;refine aW [] [] [(32,.d ((a1:Int)<cv.length))]<|A.seq<|bX (hv cr)<|A.skip<|A.seq<|A.block<|aW [(0,c8 (ix aB (fS cr))),(1,hf 76 0 (ix aB (fS cr)))] [32] [(9,Y aK)] ?_
  obtain⟨cm,aZ,hm⟩:=bo hm;refine aW [(2,ch (On aZ) Mv)] [9] [(38,.bool (!cm))] ?_;rcases cg hm with⟨cq,hm⟩|⟨cq,hm⟩
  ·refine bX cq<|bl [] [(6,Y 4)] [] ?_
   cases hm;exact A.ret cM
  exact bW cq<|A.skip<|dF [(0,aN (hg cr fu))] [31,38] [(31,Y ((a1+1:Nat):Int))]<|cF () hm
 rintro a1 ⟨⟩ gM fv hm;rw[gL]at hm;refine aW [] [] [(32,.d ((a1:Int)<cv.length))]<|A.seq<|bW (ht fv)<|A.exit<|A.seq<|et [(2,aN (dZ eY h3.Links))] [29,30,31,32] [(41,bC eY h3.Links),(42,Y h3.Links.length),(43,Y 0)] [76] []<|A.block<|avJ 41 rfl λeO=>?_
 obtain⟨k8,jm,ll,lz,hm⟩:=hJ hm;refine avD (l:=h3.Links) (gC:=0) (B:=k8) (K:=jm) hm (λcf=>λ()=>[(2,bC aB eL),(3,.ptr 43 0),(4,.ptr 41 0),(41,bC eY h3.Links),(42,Y h3.Links.length),(43,Y cf)]) (λcf=>λ()=>[(43,.cells 28 (cn t)),(41,.cells 36 (mG h3))]) ?_ ?_ ?_
 ·exact fN
 ·rintro cf e2 gn ⟨⟩ jb eW hm;rw[ll]at hm;refine aW [] [] [(44,.d ((cf:Int)<h3.Links.length))]<|A.seq<|bX (hv eW)<|A.skip<|A.seq<|A.block<|et [(0,c8 (ix eY (fS eW))),(2,.al 167)] [44] [(11,.ptr 167 0)] [] [(167,.cells 84 (mb e2))] ?_
  obtain⟨bZ,bV,hm⟩:=bo hm;refine et [(5,ch (Ya bV) Wx)] [11] [(13,.bool bZ.2)] [167] []<|aW [] [13] [(57,.bool (!bZ.2))] ?_
  rcases cg hm with⟨en,hm⟩|⟨en,hm⟩
  ·refine bX en<|bl [] [(6,Y 4)] [] ?_
   cases hm;exact A.ret cM
  exact bW en<|A.skip<|dF [(0,aN (hg eW eO))] [43,57] [(43,Y ((cf+1:Nat):Int))]<|cF () hm
 rintro cf ⟨⟩ jb jE hm;rw[lz]at hm;refine aW [] [] [(44,.d ((cf:Int)<h3.Links.length))]<|A.seq<|bW (ht jE)<|A.exit<|A.seq ?_
 obtain⟨gJ,dU,hm⟩:=bo hm;refine et [(1,ch (IW dU) HT)] [3,41,42,43,44] [(61,.bool (!gJ))] [43] [] ?_;rcases cg hm with⟨fK,hm⟩|⟨fK,hm⟩
 ·refine bX fK<|bl [] [(6,Y 25)] [] ?_
  cases hm;exact A.ret cM
 refine bW fK<|A.skip ?_
 obtain⟨eG,eR,hm⟩:=bo hm;refine et [(1,ch (aqq eR) alv)] [4,61] [(14,bC aB eG)] [41] []<|A.seq<|aW [(1,aN (dZ aB eL))] [2] [(64,bC aB eL),(65,Y eL.length),(66,Y 0)]<|A.block<|avJ 64 rfl λp0=>?_
 obtain⟨sp,sr,sE,sF,hm⟩:=hJ hm;refine avD (l:=eL) (gC:=0) (B:=sp) (K:=sr) hm (λe4=>λ()=>[(14,bC aB eG),(64,bC aB eL),(65,Y eL.length),(66,Y e4)]) (λe4=>λ()=>[]) ?_ ?_ ?_
 ·exact fN
 ·rintro e4 dj lV ⟨⟩ py lC hm;rw[sE]at hm;refine aW [] [] [(67,.d ((e4:Int)<eL.length))]<|A.seq<|bX (hv lC)<|A.skip<|A.seq<|A.block<|aW [(0,c8 (ix aB (fS lC)))] [67] [(16,Y dj)] ?_
  obtain⟨gR,jS,hm⟩:=bo hm;refine aW [(2,ch (B3 jS) BB)] [16] [(73,.bool (!gR))] ?_;rcases cg hm with⟨hj,hm⟩|⟨hj,hm⟩
  ·refine bX hj<|bl [] [(6,Y 9)] [] ?_
   cases hm;exact A.ret cM
  exact bW hj<|A.skip<|dF [(0,aN (hg lC p0))] [66,73] [(66,Y ((e4+1:Nat):Int))]<|cF () hm
 rintro e4 ⟨⟩ py np hm;rw[sF]at hm;refine aW [] [] [(67,.d ((e4:Int)<eL.length))]<|A.seq<|bW (ht np)<|A.exit<|bl [] [(6,Y 0)] [] ?_
 cases hm;exact A.ret cM
def aq6{r:Int×Int}(hm:FK t h3=some r):dR prog 19 [] [.agg (cn t),.agg (mG h3)] (.c5 [Y r.1,Y r.2]):=by
 refine dN func19 rfl rfl ?_;unfold FK at hm;refine bl [(0,.al 57),(1,.al 100)] [(2,.ptr 57 0),(3,.ptr 100 0)] [(57,.cells 28 (cn t)),(100,.cells 36 (mG h3))]<|A.seq ?_
 obtain⟨aD,h1,hm⟩:=bo hm;refine aW [(2,ch (aqr h1) ali)] [] [(6,Y aD)]<|aW [] [] [(16,.bool (!decide (aD=0)))] ?_
 rcases cg hm with⟨bk,hm⟩|⟨bk,hm⟩
 ·refine bX bk<|bl [] [(4,Y 0),(5,Y aD)] [] ?_
  cases hm;exact A.ret cM
 refine bW bk<|A.skip<|aW [] [6,16] [(7,Y 0)]<|A.seq<|et [(2,aN (dZ eY h3.Links))] [3] [(19,bC eY h3.Links),(20,Y h3.Links.length),(21,Y 0)] [100] []<|A.block<|avJ 19 rfl λfu=>?_
 obtain⟨gU,gV,gK,gL,hm⟩:=hJ hm;refine avD (l:=h3.Links) (gC:=0) (B:=gU) (K:=gV) hm (λa1=>λjB=>[(2,.ptr 57 0),(7,Y jB),(19,bC eY h3.Links),(20,Y h3.Links.length),(21,Y a1)]) (λa1=>λjB=>[(57,.cells 28 (cn t))]) ?_ ?_ ?_
 ·exact fN
 ·rintro a1 aK cI jB gM cr hm;rw[gK]at hm;refine aW [] [] [(22,.d ((a1:Int)<h3.Links.length))]<|A.seq<|bX (hv cr)<|A.skip<|A.seq<|A.block<|et [(0,c8 (ix eY (fS cr))),(2,.al 166)] [22] [(9,.ptr 166 0)] [] [(166,.cells 84 (mb aK))] ?_
  obtain⟨bB,D,hm⟩:=bo hm;exact et [(5,ch (Ya D) Wx)] [9] [(10,Y bB.1)] [166] []<|dF [] [7,10] [(7,Y (aG (jB+bB.1)))]<|dF [(0,aN (hg cr fu))] [21] [(21,Y ((a1+1:Nat):Int))]<|cF (aG (jB+bB.1)) hm
 rintro a1 jB gM fv hm;rw[gL]at hm;refine aW [] [] [(22,.d ((a1:Int)<h3.Links.length))]<|A.seq<|bW (ht fv)<|A.exit<|bl [] [(4,Y jB),(5,Y 0)] [] ?_
 cases hm;exact A.ret cM
def aqs{qm:Int}{lX:cu}(hm:Jb qm lX=some r):dR prog 171 [] [Y qm,.gq (xe lX)] (.bool r):=by
 refine dN func171 rfl rfl ?_;unfold Jb at hm;refine bl [] [(0,Y qm),(1,.gq (xe lX))] [] ?_;obtain⟨aD,h1,hm⟩:=bo hm;refine bl [(3,ch (B3 h1) BB)] [(3,.bool aD)] [] ?_;cases hm;exact A.ret cM
variable {l:wz}
def aqy(hm:Fy t root eL l=some r):dR prog 108 [] [.agg (cn t),Y root,bC aB eL,bC cQ l] (.bool r):=by
 refine dN func108 rfl rfl ?_;unfold Fy at hm;refine bl [(0,.al 38)] [(1,Y root),(2,bC aB eL),(3,bC cQ l),(4,.ptr 38 0)] [(38,.cells 28 (cn t))]<|A.seq<|aW [(1,aN (dZ cQ l))] [] [(20,.d (200<(l.length:Int)))] ?_
 rcases cg hm with⟨bk,hm⟩|⟨bk,hm⟩
 ·refine bX bk<|bl [] [(8,.bool false)] [] ?_
  cases hm;exact A.ret cM
 refine bW bk<|A.skip<|A.seq<|aW [(1,aN (dZ cQ l))] [20] [(21,bC cQ l),(22,Y l.length),(23,Y 0)]<|A.block<|avJ 3 rfl λfu=>?_
 obtain⟨gU,gV,gK,gL,hm⟩:=hJ hm;refine avD (l:=l) (gC:=0) (B:=gU) (K:=gV) hm (λa1=>λ()=>[(1,Y root),(2,bC aB eL),(3,bC cQ l),(4,.ptr 38 0),(21,bC cQ l),(22,Y l.length),(23,Y a1)]) (λa1=>λ()=>[(38,.cells 28 (cn t))]) ?_ ?_ ?_
 ·exact fN
 ·rintro a1 aK cI ⟨⟩ gM cr hm;rw[gK]at hm;refine aW [] [] [(24,.d ((a1:Int)<l.length))]<|A.seq<|bX (hv cr)<|A.skip<|A.seq<|A.block<|et [(0,c8 (ix cQ (fS cr))),(2,.al 52)] [24] [(10,.ptr 52 0)] [] [(52,.cells 120 (xe aK))]<|A.seq ?_
  obtain⟨dK,iH,hm⟩:=jd hm;refine A.J (J:=dK) (r:=r) (λfx=>[(1,Y root),(2,bC aB eL),(3,bC cQ l),(4,.ptr 38 0),(10,.ptr 52 0),(21,bC cQ l),(22,Y l.length),(23,Y a1),(46,.bool fx)]) (λfx=>[(38,.cells 28 (cn t)),(52,.cells 120 (xe aK))]) ?_ ?_
  ·rcases cg hm with⟨bK,hm⟩|⟨bK,hm⟩
   ·exact dF [(3,aN (cK bK))] [] [(46,.bool true)]<|cF true hm
   rcases cg hm with⟨cq,hm⟩|⟨cq,hm⟩
   ·exact dF [(3,aN (cK bK)),(8,aN (cK cq))] [] [(46,.bool true)]<|cF true hm
   obtain⟨aD,h1,hm⟩:=bo hm;rcases cg hm with⟨en,hm⟩|⟨en,hm⟩
   ·exact dF [(3,aN (cK bK)),(8,aN (cK cq)),(11,ch (IW h1) HT),(14,aN (cK en))] [] [(46,.bool true)]<|cF true hm
   obtain⟨bB,D,hm⟩:=bo hm;exact dF [(3,aN (cK bK)),(8,aN (cK cq)),(11,ch (IW h1) HT),(14,aN (cK en)),(18,ch (B3 D) BB)] [] [(46,.bool bB)]<|cF bB hm
  rintro fx hm;rw[iH]at hm;rcases cg hm with⟨fK,hm⟩|⟨fK,hm⟩
  ·refine bX fK<|bl [] [(8,.bool false)] [] ?_
   cases hm;exact A.ret cM
  refine bW fK<|A.skip<|A.seq<|aW [(2,aN (dZ aB aK.bx))] [46] [(48,bC aB aK.bx),(49,Y aK.bx.length),(50,Y 0)]<|A.block<|avJ 48 rfl λeO=>?_
  obtain⟨k8,jm,ll,lz,hm⟩:=hJ hm;refine avD (l:=aK.bx) (gC:=0) (B:=k8) (K:=jm) hm (λcf=>λ()=>[(1,Y root),(2,bC aB eL),(3,bC cQ l),(4,.ptr 38 0),(10,.ptr 52 0),(21,bC cQ l),(22,Y l.length),(23,Y a1),(48,bC aB aK.bx),(49,Y aK.bx.length),(50,Y cf)]) (λcf=>λ()=>[(38,.cells 28 (cn t)),(52,.cells 120 (xe aK))]) ?_ ?_ ?_
  ·exact fN
  ·rintro cf e2 gn ⟨⟩ jb eW hm;rw[ll]at hm;refine aW [] [] [(51,.d ((cf:Int)<aK.bx.length))]<|A.seq<|bX (hv eW)<|A.skip<|A.seq<|A.block<|aW [(0,c8 (ix aB (fS eW)))] [51] [(12,Y e2)] ?_
   obtain⟨cm,aq,hm⟩:=bo hm;refine aW [(2,ch (On aq) Mv)] [12] [(57,.bool (!cm))] ?_;rcases cg hm with⟨hj,hm⟩|⟨hj,hm⟩
   ·refine bX hj<|bl [] [(8,.bool false)] [] ?_
    cases hm;exact A.ret cM
   exact bW hj<|A.skip<|dF [(0,aN (hg eW eO))] [50,57] [(50,Y ((cf+1:Nat):Int))]<|cF () hm
  rintro cf ⟨⟩ jb jE hm;rw[lz]at hm;refine aW [] [] [(51,.d ((cf:Int)<aK.bx.length))]<|A.seq<|bW (ht jE)<|A.exit ?_
  obtain⟨bZ,aZ,hm⟩:=bo hm;refine et [(2,hle [52] (aop (jL:=171) (kN:=[.gq (xe aK)]) (oP:=ajt) (oO:=λ_ _ h=>aqs h) aZ) ajs)] [10,48,49,50,51] [(62,.bool (!bZ))] [52] [] ?_;rcases cg hm with⟨jU,hm⟩|⟨jU,hm⟩
  ·refine bX jU<|bl [] [(8,.bool false)] [] ?_
   cases hm;exact A.ret cM
  exact bW jU<|A.skip<|dF [(0,aN (hg cr fu))] [23,62] [(23,Y ((a1+1:Nat):Int))]<|cF () hm
 rintro a1 ⟨⟩ gM fv hm;rw[gL]at hm;refine aW [] [] [(24,.d ((a1:Int)<l.length))]<|A.seq<|bW (ht fv)<|A.exit<|A.seq ?_
 obtain⟨gJ,bV,hm⟩:=bo hm;refine bl [(1,fq [31] (OJ bV) Mu),(2,aN (dZ ey gJ))] [(3,bC cQ l),(65,.own 31),(66,Y gJ.length),(67,Y 0)] [(31,.slice 175 3 (ar ey gJ) 0 false)]<|A.block<|awb 65 rfl rfl λp0=>?_
 obtain⟨sp,sr,sE,sF,hm⟩:=hJ hm;refine avD (l:=gJ) (gC:=0) (B:=sp) (K:=sr) hm (λe4=>λ()=>[(3,bC cQ l),(65,.own 31),(66,Y gJ.length),(67,Y e4)]) (λe4=>λ()=>[(31,.slice 175 3 (ar ey gJ) 0 false)]) ?_ ?_ ?_
 ·exact fN
 ·rintro e4 dj lV ⟨⟩ py lC hm;rw[sE]at hm;refine aW [] [] [(68,.d ((e4:Int)<gJ.length))]<|A.seq<|bX (hv lC)<|A.skip<|A.seq<|A.block<|et [(0,c8 (ix ey (fS lC))),(1,hf 31 0 (ix ey (fS lC))),(2,.al 53)] [68] [(14,.ptr 53 0)] [] [(53,.cells 175 (xd dj))]<|aW [] [] [(15,Y 0)]<|A.seq<|aW [(1,aN (dZ cQ l))] [] [(71,bC cQ l),(72,Y l.length),(73,Y 0)]<|A.block<|avJ 3 rfl λEZ=>?_
  obtain⟨D1,D4,EU,EY,hm⟩:=hJ hm;refine avD (l:=l) (gC:=0) (B:=D1) (K:=D4) hm (λkR=>λjB=>[(3,bC cQ l),(14,.ptr 53 0),(15,Y jB),(65,.own 31),(66,Y gJ.length),(67,Y e4),(71,bC cQ l),(72,Y l.length),(73,Y kR)]) (λkR=>λjB=>[(31,.slice 175 3 (ar ey gJ) 0 false),(53,.cells 175 (xd dj))]) ?_ ?_ ?_
  ·exact fN
  ·rintro kR fF rC jB E5 o2 hm;rw[EU]at hm;refine aW [] [] [(74,.d ((kR:Int)<l.length))]<|A.seq<|bX (hv o2)<|A.skip ?_
   obtain⟨gv,jt,hm⟩:=jd hm;refine A.J (J:=gv) (r:=r) (λDX=>[(3,bC cQ l),(14,.ptr 53 0),(15,Y DX),(65,.own 31),(66,Y gJ.length),(67,Y e4),(71,bC cQ l),(72,Y l.length),(73,Y kR)]) (λDX=>[(31,.slice 175 3 (ar ey gJ) 0 false),(53,.cells 175 (xd dj))]) ?_ ?_
   ·refine A.block<|et [(0,c8 (ix cQ (fS o2))),(2,.al 94)] [74] [(17,.ptr 94 0)] [] [(94,.cells 120 (xe fF))] ?_
    obtain⟨kV,ox,hm⟩:=jd hm;refine A.J (J:=kV) (r:=r) (λnE=>[(3,bC cQ l),(14,.ptr 53 0),(15,Y jB),(17,.ptr 94 0),(65,.own 31),(66,Y gJ.length),(67,Y e4),(71,bC cQ l),(72,Y l.length),(73,Y kR),(91,.bool nE)]) (λnE=>[(31,.slice 175 3 (ar ey gJ) 0 false),(53,.cells 175 (xd dj)),(94,.cells 120 (xe fF))]) ?_ ?_
    ·obtain⟨eG,dU,hm⟩:=bo hm;rcases cg hm with⟨lI,hm⟩|⟨lI,hm⟩
     ·obtain⟨gR,eR,hm⟩:=bo hm;exact dF [(5,ch (B3 dU) BB),(6,aN (cK lI)),(12,ch (B3 eR) BB)] [] [(91,.bool (!gR))]<|cF (!gR) hm
     exact dF [(5,ch (B3 dU) BB),(6,aN (cK lI))] [] [(91,.bool false)]<|cF false hm
    rintro nE hm;rw[ox]at hm;rcases cg hm with⟨lW,hm⟩|⟨lW,hm⟩
    ·exact bX lW<|jl [] [15,17,91] [(15,Y (aG (jB+fF.Value)))] [94] []<|cF (aG (jB+fF.Value)) hm
    exact bW lW<|A.skip<|cF jB hm
   rintro DX hm;rw[jt]at hm;exact dF [(0,aN (hg o2 EZ))] [73] [(73,Y ((kR+1:Nat):Int))]<|cF DX hm
  rintro kR jB E5 Cq hm;rw[EY]at hm;refine aW [] [] [(74,.d ((kR:Int)<l.length))]<|A.seq<|bW (ht Cq)<|A.exit<|et [] [14,15,71,72,73,74] [(100,.d (dj.dn<jB))] [53] [] ?_
  rcases cg hm with⟨mw,hm⟩|⟨mw,hm⟩
  ·refine bX mw<|bl [] [(8,.bool false)] [] ?_
   cases hm;exact A.ret cM
  exact bW mw<|A.skip<|dF [(0,aN (hg lC p0))] [67,100] [(67,Y ((e4+1:Nat):Int))]<|cF () hm
 rintro e4 ⟨⟩ py np hm;rw[sF]at hm;refine aW [] [] [(68,.d ((e4:Int)<gJ.length))]<|A.seq<|bW (ht np)<|A.exit<|bl [] [(8,.bool true)] [] ?_
 cases hm;exact A.ret cM
def N9{r:Int×Int}(hm:x8 t root eL l=some r):dR prog 48 [] [.agg (cn t),Y root,bC aB eL,bC cQ l] (.c5 [Y r.1,Y r.2]):=by
 refine dN func48 rfl rfl ?_;unfold x8 at hm;refine bl [(0,.al 110)] [(1,Y root),(2,bC aB eL),(3,bC cQ l),(4,.ptr 110 0)] [(110,.cells 28 (cn t))]<|A.seq ?_
 obtain⟨aD,h1,hm⟩:=bo hm;refine aW [(3,ch (Jo h1) HR)] [] [(10,Y aD)]<|aW [] [] [(19,.bool (!decide (aD=0)))] ?_
 rcases cg hm with⟨bk,hm⟩|⟨bk,hm⟩
 ·refine bX bk<|bl [] [(8,Y 0),(9,Y aD)] [] ?_
  cases hm;exact A.ret cM
 refine bW bk<|A.skip<|A.seq ?_
 obtain⟨bB,D,hm⟩:=bo hm;refine bl [(4,ch (aqy D) ajC)] [(3,bC cQ l),(26,.bool (!bB))] [] ?_;rcases cg hm with⟨bK,hm⟩|⟨bK,hm⟩
 ·refine bX bK<|bl [] [(8,Y 0),(9,Y 1)] [] ?_
  cases hm;exact A.ret cM
 refine bW bK<|A.skip<|aW [] [26] [(11,Y 0)]<|A.seq<|aW [(1,aN (dZ cQ l))] [3] [(27,bC cQ l),(28,Y l.length),(29,Y 0)]<|A.block<|avJ 27 rfl λfu=>?_
 obtain⟨gU,gV,gK,gL,hm⟩:=hJ hm;refine avD (l:=l) (gC:=0) (B:=gU) (K:=gV) hm (λa1=>λjB=>[(11,Y jB),(27,bC cQ l),(28,Y l.length),(29,Y a1)]) (λa1=>λjB=>[]) ?_ ?_ ?_
 ·exact fN
 ·rintro a1 aK cI jB gM cr hm;rw[gK]at hm;exact aW [] [] [(30,.d ((a1:Int)<l.length))]<|A.seq<|bX (hv cr)<|A.skip<|A.seq<|A.block<|et [(0,c8 (ix cQ (fS cr))),(2,.al 168)] [30] [(13,.ptr 168 0)] [] [(168,.cells 120 (xe aK))]<|jl [] [11,13] [(11,Y (aG (jB+aK.Value)))] [168] []<|dF [(0,aN (hg cr fu))] [29] [(29,Y ((a1+1:Nat):Int))]<|cF (aG (jB+aK.Value)) hm
 rintro a1 jB gM fv hm;rw[gL]at hm;refine aW [] [] [(30,.d ((a1:Int)<l.length))]<|A.seq<|bW (ht fv)<|A.exit<|bl [] [(8,Y jB),(9,Y 0)] [] ?_
 cases hm;exact A.ret cM
end
section
open Go Go.Proofs.Tryz List
set_option maxRecDepth 100000
set_option linter.all false
variable {r:Int}{t:bz}
def Yl{oj:Int}(hm:FV t oj=some r):dR prog 172 [] [.agg (cn t),Y oj] (Y r):=by
 refine dN func172 rfl rfl ?_;unfold FV at hm;refine bl [(0,.al 82)] [(1,Y oj),(2,.ptr 82 0)] [(82,.cells 28 (cn t))]<|A.seq<|aW [] [] [(5,Y 0)]<|A.block<|avW 2 0 rfl rfl rfl λfu=>?_
 obtain⟨gU,gV,gK,gL,hm⟩:=hJ hm;refine avD (l:=t.bx) (gC:=0) (B:=gU) (K:=gV) hm (λa1=>λ()=>[(1,Y oj),(2,.ptr 82 0),(5,Y a1)]) (λa1=>λ()=>[(82,.cells 28 (cn t))]) ?_ ?_ ?_
 ·exact fN
 ·rintro a1 aK cI ⟨⟩ gM cr hm;rw[gK]at hm;refine A.seq<|aW [(3,aN (dZ eD t.bx))] [] [(10,.d ((a1:Int)<t.bx.length))] ?_
  refine bX (hv cr)<|A.skip<|A.seq<|A.block<|aW [(3,c8 (ix eD (fS cr)))] [10] [(20,.d (aK.cS=oj))] ?_
  rcases cg hm with⟨bk,hm⟩|⟨bk,hm⟩
  ·refine bX bk<|bl [] [(4,Y a1)] [] ?_
   cases hm;exact A.ret cM
  exact bW bk<|A.skip<|dF [(1,aN (hg cr fu))] [5,20] [(5,Y ((a1+1:Nat):Int))]<|cF () hm
 rintro a1 ⟨⟩ gM fv hm;rw[gL]at hm;refine A.seq<|aW [(3,aN (dZ eD t.bx))] [] [(10,.d ((a1:Int)<t.bx.length))] ?_
 refine bW (ht fv)<|A.exit<|bl [] [(4,Y 0)] [] ?_
 cases hm;exact A.ret cM
def ZO{zi:Int}{r:(cO)}(hm:Ga t zi=some r):dR prog 110 [] [.agg (cn t),Y zi] (bC aB r):=by
 refine dN func110 rfl rfl ?_;unfold Ga at hm;refine bl [(0,.al 27)] [(1,Y zi),(2,.ptr 27 0)] [(27,.cells 28 (cn t))] ?_;obtain⟨h1,hm⟩:=pX hm;refine et [(2,aN (dZ eD t.bx)),(3,Af (a:=Y 0) 114 (0:Int) aB.enc (t.bx.length:Int) HD UO rfl (λI=>by simp[bm]) h1 (by decide))] [] [(5,.own 114)] [] [(114,.slice 3 1 (ar aB (List.replicate ((t.bx.length:Int)).toNat (0:Int))) 0 false)]<|A.seq<|aW [] [] [(6,Y 0)]<|A.block ?_
 obtain⟨k9,hp,lu,hm⟩:=mM hm;refine avN (F:=k9) hm (λ(vv,ct)=>[(1,Y zi),(2,.ptr 27 0),(5,.own 23),(6,Y ct)]) (λ(vv,ct)=>[(27,.cells 28 (cn t)),(23,.slice 3 1 (ar aB vv) 0 false)]) ?_ ?_
 ·exact jx [.kz 114 23] []
 rintro cI ⟨vv,ct⟩ hm;rw[lu]at hm;refine A.seq<|aW [(2,aN (dZ aB vv))] [] [(19,.d (ct<(vv.length:Int)))] ?_
 rcases cg hm with⟨bk,hm⟩|⟨bk,hm⟩
 ·refine bX bk<|A.skip ?_
  obtain⟨dK,iH,hm⟩:=jd hm;refine A.J (J:=dK) (r:=r) (λB0=>[(1,Y zi),(2,.ptr 27 0),(5,.own 23),(6,Y ct)]) (λB0=>[(27,.cells 28 (cn t)),(23,.slice 3 1 (ar aB B0) 0 false)]) ?_ ?_
  ·refine A.block ?_;obtain⟨dJ,D,hm⟩:=bo hm;obtain⟨cv,aq,hm⟩:=bo hm;refine et [(2,c8 (ix aB D)),(3,o0 23 (st aB (off:=0) (ca:=[Y 1073741824]) D aq rfl) (pY D).1.1)] [19] [] [23] [(23,.slice 3 1 (ar aB cv) 0 false)] ?_;obtain⟨eo,aZ,hm⟩:=bo hm;refine aW [(3,c8 (ix eD aZ))] [] [(32,.d (eo.cS=zi))] ?_;rcases cg hm with⟨bK,hm⟩|⟨bK,hm⟩
   ·refine bX bK ?_;obtain⟨oN,bV,hm⟩:=bo hm;obtain⟨fB,dU,hm⟩:=bo hm;exact jl [(2,c8 (ix aB bV)),(3,o0 23 (st aB (off:=0) (ca:=[Y 0]) bV dU rfl) (pY bV).1.1)] [32] [] [23] [(23,.slice 3 1 (ar aB fB) 0 false)]<|cF fB hm
   exact bW bK<|A.skip<|cF cv hm
  rintro B0 hm;rw[iH]at hm;exact dF [] [6] [(6,Y (aG (ct+1)))]<|cF (B0,aG (ct+1)) hm
 refine bW bk<|A.exit<|A.seq<|aW [] [1,6,19] [(7,Y 0)]<|A.block ?_
 obtain⟨zy,hh,zT,hm⟩:=mM hm;refine avN (F:=zy) hm (λ(wK,tV)=>[(2,.ptr 27 0),(5,.own 23),(7,Y tV)]) (λ(wK,tV)=>[(27,.cells 28 (cn t)),(23,.slice 3 1 (ar aB wK) 0 false)]) ?_ ?_
 ·exact fN
 rintro gn ⟨wK,tV⟩ hm;rw[zT]at hm;refine A.seq<|aW [(2,aN (dZ aB wK))] [] [(39,.d (tV<(wK.length:Int)))] ?_
 rcases cg hm with⟨cq,hm⟩|⟨cq,hm⟩
 ·refine bX cq<|A.skip<|A.seq<|A.block<|aW [] [39] [(8,Y 0)]<|A.block<|avW 2 1 rfl rfl rfl λp0=>?_
  obtain⟨sp,sr,sE,sF,hm⟩:=hJ hm;refine avD (l:=t.Links) (gC:=0) (B:=sp) (K:=sr) hm (λe4=>λsy=>[(2,.ptr 27 0),(5,.own 23),(7,Y tV),(8,Y e4)]) (λe4=>λsy=>[(27,.cells 28 (cn t)),(23,.slice 3 1 (ar aB sy) 0 false)]) ?_ ?_ ?_
  ·exact fN
  ·rintro e4 dj lV sy py lC hm;rw[sE]at hm;refine A.seq<|aW [(3,aN (dZ fe t.Links))] [] [(46,.d ((e4:Int)<t.Links.length))] ?_
   refine bX (hv lC)<|A.skip ?_
   obtain⟨gv,jt,hm⟩:=jd hm;refine A.J (J:=gv) (r:=r) (λB1=>[(2,.ptr 27 0),(5,.own 23),(7,Y tV),(8,Y e4)]) (λB1=>[(27,.cells 28 (cn t)),(23,.slice 3 1 (ar aB B1) 0 false)]) ?_ ?_
   ·refine A.block<|et [(3,c8 (ix fe (fS lC))),(5,.al 83)] [46] [(9,.ptr 83 0)] [] [(83,.cells 62 (gy dj))] ?_
    obtain⟨aD,eR,hm⟩:=bo hm;obtain⟨bB,jS,hm⟩:=bo hm;refine aW [(3,ch (Yl eR) Va),(7,ch (Yl jS) Va)] [] [(10,Y aD),(11,Y bB)] ?_;obtain⟨kV,ox,hm⟩:=jd hm;refine A.J (J:=kV) (r:=r) (λwL=>[(2,.ptr 27 0),(5,.own 23),(7,Y tV),(8,Y e4),(9,.ptr 83 0),(10,Y aD),(11,Y bB)]) (λwL=>[(27,.cells 28 (cn t)),(23,.slice 3 1 (ar aB wL) 0 false),(83,.cells 62 (gy dj))]) ?_ ?_
    ·obtain⟨mN,iy,hm⟩:=bo hm;refine aW [(2,c8 (ix aB iy)),(3,hf 23 0 (ix aB iy))] [] [(66,.d (mN<1073741824))] ?_;rcases cg hm with⟨en,hm⟩|⟨en,hm⟩
     ·refine bX en ?_;obtain⟨rI,oQ,hm⟩:=bo hm;obtain⟨hC,sC,hm⟩:=bo hm;exact jl [(4,c8 (ix aB oQ)),(5,hf 23 0 (ix aB oQ)),(10,c8 (ix aB iy)),(11,hf 23 0 (ix aB iy)),(14,c8 (ix aB oQ)),(15,o0 23 (st aB (off:=0) (ca:=[Y (if(aG (dj.lg+mN))<rI then aG (dj.lg+mN)else rI)]) oQ sC rfl) (pY oQ).1.1)] [66] [] [23] [(23,.slice 3 1 (ar aB hC) 0 false)]<|cF hC hm
     exact bW en<|A.skip<|cF sy hm
    rintro wL hm;rw[ox]at hm;obtain⟨rJ,qt,hm⟩:=bo hm;refine aW [(2,c8 (ix aB qt)),(3,hf 23 0 (ix aB qt))] [] [(86,.d (rJ<1073741824))] ?_;rcases cg hm with⟨fK,hm⟩|⟨fK,hm⟩
    ·refine bX fK ?_;obtain⟨tH,pZ,hm⟩:=bo hm;obtain⟨jZ,wR,hm⟩:=bo hm;exact jl [(4,c8 (ix aB pZ)),(5,hf 23 0 (ix aB pZ)),(10,c8 (ix aB qt)),(11,hf 23 0 (ix aB qt)),(14,c8 (ix aB pZ)),(15,o0 23 (st aB (off:=0) (ca:=[Y (if(aG (dj.lp+rJ))<tH then aG (dj.lp+rJ)else tH)]) pZ wR rfl) (pY pZ).1.1)] [9,10,11,86] [] [23,83] [(23,.slice 3 1 (ar aB jZ) 0 false)]<|cF jZ hm
    exact bW fK<|A.skip<|cF wL hm
   rintro B1 hm;rw[jt]at hm;exact dF [(1,aN (hg lC p0))] [8] [(8,Y ((e4+1:Nat):Int))]<|cF B1 hm
  rintro e4 sy py np hm;rw[sF]at hm;refine A.seq<|aW [(3,aN (dZ fe t.Links))] [] [(46,.d ((e4:Int)<t.Links.length))] ?_
  exact bW (ht np)<|A.exit<|dF [] [7,8,46] [(7,Y (aG (tV+1)))]<|cF (sy,aG (tV+1)) hm
 refine bW cq<|A.exit<|et [] [2,5,7,39] [(4,.own 23)] [27] []<|A.ret ?_
 obtain rfl:=jN hm;exact avC bN [.cT [23]] rfl (by kernel_rfl)
def ZP{d:cO}{AY:Int}(hm:CR t d AY=some r):dR prog 109 [] [.agg (cn t),bC aB d,Y AY] (Y r):=by
 refine dN func109 rfl rfl ?_;unfold CR at hm;refine bl [(0,.al 79)] [(1,bC aB d),(2,Y AY),(3,.ptr 79 0)] [(79,.cells 28 (cn t))]<|A.seq<|aW [] [] [(7,Y 0)]<|A.block<|avW 3 0 rfl rfl rfl λfu=>?_
 obtain⟨gU,gV,gK,gL,hm⟩:=hJ hm;refine avD (l:=t.bx) (gC:=0) (B:=gU) (K:=gV) hm (λa1=>λ()=>[(1,bC aB d),(2,Y AY),(3,.ptr 79 0),(7,Y a1)]) (λa1=>λ()=>[(79,.cells 28 (cn t))]) ?_ ?_ ?_
 ·exact fN
 ·rintro a1 aK cI ⟨⟩ gM cr hm;rw[gK]at hm;refine A.seq<|aW [(3,aN (dZ eD t.bx))] [] [(12,.d ((a1:Int)<t.bx.length))] ?_
  refine bX (hv cr)<|A.skip<|A.seq<|A.block<|aW [(3,c8 (ix eD (fS cr)))] [12] [(22,.d (aK.cS=AY))] ?_
  rcases cg hm with⟨bk,hm⟩|⟨bk,hm⟩
  ·refine bX bk ?_;obtain⟨dJ,h1,hm⟩:=bo hm;refine bl [(2,c8 (ix aB h1))] [(6,Y dJ)] [] ?_;cases hm;exact A.ret cM
  exact bW bk<|A.skip<|dF [(1,aN (hg cr fu))] [7,22] [(7,Y ((a1+1:Nat):Int))]<|cF () hm
 rintro a1 ⟨⟩ gM fv hm;rw[gL]at hm;refine A.seq<|aW [(3,aN (dZ eD t.bx))] [] [(12,.d ((a1:Int)<t.bx.length))] ?_
 refine bW (ht fv)<|A.exit<|bl [] [(6,Y 1073741824)] [] ?_
 cases hm;exact A.ret cM
def ZJ{hV:Int}{iQ:Int}{r:Int×Bool}(hm:F1 t hV iQ=some r):dR prog 49 [] [.agg (cn t),Y hV,Y iQ] (.c5 [Y r.1,.bool r.2]):=by
 refine dN func49 rfl rfl ?_;unfold F1 at hm;refine bl [(0,.al 101)] [(1,Y hV),(2,Y iQ),(3,.ptr 101 0)] [(101,.cells 28 (cn t))]<|A.seq ?_
 obtain⟨dK,iH,hm⟩:=jd hm;refine A.J (J:=dK) (r:=r) (λfx=>[(1,Y hV),(2,Y iQ),(3,.ptr 101 0),(18,.bool fx)]) (λfx=>[(101,.cells 28 (cn t))]) ?_ ?_
 ·obtain⟨aD,h1,hm⟩:=bo hm;rcases cg hm with⟨bk,hm⟩|⟨bk,hm⟩
  ·exact dF [(2,ch (OH h1) Mw),(4,aN (cK bk))] [] [(18,.bool true)]<|cF true hm
  obtain⟨bB,D,hm⟩:=bo hm;exact dF [(2,ch (OH h1) Mw),(4,aN (cK bk)),(7,ch (OH D) Mw)] [] [(18,.bool (!bB))]<|cF (!bB) hm
 rintro fx hm;rw[iH]at hm;rcases cg hm with⟨bK,hm⟩|⟨bK,hm⟩
 ·refine bX bK<|bl [] [(6,Y 0),(7,.bool false)] [] ?_
  cases hm;exact A.ret cM
 refine bW bK<|A.skip ?_
 obtain⟨cm,aq,hm⟩:=bo hm;obtain⟨bZ,aZ,hm⟩:=bo hm;refine bl [(3,ch (ZO aq) ajE),(5,ch (ZP aZ) ajD)] [(8,Y bZ)] []<|A.seq<|aW [] [] [(26,.d (bZ=1073741824))] ?_
 rcases cg hm with⟨cq,hm⟩|⟨cq,hm⟩
 ·refine bX cq<|bl [] [(6,Y 0),(7,.bool false)] [] ?_
  cases hm;exact A.ret cM
 refine bW cq<|A.skip<|bl [] [(6,Y bZ),(7,.bool true)] [] ?_
 cases hm;exact A.ret cM
end
end Go.Proofs.YtmnbolcmepihlaaGreat
namespace Go.Proofs.YtmnbolcmepihlaaGreat
set_option linter.all false
open Go Go.Proofs.Tryz List
def tw(s:Int×Int):W:=.agg [.int .i64 s.1,.int .i64 s.2]
def cc(m:List (Int×Int))(r:Int):Int:=(az m r).getD 2305843009213693951
abbrev eX(ay:wu)(c2:List (List W))(m1:List (Int×Int))(eF:List (List W))(m2:List (Int×(Int×Int))):ag:=
 [(910000000,.cells 165 [.bf false (ar ey ay),.own 93,.own 106]),(93,.hU 144 c2 910000002),(910000002,.map 3 3 (bM .i64 (c9 .i64) m1)),(106,.hU 166 eF 910000004),(910000004,.map 3 169 (bM .i64 tw m2))]
def PX:∀w,∃v,(zeroValue 3).run prog w=.ok v w∧∀I,bm I (c9 .i64 0) v:=λw=>⟨_,zeroValue3 w,λI=>by simp[bm,c9]⟩
variable {ay:wu}{c2 eF:List (List W)}{m1:List (Int×Int)}{m2:List (Int×(Int×Int))}
def Dw(r:Int):dR prog 120 (eX ay c2 m1 eF m2) [.ptr 910000000 0,.int .i64 (c2.length:Int),.int .i64 r] (.int .i64 (cc m1 r)):=by
 refine dN func120 rfl rfl ?_;refine avB bN [] [] [(0,.ptr 910000000 0),(1,.int .i64 (c2.length:Int)),(2,.int .i64 r)] (eX ay c2 m1 eF m2) (by kernel_rfl) ?_;refine A.seq ?_;refine avB bN [] [(5,Cz (xs:=c2) (i:=(c2.length:Int)) DN ⟨by omega,by omega⟩),(6,p5 (xs:=c2) (p:=(c2.length:Int).toNat) DM (by omega)),(8,wW (lk (E:=3) (k:=.i64) (enc:=c9 .i64) m1 r 0 PX))] [(7,.int .i64 ((az m1 r).getD 0)),(8,.bool (az m1 r).isSome)] (eX ay c2 m1 eF m2) (by kernel_rfl) ?_;refine avB bN [] [] [(7,.int .i64 ((az m1 r).getD 0)),(21,.bool (az m1 r).isSome)] (eX ay c2 m1 eF m2) (by kernel_rfl) ?_;cases bw:az m1 r with
 |some c=>
  refine avH rfl rfl ?_;refine avB bN [] [] [(6,.int .i64 c)] (eX ay c2 m1 eF m2) (by kernel_rfl) ?_;refine A.ret ?_;have e:cc m1 r=c:=by unfold cc;rw[bw];rfl
  rw[e];exact avC bN [] rfl (by kernel_rfl)
 |none=>
  refine avG rfl rfl ?_;refine A.skip ?_;show aP _ _ _ _ _;refine avB bN [] [] [(6,.int .i64 2305843009213693951)] (eX ay c2 m1 eF m2) (by kernel_rfl) ?_;refine A.ret ?_;have e:cc m1 r=2305843009213693951:=by unfold cc;rw[bw];rfl
  rw[e];exact avC bN [] rfl (by kernel_rfl)
def TQ{rows:List (List (Int×Int))}{s:Int}{m:List (Int×Int)}(r:Int)(Z:du rows s=some m):
  dR prog 120 (eX ay (rows.map λm=>[.c7 (bM .i64 (c9 .i64) m)]) m1 eF m2) [.ptr 910000000 0,.int .i64 s,.int .i64 r] (.int .i64 (cc m r)):=by
 obtain⟨bJ,h1⟩:=(show 0≤s∧rows[s.toNat]?=some m by unfold du at Z;split at Z;exact⟨‹_›,Z⟩;cases Z);have bS:=(List.getElem?_eq_some_iff.1 h1).1;have i4:(rows.map λm=>[W.c7 (bM .i64 (c9 .i64) m)])[s.toNat]?=some [.c7 (bM .i64 (c9 .i64) m)]:=by rw[List.getElem?_map,h1];rfl
 have eH:0≤s∧s<((rows.map λm=>[W.c7 (bM .i64 (c9 .i64) m)]).length:Int)+1:=by rw[length_map];omega
 generalize An:(rows.map λm=>[W.c7 (bM .i64 (c9 .i64) m)])=c2 at i4 eH ⊢;refine dN func120 rfl rfl ?_;refine avB bN [] [] [(0,.ptr 910000000 0),(1,.int .i64 s),(2,.int .i64 r)] (eX ay c2 m1 eF m2) (by kernel_rfl) ?_;refine A.seq ?_;refine avB bN [] [(5,Cz (xs:=c2) (i:=s) DN eH),(6,CA (xs:=c2) (p:=s.toNat) DM i4),(8,nK (k:=.i64) m r (c9 .i64) 0 o4 PX)] [(7,.int .i64 ((az m r).getD 0)),(8,.bool (az m r).isSome)] (eX ay c2 m1 eF m2) (by kernel_rfl) ?_;refine avB bN [] [] [(7,.int .i64 ((az m r).getD 0)),(21,.bool (az m r).isSome)] (eX ay c2 m1 eF m2) (by kernel_rfl) ?_;cases bw:az m r with
 |some c=>
  refine avH rfl rfl ?_;refine avB bN [] [] [(6,.int .i64 c)] (eX ay c2 m1 eF m2) (by kernel_rfl) ?_;refine A.ret ?_;have e:cc m r=c:=by unfold cc;rw[bw];rfl
  rw[e];exact avC bN [] rfl (by kernel_rfl)
 |none=>
  refine avG rfl rfl ?_;refine A.skip ?_;show aP _ _ _ _ _;refine avB bN [] [] [(6,.int .i64 2305843009213693951)] (eX ay c2 m1 eF m2) (by kernel_rfl) ?_;refine A.ret ?_;have e:cc m r=2305843009213693951:=by unfold cc;rw[bw];rfl
  rw[e];exact avC bN [] rfl (by kernel_rfl)
def KE(r c vT v1:Int)(ah:cc m1 r≤c):
  eT prog 119 (eX ay c2 m1 eF m2) [.ptr 910000000 0,.int .i64 (c2.length:Int),.int .i64 r,.int .i64 c,.agg [.int .i64 vT,.int .i64 v1]] (λa aH=>a=.bool false∧aH=eX ay c2 m1 eF m2):=by
 refine dN func119 rfl rfl ?_;refine avB bN [] [(0,.al 128)] [(0,.ptr 910000000 0),(1,.int .i64 (c2.length:Int)),(2,.int .i64 r),(3,.int .i64 c)] (eX ay c2 m1 eF m2) (by kernel_rfl) ?_;refine A.seq ?_;refine avB bN [] [(4,ch (Dw (ay:=ay) (c2:=c2) (m1:=m1) (eF:=eF) (m2:=m2) r) xF)] [(16,.bool (decide (cc m1 r≤c)))] (eX ay c2 m1 eF m2) (by kernel_rfl) ?_;refine avH rfl (decide_eq_true ah) ?_;refine avB bN [] [] [(10,.bool false)] (eX ay c2 m1 eF m2) (by kernel_rfl) ?_;refine A.ret ?_;exact avC bN [] rfl (by kernel_rfl)
def Zg:∀w,(zeroValue 169).run prog w=.ok (.agg #[.int .i64 0,.int .i64 0]) w:=λw=>zeroValue169 w
def Zh:∀I,bm I (tw (0,0)) (.agg #[.int .i64 0,.int .i64 0]):=λI=>by
 simp only[tw,bm,ds];exact⟨_,rfl,_,_,rfl,rfl,_,_,rfl,rfl,rfl⟩
def KF(r c vT v1:Int)(aJ:eF.length=c2.length)(ah:c<cc m1 r):
  eT prog 119 (eX ay c2 m1 eF m2) [.ptr 910000000 0,.int .i64 (c2.length:Int),.int .i64 r,.int .i64 c,.agg [.int .i64 vT,.int .i64 v1]] (λa aH=>a=.bool true∧aH=eX ay c2 (bH m1 r c) eF (bH m2 r (vT,v1))):=by
 rw[←Px r ((az m1 r).getD 0) c m1,←Px r ((az m2 r).getD (0,0)) (vT,v1) m2];refine dN func119 rfl rfl ?_;refine avB bN [] [(0,.al 128)] [(0,.ptr 910000000 0),(1,.int .i64 (c2.length:Int)),(2,.int .i64 r),(3,.int .i64 c),(9,.ptr 128 0)] (eX ay c2 m1 eF m2++[(128,.cells 169 [.int .i64 vT,.int .i64 v1])]) (by kernel_rfl) ?_;refine A.seq ?_;refine avB bN [] [(4,ch (Dw (ay:=ay) (c2:=c2) (m1:=m1) (eF:=eF) (m2:=m2) r) xF)] [(0,.ptr 910000000 0),(1,.int .i64 (c2.length:Int)),(2,.int .i64 r),(3,.int .i64 c),(9,.ptr 128 0),(16,.bool (decide (cc m1 r≤c)))] (eX ay c2 m1 eF m2++[(128,.cells 169 [.int .i64 vT,.int .i64 v1])]) (by kernel_rfl) ?_;refine avG rfl (decide_eq_false (by omega)) ?_;refine A.skip ?_;show aP _ _ _ _ _;refine awy (d:=910000002) (K:=3) (E:=3) (bL:=bM .i64 (c9 .i64) m1) rfl λqq gy=>?_;refine awy (d:=910000004) (K:=3) (E:=169) (bL:=bM .i64 tw m2) rfl λWQ cn=>?_
 refine avB bN [] [(5,Cz (xs:=c2) (i:=(c2.length:Int)) DN ⟨by omega,by omega⟩),(6,p5 (xs:=c2) (p:=(c2.length:Int).toNat) DM (by omega)),(13,Cz (xs:=eF) (i:=(c2.length:Int)) UT ⟨by omega,by omega⟩),(14,p5 (xs:=eF) (p:=(c2.length:Int).toNat) UU (by omega)),
   (18,Xt (k:=.i64) r m1 (c9 .i64) 0 qq gy o4 (λw=>zeroValue3 w) (λI=>by simp[bm,c9])),(20,kQ (k:=.i64) (a0:=(az m1 r).getD 0) r (.int .i64 0) (bH m1 r ((az m1 r).getD 0)) (c9 .i64) c qq gy (Ge _ _ _) rfl),
   (21,Xt (k:=.i64) r m2 tw (0,0) WQ cn GX Zg Zh),(23,kQ (k:=.i64) (a0:=(az m2 r).getD (0,0)) r (.agg #[.int .i64 0,.int .i64 0]) (bH m2 r ((az m2 r).getD (0,0))) tw (vT,v1) WQ cn (Ge _ _ _) rfl)]
  [] (eX ay c2 (bH (bH m1 r ((az m1 r).getD 0)) r c) eF (bH (bH m2 r ((az m2 r).getD (0,0))) r (vT,v1))) (by kernel_rfl) ?_
 refine avB bN [] [] [(10,.bool true)] (eX ay c2 (bH (bH m1 r ((az m1 r).getD 0)) r c) eF (bH (bH m2 r ((az m2 r).getD (0,0))) r (vT,v1))) (by kernel_rfl) ?_;refine A.ret ?_;exact avC bN [] rfl (by kernel_rfl)
end Go.Proofs.YtmnbolcmepihlaaGreat
namespace Go.Proofs.YtmnbolcmepihlaaGreat
set_option linter.all false
open Go Go.Proofs.Tryz List
def Pb{α:Type}{n x:Int}(v:α)(h:x≠n):∀l:List (Int×α),az (bH l n v) x=az l x
 |[]=>by
  have:¬n=x:=λe=>h e.symm;simp[bH,az,this]
 |p::r=>by
  unfold bH;split
  ·rename_i aF;have:¬p.1=x:=λe=>h (by rw[←e,aF]);have D:¬n=x:=λe=>h e.symm;rw[kD,kD,if_neg this,if_neg D]
  ·rw[kD,kD,Pb v h r]
def tW(m:List (Int×Int))(r c x:Int):cc (bH m r c) x=if x=r then c else cc m x:=by
 unfold cc;split
 ·rename_i h;subst h;rw[Ge];rfl
 ·rename_i h;rw[Pb _ h]
def oi(ay:wu)(m:List (Int×Int)):Nat:=(ay.map λa=>(cc m a.Hop.br).toNat).sum
def Hr{m ig:List (Int×Int)}(h:∀x,cc ig x≤cc m x):∀ay:wu,oi ay ig≤oi ay m
 |[]=>Nat.le_refl _
 |a::r=>by
  have h1:=Hr h r;have D:=h a.Hop.br;unfold oi at h1 ⊢;simp only[map_cons,sum_cons];omega
def LP{m ig:List (Int×Int)}(h:∀x,cc ig x≤cc m x){a:bQ}(bJ:0≤cc ig a.Hop.br)(bS:cc ig a.Hop.br<cc m a.Hop.br):∀{ay:wu},a∈ay→oi ay ig<oi ay m
 |[],aA=>by cases aA
 |b::r,aA=>by
  have D:=h b.Hop.br;rcases mem_cons.1 aA with rfl|aA
  ·have h1:=Hr h r;unfold oi at h1 ⊢;simp only[map_cons,sum_cons];omega
  ·have h1:=LP h bJ bS aA;unfold oi at h1 ⊢;simp only[map_cons,sum_cons];omega
def acO{ay:wu}{c2:List (List W)}{m1:List (Int×Int)}{eF:List (List W)}{m2:List (Int×(Int×Int))}(aJ:eF.length=c2.length)(J:List (Int×Int)→List (Int×(Int×Int))→Prop)(bJ:J m1 m2)
  (U:∀m1 m2,J m1 m2→∀r,0≤cc m1 r∧cc m1 r≤2305843009213693951) (aA:∀a∈ay,0≤a.dn∧a.dn≤1000000)
  (ho:∀m1 m2 a,J m1 m2→a∈ay→a.dn+cc m1 a.Hop.bh<cc m1 a.Hop.br→J (bH m1 a.Hop.br (a.dn+cc m1 a.Hop.bh)) (bH m2 a.Hop.br (a.Hop.bh,0))) :
  eT prog 121 (eX ay c2 m1 eF m2) [.ptr 910000000 0,.int .i64 (c2.length:Int)] (λa aH=>a=.c5 []∧∃hp hh,J hp hh∧(∀a∈ay,cc hp a.Hop.br≤a.dn+cc hp a.Hop.bh)∧aH=eX ay c2 hp eF hh):=by
 refine dN func121 rfl rfl ?_;refine avB bN [] [] [(0,.ptr 910000000 0),(1,.int .i64 (c2.length:Int)),(4,.bool true)] (eX ay c2 m1 eF m2) (by kernel_rfl) ?_;refine A.block ?_;refine A.loop (α:=List (Int×Int)×List (Int×(Int×Int))×Bool) (λg=>[(0,.ptr 910000000 0),(1,.int .i64 (c2.length:Int)),(4,.bool g.2.2)]) (λg=>eX ay c2 g.1 eF g.2.1) (λg=>J g.1 g.2.1∧(g.2.2=false→∀a∈ay,cc g.1 a.Hop.br≤a.dn+cc g.1 a.Hop.bh)) (λg=>oi ay g.1+(bif g.2.2 then 1 else 0)) (m1,m2,true) ⟨bJ,λh=>by cases h⟩ (cB.go [] [] (by kernel_rfl)) ?_;rintro⟨h0,j7,lJ⟩ ⟨hu,Z⟩;simp only at hu Z;refine A.seq ?_;refine avB bN [] [] [(0,.ptr 910000000 0),(1,.int .i64 (c2.length:Int)),(4,.bool lJ),(7,.bool lJ)] (eX ay c2 h0 eF j7) (by kernel_rfl) ?_;cases lJ with
 |false=>
  refine avG rfl rfl ?_;refine A.exit ?_;refine qc.mono (avC bN [] (R:=.c5 []) (σ2:=eX ay c2 h0 eF j7) rfl (by kernel_rfl)) ?_;rintro a s ⟨rfl,rfl⟩;exact⟨rfl,h0,j7,hu,Z rfl,rfl⟩
 |true=>
  refine avH rfl rfl ?_;refine A.skip ?_;show aP _ _ _ _ _;refine A.block ?_;refine avB bN [] [] [(0,.ptr 910000000 0),(1,.int .i64 (c2.length:Int)),(4,.bool false)] (eX ay c2 h0 eF j7) (by kernel_rfl) ?_;refine avB bN [] [(4,aN (dZ ey ay))] [(0,.ptr 910000000 0),(1,.int .i64 (c2.length:Int)),(4,.bool false),(11,.bf false (ar ey ay)),(12,.int .i64 (ay.length:Int)),(13,.int .i64 0)] (eX ay c2 h0 eF j7) (by kernel_rfl) ?_;refine A.block ?_;refine avJ 11 rfl λqZ=>?_
  refine A.loop (α:=Nat×List (Int×Int)×List (Int×(Int×Int))×Bool) (λg=>[(0,.ptr 910000000 0),(1,.int .i64 (c2.length:Int)),(4,.bool g.2.2.2),(11,.bf false (ar ey ay)),(12,.int .i64 (ay.length:Int)),(13,.int .i64 (g.1:Int))]) (λg=>eX ay c2 g.2.1 eF g.2.2.1)
   (λg=>g.1≤ay.length∧J g.2.1 g.2.2.1∧(g.2.2.2=false→(g.2.1=h0∧g.2.2.1=j7)∧∀i a,i<g.1→ay[i]?=some a→cc h0 a.Hop.br≤a.dn+cc h0 a.Hop.bh)∧(g.2.2.2=true→oi ay g.2.1<oi ay h0)∧∀x,cc g.2.1 x≤cc h0 x) (λg=>ay.length-g.1) (0,h0,j7,false) ⟨Nat.zero_le _,hu,λ_=>⟨⟨rfl,rfl⟩,λi a hi=>by omega⟩,λh=>(by cases h),λx=>Int.le_refl _⟩ (cB.go [] [] (by kernel_rfl)) ?_
  rintro⟨j,ej,gz,lJ⟩ ⟨aY,aa,aX,ai,hle⟩;simp only at aY aa aX ai hle;refine avB bN [] [] [(0,.ptr 910000000 0),(1,.int .i64 (c2.length:Int)),(4,.bool lJ),(11,.bf false (ar ey ay)),(12,.int .i64 (ay.length:Int)),(13,.int .i64 (j:Int)),(14,.bool (decide ((j:Int)<(ay.length:Int))))] (eX ay c2 ej eF gz) (by kernel_rfl) ?_;refine A.seq ?_;by_cases oy:j<ay.length
  ·have u:ay[j]?=some ay[j]:=List.getElem?_eq_getElem oy;generalize ay[j]=e at u;have Cm:e∈ay:=List.mem_of_getElem? u;obtain⟨kX,bk⟩:=aA e Cm;obtain⟨vo,ec⟩:=U ej gz aa e.Hop.bh;have av:aG (e.dn+cc ej e.Hop.bh)=e.dn+cc ej e.Hop.bh:=iY (by omega) (by omega);refine avH rfl (hv u) ?_;refine A.skip ?_;show aP _ _ _ _ _;refine A.seq ?_;refine A.block ?_;refine avB bN [] [(0,c8 (ix ey (fS u))),(2,.al 129)] [(0,.ptr 910000000 0),(1,.int .i64 (c2.length:Int)),(4,.bool lJ),(11,.bf false (ar ey ay)),(12,.int .i64 (ay.length:Int)),(13,.int .i64 (j:Int)),(6,.ptr 129 0)] (eX ay c2 ej eF gz++[(129,.cells 175 [.int .i64 e.Hop.br,.int .i64 e.Hop.bh,.int .i64 e.dn])]) (by kernel_rfl) ?_;by_cases bS:e.dn+cc ej e.Hop.bh<cc ej e.Hop.br
   ·refine avB bN [] [(12,ch (Dw (ay:=ay) (c2:=c2) (m1:=ej) (eF:=eF) (m2:=gz) e.Hop.bh) xF),(13,aN (show W.int .i64 (aG (e.dn+cc ej e.Hop.bh))=W.int .i64 (e.dn+cc ej e.Hop.bh)by rw[av])),(18,fq [] (KF (ay:=ay) (m1:=ej) (m2:=gz) e.Hop.br (e.dn+cc ej e.Hop.bh) e.Hop.bh 0 aJ bS) y3)] [(0,.ptr 910000000 0),(1,.int .i64 (c2.length:Int)),(11,.bf false (ar ey ay)),(12,.int .i64 (ay.length:Int)),(13,.int .i64 (j:Int)),(35,.bool true)] (eX ay c2 (bH ej e.Hop.br (e.dn+cc ej e.Hop.bh)) eF (bH gz e.Hop.br (e.Hop.bh,0))) (by kernel_rfl) ?_;refine avH rfl rfl ?_;refine A.R bN [] [] [(0,.ptr 910000000 0),(1,.int .i64 (c2.length:Int)),(4,.bool true),(11,.bf false (ar ey ay)),(12,.int .i64 (ay.length:Int)),(13,.int .i64 (j:Int))] (eX ay c2 (bH ej e.Hop.br (e.dn+cc ej e.Hop.bh)) eF (bH gz e.Hop.br (e.Hop.bh,0))) (by kernel_rfl) ?_;show aP _ _ _ _ _;refine A.R bN [] [(0,aN (hg u qZ))] [(0,.ptr 910000000 0),(1,.int .i64 (c2.length:Int)),(4,.bool true),(11,.bf false (ar ey ay)),(12,.int .i64 (ay.length:Int)),(13,.int .i64 ((j+1:Nat):Int))] (eX ay c2 (bH ej e.Hop.br (e.dn+cc ej e.Hop.bh)) eF (bH gz e.Hop.br (e.Hop.bh,0))) (by kernel_rfl) ?_;have EX:=ho ej gz e aa Cm bS
    have E7:∀x,cc (bH ej e.Hop.br (e.dn+cc ej e.Hop.bh)) x≤cc ej x:=λx=>by
     rw[tW];split
     ·rename_i h;subst h;omega
     ·omega
    have IG:oi ay (bH ej e.Hop.br (e.dn+cc ej e.Hop.bh))<oi ay ej:=LP E7 (U _ _ EX _).1 (by rw[tW,if_pos rfl];exact bS) Cm;have MM:oi ay ej≤oi ay h0:=Hr hle ay;refine⟨(j+1,bH ej e.Hop.br (e.dn+cc ej e.Hop.bh),bH gz e.Hop.br (e.Hop.bh,0),true),⟨oy,EX,λh=>(by cases h),λ_=>Nat.lt_of_lt_of_le IG MM,λx=>Int.le_trans (E7 x) (hle x)⟩,by simp only;omega,cB.go [] [] (by kernel_rfl)⟩
   ·refine avB bN [] [(12,ch (Dw (ay:=ay) (c2:=c2) (m1:=ej) (eF:=eF) (m2:=gz) e.Hop.bh) xF),(13,aN (show W.int .i64 (aG (e.dn+cc ej e.Hop.bh))=W.int .i64 (e.dn+cc ej e.Hop.bh)by rw[av])),(18,fq [] (KE (ay:=ay) (c2:=c2) (m1:=ej) (eF:=eF) (m2:=gz) e.Hop.br (e.dn+cc ej e.Hop.bh) e.Hop.bh 0 (Int.not_lt.1 bS)) y3)] [(0,.ptr 910000000 0),(1,.int .i64 (c2.length:Int)),(4,.bool lJ),(11,.bf false (ar ey ay)),(12,.int .i64 (ay.length:Int)),(13,.int .i64 (j:Int)),(35,.bool false)] (eX ay c2 ej eF gz) (by kernel_rfl) ?_;refine avG rfl rfl ?_;refine A.skip ?_;show aP _ _ _ _ _;refine A.R bN [] [(0,aN (hg u qZ))] [(0,.ptr 910000000 0),(1,.int .i64 (c2.length:Int)),(4,.bool lJ),(11,.bf false (ar ey ay)),(12,.int .i64 (ay.length:Int)),(13,.int .i64 ((j+1:Nat):Int))] (eX ay c2 ej eF gz) (by kernel_rfl) ?_;refine⟨(j+1,ej,gz,lJ),⟨oy,aa,λh=>⟨(aX h).1,λi a hi vH=>?_⟩,ai,hle⟩,by simp only;omega,cB.go [] [] (by kernel_rfl)⟩;rcases Nat.lt_or_eq_of_le (Nat.le_of_lt_succ hi)with hi|hi
    ·exact(aX h).2 i a hi vH
    ·subst hi;rw[u]at vH;cases vH;have:=(aX h).1.1;rw[←this];omega
  ·refine avG rfl (ht (by omega)) ?_;refine A.exit ?_;refine⟨(ej,gz,lJ),⟨aa,λh a Iw=>?_⟩,?_,cB.go [] [] (by kernel_rfl)⟩
   ·obtain⟨⟨aK,e2⟩,aq⟩:=aX h;obtain⟨i,hi⟩:=List.getElem?_of_mem Iw;rw[aK];exact aq i a (by have:=(List.getElem?_eq_some_iff.1 hi).1;omega) hi
   ·cases lJ with
    |true=>have:=ai rfl;simp only[cond_true];omega
    |false=>
     have:=(aX rfl).1.1;rw[this];simp only[cond_false,cond_true];omega
end Go.Proofs.YtmnbolcmepihlaaGreat
namespace Go.Proofs.YtmnbolcmepihlaaGreat
set_option linter.all false
open Go Go.Proofs.Tryz List
def gu:kC (List (Int×Int)):=⟨λm=>[.c7 (bM .i64 (c9 .i64) m)],1,λ_=>rfl,λ_=>rfl,λ_=>rfl⟩
def gw:kC (List (Int×(Int×Int))):=⟨λm=>[.c7 (bM .i64 tw m)],1,λ_=>rfl,λ_=>rfl,λ_=>rfl⟩
abbrev ot(o:Nat)(l:x2):ag:=[(75,.cells 34 [.own o]),(o,.slice 84 2 (ar eY l) 0 false)]
def acP{α:Type}{l r:List α}(h:l.length+r.length≤549755813888):iP l r=some (l++r):=by unfold iP;rw[if_pos (by unfold aV;exact h)]
def acQ{l:x2}(h:bO)(aJ:l.length+1≤549755813888):
  eT prog 123 (ot 910000011 l) [.agg [.int .i64 h.br,.int .i64 h.bh],.ptr 75 0] (λa aH=>a=.c5 []∧aH=ot 910000012 (l++[h])):=by
 have ami:iP l ([h]:x2)=some (l++[h]):=acP aJ;refine dN func123 rfl rfl ?_;refine avB bN [] [(0,.al 182)] [(1,.ptr 75 0),(2,.ptr 182 0)] (ot 910000011 l++[(182,.cells 84 [.int .i64 h.br,.int .i64 h.bh])]) (by kernel_rfl) ?_;refine A.R bN [] [(3,l3 910000014 (ap eY (bytes:=16) (by decide) ami))] [] (ot 910000014 (l++[h])) (by kernel_rfl) ?_;exact avC bN [.kz 910000014 910000012] rfl (by kernel_rfl)
inductive qo(st:List (List (Int×(Int×Int)))):Int→Int→List bO→Prop
 |leaf {s r:Int} {m:List (Int×(Int×Int))} (h:du st s=some m) (aX:(az m r).getD (0,0)=(0,0)):qo st s r []
 |next {s r:Int} {m:List (Int×(Int×Int))} {x:Int×Int} {H:x2} (h:du st s=some m) (u:(az m r).getD (0,0)=x) (aX:x.1≠0) (ah:qo st s x.1 H):qo st s r (bO.mk r x.1::H)
 |part {s r:Int} {m:List (Int×(Int×Int))} {x:Int×Int} {H K:x2} {eu:Int} (h:du st s=some m) (u:(az m r).getD (0,0)=x) (h1:x.1=0) (aX:x.2≠0) (D:eu=mQ .andNot .i64 s x.2) (ah:qo st x.2 r H) (hk:qo st eu r K):qo st s r (H++K)
def PZ:∀w,∃v,(zeroValue 169).run prog w=.ok v w∧∀I,bm I (tw (0,0)) v:=λw=>⟨_,Zg w,Zh⟩
def aap{ay:wu}{xM:List (List (Int×Int))}{st:List (List (Int×(Int×Int)))}{s r:Int}{H:x2}(mz:qo st s r H):∀{l:x2},l.length+H.length≤549755813888→
  eT prog 122 (ot 910000011 l) [.gq [.bf false (ar ey ay),.bf false (ar gu xM),.bf false (ar gw st)],.int .i64 s,.int .i64 r,.fn 123 [.ptr 75 0]] (λa aH=>a=.c5 []∧aH=ot 910000012 (l++H)):=by
 induction mz with
 |@leaf s r m h aX=>
  intro l _;rw[append_nil];refine dN func122 rfl rfl ?_;refine avB bN [] [(5,c8 (ix gw h)),(8,nK (k:=.i64) m r tw (0,0) GX PZ),(9,.al 70)] [(8,.ptr 70 0)] (ot 910000011 l++[(70,.cells 169 [.int .i64 ((az m r).getD (0,0)).1,.int .i64 ((az m r).getD (0,0)).2])]) (by kernel_rfl) ?_;refine A.block ?_;refine avB bN [] [] [(8,.ptr 70 0),(18,.bool (!decide (((az m r).getD (0,0)).1=(0:Int))))] (ot 910000011 l++[(70,.cells 169 [.int .i64 ((az m r).getD (0,0)).1,.int .i64 ((az m r).getD (0,0)).2])]) (by kernel_rfl) ?_;refine avG rfl (by rw[aX];rfl) ?_;refine avB bN [] [] [(34,.bool (!decide (((az m r).getD (0,0)).2=(0:Int))))] (ot 910000011 l) (by kernel_rfl) ?_;refine avG rfl (by rw[aX];rfl) ?_;refine A.skip ?_;exact avC bN [.rn 910000011 910000012] rfl (by kernel_rfl)
 |@next s r m x H h u aX ah bu=>
  intro l aJ;subst u;simp only[length_cons]at aJ;rw[show l++(bO.mk r ((az m r).getD (0,0)).1::H)=(l++[bO.mk r ((az m r).getD (0,0)).1])++H by simp];have anO:=@bu (l++[bO.mk r ((az m r).getD (0,0)).1]) (by simp;omega);refine dN func122 rfl rfl ?_;refine avB bN [] [(5,c8 (ix gw h)),(8,nK (k:=.i64) m r tw (0,0) GX PZ),(9,.al 70)] [(0,.gq [.bf false (ar ey ay),.bf false (ar gu xM),.bf false (ar gw st)]),(1,.int .i64 s),(2,.int .i64 r),(3,.fn 123 [.ptr 75 0]),(8,.ptr 70 0)] (ot 910000011 l++[(70,.cells 169 [.int .i64 ((az m r).getD (0,0)).1,.int .i64 ((az m r).getD (0,0)).2])]) (by kernel_rfl) ?_;refine A.block ?_;refine avB bN [] [] [(0,.gq [.bf false (ar ey ay),.bf false (ar gu xM),.bf false (ar gw st)]),(1,.int .i64 s),(2,.int .i64 r),(3,.fn 123 [.ptr 75 0]),(8,.ptr 70 0),(18,.bool (!decide (((az m r).getD (0,0)).1=(0:Int))))] (ot 910000011 l++[(70,.cells 169 [.int .i64 ((az m r).getD (0,0)).1,.int .i64 ((az m r).getD (0,0)).2])]) (by kernel_rfl) ?_;refine avH rfl (by simp[aX]) ?_;refine avB bN [] [(5,fq [910000012] (acQ (l:=l) (bO.mk r ((az m r).getD (0,0)).1) (by omega)) ajI)] [(0,.gq [.bf false (ar ey ay),.bf false (ar gu xM),.bf false (ar gw st)]),(1,.int .i64 s),(3,.fn 123 [.ptr 75 0]),(8,.ptr 70 0)] (ot 910000012 (l++[bO.mk r ((az m r).getD (0,0)).1])++[(70,.cells 169 [.int .i64 ((az m r).getD (0,0)).1,.int .i64 ((az m r).getD (0,0)).2])]) (by kernel_rfl) ?_;refine A.R bN [] [(5,fq [910000017] (pl.at [(910000011,910000012),(910000012,910000017)] anO) HG)] [] (ot 910000017 ((l++[bO.mk r ((az m r).getD (0,0)).1])++H)) (by kernel_rfl) ?_;exact avC bN [.kz 910000017 910000012] rfl (by kernel_rfl)
 |@part s r m x H K eu h u h1 aX D ah hk N1 Ar=>
  intro l aJ;subst u;subst D;rw[length_append]at aJ;rw[show l++(H++K)=(l++H)++K by simp];have anP:=@N1 l (by omega);have anQ:=@Ar (l++H) (by simp;omega);refine dN func122 rfl rfl ?_;refine avB bN [] [(5,c8 (ix gw h)),(8,nK (k:=.i64) m r tw (0,0) GX PZ),(9,.al 70)] [(0,.gq [.bf false (ar ey ay),.bf false (ar gu xM),.bf false (ar gw st)]),(1,.int .i64 s),(2,.int .i64 r),(3,.fn 123 [.ptr 75 0]),(8,.ptr 70 0)] (ot 910000011 l++[(70,.cells 169 [.int .i64 ((az m r).getD (0,0)).1,.int .i64 ((az m r).getD (0,0)).2])]) (by kernel_rfl) ?_;refine A.block ?_;refine avB bN [] [] [(0,.gq [.bf false (ar ey ay),.bf false (ar gu xM),.bf false (ar gw st)]),(1,.int .i64 s),(2,.int .i64 r),(3,.fn 123 [.ptr 75 0]),(8,.ptr 70 0),(18,.bool (!decide (((az m r).getD (0,0)).1=(0:Int))))] (ot 910000011 l++[(70,.cells 169 [.int .i64 ((az m r).getD (0,0)).1,.int .i64 ((az m r).getD (0,0)).2])]) (by kernel_rfl) ?_;refine avG rfl (by simp[h1]) ?_;refine avB bN [] [] [(0,.gq [.bf false (ar ey ay),.bf false (ar gu xM),.bf false (ar gw st)]),(1,.int .i64 s),(2,.int .i64 r),(3,.fn 123 [.ptr 75 0]),(8,.ptr 70 0),(34,.bool (!decide (((az m r).getD (0,0)).2=(0:Int))))] (ot 910000011 l++[(70,.cells 169 [.int .i64 ((az m r).getD (0,0)).1,.int .i64 ((az m r).getD (0,0)).2])]) (by kernel_rfl) ?_;refine avH rfl (by simp[aX]) ?_;refine avB bN [] [(5,fq [910000012] anP HG)] [(0,.gq [.bf false (ar ey ay),.bf false (ar gu xM),.bf false (ar gw st)]),(1,.int .i64 s),(2,.int .i64 r),(3,.fn 123 [.ptr 75 0]),(8,.ptr 70 0)] (ot 910000012 (l++H)++[(70,.cells 169 [.int .i64 ((az m r).getD (0,0)).1,.int .i64 ((az m r).getD (0,0)).2])]) (by kernel_rfl) ?_;refine A.R bN [] [(7,fq [910000017] (pl.at [(910000011,910000012),(910000012,910000017)] anQ) HG)] [] (ot 910000017 ((l++H)++K)) (by kernel_rfl) ?_;exact avC bN [.kz 910000017 910000012] rfl (by kernel_rfl)
end Go.Proofs.YtmnbolcmepihlaaGreat
namespace Go.Proofs.YtmnbolcmepihlaaGreat
set_option linter.all false
open Go List
def jQ(a b:Nat):Nat:=(BitVec.ofNat 64 a &&& ~~~ BitVec.ofNat 64 b).toNat
variable {a b:Nat}
def Ko(aA:a<2 ^ 60)(U:b<2 ^ 60)(i:Nat):(jQ a b).testBit i=(a.testBit i&&!b.testBit i):=by
 unfold jQ;rw[BitVec.toNat_and,Nat.testBit_and,BitVec.toNat_ofNat,Nat.mod_eq_of_lt (by omega)];by_cases hi:i<64
 ·congr 1;rw[←BitVec.getLsbD,BitVec.getLsbD_not,BitVec.getLsbD_ofNat];simp[hi]
 ·have:a.testBit i=false:=Nat.testBit_lt_two_pow (Nat.lt_of_lt_of_le aA (Nat.pow_le_pow_right (by omega) (by omega)));rw[this];rfl
def Lk(aA:a<2 ^ 60):jQ a b≤a:=by
 unfold jQ;rw[BitVec.toNat_and,BitVec.toNat_ofNat,Nat.mod_eq_of_lt (by omega)];exact Nat.and_le_left
def P3(aA:a<2 ^ 60)(U:b<2 ^ 60):mQ .and .i64 (a:Int) (b:Int)=((a &&& b:Nat):Int):=by
 have h1:(a &&& b)≤a:=Nat.and_le_left;show aG (((BitVec.ofInt 64 (a:Int) &&& BitVec.ofInt 64 (b:Int)).toNat:Nat):Int)=_;rw[BitVec.ofInt_natCast,BitVec.ofInt_natCast,BitVec.toNat_and,BitVec.toNat_ofNat,BitVec.toNat_ofNat,Nat.mod_eq_of_lt (by omega),Nat.mod_eq_of_lt (by omega)];exact iY (by omega) (by omega)
def Pq(aA:a<2 ^ 60):mQ .andNot .i64 (a:Int) (b:Int)=((jQ a b:Nat):Int):=by
 have h1:=Lk (a:=a) (b:=b) aA;show aG (((BitVec.ofInt 64 (a:Int) &&& ~~~ BitVec.ofInt 64 (b:Int)).toNat:Nat):Int)=_;rw[BitVec.ofInt_natCast,BitVec.ofInt_natCast];exact iY (by show -9223372036854775808≤((jQ a b:Nat):Int);omega) (by show((jQ a b:Nat):Int)≤_;omega)
def Sj:∀(p S q:Nat),p &&& S=p→q &&& S=q→q<p→q≤(p-1) &&& S:=by
 intro p;induction p using Nat.strongRecOn with
 |_ p bu=>
  intro S q aF bP bS
  have d2:∀a b:Nat,(a &&& b) / 2=a / 2 &&& b / 2:=λa b=>by
   have:=Nat.and_div_two_pow (a:=a) (b:=b) (n:=1);simpa using this
  have m2:∀a b:Nat,(a &&& b)%2=(a%2) &&& (b%2):=λa b=>by
   have:=Nat.and_mod_two_pow (a:=a) (b:=b) (n:=1);simpa using this
  have pI:p / 2 &&& S / 2=p / 2:=by rw[←d2,aF]
  have Fe:q / 2 &&& S / 2=q / 2:=by rw[←d2,bP]
  have anp:(q%2) &&& (S%2)=q%2:=by rw[←m2,bP]
  have atS:(p%2) &&& (S%2)=p%2:=by rw[←m2,aF]
  have e2:=d2 (p-1) S;have dj:=m2 (p-1) S;rcases Nat.mod_two_eq_zero_or_one p with II|II
  ·have h1:(p-1) / 2=p / 2-1:=by omega
   have D:(p-1)%2=1:=by omega
   have aq:=bu (p / 2) (by omega) (S / 2) (q / 2) pI Fe (by omega);rw[h1]at e2;rw[D]at dj;have aZ:1 &&& (S%2)=S%2:=by rcases Nat.mod_two_eq_zero_or_one S with h|h<;>rw[h]<;>rfl
   rw[aZ]at dj;have bV:q%2≤S%2:=by rw[←anp];exact Nat.and_le_right
   omega
  ·have h1:(p-1) / 2=p / 2:=by omega
   rw[h1,pI]at e2;omega
variable {S:Nat}
def Q4(p:Nat):(a &&& S) &&& S=a &&& S:=by
 rw[Nat.and_assoc,Nat.and_self]
def acR(i:Nat):2 ^ i &&& (2 ^ i-1)=0:=by
 apply Nat.eq_of_testBit_eq;intro j;rw[Nat.testBit_and,Nat.testBit_two_pow,Nat.testBit_two_pow_sub_one];by_cases h:i=j
 ·subst h;simp
 ·simp[h]
def gZ(rows:List (List (Int×Int)))(S:Nat):List (Int×Int):=rows.getD S []
def yU(ay:wu)(ts:cO)(rows:List (List (Int×Int)))(S:Nat)(m:List (Int×Int))(v c:Int)(x:Int×Int):Prop:=
 (x.1≠0∧∃a∈ay,a.Hop.br=v∧a.Hop.bh=x.1∧a.dn+cc m x.1≤c)∨
 (x.1=0∧∃P:Nat,x.2=(P:Int)∧0<P∧P<S∧P &&& S=P∧c=cc (gZ rows P) v+cc (gZ rows (jQ S P)) v∧cc (gZ rows P) v<2305843009213693951∧cc (gZ rows (jQ S P)) v<2305843009213693951)∨
 (x=(0,0)∧∃i,ts[i]?=some v∧S=2 ^ i∧c=0)
variable {ay:wu}{ig m:List (Int×Int)}{rows:List (List (Int×Int))}{ts:cO}{x:Int×Int}
def yU.mono{v c:Int}(h:yU ay ts rows S m v c x)(hle:∀r,cc ig r≤cc m r):yU ay ts rows S ig v c x:=by
 rcases h with⟨h1,a,D,aq,aZ,bV⟩|h|h
 ·have:=hle x.1;exact .inl ⟨h1,a,D,aq,aZ,by omega⟩
 ·exact .inr (.inl h)
 ·exact .inr (.inr h)
def Q5{α:Type}(n:Int)(v:α):∀l:List (Int×α),(bH l n v).map (·.1)=if n∈l.map (·.1)then l.map (·.1)else l.map (·.1)++[n]
 |[]=>by simp[bH]
 |p::r=>by
  unfold bH;by_cases aF:p.1=n
  ·simp[aF]
  ·have aX:¬n=p.1:=λe=>aF e.symm;rw[if_neg aF,map_cons,Q5 n v r];simp only[map_cons,mem_cons,aX,false_or];split<;>rfl
def aef{α:Type}{n:Int}{v:α}{l:List (Int×α)}(h:(l.map (·.1)).Nodup):((bH l n v).map (·.1)).Nodup:=by
 rw[Q5];split
 ·exact h
 ·rename_i aX;rw[nodup_append];exact⟨h,by simp,λa aA b U=>by rw[List.mem_singleton.1 U];exact λe=>aX (e▸aA)⟩
def YO{α:Type}{n:Int}{v:α}:∀{l:List (Int×α)},(l.map (·.1)).Nodup→(n,v)∈l→az l n=some v
 |[],_,h=>by cases h
 |p::r,aX,h=>by
  rw[kD];simp only[map_cons,nodup_cons]at aX;rcases mem_cons.1 h with h|h
  ·rw[←h];simp
  ·have:¬p.1=n:=λe=>aX.1 (List.mem_map.2 ⟨(n,v),h,e.symm⟩);rw[if_neg this];exact YO aX.2 h
def YP{α:Type}{n:Int}{v:α}:∀{l:List (Int×α)},az l n=some v→(n,v)∈l
 |[],h=>by simp[az]at h
 |p::r,h=>by
  rw[kD]at h;split at h
  ·rename_i aF;cases h;exact mem_cons.2 (.inl (by rw[←aF]))
  ·exact mem_cons.2 (.inr (YP h))
structure m3(ay:List bQ)(ts:List Int)(rows:List (List (Int×Int)))(S:Nat)(dD:Nat→Int→Prop)(m1:List (Int×Int))(m2:List (Int×(Int×Int))):Prop where
 ok:∀v c,az m1 v=some c→(0≤c∧c<2305843009213693951)∧yU ay ts rows S m1 v c ((az m2 v).getD (0,0))
 part:∀P v,dD P v→cc m1 v≤cc (gZ rows P) v+cc (gZ rows (jQ S P)) v
 nd:(m1.map (·.1)).Nodup
variable {m1:List (Int×Int)}{m2:List (Int×(Int×Int))}
def m3.bd{dD:Nat→Int→Prop}(h:m3 ay ts rows S dD m1 m2)(r:Int):0≤cc m1 r∧cc m1 r≤2305843009213693951:=by
 unfold cc;cases bw:az m1 r with
 |none=>simp
 |some c=>have:=(h.ok r c bw).1;exact⟨this.1,by show c≤_;omega⟩
def m3.put{dD:Nat→Int→Prop}(h:m3 ay ts rows S dD m1 m2){v c:Int}(bJ:0≤c)(bS:c<cc m1 v)
  (u:yU ay ts rows S (bH m1 v c) v c x):m3 ay ts rows S dD (bH m1 v c) (bH m2 v x):=by
 have hle:∀r,cc (bH m1 v c) r≤cc m1 r:=λr=>by
  rw[tW];split
  ·rename_i aI;subst aI;omega
  ·omega
 refine⟨λaR d hu=>?_,λP aR fs=>Int.le_trans (hle aR) (h.part P aR fs),aef h.nd⟩;by_cases XJ:aR=v
 ·subst XJ;rw[Ge]at hu ⊢;cases hu;exact⟨⟨bJ,by have:=(h.bd aR).2;omega⟩,u⟩
 ·rw[Pb _ XJ]at hu ⊢;obtain⟨dc,dg⟩:=h.ok aR d hu;exact⟨dc,dg.mono hle⟩
def m3.nil(ay:wu)(ts:cO)(rows:List (List (Int×Int)))(S:Nat):m3 ay ts rows S (λ_ _=>False) [] []:=⟨λv c h=>by simp[az]at h,λ_ _ h=>h.elim,by simp⟩
def m3.more{dD Qk:Nat→Int→Prop}(h:m3 ay ts rows S dD m1 m2)(aF:∀P v,Qk P v→cc m1 v≤cc (gZ rows P) v+cc (gZ rows (jQ S P)) v):m3 ay ts rows S Qk m1 m2:=⟨h.ok,aF,h.nd⟩
structure BN(ay:List bQ)(ts:List Int)(rows:List (List (Int×Int)))(S:Nat)(m1:List (Int×Int))(m2:List (Int×(Int×Int))):Prop where
 j:m3 ay ts rows S (λP _=>0<P∧P<S∧P &&& S=P) m1 m2
 one:∀i v,ts[i]?=some v→S=2 ^ i→cc m1 v≤0
 hop:∀a∈ay,cc m1 a.Hop.br≤a.dn+cc m1 a.Hop.bh
structure xG(ay:List bQ)(ts:List Int)(rows:List (List (Int×Int)))(steps:List (List (Int×(Int×Int)))):Prop where
 len:steps.length=rows.length
 row:∀S m1 m2,rows[S]?=some m1→steps[S]?=some m2→BN ay ts rows S m1 m2
def Kq(h:S<rows.length):gZ (rows++[m]) S=gZ rows S:=by
 unfold gZ;rw[getD_eq_getElem?_getD,getD_eq_getElem?_getD,List.getElem?_append_left h]
def yU.app{v c:Int}(fo:S≤rows.length)(vF:S<2 ^ 60)(h:yU ay ts rows S m v c x):yU ay ts (rows++[ig]) S m v c x:=by
 rcases h with h|⟨h1,P,D,aq,aZ,bV,dU,eR,jS⟩|h
 ·exact .inl h
 ·have aI:jQ S P<S:=by
   have iy:=Lk (a:=S) (b:=P) vF;rcases Nat.lt_or_eq_of_le iy with iy|iy
   ·exact iy
   ·exfalso;obtain⟨i,hi⟩:∃i,P.testBit i=true:=Nat.exists_testBit_of_ne_zero (by omega);have ec:=Ko (a:=S) (b:=P) vF (by omega) i;have dY:(P &&& S).testBit i=P.testBit i:=by rw[bV]
    rw[iy,hi]at ec;rw[Nat.testBit_and,hi]at dY;simp at ec dY;rw[ec]at dY;cases dY
  refine .inr (.inl ⟨h1,P,D,aq,aZ,bV,?_⟩);rw[Kq (by omega),Kq (by omega)];exact⟨dU,eR,jS⟩
 ·exact .inr (.inr h)
def Ll{P:Nat}(vF:S<2 ^ 60)(aq:0<P)(aZ:P<S)(bV:P &&& S=P):jQ S P<S:=by
 have iy:=Lk (a:=S) (b:=P) vF;rcases Nat.lt_or_eq_of_le iy with iy|iy
 ·exact iy
 ·exfalso;obtain⟨i,hi⟩:∃i,P.testBit i=true:=Nat.exists_testBit_of_ne_zero (by omega);have ec:=Ko (a:=S) (b:=P) vF (by omega) i;have dY:(P &&& S).testBit i=P.testBit i:=by rw[bV]
  rw[iy,hi]at ec;rw[Nat.testBit_and,hi]at dY;simp at ec dY;rw[ec]at dY;cases dY
def BN.app{ay:wu}{ts:cO}{rows:List (List (Int×Int))}{S:Nat}{m1:List (Int×Int)}{m2:List (Int×(Int×Int))}{ig:List (Int×Int)}(fo:S≤rows.length)(vF:S<2 ^ 60)(h:BN ay ts rows S m1 m2):BN ay ts (rows++[ig]) S m1 m2:=by
 refine⟨⟨λv c aa=>?_,λP v fs=>?_,h.j.nd⟩,h.one,h.hop⟩
 ·obtain⟨dc,dg⟩:=h.j.ok v c aa;exact⟨dc,dg.app fo vF⟩
 ·have:=Ll vF fs.1 fs.2.1 fs.2.2;rw[Kq (by omega),Kq (by omega)];exact h.j.part P v fs
def xG.snoc{steps:List (List (Int×(Int×Int)))}(h:xG ay ts rows steps)(vF:rows.length<2 ^ 60)(hm:BN ay ts rows rows.length m1 m2):xG ay ts (rows++[m1]) (steps++[m2]):=by
 refine⟨by simp[h.len],λS hp hh h1 D=>?_⟩;by_cases fo:S<rows.length
 ·rw[List.getElem?_append_left fo]at h1;rw[List.getElem?_append_left (by rw[h.len];exact fo)]at D;exact(h.row S hp hh h1 D).app (by omega) (by omega)
 ·have aJ:=(List.getElem?_eq_some_iff.1 h1).1;simp only[length_append,length_singleton]at aJ;have fo:S=rows.length:=by omega
  subst fo;rw[List.getElem?_append_right (Nat.le_refl _)]at h1;rw[List.getElem?_append_right (by rw[h.len];exact Nat.le_refl _),h.len]at D;simp at h1 D;subst h1 D;exact hm.app (Nat.le_refl _) vF
end Go.Proofs.YtmnbolcmepihlaaGreat
