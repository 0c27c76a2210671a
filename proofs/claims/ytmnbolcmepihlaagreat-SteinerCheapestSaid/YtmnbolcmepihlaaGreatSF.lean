/- The sorts of slices of structs aJ the call xV. No condition but bk aJ stand in each. -/
import Derived.Test.YtmnbolcmepihlaaGreatA17
import Derived.Test.YtmnbolcmepihlaaGreatVC
namespace Go.Proofs.YtmnbolcmepihlaaGreat
set_option linter.all false
open Go Go.Proofs.Tryz Go.Sort Go.Lib Go.Shelf Go.RowKit
set_option maxRecDepth 100000
def zI(x y:Int):Int:=if x<y then -1 else if y<x then 1 else 0
theorem abn(x y:Int):cn x y=some (zI x y):=by
 unfold cn gX zI
 by_cases h:x<y
 ·simp[h,bnd]
 ·by_cases h2:y<x<;>simp[h,h2,bnd]
def Tryz.ae8:Shelf.Ren:=
 {  f:=λx=>match x with|6=>124|15=>178|14=>177|28=>206|29=>207|20=>198|21=>199|22=>200|23=>201|24=>202|25=>203|26=>204|27=>205|46=>235|47=>236|48=>237|49=>238|50=>239|57=>258|n=>n,t:=λx=>match x with|22=>34|24=>84|25=>158|3=>3|39=>178|0=>0|53=>252|55=>254|4=>4|46=>246|45=>245|50=>89|5=>5|9=>9|66=>272|70=>276|76=>289|77=>290|n=>n,g:=λn=>n}
theorem Tryz.agO:SlLaysF0.n6 prog Tryz.ae8:=
  {mixed:=by kernel_rfl,f6:=⟨ "slices.SortFunc[[]bitcast/api.Hop,bitcast/api.Hop]",of_decide_eq_true (by kernel_rfl),func124.trans (by kernel_rfl)⟩,
   f14:=⟨ "slices.pdqsortCmpFunc[bitcast/api.Hop]",of_decide_eq_true (by kernel_rfl),func177.trans (by kernel_rfl)⟩,f15:=func178.trans (by kernel_rfl),
   f20:=⟨ "slices.insertionSortCmpFunc[bitcast/api.Hop]",of_decide_eq_true (by kernel_rfl),func198.trans (by kernel_rfl)⟩,f21:=⟨ "slices.heapSortCmpFunc[bitcast/api.Hop]",
   of_decide_eq_true (by kernel_rfl),func199.trans (by kernel_rfl)⟩,f22:=⟨ "slices.breakPatternsCmpFunc[bitcast/api.Hop]",of_decide_eq_true (by kernel_rfl),func200.trans (by kernel_rfl)⟩,
   f23:=⟨ "slices.choosePivotCmpFunc[bitcast/api.Hop]",of_decide_eq_true (by kernel_rfl),func201.trans (by kernel_rfl)⟩,f24:=⟨ "slices.reverseRangeCmpFunc[bitcast/api.Hop]",
   of_decide_eq_true (by kernel_rfl),func202.trans (by kernel_rfl)⟩,f25:=⟨ "slices.partialInsertionSortCmpFunc[bitcast/api.Hop]",of_decide_eq_true (by kernel_rfl),
   func203.trans (by kernel_rfl)⟩,f26:=⟨ "slices.partitionEqualCmpFunc[bitcast/api.Hop]",of_decide_eq_true (by kernel_rfl),func204.trans (by kernel_rfl)⟩,
   f27:=⟨ "slices.partitionCmpFunc[bitcast/api.Hop]",of_decide_eq_true (by kernel_rfl),func205.trans (by kernel_rfl)⟩,f28:=func206.trans (by kernel_rfl),
   f29:=func207.trans (by kernel_rfl),f46:=⟨ "slices.siftDownCmpFunc[bitcast/api.Hop]",of_decide_eq_true (by kernel_rfl),func235.trans (by kernel_rfl)⟩,
   f47:=func236.trans (by kernel_rfl),f48:=func237.trans (by kernel_rfl),f49:=⟨ "slices.medianAdjacentCmpFunc[bitcast/api.Hop]",of_decide_eq_true (by kernel_rfl),
   func238.trans (by kernel_rfl)⟩,f50:=⟨ "slices.medianCmpFunc[bitcast/api.Hop]",of_decide_eq_true (by kernel_rfl),func239.trans (by kernel_rfl)⟩,
   f57:=⟨ "slices.order2CmpFunc[bitcast/api.Hop]",of_decide_eq_true (by kernel_rfl),func258.trans (by kernel_rfl)⟩,t0:=underlying0,a0:=isAgg0,z0:=sizeOf0,
   v0:=zeroValue0,t3:=underlying3,a3:=isAgg3,z3:=sizeOf3,v3:=zeroValue3,t4:=underlying4,a4:=isAgg4,z4:=sizeOf4,v4:=zeroValue4,
   t5:=underlying5,a5:=isAgg5,z5:=sizeOf5,v5:=zeroValue5,t9:=underlying9,a9:=isAgg9,z9:=sizeOf9,v9:=zeroValue9,t22:=underlying34,
   a22:=isAgg34,z22:=sizeOf34,v22:=zeroValue34,t25:=underlying158,a25:=isAgg158,z25:=sizeOf158,v25:=zeroValue158,t39:=underlying178,
   a39:=isAgg178,z39:=sizeOf178,v39:=zeroValue178,t45:=underlying245,a45:=isAgg245,z45:=sizeOf245,v45:=zeroValue245,t46:=underlying246,
   a46:=isAgg246,z46:=sizeOf246,v46:=zeroValue246,t50:=underlying89,a50:=isAgg89,z50:=sizeOf89,v50:=zeroValue89,t53:=underlying252,
   a53:=isAgg252,z53:=sizeOf252,v53:=zeroValue252,t55:=underlying254,a55:=isAgg254,z55:=sizeOf254,v55:=zeroValue254,t66:=underlying272,
   a66:=isAgg272,z66:=sizeOf272,v66:=zeroValue272,t70:=underlying276,a70:=isAgg276,z70:=sizeOf276,v70:=zeroValue276,t76:=underlying289,
   a76:=isAgg289,z76:=sizeOf289,v76:=zeroValue289,t77:=underlying290,a77:=isAgg290,z77:=sizeOf290,v77:=zeroValue290}
def rP(x:aS):List Value:=[.int .i64 x.aH,.int .i64 x.To]
theorem vc84(I:Imm)(x:aS)(vs:List Value):aT I (br.enc x) vs↔vs=rP x:=by
 show aT I [.int .i64 x.aH,.int .i64 x.To] vs↔vs=_
 simp only[aT,aA]
 constructor
 ·rintro⟨_,_,rfl,rfl,⟨_,_,rfl,rfl,rfl⟩⟩
  rfl
 ·rintro rfl
  exact⟨_,_,rfl,rfl,⟨_,_,rfl,rfl,rfl⟩⟩
theorem vl84(I:Imm)(β:Nat→Value)(x:aS):aO I β (br.enc x) (rP x):=by
 show aO I β [.int .i64 x.aH,.int .i64 x.To] _
 simp only[aO,Rep,aA]
 exact⟨_,_,rfl,rfl,⟨_,_,rfl,rfl,rfl⟩⟩
theorem v184(x:aS):∀v∈rP x,v.oneCell'=true:=by
 intro v hv
 simp only[rP,List.mem_cons,List.not_mem_nil,or_false]at hv
 rcases hv with rfl|rfl<;>rfl
theorem aoz(a b:aS):jm a b=some (eD [λx:aS=>x.aH,λx:aS=>x.To] a b):=by
 unfold jm fC
 simp only[abn,zI,eD]
 rcases Int.lt_trichotomy a.aH b.aH with h0|h0|h0<;>rcases Int.lt_trichotomy a.To b.To with h1|h1|h1<;>simp[bnd,bF,h0,h1]<;>(repeat (first|rw[if_neg (by omega)]|rw[if_pos (by omega)]))<;>simp
theorem aic:ab7 prog 124 125 rP 2 (eD [λx:aS=>x.aH,λx:aS=>x.To]):=λblk off cap d w hH hb hs=>
 AnyQ.slices_SortFunc Tryz.agO 2 isAgg84 sizeOf84 rP (λ_=>rfl) v184 _ (aab _) 125 #[] blk off cap d w (enters_of func125 (by kernel_rfl) rfl)
  (xm vl84 (λx y=>rO (aoz x y)) blk off d.size w) hH hb hs
theorem ae9{d T:Nat}{zs ys:List aS}(h:mD (eD [λx:aS=>x.aH,λx:aS=>x.To]) zs=some ys):b8 prog 124 [(d,.slice T 2 (ml br zs) 0 false)] [.own d,.fn 125 []] (λr σ'=>r=.tup []∧σ'=[(d,.slice T 2 (ml br ys) 0 false)]):=
 yV vc84 (by decide) (λ_=>rfl) (λ_=>rfl) (nI _) aic (λp cap fv w=>AnyF.slices_SortFunc_none Tryz.agO p cap fv w) h
def Tryz.afa:Shelf.Ren:=
 {  f:=λx=>match x with|6=>127|15=>178|14=>179|28=>206|29=>207|20=>208|21=>209|22=>210|23=>211|24=>212|25=>213|26=>214|27=>215|46=>240|47=>236|48=>237|49=>241|50=>242|57=>259|n=>n,t:=λx=>match x with|22=>111|24=>175|25=>177|3=>3|39=>178|0=>0|53=>252|55=>254|4=>4|46=>246|45=>245|50=>89|5=>5|9=>9|66=>272|70=>276|76=>289|77=>290|n=>n,g:=λn=>n}
theorem Tryz.agP:SlLaysF0.n6 prog Tryz.afa:=
  {mixed:=by kernel_rfl,f6:=⟨ "slices.SortFunc[[]bitcast/arbor.Arc,bitcast/arbor.Arc]",of_decide_eq_true (by kernel_rfl),func127.trans (by kernel_rfl)⟩,
   f14:=⟨ "slices.pdqsortCmpFunc[bitcast/arbor.Arc]",of_decide_eq_true (by kernel_rfl),func179.trans (by kernel_rfl)⟩,f15:=func178.trans (by kernel_rfl),
   f20:=⟨ "slices.insertionSortCmpFunc[bitcast/arbor.Arc]",of_decide_eq_true (by kernel_rfl),func208.trans (by kernel_rfl)⟩,f21:=⟨ "slices.heapSortCmpFunc[bitcast/arbor.Arc]",
   of_decide_eq_true (by kernel_rfl),func209.trans (by kernel_rfl)⟩,f22:=⟨ "slices.breakPatternsCmpFunc[bitcast/arbor.Arc]",of_decide_eq_true (by kernel_rfl),func210.trans (by kernel_rfl)⟩,
   f23:=⟨ "slices.choosePivotCmpFunc[bitcast/arbor.Arc]",of_decide_eq_true (by kernel_rfl),func211.trans (by kernel_rfl)⟩,f24:=⟨ "slices.reverseRangeCmpFunc[bitcast/arbor.Arc]",
   of_decide_eq_true (by kernel_rfl),func212.trans (by kernel_rfl)⟩,f25:=⟨ "slices.partialInsertionSortCmpFunc[bitcast/arbor.Arc]",of_decide_eq_true (by kernel_rfl),
   func213.trans (by kernel_rfl)⟩,f26:=⟨ "slices.partitionEqualCmpFunc[bitcast/arbor.Arc]",of_decide_eq_true (by kernel_rfl),func214.trans (by kernel_rfl)⟩,
   f27:=⟨ "slices.partitionCmpFunc[bitcast/arbor.Arc]",of_decide_eq_true (by kernel_rfl),func215.trans (by kernel_rfl)⟩,f28:=func206.trans (by kernel_rfl),
   f29:=func207.trans (by kernel_rfl),f46:=⟨ "slices.siftDownCmpFunc[bitcast/arbor.Arc]",of_decide_eq_true (by kernel_rfl),func240.trans (by kernel_rfl)⟩,
   f47:=func236.trans (by kernel_rfl),f48:=func237.trans (by kernel_rfl),f49:=⟨ "slices.medianAdjacentCmpFunc[bitcast/arbor.Arc]",of_decide_eq_true (by kernel_rfl),
   func241.trans (by kernel_rfl)⟩,f50:=⟨ "slices.medianCmpFunc[bitcast/arbor.Arc]",of_decide_eq_true (by kernel_rfl),func242.trans (by kernel_rfl)⟩,
   f57:=⟨ "slices.order2CmpFunc[bitcast/arbor.Arc]",of_decide_eq_true (by kernel_rfl),func259.trans (by kernel_rfl)⟩,t0:=underlying0,a0:=isAgg0,z0:=sizeOf0,
   v0:=zeroValue0,t3:=underlying3,a3:=isAgg3,z3:=sizeOf3,v3:=zeroValue3,t4:=underlying4,a4:=isAgg4,z4:=sizeOf4,v4:=zeroValue4,
   t5:=underlying5,a5:=isAgg5,z5:=sizeOf5,v5:=zeroValue5,t9:=underlying9,a9:=isAgg9,z9:=sizeOf9,v9:=zeroValue9,t22:=underlying111,
   a22:=isAgg111,z22:=sizeOf111,v22:=zeroValue111,t25:=underlying177,a25:=isAgg177,z25:=sizeOf177,v25:=zeroValue177,t39:=underlying178,
   a39:=isAgg178,z39:=sizeOf178,v39:=zeroValue178,t45:=underlying245,a45:=isAgg245,z45:=sizeOf245,v45:=zeroValue245,t46:=underlying246,
   a46:=isAgg246,z46:=sizeOf246,v46:=zeroValue246,t50:=underlying89,a50:=isAgg89,z50:=sizeOf89,v50:=zeroValue89,t53:=underlying252,
   a53:=isAgg252,z53:=sizeOf252,v53:=zeroValue252,t55:=underlying254,a55:=isAgg254,z55:=sizeOf254,v55:=zeroValue254,t66:=underlying272,
   a66:=isAgg272,z66:=sizeOf272,v66:=zeroValue272,t70:=underlying276,a70:=isAgg276,z70:=sizeOf276,v70:=zeroValue276,t76:=underlying289,
   a76:=isAgg289,z76:=sizeOf289,v76:=zeroValue289,t77:=underlying290,a77:=isAgg290,z77:=sizeOf290,v77:=zeroValue290}
def pV(x:aq):List Value:=[.int .i64 x.Hop.aH,.int .i64 x.Hop.To,.int .i64 x.bO]
theorem aoA(I:Imm)(x:aq)(vs:List Value):aT I (aR.enc x) vs↔vs=pV x:=by
 show aT I [.int .i64 x.Hop.aH,.int .i64 x.Hop.To,.int .i64 x.bO] vs↔vs=_
 simp only[aT,aA]
 constructor
 ·rintro⟨_,_,rfl,rfl,⟨_,_,rfl,rfl,⟨_,_,rfl,rfl,rfl⟩⟩⟩
  rfl
 ·rintro rfl
  exact⟨_,_,rfl,rfl,⟨_,_,rfl,rfl,⟨_,_,rfl,rfl,rfl⟩⟩⟩
theorem aoB(I:Imm)(β:Nat→Value)(x:aq):aO I β (aR.enc x) (pV x):=by
 show aO I β [.int .i64 x.Hop.aH,.int .i64 x.Hop.To,.int .i64 x.bO] _
 simp only[aO,Rep,aA]
 exact⟨_,_,rfl,rfl,⟨_,_,rfl,rfl,⟨_,_,rfl,rfl,rfl⟩⟩⟩
theorem aoC(x:aq):∀v∈pV x,v.oneCell'=true:=by
 intro v hv
 simp only[pV,List.mem_cons,List.not_mem_nil,or_false]at hv
 rcases hv with rfl|rfl|rfl<;>rfl
theorem aoD(a b:aq):nT a b=some (eD [λx:aq=>x.Hop.aH,λx:aq=>x.Hop.To] a b):=by
 unfold nT fC
 simp only[abn,zI,eD]
 rcases Int.lt_trichotomy a.Hop.aH b.Hop.aH with h0|h0|h0<;>rcases Int.lt_trichotomy a.Hop.To b.Hop.To with h1|h1|h1<;>simp[bnd,bF,h0,h1]<;>(repeat (first|rw[if_neg (by omega)]|rw[if_pos (by omega)]))<;>simp
theorem aid:ab7 prog 127 128 pV 3 (eD [λx:aq=>x.Hop.aH,λx:aq=>x.Hop.To]):=λblk off cap d w hH hb hs=>
 AnyQ.slices_SortFunc Tryz.agP 3 isAgg175 sizeOf175 pV (λ_=>rfl) aoC _ (aab _) 128 #[] blk off cap d w (enters_of func128 (by kernel_rfl) rfl)
  (xm aoB (λx y=>xx (aoD x y)) blk off d.size w) hH hb hs
theorem afb{d T:Nat}{zs ys:List aq}(h:mD (eD [λx:aq=>x.Hop.aH,λx:aq=>x.Hop.To]) zs=some ys):b8 prog 127 [(d,.slice T 3 (ml aR zs) 0 false)] [.own d,.fn 128 []] (λr σ'=>r=.tup []∧σ'=[(d,.slice T 3 (ml aR ys) 0 false)]):=
 yV aoA (by decide) (λ_=>rfl) (λ_=>rfl) (nI _) aid (λp cap fv w=>AnyF.slices_SortFunc_none Tryz.agP p cap fv w) h
end Go.Proofs.YtmnbolcmepihlaaGreat
