/- The sorts of slices of structs aH the call vw. No condition but aX aH stand in each. -/
import Derived.Test.YtmnbolcmepihlaaA17
import Derived.Test.YtmnbolcmepihlaaVC
namespace Go.Proofs.Ytmnbolcmepihlaa
set_option linter.all false
open Go Go.Proofs.Try Go.Sort Go.Lib Go.Shelf Go.RowKit
set_option maxRecDepth 100000
def u0(x y:Int):Int:=if x<y then -1 else if y<x then 1 else 0
theorem wX(x y:Int):b8 x y=some (u0 x y):=by
 unfold b8 fH u0
 by_cases h:x<y
 ·simp[h,bnd]
 ·by_cases h2:y<x<;>simp[h,h2,bnd]
def Try.acH:Shelf.Ren:=
 {  f:=λx=>match x with|6=>29|15=>50|14=>49|28=>66|29=>67|20=>58|21=>59|22=>60|23=>61|24=>62|25=>63|26=>64|27=>65|46=>78|47=>79|48=>80|49=>81|50=>82|57=>86|n=>n,t:=λx=>match x with|22=>34|24=>80|25=>83|3=>3|39=>40|0=>0|53=>118|55=>120|4=>4|46=>112|45=>111|50=>94|5=>5|9=>9|66=>128|70=>132|76=>136|77=>137|n=>n,g:=λn=>n}
theorem Try.age:SlLaysF0.n6 prog Try.acH:=
  {mixed:=by kernel_rfl,f6:=⟨ "slices.SortFunc[[]bitcast/api.Hop,bitcast/api.Hop]",of_decide_eq_true (by kernel_rfl),func29.trans (by kernel_rfl)⟩,
   f14:=⟨ "slices.pdqsortCmpFunc[bitcast/api.Hop]",of_decide_eq_true (by kernel_rfl),func49.trans (by kernel_rfl)⟩,f15:=func50.trans (by kernel_rfl),
   f20:=⟨ "slices.insertionSortCmpFunc[bitcast/api.Hop]",of_decide_eq_true (by kernel_rfl),func58.trans (by kernel_rfl)⟩,f21:=⟨ "slices.heapSortCmpFunc[bitcast/api.Hop]",
   of_decide_eq_true (by kernel_rfl),func59.trans (by kernel_rfl)⟩,f22:=⟨ "slices.breakPatternsCmpFunc[bitcast/api.Hop]",of_decide_eq_true (by kernel_rfl),func60.trans (by kernel_rfl)⟩,
   f23:=⟨ "slices.choosePivotCmpFunc[bitcast/api.Hop]",of_decide_eq_true (by kernel_rfl),func61.trans (by kernel_rfl)⟩,f24:=⟨ "slices.reverseRangeCmpFunc[bitcast/api.Hop]",
   of_decide_eq_true (by kernel_rfl),func62.trans (by kernel_rfl)⟩,f25:=⟨ "slices.partialInsertionSortCmpFunc[bitcast/api.Hop]",of_decide_eq_true (by kernel_rfl),
   func63.trans (by kernel_rfl)⟩,f26:=⟨ "slices.partitionEqualCmpFunc[bitcast/api.Hop]",of_decide_eq_true (by kernel_rfl),func64.trans (by kernel_rfl)⟩,
   f27:=⟨ "slices.partitionCmpFunc[bitcast/api.Hop]",of_decide_eq_true (by kernel_rfl),func65.trans (by kernel_rfl)⟩,f28:=func66.trans (by kernel_rfl),
   f29:=func67.trans (by kernel_rfl),f46:=⟨ "slices.siftDownCmpFunc[bitcast/api.Hop]",of_decide_eq_true (by kernel_rfl),func78.trans (by kernel_rfl)⟩,
   f47:=func79.trans (by kernel_rfl),f48:=func80.trans (by kernel_rfl),f49:=⟨ "slices.medianAdjacentCmpFunc[bitcast/api.Hop]",of_decide_eq_true (by kernel_rfl),
   func81.trans (by kernel_rfl)⟩,f50:=⟨ "slices.medianCmpFunc[bitcast/api.Hop]",of_decide_eq_true (by kernel_rfl),func82.trans (by kernel_rfl)⟩,
   f57:=⟨ "slices.order2CmpFunc[bitcast/api.Hop]",of_decide_eq_true (by kernel_rfl),func86.trans (by kernel_rfl)⟩,t0:=underlying0,a0:=isAgg0,z0:=sizeOf0,v0:=zeroValue0,
   t3:=underlying3,a3:=isAgg3,z3:=sizeOf3,v3:=zeroValue3,t4:=underlying4,a4:=isAgg4,z4:=sizeOf4,v4:=zeroValue4,t5:=underlying5,
   a5:=isAgg5,z5:=sizeOf5,v5:=zeroValue5,t9:=underlying9,a9:=isAgg9,z9:=sizeOf9,v9:=zeroValue9,t22:=underlying34,a22:=isAgg34,
   z22:=sizeOf34,v22:=zeroValue34,t25:=underlying83,a25:=isAgg83,z25:=sizeOf83,v25:=zeroValue83,t39:=underlying40,a39:=isAgg40,z39:=sizeOf40,
   v39:=zeroValue40,t45:=underlying111,a45:=isAgg111,z45:=sizeOf111,v45:=zeroValue111,t46:=underlying112,a46:=isAgg112,z46:=sizeOf112,
   v46:=zeroValue112,t50:=underlying94,a50:=isAgg94,z50:=sizeOf94,v50:=zeroValue94,t53:=underlying118,a53:=isAgg118,z53:=sizeOf118,
   v53:=zeroValue118,t55:=underlying120,a55:=isAgg120,z55:=sizeOf120,v55:=zeroValue120,t66:=underlying128,a66:=isAgg128,z66:=sizeOf128,
   v66:=zeroValue128,t70:=underlying132,a70:=isAgg132,z70:=sizeOf132,v70:=zeroValue132,t76:=underlying136,a76:=isAgg136,z76:=sizeOf136,
   v76:=zeroValue136,t77:=underlying137,a77:=isAgg137,z77:=sizeOf137,v77:=zeroValue137}
def nT(x:aV):List Value:=[.int .i64 x.bf,.int .i64 x.To]
theorem vc80(I:Imm)(x:aV)(vs:List Value):aR I (fu.enc x) vs↔vs=nT x:=by
 show aR I [.int .i64 x.bf,.int .i64 x.To] vs↔vs=_
 simp only[aR,aj]
 constructor
 ·rintro⟨_,_,rfl,rfl,⟨_,_,rfl,rfl,rfl⟩⟩
  rfl
 ·rintro rfl
  exact⟨_,_,rfl,rfl,⟨_,_,rfl,rfl,rfl⟩⟩
theorem vl80(I:Imm)(β:Nat→Value)(x:aV):aI I β (fu.enc x) (nT x):=by
 show aI I β [.int .i64 x.bf,.int .i64 x.To] _
 simp only[aI,Rep,aj]
 exact⟨_,_,rfl,rfl,⟨_,_,rfl,rfl,rfl⟩⟩
theorem v180(x:aV):∀v∈nT x,v.oneCell'=true:=by
 intro v hv
 simp only[nT,List.mem_cons,List.not_mem_nil,or_false]at hv
 rcases hv with rfl|rfl<;>rfl
theorem cf30(a b:aV):gA a b=some (dQ [λx:aV=>x.bf,λx:aV=>x.To] a b):=by
 unfold gA eU
 simp only[wX,u0,dQ]
 rcases Int.lt_trichotomy a.bf b.bf with h0|h0|h0<;>rcases Int.lt_trichotomy a.To b.To with h1|h1|h1<;>simp[bnd,cc,h0,h1]<;>(repeat (first|rw[if_neg (by omega)]|rw[if_pos (by omega)]))<;>simp
theorem agf:xN prog 29 30 nT 2 (dQ [λx:aV=>x.bf,λx:aV=>x.To]):=λblk off cap d w hH hb hs=>
 AnyQ.slices_SortFunc Try.age 2 isAgg80 sizeOf80 nT (λ_=>rfl) v180 _ (vB _) 30 #[] blk off cap d w (enters_of func30 (by kernel_rfl) rfl)
  (sO vl80 (λx y=>nS (cf30 x y)) blk off d.size w) hH hb hs
theorem acI{d T:Nat}{zs ys:List aV}(h:jI (dQ [λx:aV=>x.bf,λx:aV=>x.To]) zs=some ys):bL prog 29 [(d,.slice T 2 (ml fu zs) 0 false)] [.own d,.fn 30 []] (λr σ'=>r=.tup []∧σ'=[(d,.slice T 2 (ml fu ys) 0 false)]):=
 uA vc80 (by decide) (λ_=>rfl) (λ_=>rfl) (kr _) agf (λp cap fv w=>AnyF.slices_SortFunc_none Try.age p cap fv w) h
def Try.acJ:Shelf.Ren:=
 {  f:=λx=>match x with|6=>33|15=>50|14=>52|28=>66|29=>67|20=>68|21=>69|22=>70|23=>71|24=>72|25=>73|26=>74|27=>75|46=>83|47=>79|48=>80|49=>84|50=>85|57=>87|n=>n,t:=λx=>match x with|22=>57|24=>85|25=>87|3=>3|39=>40|0=>0|53=>118|55=>120|4=>4|46=>112|45=>111|50=>94|5=>5|9=>9|66=>128|70=>132|76=>136|77=>137|n=>n,g:=λn=>n}
theorem Try.agh:SlLaysF0.n6 prog Try.acJ:=
  {mixed:=by kernel_rfl,f6:=⟨ "slices.SortFunc[[]bitcast/arbor.Arc,bitcast/arbor.Arc]",of_decide_eq_true (by kernel_rfl),func33.trans (by kernel_rfl)⟩,
   f14:=⟨ "slices.pdqsortCmpFunc[bitcast/arbor.Arc]",of_decide_eq_true (by kernel_rfl),func52.trans (by kernel_rfl)⟩,f15:=func50.trans (by kernel_rfl),
   f20:=⟨ "slices.insertionSortCmpFunc[bitcast/arbor.Arc]",of_decide_eq_true (by kernel_rfl),func68.trans (by kernel_rfl)⟩,f21:=⟨ "slices.heapSortCmpFunc[bitcast/arbor.Arc]",
   of_decide_eq_true (by kernel_rfl),func69.trans (by kernel_rfl)⟩,f22:=⟨ "slices.breakPatternsCmpFunc[bitcast/arbor.Arc]",of_decide_eq_true (by kernel_rfl),func70.trans (by kernel_rfl)⟩,
   f23:=⟨ "slices.choosePivotCmpFunc[bitcast/arbor.Arc]",of_decide_eq_true (by kernel_rfl),func71.trans (by kernel_rfl)⟩,f24:=⟨ "slices.reverseRangeCmpFunc[bitcast/arbor.Arc]",
   of_decide_eq_true (by kernel_rfl),func72.trans (by kernel_rfl)⟩,f25:=⟨ "slices.partialInsertionSortCmpFunc[bitcast/arbor.Arc]",of_decide_eq_true (by kernel_rfl),
   func73.trans (by kernel_rfl)⟩,f26:=⟨ "slices.partitionEqualCmpFunc[bitcast/arbor.Arc]",of_decide_eq_true (by kernel_rfl),func74.trans (by kernel_rfl)⟩,
   f27:=⟨ "slices.partitionCmpFunc[bitcast/arbor.Arc]",of_decide_eq_true (by kernel_rfl),func75.trans (by kernel_rfl)⟩,f28:=func66.trans (by kernel_rfl),
   f29:=func67.trans (by kernel_rfl),f46:=⟨ "slices.siftDownCmpFunc[bitcast/arbor.Arc]",of_decide_eq_true (by kernel_rfl),func83.trans (by kernel_rfl)⟩,
   f47:=func79.trans (by kernel_rfl),f48:=func80.trans (by kernel_rfl),f49:=⟨ "slices.medianAdjacentCmpFunc[bitcast/arbor.Arc]",of_decide_eq_true (by kernel_rfl),
   func84.trans (by kernel_rfl)⟩,f50:=⟨ "slices.medianCmpFunc[bitcast/arbor.Arc]",of_decide_eq_true (by kernel_rfl),func85.trans (by kernel_rfl)⟩,
   f57:=⟨ "slices.order2CmpFunc[bitcast/arbor.Arc]",of_decide_eq_true (by kernel_rfl),func87.trans (by kernel_rfl)⟩,t0:=underlying0,a0:=isAgg0,z0:=sizeOf0,
   v0:=zeroValue0,t3:=underlying3,a3:=isAgg3,z3:=sizeOf3,v3:=zeroValue3,t4:=underlying4,a4:=isAgg4,z4:=sizeOf4,v4:=zeroValue4,
   t5:=underlying5,a5:=isAgg5,z5:=sizeOf5,v5:=zeroValue5,t9:=underlying9,a9:=isAgg9,z9:=sizeOf9,v9:=zeroValue9,t22:=underlying57,
   a22:=isAgg57,z22:=sizeOf57,v22:=zeroValue57,t25:=underlying87,a25:=isAgg87,z25:=sizeOf87,v25:=zeroValue87,t39:=underlying40,a39:=isAgg40,
   z39:=sizeOf40,v39:=zeroValue40,t45:=underlying111,a45:=isAgg111,z45:=sizeOf111,v45:=zeroValue111,t46:=underlying112,a46:=isAgg112,
   z46:=sizeOf112,v46:=zeroValue112,t50:=underlying94,a50:=isAgg94,z50:=sizeOf94,v50:=zeroValue94,t53:=underlying118,a53:=isAgg118,
   z53:=sizeOf118,v53:=zeroValue118,t55:=underlying120,a55:=isAgg120,z55:=sizeOf120,v55:=zeroValue120,t66:=underlying128,a66:=isAgg128,
   z66:=sizeOf128,v66:=zeroValue128,t70:=underlying132,a70:=isAgg132,z70:=sizeOf132,v70:=zeroValue132,t76:=underlying136,a76:=isAgg136,
   z76:=sizeOf136,v76:=zeroValue136,t77:=underlying137,a77:=isAgg137,z77:=sizeOf137,v77:=zeroValue137}
def nU(x:af):List Value:=[.int .i64 x.Hop.bf,.int .i64 x.Hop.To,.int .i64 x.bI]
theorem vc85(I:Imm)(x:af)(vs:List Value):aR I (aG.enc x) vs↔vs=nU x:=by
 show aR I [.int .i64 x.Hop.bf,.int .i64 x.Hop.To,.int .i64 x.bI] vs↔vs=_
 simp only[aR,aj]
 constructor
 ·rintro⟨_,_,rfl,rfl,⟨_,_,rfl,rfl,⟨_,_,rfl,rfl,rfl⟩⟩⟩
  rfl
 ·rintro rfl
  exact⟨_,_,rfl,rfl,⟨_,_,rfl,rfl,⟨_,_,rfl,rfl,rfl⟩⟩⟩
theorem vl85(I:Imm)(β:Nat→Value)(x:af):aI I β (aG.enc x) (nU x):=by
 show aI I β [.int .i64 x.Hop.bf,.int .i64 x.Hop.To,.int .i64 x.bI] _
 simp only[aI,Rep,aj]
 exact⟨_,_,rfl,rfl,⟨_,_,rfl,rfl,⟨_,_,rfl,rfl,rfl⟩⟩⟩
theorem v185(x:af):∀v∈nU x,v.oneCell'=true:=by
 intro v hv
 simp only[nU,List.mem_cons,List.not_mem_nil,or_false]at hv
 rcases hv with rfl|rfl|rfl<;>rfl
theorem cf34(a b:af):kK a b=some (dQ [λx:af=>x.Hop.bf,λx:af=>x.Hop.To] a b):=by
 unfold kK eU
 simp only[wX,u0,dQ]
 rcases Int.lt_trichotomy a.Hop.bf b.Hop.bf with h0|h0|h0<;>rcases Int.lt_trichotomy a.Hop.To b.Hop.To with h1|h1|h1<;>simp[bnd,cc,h0,h1]<;>(repeat (first|rw[if_neg (by omega)]|rw[if_pos (by omega)]))<;>simp
theorem agi:xN prog 33 34 nU 3 (dQ [λx:af=>x.Hop.bf,λx:af=>x.Hop.To]):=λblk off cap d w hH hb hs=>
 AnyQ.slices_SortFunc Try.agh 3 isAgg85 sizeOf85 nU (λ_=>rfl) v185 _ (vB _) 34 #[] blk off cap d w (enters_of func34 (by kernel_rfl) rfl)
  (sO vl85 (λx y=>sS (cf34 x y)) blk off d.size w) hH hb hs
theorem acK{d T:Nat}{zs ys:List af}(h:jI (dQ [λx:af=>x.Hop.bf,λx:af=>x.Hop.To]) zs=some ys):bL prog 33 [(d,.slice T 3 (ml aG zs) 0 false)] [.own d,.fn 34 []] (λr σ'=>r=.tup []∧σ'=[(d,.slice T 3 (ml aG ys) 0 false)]):=
 uA vc85 (by decide) (λ_=>rfl) (λ_=>rfl) (kr _) agi (λp cap fv w=>AnyF.slices_SortFunc_none Try.agh p cap fv w) h
end Go.Proofs.Ytmnbolcmepihlaa
