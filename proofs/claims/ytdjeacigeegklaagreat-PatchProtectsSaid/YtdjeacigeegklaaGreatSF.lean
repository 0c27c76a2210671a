/- The sorts of slices of structs aY the call adJ. No condition but bJ aY stand in each. -/
import Derived.Test.YtdjeacigeegklaaGreatA17
import Derived.Test.YtdjeacigeegklaaGreatVC
namespace Go.Proofs.YtdjeacigeegklaaGreat
set_option linter.all false
open Go Go.Proofs.Tryz Go.Sort Go.Lib Go.Shelf Go.RowKit
set_option maxRecDepth 100000
def aiF(x y:Int):Int:=if x<y then -1 else if y<x then 1 else 0
theorem aqB(x y:Int):fN x y=some (aiF x y):=by
 unfold fN lK aiF
 by_cases h:x<y
 ·simp[h,bnd]
 ·by_cases h2:y<x<;>simp[h,h2,bnd]
def Tryz.alQ:Shelf.Ren:=
 {  f:=λx=>match x with|6=>161|15=>164|14=>167|28=>176|29=>177|20=>178|21=>179|22=>180|23=>181|24=>182|25=>183|26=>184|27=>185|46=>191|47=>187|48=>188|49=>192|50=>193|57=>195|n=>n,t:=λx=>match x with|22=>216|24=>218|25=>220|3=>3|39=>40|0=>0|53=>235|55=>34|4=>4|46=>229|45=>228|50=>112|5=>5|9=>9|66=>242|70=>246|76=>250|77=>251|n=>n,g:=λn=>n}
theorem Tryz.anD:SlLaysF0.n6 prog Tryz.alQ:=
  {mixed:=by kernel_rfl,f6:=⟨ "slices.SortFunc[[]bitcast/shortest.step,bitcast/shortest.step]",of_decide_eq_true (by kernel_rfl),func161.trans (by kernel_rfl)⟩,
   f14:=⟨ "slices.pdqsortCmpFunc[bitcast/shortest.step]",of_decide_eq_true (by kernel_rfl),func167.trans (by kernel_rfl)⟩,f15:=func164.trans (by kernel_rfl),
   f20:=⟨ "slices.insertionSortCmpFunc[bitcast/shortest.step]",of_decide_eq_true (by kernel_rfl),func178.trans (by kernel_rfl)⟩,f21:=⟨ "slices.heapSortCmpFunc[bitcast/shortest.step]",
   of_decide_eq_true (by kernel_rfl),func179.trans (by kernel_rfl)⟩,f22:=⟨ "slices.breakPatternsCmpFunc[bitcast/shortest.step]",of_decide_eq_true (by kernel_rfl),
   func180.trans (by kernel_rfl)⟩,f23:=⟨ "slices.choosePivotCmpFunc[bitcast/shortest.step]",of_decide_eq_true (by kernel_rfl),func181.trans (by kernel_rfl)⟩,
   f24:=⟨ "slices.reverseRangeCmpFunc[bitcast/shortest.step]",of_decide_eq_true (by kernel_rfl),func182.trans (by kernel_rfl)⟩,
   f25:=⟨ "slices.partialInsertionSortCmpFunc[bitcast/shortest.step]",of_decide_eq_true (by kernel_rfl),func183.trans (by kernel_rfl)⟩,
   f26:=⟨ "slices.partitionEqualCmpFunc[bitcast/shortest.step]",of_decide_eq_true (by kernel_rfl),func184.trans (by kernel_rfl)⟩,f27:=⟨ "slices.partitionCmpFunc[bitcast/shortest.step]",
   of_decide_eq_true (by kernel_rfl),func185.trans (by kernel_rfl)⟩,f28:=func176.trans (by kernel_rfl),f29:=func177.trans (by kernel_rfl),
   f46:=⟨ "slices.siftDownCmpFunc[bitcast/shortest.step]",of_decide_eq_true (by kernel_rfl),func191.trans (by kernel_rfl)⟩,f47:=func187.trans (by kernel_rfl),
   f48:=func188.trans (by kernel_rfl),f49:=⟨ "slices.medianAdjacentCmpFunc[bitcast/shortest.step]",of_decide_eq_true (by kernel_rfl),func192.trans (by kernel_rfl)⟩,
   f50:=⟨ "slices.medianCmpFunc[bitcast/shortest.step]",of_decide_eq_true (by kernel_rfl),func193.trans (by kernel_rfl)⟩,f57:=⟨ "slices.order2CmpFunc[bitcast/shortest.step]",
   of_decide_eq_true (by kernel_rfl),func195.trans (by kernel_rfl)⟩,t0:=underlying0,a0:=isAgg0,z0:=sizeOf0,v0:=zeroValue0,t3:=underlying3,a3:=isAgg3,
   z3:=sizeOf3,v3:=zeroValue3,t4:=underlying4,a4:=isAgg4,z4:=sizeOf4,v4:=zeroValue4,t5:=underlying5,a5:=isAgg5,z5:=sizeOf5,
   v5:=zeroValue5,t9:=underlying9,a9:=isAgg9,z9:=sizeOf9,v9:=zeroValue9,t22:=underlying216,a22:=isAgg216,z22:=sizeOf216,v22:=zeroValue216,
   t25:=underlying220,a25:=isAgg220,z25:=sizeOf220,v25:=zeroValue220,t39:=underlying40,a39:=isAgg40,z39:=sizeOf40,v39:=zeroValue40,
   t45:=underlying228,a45:=isAgg228,z45:=sizeOf228,v45:=zeroValue228,t46:=underlying229,a46:=isAgg229,z46:=sizeOf229,v46:=zeroValue229,
   t50:=underlying112,a50:=isAgg112,z50:=sizeOf112,v50:=zeroValue112,t53:=underlying235,a53:=isAgg235,z53:=sizeOf235,v53:=zeroValue235,
   t55:=underlying34,a55:=isAgg34,z55:=sizeOf34,v55:=zeroValue34,t66:=underlying242,a66:=isAgg242,z66:=sizeOf242,v66:=zeroValue242,
   t70:=underlying246,a70:=isAgg246,z70:=sizeOf246,v70:=zeroValue246,t76:=underlying250,a76:=isAgg250,z76:=sizeOf250,v76:=zeroValue250,
   t77:=underlying251,a77:=isAgg251,z77:=sizeOf251,v77:=zeroValue251}
def vi(x:aG):List Value:=[.int .i64 x.to_,.int .i64 x.gn]
theorem axV(I:Imm)(x:aG)(vs:List Value):bY I (aD.enc x) vs↔vs=vi x:=by
 show bY I [.int .i64 x.to_,.int .i64 x.gn] vs↔vs=_
 simp only[bY,aL]
 constructor
 ·rintro⟨_,_,rfl,rfl,⟨_,_,rfl,rfl,rfl⟩⟩
  rfl
 ·rintro rfl
  exact⟨_,_,rfl,rfl,⟨_,_,rfl,rfl,rfl⟩⟩
theorem axW(I:Imm)(β:Nat→Value)(x:aG):bA I β (aD.enc x) (vi x):=by
 show bA I β [.int .i64 x.to_,.int .i64 x.gn] _
 simp only[bA,Rep,aL]
 exact⟨_,_,rfl,rfl,⟨_,_,rfl,rfl,rfl⟩⟩
theorem axX(x:aG):∀v∈vi x,v.oneCell'=true:=by
 intro v hv
 simp only[vi,List.mem_cons,List.not_mem_nil,or_false]at hv
 rcases hv with rfl|rfl<;>rfl
theorem axY(a b:aG):nV a b=some (mK [λx:aG=>x.to_] a b):=by
 unfold nV
 simp only[aqB]
 unfold aiF mK
 simp only[bnd,mK]
theorem aqC:amT prog 161 162 vi 2 (mK [λx:aG=>x.to_]):=λblk off cap d w hH hb hs=>
 AnyQ.slices_SortFunc Tryz.anD 2 isAgg218 sizeOf218 vi (λ_=>rfl) axX _ (alF _) 162 #[] blk off cap d w (enters_of func162 (by kernel_rfl) rfl)
  (aiu axW (λx y=>yR (axY x y)) blk off d.size w) hH hb hs
theorem alR{d T:Nat}{zs ys:List aG}(h:sP (mK [λx:aG=>x.to_]) zs=some ys):dA prog 161 [(d,.slice T 2 (ml aD zs) 0 false)] [.own d,.fn 162 []] (λr σ'=>r=.tup []∧σ'=[(d,.slice T 2 (ml aD ys) 0 false)]):=
 ajy axV (by decide) (λ_=>rfl) (λ_=>rfl) (uV _) aqC (λp cap fv w=>AnyF.slices_SortFunc_none Tryz.anD p cap fv w) h
end Go.Proofs.YtdjeacigeegklaaGreat
