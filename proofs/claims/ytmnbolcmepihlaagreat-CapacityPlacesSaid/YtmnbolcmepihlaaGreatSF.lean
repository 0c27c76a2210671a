/- The sorts of slices of structs aM the call owns. No condition but bf aM stand in each. -/
import Derived.Test.YtmnbolcmepihlaaGreatA17
import Derived.Test.YtmnbolcmepihlaaGreatVC
namespace Go.Proofs.YtmnbolcmepihlaaGreat
set_option linter.all false
open Go Go.Proofs.Tryz Go.Sort Go.Lib Go.Shelf Go.RowKit
set_option maxRecDepth 100000
def z6(x y:Int):Int:=if x<y then -1 else if y<x then 1 else 0
theorem aaK(x y:Int):cA x y=some (z6 x y):=by
 unfold cA fN z6;by_cases h:x<y
 ·simp[h,bnd]
 ·by_cases h2:y<x<;>simp[h,h2,bnd]
def Tryz.aim:Shelf.Ren:=
 {  f:=λx=>match x with|6=>124|15=>178|14=>177|28=>206|29=>207|20=>198|21=>199|22=>200|23=>201|24=>202|25=>203|26=>204|27=>205|46=>235|47=>236|48=>237|49=>238|50=>239|57=>258|n=>n,t:=λx=>match x with|22=>34|24=>84|25=>158|3=>3|39=>178|0=>0|53=>252|55=>254|4=>4|46=>246|45=>245|50=>89|5=>5|9=>9|66=>272|70=>276|76=>289|77=>290|n=>n,g:=λn=>n}
theorem Tryz.aj1:SlLaysF0.n6 prog Tryz.aim:=
  {mixed:=by kernel_rfl,f6:=⟨ "slices.SortFunc[[]bitcast/api.Hop,bitcast/api.Hop]",of_decide_eq_true (by kernel_rfl),func124.trans (by kernel_rfl)⟩,
   f14:=⟨ "slices.pdqsortCmpFunc[bitcast/api.Hop]",of_decide_eq_true (by kernel_rfl),func177.trans (by kernel_rfl)⟩,f15:=func178.trans (by kernel_rfl),
   f20:=⟨ "slices.insertionSortCmpFunc[bitcast/api.Hop]",of_decide_eq_true (by kernel_rfl),func198.trans (by kernel_rfl)⟩,f21:=⟨ "slices.heapSortCmpFunc[bitcast/api.Hop]",
   of_decide_eq_true (by kernel_rfl),func199.trans (by kernel_rfl)⟩,f22:=⟨ "slices.breakPatternsCmpFunc[bitcast/api.Hop]",of_decide_eq_true (by kernel_rfl),func200.trans (by kernel_rfl)⟩,
   f23:=⟨ "slices.choosePivotCmpFunc[bitcast/api.Hop]",of_decide_eq_true (by kernel_rfl),func201.trans (by kernel_rfl)⟩,f24:=⟨ "slices.reverseRangeCmpFunc[bitcast/api.Hop]",
   of_decide_eq_true (by kernel_rfl),func202.trans (by kernel_rfl)⟩,f25:=⟨ "slices.partialInsertionSortCmpFunc[bitcast/api.Hop]",of_decide_eq_true (by kernel_rfl),
   func203.trans (by kernel_rfl)⟩,f26:=⟨ "slices.partitionEqualCmpFunc[bitcast/api.Hop]",of_decide_eq_true (by kernel_rfl),func204.trans (by kernel_rfl)⟩,
   f27:=⟨ "slices.partitionCmpFunc[bitcast/api.Hop]",of_decide_eq_true (by kernel_rfl),func205.trans (by kernel_rfl)⟩,f28:=func206.trans (by kernel_rfl),
   f29:=func207.trans (by kernel_rfl),f46:=⟨ "slices.siftDownCmpFunc[bitcast/api.Hop]",of_decide_eq_true (by kernel_rfl),func235.trans (by kernel_rfl)⟩,
   f47:=func236.trans (by kernel_rfl),f48:=func237.trans (by kernel_rfl),f49:=⟨ "slices.medianAdjacentCmpFunc[bitcast/api.Hop]",of_decide_eq_true (by kernel_rfl),
   func238.trans (by kernel_rfl)⟩,f50:=⟨ "slices.medianCmpFunc[bitcast/api.Hop]",of_decide_eq_true (by kernel_rfl),func239.trans (by kernel_rfl)⟩,
   f57:=⟨ "slices.order2CmpFunc[bitcast/api.Hop]",of_decide_eq_true (by kernel_rfl),func258.trans (by kernel_rfl)⟩,t0:=underlying0,a0:=isAgg0,z0:=sizeOf0,
   v0:=zeroValue0,t3:=underlying3,a3:=isAgg3,z3:=sizeOf3,v3:=zeroValue3,t4:=underlying4,a4:=isAgg4,z4:=sizeOf4,v4:=zeroValue4,
   t5:=underlying5,a5:=isAgg5,z5:=sizeOf5,v5:=zeroValue5,t9:=underlying9,a9:=isAgg9,z9:=sizeOf9,v9:=zeroValue9,t22:=underlying34,
   a22:=isAgg34,z22:=sizeOf34,v22:=zeroValue34,t25:=underlying158,a25:=isAgg158,z25:=sizeOf158,v25:=zeroValue158,t39:=underlying178,
   a39:=isAgg178,z39:=sizeOf178,v39:=zeroValue178,t45:=underlying245,a45:=isAgg245,z45:=sizeOf245,v45:=zeroValue245,t46:=underlying246,
   a46:=isAgg246,z46:=sizeOf246,v46:=zeroValue246,t50:=underlying89,a50:=isAgg89,z50:=sizeOf89,v50:=zeroValue89,t53:=underlying252,
   a53:=isAgg252,z53:=sizeOf252,v53:=zeroValue252,t55:=underlying254,a55:=isAgg254,z55:=sizeOf254,v55:=zeroValue254,t66:=underlying272,
   a66:=isAgg272,z66:=sizeOf272,v66:=zeroValue272,t70:=underlying276,a70:=isAgg276,z70:=sizeOf276,v70:=zeroValue276,t76:=underlying289,
   a76:=isAgg289,z76:=sizeOf289,v76:=zeroValue289,t77:=underlying290,a77:=isAgg290,z77:=sizeOf290,v77:=zeroValue290}
def uu(x:az):List Value:=[.int .i64 x.aD,.int .i64 x.To]
theorem vc84(I:Imm)(x:az)(vs:List Value):aS I (aJ.enc x) vs↔vs=uu x:=by
 show aS I [.int .i64 x.aD,.int .i64 x.To] vs↔vs=_;simp only[aS,aB];constructor
 ·rintro⟨_,_,rfl,rfl,⟨_,_,rfl,rfl,rfl⟩⟩;rfl
 ·rintro rfl;exact⟨_,_,rfl,rfl,⟨_,_,rfl,rfl,rfl⟩⟩
theorem vl84(I:Imm)(β:Nat→Value)(x:az):aW I β (aJ.enc x) (uu x):=by
 show aW I β [.int .i64 x.aD,.int .i64 x.To] _;simp only[aW,Rep,aB];exact⟨_,_,rfl,rfl,⟨_,_,rfl,rfl,rfl⟩⟩
theorem v184(x:az):∀v∈uu x,v.oneCell'=true:=by
 intro v hv;simp only[uu,List.mem_cons,List.not_mem_nil,or_false]at hv;rcases hv with rfl|rfl<;>rfl
theorem asz(a b:az):kH a b=some (cZ [λx:az=>x.aD,λx:az=>x.To] a b):=by
 unfold kH fE;simp only[aaK,z6,cZ];rcases Int.lt_trichotomy a.aD b.aD with h0|h0|h0<;>rcases Int.lt_trichotomy a.To b.To with h1|h1|h1<;>simp[bnd,bJ,h0,h1]<;>(repeat (first|rw[if_neg (by omega)]|rw[if_pos (by omega)]))<;>simp
theorem alK:ab2 prog 124 125 uu 2 (cZ [λx:az=>x.aD,λx:az=>x.To]):=λblk off cap d w hH hb hs=>
 AnyQ.slices_SortFunc Tryz.aj1 2 isAgg84 sizeOf84 uu (λ_=>rfl) v184 _ (yT _) 125 #[] blk off cap d w (enters_of func125 (by kernel_rfl) rfl)
  (vf vl84 (λx y=>uq (asz x y)) blk off d.size w) hH hb hs
variable {T d:Nat}
theorem ain{zs ys:List az}(h:jO (cZ [λx:az=>x.aD,λx:az=>x.To]) zs=some ys):b9 prog 124 [(d,.slice T 2 (ml aJ zs) 0 false)] [.own d,.fn 125 []] (λr σ'=>r=.tup []∧σ'=[(d,.slice T 2 (ml aJ ys) 0 false)]):=
 wR vc84 (by decide) (λ_=>rfl) (λ_=>rfl) (mh _) alK (λp cap fv w=>AnyF.slices_SortFunc_none Tryz.aj1 p cap fv w) h
def Tryz.aio:Shelf.Ren:=
 {  f:=λx=>match x with|6=>127|15=>178|14=>179|28=>206|29=>207|20=>208|21=>209|22=>210|23=>211|24=>212|25=>213|26=>214|27=>215|46=>240|47=>236|48=>237|49=>241|50=>242|57=>259|n=>n,t:=λx=>match x with|22=>111|24=>175|25=>177|3=>3|39=>178|0=>0|53=>252|55=>254|4=>4|46=>246|45=>245|50=>89|5=>5|9=>9|66=>272|70=>276|76=>289|77=>290|n=>n,g:=λn=>n}
theorem Tryz.aj2:SlLaysF0.n6 prog Tryz.aio:=
  {mixed:=by kernel_rfl,f6:=⟨ "slices.SortFunc[[]bitcast/arbor.Arc,bitcast/arbor.Arc]",of_decide_eq_true (by kernel_rfl),func127.trans (by kernel_rfl)⟩,
   f14:=⟨ "slices.pdqsortCmpFunc[bitcast/arbor.Arc]",of_decide_eq_true (by kernel_rfl),func179.trans (by kernel_rfl)⟩,f15:=func178.trans (by kernel_rfl),
   f20:=⟨ "slices.insertionSortCmpFunc[bitcast/arbor.Arc]",of_decide_eq_true (by kernel_rfl),func208.trans (by kernel_rfl)⟩,f21:=⟨ "slices.heapSortCmpFunc[bitcast/arbor.Arc]",
   of_decide_eq_true (by kernel_rfl),func209.trans (by kernel_rfl)⟩,f22:=⟨ "slices.breakPatternsCmpFunc[bitcast/arbor.Arc]",of_decide_eq_true (by kernel_rfl),func210.trans (by kernel_rfl)⟩,
   f23:=⟨ "slices.choosePivotCmpFunc[bitcast/arbor.Arc]",of_decide_eq_true (by kernel_rfl),func211.trans (by kernel_rfl)⟩,f24:=⟨ "slices.reverseRangeCmpFunc[bitcast/arbor.Arc]",
   of_decide_eq_true (by kernel_rfl),func212.trans (by kernel_rfl)⟩,f25:=⟨ "slices.partialInsertionSortCmpFunc[bitcast/arbor.Arc]",of_decide_eq_true (by kernel_rfl),
   func213.trans (by kernel_rfl)⟩,f26:=⟨ "slices.partitionEqualCmpFunc[bitcast/arbor.Arc]",of_decide_eq_true (by kernel_rfl),func214.trans (by kernel_rfl)⟩,
   f27:=⟨ "slices.partitionCmpFunc[bitcast/arbor.Arc]",of_decide_eq_true (by kernel_rfl),func215.trans (by kernel_rfl)⟩,f28:=func206.trans (by kernel_rfl),
   f29:=func207.trans (by kernel_rfl),f46:=⟨ "slices.siftDownCmpFunc[bitcast/arbor.Arc]",of_decide_eq_true (by kernel_rfl),func240.trans (by kernel_rfl)⟩,
   f47:=func236.trans (by kernel_rfl),f48:=func237.trans (by kernel_rfl),f49:=⟨ "slices.medianAdjacentCmpFunc[bitcast/arbor.Arc]",of_decide_eq_true (by kernel_rfl),
   func241.trans (by kernel_rfl)⟩,f50:=⟨ "slices.medianCmpFunc[bitcast/arbor.Arc]",of_decide_eq_true (by kernel_rfl),func242.trans (by kernel_rfl)⟩,
   f57:=⟨ "slices.order2CmpFunc[bitcast/arbor.Arc]",of_decide_eq_true (by kernel_rfl),func259.trans (by kernel_rfl)⟩,t0:=underlying0,a0:=isAgg0,z0:=sizeOf0,
   v0:=zeroValue0,t3:=underlying3,a3:=isAgg3,z3:=sizeOf3,v3:=zeroValue3,t4:=underlying4,a4:=isAgg4,z4:=sizeOf4,v4:=zeroValue4,
   t5:=underlying5,a5:=isAgg5,z5:=sizeOf5,v5:=zeroValue5,t9:=underlying9,a9:=isAgg9,z9:=sizeOf9,v9:=zeroValue9,t22:=underlying111,
   a22:=isAgg111,z22:=sizeOf111,v22:=zeroValue111,t25:=underlying177,a25:=isAgg177,z25:=sizeOf177,v25:=zeroValue177,t39:=underlying178,
   a39:=isAgg178,z39:=sizeOf178,v39:=zeroValue178,t45:=underlying245,a45:=isAgg245,z45:=sizeOf245,v45:=zeroValue245,t46:=underlying246,
   a46:=isAgg246,z46:=sizeOf246,v46:=zeroValue246,t50:=underlying89,a50:=isAgg89,z50:=sizeOf89,v50:=zeroValue89,t53:=underlying252,
   a53:=isAgg252,z53:=sizeOf252,v53:=zeroValue252,t55:=underlying254,a55:=isAgg254,z55:=sizeOf254,v55:=zeroValue254,t66:=underlying272,
   a66:=isAgg272,z66:=sizeOf272,v66:=zeroValue272,t70:=underlying276,a70:=isAgg276,z70:=sizeOf276,v70:=zeroValue276,t76:=underlying289,
   a76:=isAgg289,z76:=sizeOf289,v76:=zeroValue289,t77:=underlying290,a77:=isAgg290,z77:=sizeOf290,v77:=zeroValue290}
def su(x:ah):List Value:=[.int .i64 x.Hop.aD,.int .i64 x.Hop.To,.int .i64 x.dx]
theorem asA(I:Imm)(x:ah)(vs:List Value):aS I (aH.enc x) vs↔vs=su x:=by
 show aS I [.int .i64 x.Hop.aD,.int .i64 x.Hop.To,.int .i64 x.dx] vs↔vs=_;simp only[aS,aB];constructor
 ·rintro⟨_,_,rfl,rfl,⟨_,_,rfl,rfl,⟨_,_,rfl,rfl,rfl⟩⟩⟩;rfl
 ·rintro rfl;exact⟨_,_,rfl,rfl,⟨_,_,rfl,rfl,⟨_,_,rfl,rfl,rfl⟩⟩⟩
theorem asB(I:Imm)(β:Nat→Value)(x:ah):aW I β (aH.enc x) (su x):=by
 show aW I β [.int .i64 x.Hop.aD,.int .i64 x.Hop.To,.int .i64 x.dx] _;simp only[aW,Rep,aB];exact⟨_,_,rfl,rfl,⟨_,_,rfl,rfl,⟨_,_,rfl,rfl,rfl⟩⟩⟩
theorem asC(x:ah):∀v∈su x,v.oneCell'=true:=by
 intro v hv;simp only[su,List.mem_cons,List.not_mem_nil,or_false]at hv;rcases hv with rfl|rfl|rfl<;>rfl
theorem asD(a b:ah):pT a b=some (cZ [λx:ah=>x.Hop.aD,λx:ah=>x.Hop.To] a b):=by
 unfold pT fE;simp only[aaK,z6,cZ];rcases Int.lt_trichotomy a.Hop.aD b.Hop.aD with h0|h0|h0<;>rcases Int.lt_trichotomy a.Hop.To b.Hop.To with h1|h1|h1<;>simp[bnd,bJ,h0,h1]<;>(repeat (first|rw[if_neg (by omega)]|rw[if_pos (by omega)]))<;>simp
theorem alL:ab2 prog 127 128 su 3 (cZ [λx:ah=>x.Hop.aD,λx:ah=>x.Hop.To]):=λblk off cap d w hH hb hs=>
 AnyQ.slices_SortFunc Tryz.aj2 3 isAgg175 sizeOf175 su (λ_=>rfl) asC _ (yT _) 128 #[] blk off cap d w (enters_of func128 (by kernel_rfl) rfl)
  (vf asB (λx y=>zZ (asD x y)) blk off d.size w) hH hb hs
theorem aip{zs ys:List ah}(h:jO (cZ [λx:ah=>x.Hop.aD,λx:ah=>x.Hop.To]) zs=some ys):b9 prog 127 [(d,.slice T 3 (ml aH zs) 0 false)] [.own d,.fn 128 []] (λr σ'=>r=.tup []∧σ'=[(d,.slice T 3 (ml aH ys) 0 false)]):=
 wR asA (by decide) (λ_=>rfl) (λ_=>rfl) (mh _) alL (λp cap fv w=>AnyF.slices_SortFunc_none Tryz.aj2 p cap fv w) h
def Tryz.aiq:Shelf.Ren:=
 {  f:=λx=>match x with|6=>154|15=>178|14=>184|28=>206|29=>207|20=>224|21=>225|22=>226|23=>227|24=>228|25=>229|26=>230|27=>231|46=>246|47=>236|48=>237|49=>247|50=>248|57=>261|n=>n,t:=λx=>match x with|22=>53|24=>60|25=>200|3=>3|39=>178|0=>0|53=>252|55=>254|4=>4|46=>246|45=>245|50=>89|5=>5|9=>9|66=>272|70=>276|76=>289|77=>290|n=>n,g:=λn=>n}
theorem Tryz.aj3:SlLaysF0.n6 prog Tryz.aiq:=
  {mixed:=by kernel_rfl,f6:=⟨ "slices.SortFunc[[]bitcast/api.Load,bitcast/api.Load]",of_decide_eq_true (by kernel_rfl),func154.trans (by kernel_rfl)⟩,
   f14:=⟨ "slices.pdqsortCmpFunc[bitcast/api.Load]",of_decide_eq_true (by kernel_rfl),func184.trans (by kernel_rfl)⟩,f15:=func178.trans (by kernel_rfl),
   f20:=⟨ "slices.insertionSortCmpFunc[bitcast/api.Load]",of_decide_eq_true (by kernel_rfl),func224.trans (by kernel_rfl)⟩,f21:=⟨ "slices.heapSortCmpFunc[bitcast/api.Load]",
   of_decide_eq_true (by kernel_rfl),func225.trans (by kernel_rfl)⟩,f22:=⟨ "slices.breakPatternsCmpFunc[bitcast/api.Load]",of_decide_eq_true (by kernel_rfl),func226.trans (by kernel_rfl)⟩,
   f23:=⟨ "slices.choosePivotCmpFunc[bitcast/api.Load]",of_decide_eq_true (by kernel_rfl),func227.trans (by kernel_rfl)⟩,f24:=⟨ "slices.reverseRangeCmpFunc[bitcast/api.Load]",
   of_decide_eq_true (by kernel_rfl),func228.trans (by kernel_rfl)⟩,f25:=⟨ "slices.partialInsertionSortCmpFunc[bitcast/api.Load]",of_decide_eq_true (by kernel_rfl),
   func229.trans (by kernel_rfl)⟩,f26:=⟨ "slices.partitionEqualCmpFunc[bitcast/api.Load]",of_decide_eq_true (by kernel_rfl),func230.trans (by kernel_rfl)⟩,
   f27:=⟨ "slices.partitionCmpFunc[bitcast/api.Load]",of_decide_eq_true (by kernel_rfl),func231.trans (by kernel_rfl)⟩,f28:=func206.trans (by kernel_rfl),
   f29:=func207.trans (by kernel_rfl),f46:=⟨ "slices.siftDownCmpFunc[bitcast/api.Load]",of_decide_eq_true (by kernel_rfl),func246.trans (by kernel_rfl)⟩,
   f47:=func236.trans (by kernel_rfl),f48:=func237.trans (by kernel_rfl),f49:=⟨ "slices.medianAdjacentCmpFunc[bitcast/api.Load]",of_decide_eq_true (by kernel_rfl),
   func247.trans (by kernel_rfl)⟩,f50:=⟨ "slices.medianCmpFunc[bitcast/api.Load]",of_decide_eq_true (by kernel_rfl),func248.trans (by kernel_rfl)⟩,
   f57:=⟨ "slices.order2CmpFunc[bitcast/api.Load]",of_decide_eq_true (by kernel_rfl),func261.trans (by kernel_rfl)⟩,t0:=underlying0,a0:=isAgg0,z0:=sizeOf0,
   v0:=zeroValue0,t3:=underlying3,a3:=isAgg3,z3:=sizeOf3,v3:=zeroValue3,t4:=underlying4,a4:=isAgg4,z4:=sizeOf4,v4:=zeroValue4,
   t5:=underlying5,a5:=isAgg5,z5:=sizeOf5,v5:=zeroValue5,t9:=underlying9,a9:=isAgg9,z9:=sizeOf9,v9:=zeroValue9,t22:=underlying53,
   a22:=isAgg53,z22:=sizeOf53,v22:=zeroValue53,t25:=underlying200,a25:=isAgg200,z25:=sizeOf200,v25:=zeroValue200,t39:=underlying178,
   a39:=isAgg178,z39:=sizeOf178,v39:=zeroValue178,t45:=underlying245,a45:=isAgg245,z45:=sizeOf245,v45:=zeroValue245,t46:=underlying246,
   a46:=isAgg246,z46:=sizeOf246,v46:=zeroValue246,t50:=underlying89,a50:=isAgg89,z50:=sizeOf89,v50:=zeroValue89,t53:=underlying252,
   a53:=isAgg252,z53:=sizeOf252,v53:=zeroValue252,t55:=underlying254,a55:=isAgg254,z55:=sizeOf254,v55:=zeroValue254,t66:=underlying272,
   a66:=isAgg272,z66:=sizeOf272,v66:=zeroValue272,t70:=underlying276,a70:=isAgg276,z70:=sizeOf276,v70:=zeroValue276,t76:=underlying289,
   a76:=isAgg289,z76:=sizeOf289,v76:=zeroValue289,t77:=underlying290,a77:=isAgg290,z77:=sizeOf290,v77:=zeroValue290}
def uv(x:aR):List Value:=[.int .i64 x.aD,.int .i64 x.To,.int .i64 x.Count]
theorem vc60(I:Imm)(x:aR)(vs:List Value):aS I (bn.enc x) vs↔vs=uv x:=by
 show aS I [.int .i64 x.aD,.int .i64 x.To,.int .i64 x.Count] vs↔vs=_;simp only[aS,aB];constructor
 ·rintro⟨_,_,rfl,rfl,⟨_,_,rfl,rfl,⟨_,_,rfl,rfl,rfl⟩⟩⟩;rfl
 ·rintro rfl;exact⟨_,_,rfl,rfl,⟨_,_,rfl,rfl,⟨_,_,rfl,rfl,rfl⟩⟩⟩
theorem vl60(I:Imm)(β:Nat→Value)(x:aR):aW I β (bn.enc x) (uv x):=by
 show aW I β [.int .i64 x.aD,.int .i64 x.To,.int .i64 x.Count] _;simp only[aW,Rep,aB];exact⟨_,_,rfl,rfl,⟨_,_,rfl,rfl,⟨_,_,rfl,rfl,rfl⟩⟩⟩
theorem v160(x:aR):∀v∈uv x,v.oneCell'=true:=by
 intro v hv;simp only[uv,List.mem_cons,List.not_mem_nil,or_false]at hv;rcases hv with rfl|rfl|rfl<;>rfl
theorem asE(a b:aR):kI a b=some (cZ [λx:aR=>x.aD,λx:aR=>x.To] a b):=by
 unfold kI fE;simp only[aaK,z6,cZ];rcases Int.lt_trichotomy a.aD b.aD with h0|h0|h0<;>rcases Int.lt_trichotomy a.To b.To with h1|h1|h1<;>simp[bnd,bJ,h0,h1]<;>(repeat (first|rw[if_neg (by omega)]|rw[if_pos (by omega)]))<;>simp
theorem alM:ab2 prog 154 155 uv 3 (cZ [λx:aR=>x.aD,λx:aR=>x.To]):=λblk off cap d w hH hb hs=>
 AnyQ.slices_SortFunc Tryz.aj3 3 isAgg60 sizeOf60 uv (λ_=>rfl) v160 _ (yT _) 155 #[] blk off cap d w (enters_of func155 (by kernel_rfl) rfl)
  (vf vl60 (λx y=>ur (asE x y)) blk off d.size w) hH hb hs
theorem air{zs ys:List aR}(h:jO (cZ [λx:aR=>x.aD,λx:aR=>x.To]) zs=some ys):b9 prog 154 [(d,.slice T 3 (ml bn zs) 0 false)] [.own d,.fn 155 []] (λr σ'=>r=.tup []∧σ'=[(d,.slice T 3 (ml bn ys) 0 false)]):=
 wR vc60 (by decide) (λ_=>rfl) (λ_=>rfl) (mh _) alM (λp cap fv w=>AnyF.slices_SortFunc_none Tryz.aj3 p cap fv w) h
end Go.Proofs.YtmnbolcmepihlaaGreat
