/- The sorts of slices of structs aL the call owns. No condition but aX aL stand in each. -/
import Derived.Test.YtmnbolcmepihlaaGreatA17
import Derived.Test.YtmnbolcmepihlaaGreatVC
namespace Go.Proofs.YtmnbolcmepihlaaGreat
set_option linter.all false
open Go Go.Proofs.Tryz Go.Sort Go.Lib Go.Shelf Go.RowKit
set_option maxRecDepth 100000
def zO(x y:Int):Int:=if x<y then -1 else if y<x then 1 else 0
theorem aaC(x y:Int):cv x y=some (zO x y):=by
 unfold cv fD zO;by_cases h:x<y
 ·simp[h,bnd]
 ·by_cases h2:y<x<;>simp[h,h2,bnd]
def Tryz.ah6:Shelf.Ren:=
 {  f:=λx=>match x with|6=>124|15=>178|14=>177|28=>206|29=>207|20=>198|21=>199|22=>200|23=>201|24=>202|25=>203|26=>204|27=>205|46=>235|47=>236|48=>237|49=>238|50=>239|57=>258|n=>n,t:=λx=>match x with|22=>34|24=>84|25=>158|3=>3|39=>178|0=>0|53=>252|55=>254|4=>4|46=>246|45=>245|50=>89|5=>5|9=>9|66=>272|70=>276|76=>289|77=>290|n=>n,g:=λn=>n}
theorem Tryz.ajP:SlLaysF0.n6 prog Tryz.ah6:=
  {mixed:=by kernel_rfl,f6:=⟨ "slices.SortFunc[[]bitcast/api.Hop,bitcast/api.Hop]",of_decide_eq_true (by kernel_rfl),func124.trans (by kernel_rfl)⟩,
   f14:=⟨ "slices.pdqsortCmpFunc[bitcast/api.Hop]",of_decide_eq_true (by kernel_rfl),func177.trans (by kernel_rfl)⟩,f15:=func178.trans (by kernel_rfl),
   f20:=⟨ "slices.insertionSortCmpFunc[bitcast/api.Hop]",of_decide_eq_true (by kernel_rfl),func198.trans (by kernel_rfl)⟩,f21:=⟨ "slices.heapSortCmpFunc[bitcast/api.Hop]",
   of_decide_eq_true (by kernel_rfl),func199.trans (by kernel_rfl)⟩,f22:=⟨ "slices.breakPatternsCmpFunc[bitcast/api.Hop]",of_decide_eq_true (by kernel_rfl),func200.trans (by kernel_rfl)⟩,
   f23:=⟨ "slices.choosePivotCmpFunc[bitcast/api.Hop]",of_decide_eq_true (by kernel_rfl),func201.trans (by kernel_rfl)⟩,f24:=⟨ "slices.reverseRangeCmpFunc[bitcast/api.Hop]",
   of_decide_eq_true (by kernel_rfl),func202.trans (by kernel_rfl)⟩,f25:=⟨ "slices.partialInsertionSortCmpFunc[bitcast/api.Hop]",of_decide_eq_true (by kernel_rfl),
   func203.trans (by kernel_rfl)⟩,f26:=⟨ "slices.partitionEqualCmpFunc[bitcast/api.Hop]",of_decide_eq_true (by kernel_rfl),func204.trans (by kernel_rfl)⟩,
   f27:=⟨ "slices.partitionCmpFunc[bitcast/api.Hop]",of_decide_eq_true (by kernel_rfl),func205.trans (by kernel_rfl)⟩,f28:=func206.trans (by kernel_rfl),
   f29:=func207.trans (by kernel_rfl),f46:=⟨ "slices.siftDownCmpFunc[bitcast/api.Hop]",of_decide_eq_true (by kernel_rfl),func235.trans (by kernel_rfl)⟩,
   f47:=func236.trans (by kernel_rfl),f48:=func237.trans (by kernel_rfl),f49:=⟨ "slices.medianAdjacentCmpFunc[bitcast/api.Hop]",of_decide_eq_true (by kernel_rfl),
   func238.trans (by kernel_rfl)⟩,f50:=⟨ "slices.medianCmpFunc[bitcast/api.Hop]",of_decide_eq_true (by kernel_rfl),func239.trans (by kernel_rfl)⟩,
   f57:=⟨ "slices.order2CmpFunc[bitcast/api.Hop]",of_decide_eq_true (by kernel_rfl),func258.trans (by kernel_rfl)⟩,t0:=underlying0,a0:=isAgg0,z0:=sizeOf0,
   v0:=zeroValue0,t3:=underlying3,a3:=isAgg3,z3:=sizeOf3,v3:=zeroValue3,t4:=underlying4,a4:=isAgg4,z4:=sizeOf4,v4:=zeroValue4,
   t5:=underlying5,a5:=isAgg5,z5:=sizeOf5,v5:=zeroValue5,t9:=underlying9,a9:=isAgg9,z9:=sizeOf9,v9:=zeroValue9,t22:=underlying34,
   a22:=isAgg34,z22:=sizeOf34,v22:=zeroValue34,t25:=underlying158,a25:=isAgg158,z25:=sizeOf158,v25:=zeroValue158,t39:=underlying178,
   a39:=isAgg178,z39:=sizeOf178,v39:=zeroValue178,t45:=underlying245,a45:=isAgg245,z45:=sizeOf245,v45:=zeroValue245,t46:=underlying246,
   a46:=isAgg246,z46:=sizeOf246,v46:=zeroValue246,t50:=underlying89,a50:=isAgg89,z50:=sizeOf89,v50:=zeroValue89,t53:=underlying252,
   a53:=isAgg252,z53:=sizeOf252,v53:=zeroValue252,t55:=underlying254,a55:=isAgg254,z55:=sizeOf254,v55:=zeroValue254,t66:=underlying272,
   a66:=isAgg272,z66:=sizeOf272,v66:=zeroValue272,t70:=underlying276,a70:=isAgg276,z70:=sizeOf276,v70:=zeroValue276,t76:=underlying289,
   a76:=isAgg289,z76:=sizeOf289,v76:=zeroValue289,t77:=underlying290,a77:=isAgg290,z77:=sizeOf290,v77:=zeroValue290}
def tZ(x:aC):List Value:=[.int .i64 x.aD,.int .i64 x.To]
theorem vc84(I:Imm)(x:aC)(vs:List Value):aP I (aK.enc x) vs↔vs=tZ x:=by
 show aP I [.int .i64 x.aD,.int .i64 x.To] vs↔vs=_;simp only[aP,aA];constructor
 ·rintro⟨_,_,rfl,rfl,⟨_,_,rfl,rfl,rfl⟩⟩;rfl
 ·rintro rfl;exact⟨_,_,rfl,rfl,⟨_,_,rfl,rfl,rfl⟩⟩
theorem vl84(I:Imm)(β:Nat→Value)(x:aC):aR I β (aK.enc x) (tZ x):=by
 show aR I β [.int .i64 x.aD,.int .i64 x.To] _;simp only[aR,Rep,aA];exact⟨_,_,rfl,rfl,⟨_,_,rfl,rfl,rfl⟩⟩
theorem v184(x:aC):∀v∈tZ x,v.oneCell'=true:=by
 intro v hv;simp only[tZ,List.mem_cons,List.not_mem_nil,or_false]at hv;rcases hv with rfl|rfl<;>rfl
theorem asB(a b:aC):kN a b=some (cR [λx:aC=>x.aD,λx:aC=>x.To] a b):=by
 unfold kN fm;simp only[aaC,zO,cR];rcases Int.lt_trichotomy a.aD b.aD with h0|h0|h0<;>rcases Int.lt_trichotomy a.To b.To with h1|h1|h1<;>simp[bnd,bz,h0,h1]<;>(repeat (first|rw[if_neg (by omega)]|rw[if_pos (by omega)]))<;>simp
theorem alH:abY prog 124 125 tZ 2 (cR [λx:aC=>x.aD,λx:aC=>x.To]):=λblk off cap d w hH hb hs=>
 AnyQ.slices_SortFunc Tryz.ajP 2 isAgg84 sizeOf84 tZ (λ_=>rfl) v184 _ (yM _) 125 #[] blk off cap d w (enters_of func125 (by kernel_rfl) rfl)
  (uP vl84 (λx y=>tX (asB x y)) blk off d.size w) hH hb hs
variable {T d:Nat}
theorem ah7{zs ys:List aC}(h:jQ (cR [λx:aC=>x.aD,λx:aC=>x.To]) zs=some ys):bZ prog 124 [(d,.slice T 2 (ml aK zs) 0 false)] [.own d,.fn 125 []] (λr σ'=>r=.tup []∧σ'=[(d,.slice T 2 (ml aK ys) 0 false)]):=
 wL vc84 (by decide) (λ_=>rfl) (λ_=>rfl) (mb _) alH (λp cap fv w=>AnyF.slices_SortFunc_none Tryz.ajP p cap fv w) h
def Tryz.ah8:Shelf.Ren:=
 {  f:=λx=>match x with|6=>127|15=>178|14=>179|28=>206|29=>207|20=>208|21=>209|22=>210|23=>211|24=>212|25=>213|26=>214|27=>215|46=>240|47=>236|48=>237|49=>241|50=>242|57=>259|n=>n,t:=λx=>match x with|22=>111|24=>175|25=>177|3=>3|39=>178|0=>0|53=>252|55=>254|4=>4|46=>246|45=>245|50=>89|5=>5|9=>9|66=>272|70=>276|76=>289|77=>290|n=>n,g:=λn=>n}
theorem Tryz.ajQ:SlLaysF0.n6 prog Tryz.ah8:=
  {mixed:=by kernel_rfl,f6:=⟨ "slices.SortFunc[[]bitcast/arbor.Arc,bitcast/arbor.Arc]",of_decide_eq_true (by kernel_rfl),func127.trans (by kernel_rfl)⟩,
   f14:=⟨ "slices.pdqsortCmpFunc[bitcast/arbor.Arc]",of_decide_eq_true (by kernel_rfl),func179.trans (by kernel_rfl)⟩,f15:=func178.trans (by kernel_rfl),
   f20:=⟨ "slices.insertionSortCmpFunc[bitcast/arbor.Arc]",of_decide_eq_true (by kernel_rfl),func208.trans (by kernel_rfl)⟩,f21:=⟨ "slices.heapSortCmpFunc[bitcast/arbor.Arc]",
   of_decide_eq_true (by kernel_rfl),func209.trans (by kernel_rfl)⟩,f22:=⟨ "slices.breakPatternsCmpFunc[bitcast/arbor.Arc]",of_decide_eq_true (by kernel_rfl),func210.trans (by kernel_rfl)⟩,
   f23:=⟨ "slices.choosePivotCmpFunc[bitcast/arbor.Arc]",of_decide_eq_true (by kernel_rfl),func211.trans (by kernel_rfl)⟩,f24:=⟨ "slices.reverseRangeCmpFunc[bitcast/arbor.Arc]",
   of_decide_eq_true (by kernel_rfl),func212.trans (by kernel_rfl)⟩,f25:=⟨ "slices.partialInsertionSortCmpFunc[bitcast/arbor.Arc]",of_decide_eq_true (by kernel_rfl),
   func213.trans (by kernel_rfl)⟩,f26:=⟨ "slices.partitionEqualCmpFunc[bitcast/arbor.Arc]",of_decide_eq_true (by kernel_rfl),func214.trans (by kernel_rfl)⟩,
   f27:=⟨ "slices.partitionCmpFunc[bitcast/arbor.Arc]",of_decide_eq_true (by kernel_rfl),func215.trans (by kernel_rfl)⟩,f28:=func206.trans (by kernel_rfl),
   f29:=func207.trans (by kernel_rfl),f46:=⟨ "slices.siftDownCmpFunc[bitcast/arbor.Arc]",of_decide_eq_true (by kernel_rfl),func240.trans (by kernel_rfl)⟩,
   f47:=func236.trans (by kernel_rfl),f48:=func237.trans (by kernel_rfl),f49:=⟨ "slices.medianAdjacentCmpFunc[bitcast/arbor.Arc]",of_decide_eq_true (by kernel_rfl),
   func241.trans (by kernel_rfl)⟩,f50:=⟨ "slices.medianCmpFunc[bitcast/arbor.Arc]",of_decide_eq_true (by kernel_rfl),func242.trans (by kernel_rfl)⟩,
   f57:=⟨ "slices.order2CmpFunc[bitcast/arbor.Arc]",of_decide_eq_true (by kernel_rfl),func259.trans (by kernel_rfl)⟩,t0:=underlying0,a0:=isAgg0,z0:=sizeOf0,
   v0:=zeroValue0,t3:=underlying3,a3:=isAgg3,z3:=sizeOf3,v3:=zeroValue3,t4:=underlying4,a4:=isAgg4,z4:=sizeOf4,v4:=zeroValue4,
   t5:=underlying5,a5:=isAgg5,z5:=sizeOf5,v5:=zeroValue5,t9:=underlying9,a9:=isAgg9,z9:=sizeOf9,v9:=zeroValue9,t22:=underlying111,
   a22:=isAgg111,z22:=sizeOf111,v22:=zeroValue111,t25:=underlying177,a25:=isAgg177,z25:=sizeOf177,v25:=zeroValue177,t39:=underlying178,
   a39:=isAgg178,z39:=sizeOf178,v39:=zeroValue178,t45:=underlying245,a45:=isAgg245,z45:=sizeOf245,v45:=zeroValue245,t46:=underlying246,
   a46:=isAgg246,z46:=sizeOf246,v46:=zeroValue246,t50:=underlying89,a50:=isAgg89,z50:=sizeOf89,v50:=zeroValue89,t53:=underlying252,
   a53:=isAgg252,z53:=sizeOf252,v53:=zeroValue252,t55:=underlying254,a55:=isAgg254,z55:=sizeOf254,v55:=zeroValue254,t66:=underlying272,
   a66:=isAgg272,z66:=sizeOf272,v66:=zeroValue272,t70:=underlying276,a70:=isAgg276,z70:=sizeOf276,v70:=zeroValue276,t76:=underlying289,
   a76:=isAgg289,z76:=sizeOf289,v76:=zeroValue289,t77:=underlying290,a77:=isAgg290,z77:=sizeOf290,v77:=zeroValue290}
def rU(x:ai):List Value:=[.int .i64 x.Hop.aD,.int .i64 x.Hop.To,.int .i64 x.cU]
theorem asC(I:Imm)(x:ai)(vs:List Value):aP I (aG.enc x) vs↔vs=rU x:=by
 show aP I [.int .i64 x.Hop.aD,.int .i64 x.Hop.To,.int .i64 x.cU] vs↔vs=_;simp only[aP,aA];constructor
 ·rintro⟨_,_,rfl,rfl,⟨_,_,rfl,rfl,⟨_,_,rfl,rfl,rfl⟩⟩⟩;rfl
 ·rintro rfl;exact⟨_,_,rfl,rfl,⟨_,_,rfl,rfl,⟨_,_,rfl,rfl,rfl⟩⟩⟩
theorem asD(I:Imm)(β:Nat→Value)(x:ai):aR I β (aG.enc x) (rU x):=by
 show aR I β [.int .i64 x.Hop.aD,.int .i64 x.Hop.To,.int .i64 x.cU] _;simp only[aR,Rep,aA];exact⟨_,_,rfl,rfl,⟨_,_,rfl,rfl,⟨_,_,rfl,rfl,rfl⟩⟩⟩
theorem asE(x:ai):∀v∈rU x,v.oneCell'=true:=by
 intro v hv;simp only[rU,List.mem_cons,List.not_mem_nil,or_false]at hv;rcases hv with rfl|rfl|rfl<;>rfl
theorem asF(a b:ai):pJ a b=some (cR [λx:ai=>x.Hop.aD,λx:ai=>x.Hop.To] a b):=by
 unfold pJ fm;simp only[aaC,zO,cR];rcases Int.lt_trichotomy a.Hop.aD b.Hop.aD with h0|h0|h0<;>rcases Int.lt_trichotomy a.Hop.To b.Hop.To with h1|h1|h1<;>simp[bnd,bz,h0,h1]<;>(repeat (first|rw[if_neg (by omega)]|rw[if_pos (by omega)]))<;>simp
theorem alI:abY prog 127 128 rU 3 (cR [λx:ai=>x.Hop.aD,λx:ai=>x.Hop.To]):=λblk off cap d w hH hb hs=>
 AnyQ.slices_SortFunc Tryz.ajQ 3 isAgg175 sizeOf175 rU (λ_=>rfl) asE _ (yM _) 128 #[] blk off cap d w (enters_of func128 (by kernel_rfl) rfl)
  (uP asD (λx y=>zN (asF x y)) blk off d.size w) hH hb hs
theorem ah9{zs ys:List ai}(h:jQ (cR [λx:ai=>x.Hop.aD,λx:ai=>x.Hop.To]) zs=some ys):bZ prog 127 [(d,.slice T 3 (ml aG zs) 0 false)] [.own d,.fn 128 []] (λr σ'=>r=.tup []∧σ'=[(d,.slice T 3 (ml aG ys) 0 false)]):=
 wL asC (by decide) (λ_=>rfl) (λ_=>rfl) (mb _) alI (λp cap fv w=>AnyF.slices_SortFunc_none Tryz.ajQ p cap fv w) h
def Tryz.aia:Shelf.Ren:=
 {  f:=λx=>match x with|6=>154|15=>178|14=>184|28=>206|29=>207|20=>224|21=>225|22=>226|23=>227|24=>228|25=>229|26=>230|27=>231|46=>246|47=>236|48=>237|49=>247|50=>248|57=>261|n=>n,t:=λx=>match x with|22=>53|24=>60|25=>200|3=>3|39=>178|0=>0|53=>252|55=>254|4=>4|46=>246|45=>245|50=>89|5=>5|9=>9|66=>272|70=>276|76=>289|77=>290|n=>n,g:=λn=>n}
theorem Tryz.ajR:SlLaysF0.n6 prog Tryz.aia:=
  {mixed:=by kernel_rfl,f6:=⟨ "slices.SortFunc[[]bitcast/api.Load,bitcast/api.Load]",of_decide_eq_true (by kernel_rfl),func154.trans (by kernel_rfl)⟩,
   f14:=⟨ "slices.pdqsortCmpFunc[bitcast/api.Load]",of_decide_eq_true (by kernel_rfl),func184.trans (by kernel_rfl)⟩,f15:=func178.trans (by kernel_rfl),
   f20:=⟨ "slices.insertionSortCmpFunc[bitcast/api.Load]",of_decide_eq_true (by kernel_rfl),func224.trans (by kernel_rfl)⟩,f21:=⟨ "slices.heapSortCmpFunc[bitcast/api.Load]",
   of_decide_eq_true (by kernel_rfl),func225.trans (by kernel_rfl)⟩,f22:=⟨ "slices.breakPatternsCmpFunc[bitcast/api.Load]",of_decide_eq_true (by kernel_rfl),func226.trans (by kernel_rfl)⟩,
   f23:=⟨ "slices.choosePivotCmpFunc[bitcast/api.Load]",of_decide_eq_true (by kernel_rfl),func227.trans (by kernel_rfl)⟩,f24:=⟨ "slices.reverseRangeCmpFunc[bitcast/api.Load]",
   of_decide_eq_true (by kernel_rfl),func228.trans (by kernel_rfl)⟩,f25:=⟨ "slices.partialInsertionSortCmpFunc[bitcast/api.Load]",of_decide_eq_true (by kernel_rfl),
   func229.trans (by kernel_rfl)⟩,f26:=⟨ "slices.partitionEqualCmpFunc[bitcast/api.Load]",of_decide_eq_true (by kernel_rfl),func230.trans (by kernel_rfl)⟩,
   f27:=⟨ "slices.partitionCmpFunc[bitcast/api.Load]",of_decide_eq_true (by kernel_rfl),func231.trans (by kernel_rfl)⟩,f28:=func206.trans (by kernel_rfl),
   f29:=func207.trans (by kernel_rfl),f46:=⟨ "slices.siftDownCmpFunc[bitcast/api.Load]",of_decide_eq_true (by kernel_rfl),func246.trans (by kernel_rfl)⟩,
   f47:=func236.trans (by kernel_rfl),f48:=func237.trans (by kernel_rfl),f49:=⟨ "slices.medianAdjacentCmpFunc[bitcast/api.Load]",of_decide_eq_true (by kernel_rfl),
   func247.trans (by kernel_rfl)⟩,f50:=⟨ "slices.medianCmpFunc[bitcast/api.Load]",of_decide_eq_true (by kernel_rfl),func248.trans (by kernel_rfl)⟩,
   f57:=⟨ "slices.order2CmpFunc[bitcast/api.Load]",of_decide_eq_true (by kernel_rfl),func261.trans (by kernel_rfl)⟩,t0:=underlying0,a0:=isAgg0,z0:=sizeOf0,
   v0:=zeroValue0,t3:=underlying3,a3:=isAgg3,z3:=sizeOf3,v3:=zeroValue3,t4:=underlying4,a4:=isAgg4,z4:=sizeOf4,v4:=zeroValue4,
   t5:=underlying5,a5:=isAgg5,z5:=sizeOf5,v5:=zeroValue5,t9:=underlying9,a9:=isAgg9,z9:=sizeOf9,v9:=zeroValue9,t22:=underlying53,
   a22:=isAgg53,z22:=sizeOf53,v22:=zeroValue53,t25:=underlying200,a25:=isAgg200,z25:=sizeOf200,v25:=zeroValue200,t39:=underlying178,
   a39:=isAgg178,z39:=sizeOf178,v39:=zeroValue178,t45:=underlying245,a45:=isAgg245,z45:=sizeOf245,v45:=zeroValue245,t46:=underlying246,
   a46:=isAgg246,z46:=sizeOf246,v46:=zeroValue246,t50:=underlying89,a50:=isAgg89,z50:=sizeOf89,v50:=zeroValue89,t53:=underlying252,
   a53:=isAgg252,z53:=sizeOf252,v53:=zeroValue252,t55:=underlying254,a55:=isAgg254,z55:=sizeOf254,v55:=zeroValue254,t66:=underlying272,
   a66:=isAgg272,z66:=sizeOf272,v66:=zeroValue272,t70:=underlying276,a70:=isAgg276,z70:=sizeOf276,v70:=zeroValue276,t76:=underlying289,
   a76:=isAgg289,z76:=sizeOf289,v76:=zeroValue289,t77:=underlying290,a77:=isAgg290,z77:=sizeOf290,v77:=zeroValue290}
def ua(x:bQ):List Value:=[.int .i64 x.aD,.int .i64 x.To,.int .i64 x.Count]
theorem vc60(I:Imm)(x:bQ)(vs:List Value):aP I (fQ.enc x) vs↔vs=ua x:=by
 show aP I [.int .i64 x.aD,.int .i64 x.To,.int .i64 x.Count] vs↔vs=_;simp only[aP,aA];constructor
 ·rintro⟨_,_,rfl,rfl,⟨_,_,rfl,rfl,⟨_,_,rfl,rfl,rfl⟩⟩⟩;rfl
 ·rintro rfl;exact⟨_,_,rfl,rfl,⟨_,_,rfl,rfl,⟨_,_,rfl,rfl,rfl⟩⟩⟩
theorem vl60(I:Imm)(β:Nat→Value)(x:bQ):aR I β (fQ.enc x) (ua x):=by
 show aR I β [.int .i64 x.aD,.int .i64 x.To,.int .i64 x.Count] _;simp only[aR,Rep,aA];exact⟨_,_,rfl,rfl,⟨_,_,rfl,rfl,⟨_,_,rfl,rfl,rfl⟩⟩⟩
theorem v160(x:bQ):∀v∈ua x,v.oneCell'=true:=by
 intro v hv;simp only[ua,List.mem_cons,List.not_mem_nil,or_false]at hv;rcases hv with rfl|rfl|rfl<;>rfl
theorem asG(a b:bQ):kO a b=some (cR [λx:bQ=>x.aD,λx:bQ=>x.To] a b):=by
 unfold kO fm;simp only[aaC,zO,cR];rcases Int.lt_trichotomy a.aD b.aD with h0|h0|h0<;>rcases Int.lt_trichotomy a.To b.To with h1|h1|h1<;>simp[bnd,bz,h0,h1]<;>(repeat (first|rw[if_neg (by omega)]|rw[if_pos (by omega)]))<;>simp
theorem alJ:abY prog 154 155 ua 3 (cR [λx:bQ=>x.aD,λx:bQ=>x.To]):=λblk off cap d w hH hb hs=>
 AnyQ.slices_SortFunc Tryz.ajR 3 isAgg60 sizeOf60 ua (λ_=>rfl) v160 _ (yM _) 155 #[] blk off cap d w (enters_of func155 (by kernel_rfl) rfl)
  (uP vl60 (λx y=>tY (asG x y)) blk off d.size w) hH hb hs
theorem aib{zs ys:List bQ}(h:jQ (cR [λx:bQ=>x.aD,λx:bQ=>x.To]) zs=some ys):bZ prog 154 [(d,.slice T 3 (ml fQ zs) 0 false)] [.own d,.fn 155 []] (λr σ'=>r=.tup []∧σ'=[(d,.slice T 3 (ml fQ ys) 0 false)]):=
 wL vc60 (by decide) (λ_=>rfl) (λ_=>rfl) (mb _) alJ (λp cap fv w=>AnyF.slices_SortFunc_none Tryz.ajR p cap fv w) h
end Go.Proofs.YtmnbolcmepihlaaGreat
