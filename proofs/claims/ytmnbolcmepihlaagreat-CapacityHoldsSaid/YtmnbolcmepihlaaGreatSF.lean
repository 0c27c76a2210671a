/- gw AE of slices of tO bz aR call owns. bM bN cu cg bz cv in ck. -/
import Derived.Test.YtmnbolcmepihlaaGreatA17
import Derived.Test.YtmnbolcmepihlaaGreatVC
namespace Go.Proofs.YtmnbolcmepihlaaGreat
set_option linter.all false
open Go Go.Proofs.Tryz Go.Sort Go.Lib Go.Shelf Go.RowKit
set_option maxRecDepth 100000
def DA(x y:Int):Int:=if x<y then -1 else if y<x then 1 else 0
theorem ML(x y:Int):nt x y=some (DA x y):=by
 unfold nt uc DA;by_cases h:x<y
 ·simp[h,bf]
 ·by_cases D:y<x<;>simp[h,D,bf]
def Tryz.Xb:Shelf.Ren:=
 {  f:=λx=>match x with|6=>124|15=>178|14=>177|28=>206|29=>207|20=>198|21=>199|22=>200|23=>201|24=>202|25=>203|26=>204|27=>205|46=>235|47=>236|48=>237|49=>238|50=>239|57=>258|n=>n,t:=λx=>match x with|22=>34|24=>84|25=>158|3=>3|39=>178|0=>0|53=>252|55=>254|4=>4|46=>246|45=>245|50=>89|5=>5|9=>9|66=>272|70=>276|76=>289|77=>290|n=>n,g:=λn=>n}
theorem Tryz.PY:SlLaysF0.n6 prog Tryz.Xb:=
  {mixed:=by kernel_rfl,f6:=⟨ "slices.SortFunc[[]bitcast/api.Hop,bitcast/api.Hop]",of_decide_eq_true (by kernel_rfl),func124.trans (by kernel_rfl)⟩,
   f14:=⟨ "slices.pdqsortCmpFunc[bitcast/api.Hop]",of_decide_eq_true (by kernel_rfl),func177.trans (by kernel_rfl)⟩,f15:=func178.trans (by kernel_rfl),
   f20:=⟨ "slices.insertionSortCmpFunc[bitcast/api.Hop]",of_decide_eq_true (by kernel_rfl),func198.trans (by kernel_rfl)⟩,f21:=⟨ "slices.heapSortCmpFunc[bitcast/api.Hop]",
   of_decide_eq_true (by kernel_rfl),func199.trans (by kernel_rfl)⟩,f22:=⟨ "slices.breakPatternsCmpFunc[bitcast/api.Hop]",of_decide_eq_true (by kernel_rfl),func200.trans (by kernel_rfl)⟩,
   f23:=⟨ "slices.choosePivotCmpFunc[bitcast/api.Hop]",of_decide_eq_true (by kernel_rfl),func201.trans (by kernel_rfl)⟩,f24:=⟨ "slices.reverseRangeCmpFunc[bitcast/api.Hop]",
   of_decide_eq_true (by kernel_rfl),func202.trans (by kernel_rfl)⟩,f25:=⟨ "slices.partialInsertionSortCmpFunc[bitcast/api.Hop]",of_decide_eq_true (by kernel_rfl),
   func203.trans (by kernel_rfl)⟩,f26:=⟨ "slices.partitionEqualCmpFunc[bitcast/api.Hop]",of_decide_eq_true (by kernel_rfl),func204.trans (by kernel_rfl)⟩,
   f27:=⟨ "slices.partitionCmpFunc[bitcast/api.Hop]",of_decide_eq_true (by kernel_rfl),func205.trans (by kernel_rfl)⟩,f28:=func206.trans (by kernel_rfl),
   f29:=func207.trans (by kernel_rfl),f46:=⟨ "slices.siftDownCmpFunc[bitcast/api.Hop]",of_decide_eq_true (by kernel_rfl),func235.trans (by kernel_rfl)⟩,
   f47:=func236.trans (by kernel_rfl),f48:=func237.trans (by kernel_rfl),f49:=⟨ "slices.medianAdjacentCmpFunc[bitcast/api.Hop]",of_decide_eq_true (by kernel_rfl),
   func238.trans (by kernel_rfl)⟩,f50:=⟨ "slices.medianCmpFunc[bitcast/api.Hop]",of_decide_eq_true (by kernel_rfl),func239.trans (by kernel_rfl)⟩,
   f57:=⟨ "slices.order2CmpFunc[bitcast/api.Hop]",of_decide_eq_true (by kernel_rfl),func258.trans (by kernel_rfl)⟩,t0:=underlying0,a0:=isAgg0,z0:=sizeOf0,
   v0:=zeroValue0,t3:=underlying3,a3:=isAgg3,z3:=sizeOf3,v3:=zeroValue3,t4:=underlying4,a4:=isAgg4,z4:=sizeOf4,v4:=zeroValue4,
   t5:=underlying5,a5:=isAgg5,z5:=sizeOf5,v5:=zeroValue5,t9:=underlying9,a9:=isAgg9,z9:=sizeOf9,v9:=zeroValue9,t22:=underlying34,
   a22:=isAgg34,z22:=sizeOf34,v22:=zeroValue34,t25:=underlying158,a25:=isAgg158,z25:=sizeOf158,v25:=zeroValue158,t39:=underlying178,
   a39:=isAgg178,z39:=sizeOf178,v39:=zeroValue178,t45:=underlying245,a45:=isAgg245,z45:=sizeOf245,v45:=zeroValue245,t46:=underlying246,
   a46:=isAgg246,z46:=sizeOf246,v46:=zeroValue246,t50:=underlying89,a50:=isAgg89,z50:=sizeOf89,v50:=zeroValue89,t53:=underlying252,
   a53:=isAgg252,z53:=sizeOf252,v53:=zeroValue252,t55:=underlying254,a55:=isAgg254,z55:=sizeOf254,v55:=zeroValue254,t66:=underlying272,
   a66:=isAgg272,z66:=sizeOf272,v66:=zeroValue272,t70:=underlying276,a70:=isAgg276,z70:=sizeOf276,v70:=zeroValue276,t76:=underlying289,
   a76:=isAgg289,z76:=sizeOf289,v76:=zeroValue289,t77:=underlying290,a77:=isAgg290,z77:=sizeOf290,v77:=zeroValue290}
def Ai(x:bh):List Value:=[.int .i64 x.bg,.int .i64 x.aQ]
theorem ak7(I:bw)(x:bh)(vs:List Value):b9 I (b1.enc x) vs↔vs=Ai x:=by
 show b9 I [.int .i64 x.bg,.int .i64 x.aQ] vs↔vs=_;simp only[b9,aO];constructor
 ·rintro⟨_,_,rfl,rfl,⟨_,_,rfl,rfl,rfl⟩⟩;rfl
 ·rintro rfl;exact⟨_,_,rfl,rfl,⟨_,_,rfl,rfl,rfl⟩⟩
theorem ak9(I:bw)(β:Nat→Value)(x:bh):bO I β (b1.enc x) (Ai x):=by
 show bO I β [.int .i64 x.bg,.int .i64 x.aQ] _;simp only[bO,ar,aO];exact⟨_,_,rfl,rfl,⟨_,_,rfl,rfl,rfl⟩⟩
theorem ak3(x:bh):∀v∈Ai x,v.oneCell'=true:=by
 intro v af;simp only[Ai,List.mem_cons,List.not_mem_nil,or_false]at af;rcases af with rfl|rfl<;>rfl
theorem aeR(a b:bh):Fg a b=some (fL [λx:bh=>x.bg,λx:bh=>x.aQ] a b):=by
 unfold Fg qL;simp only[ML,DA,fL];rcases Int.lt_trichotomy a.bg b.bg with bJ|bJ|bJ<;>rcases Int.lt_trichotomy a.aQ b.aQ with h1|h1|h1<;>simp[bf,ez,bJ,h1]<;>(repeat (first|rw[if_neg (by omega)]|rw[if_pos (by omega)]))<;>simp
theorem YM:Ho prog 124 125 Ai 2 (fL [λx:bh=>x.bg,λx:bh=>x.aQ]):=λbV off aF d w rX V W=>
 AnyQ.slices_SortFunc Tryz.PY 2 isAgg84 sizeOf84 Ai (λ_=>rfl) ak3 _ (Ma _) 125 #[] bV off aF d w (enters_of func125 (by kernel_rfl) rfl)
  (Ll ak9 (λx y=>ai4 (aeR x y)) bV off d.size w) rX V W
variable {T d:Nat}
theorem Xc{zs bu:List bh}(h:m0 (fL [λx:bh=>x.bg,λx:bh=>x.aQ]) zs=some bu):gi prog 124 [(d,.slice T 2 (aD b1 zs) 0 false)] [.own d,.fn 125 []] (λr az=>r=.cD []∧az=[(d,.slice T 2 (aD b1 bu) 0 false)]):=
 LC ak7 (by decide) (λ_=>rfl) (λ_=>rfl) (x3 _) YM (λp aF xE w=>AnyF.slices_SortFunc_none Tryz.PY p aF xE w) h
def Tryz.Xd:Shelf.Ren:=
 {  f:=λx=>match x with|6=>127|15=>178|14=>179|28=>206|29=>207|20=>208|21=>209|22=>210|23=>211|24=>212|25=>213|26=>214|27=>215|46=>240|47=>236|48=>237|49=>241|50=>242|57=>259|n=>n,t:=λx=>match x with|22=>111|24=>175|25=>177|3=>3|39=>178|0=>0|53=>252|55=>254|4=>4|46=>246|45=>245|50=>89|5=>5|9=>9|66=>272|70=>276|76=>289|77=>290|n=>n,g:=λn=>n}
theorem Tryz.PZ:SlLaysF0.n6 prog Tryz.Xd:=
  {mixed:=by kernel_rfl,f6:=⟨ "slices.SortFunc[[]bitcast/arbor.Arc,bitcast/arbor.Arc]",of_decide_eq_true (by kernel_rfl),func127.trans (by kernel_rfl)⟩,
   f14:=⟨ "slices.pdqsortCmpFunc[bitcast/arbor.Arc]",of_decide_eq_true (by kernel_rfl),func179.trans (by kernel_rfl)⟩,f15:=func178.trans (by kernel_rfl),
   f20:=⟨ "slices.insertionSortCmpFunc[bitcast/arbor.Arc]",of_decide_eq_true (by kernel_rfl),func208.trans (by kernel_rfl)⟩,f21:=⟨ "slices.heapSortCmpFunc[bitcast/arbor.Arc]",
   of_decide_eq_true (by kernel_rfl),func209.trans (by kernel_rfl)⟩,f22:=⟨ "slices.breakPatternsCmpFunc[bitcast/arbor.Arc]",of_decide_eq_true (by kernel_rfl),func210.trans (by kernel_rfl)⟩,
   f23:=⟨ "slices.choosePivotCmpFunc[bitcast/arbor.Arc]",of_decide_eq_true (by kernel_rfl),func211.trans (by kernel_rfl)⟩,f24:=⟨ "slices.reverseRangeCmpFunc[bitcast/arbor.Arc]",
   of_decide_eq_true (by kernel_rfl),func212.trans (by kernel_rfl)⟩,f25:=⟨ "slices.partialInsertionSortCmpFunc[bitcast/arbor.Arc]",of_decide_eq_true (by kernel_rfl),
   func213.trans (by kernel_rfl)⟩,f26:=⟨ "slices.partitionEqualCmpFunc[bitcast/arbor.Arc]",of_decide_eq_true (by kernel_rfl),func214.trans (by kernel_rfl)⟩,
   f27:=⟨ "slices.partitionCmpFunc[bitcast/arbor.Arc]",of_decide_eq_true (by kernel_rfl),func215.trans (by kernel_rfl)⟩,f28:=func206.trans (by kernel_rfl),
   f29:=func207.trans (by kernel_rfl),f46:=⟨ "slices.siftDownCmpFunc[bitcast/arbor.Arc]",of_decide_eq_true (by kernel_rfl),func240.trans (by kernel_rfl)⟩,
   f47:=func236.trans (by kernel_rfl),f48:=func237.trans (by kernel_rfl),f49:=⟨ "slices.medianAdjacentCmpFunc[bitcast/arbor.Arc]",of_decide_eq_true (by kernel_rfl),
   func241.trans (by kernel_rfl)⟩,f50:=⟨ "slices.medianCmpFunc[bitcast/arbor.Arc]",of_decide_eq_true (by kernel_rfl),func242.trans (by kernel_rfl)⟩,
   f57:=⟨ "slices.order2CmpFunc[bitcast/arbor.Arc]",of_decide_eq_true (by kernel_rfl),func259.trans (by kernel_rfl)⟩,t0:=underlying0,a0:=isAgg0,z0:=sizeOf0,
   v0:=zeroValue0,t3:=underlying3,a3:=isAgg3,z3:=sizeOf3,v3:=zeroValue3,t4:=underlying4,a4:=isAgg4,z4:=sizeOf4,v4:=zeroValue4,
   t5:=underlying5,a5:=isAgg5,z5:=sizeOf5,v5:=zeroValue5,t9:=underlying9,a9:=isAgg9,z9:=sizeOf9,v9:=zeroValue9,t22:=underlying111,
   a22:=isAgg111,z22:=sizeOf111,v22:=zeroValue111,t25:=underlying177,a25:=isAgg177,z25:=sizeOf177,v25:=zeroValue177,t39:=underlying178,
   a39:=isAgg178,z39:=sizeOf178,v39:=zeroValue178,t45:=underlying245,a45:=isAgg245,z45:=sizeOf245,v45:=zeroValue245,t46:=underlying246,
   a46:=isAgg246,z46:=sizeOf246,v46:=zeroValue246,t50:=underlying89,a50:=isAgg89,z50:=sizeOf89,v50:=zeroValue89,t53:=underlying252,
   a53:=isAgg252,z53:=sizeOf252,v53:=zeroValue252,t55:=underlying254,a55:=isAgg254,z55:=sizeOf254,v55:=zeroValue254,t66:=underlying272,
   a66:=isAgg272,z66:=sizeOf272,v66:=zeroValue272,t70:=underlying276,a70:=isAgg276,z70:=sizeOf276,v70:=zeroValue276,t76:=underlying289,
   a76:=isAgg289,z76:=sizeOf289,v76:=zeroValue289,t77:=underlying290,a77:=isAgg290,z77:=sizeOf290,v77:=zeroValue290}
def Ac(x:bL):List Value:=[.int .i64 x.Hop.bg,.int .i64 x.Hop.aQ,.int .i64 x.gr]
theorem aeS(I:bw)(x:bL)(vs:List Value):b9 I (eo.enc x) vs↔vs=Ac x:=by
 show b9 I [.int .i64 x.Hop.bg,.int .i64 x.Hop.aQ,.int .i64 x.gr] vs↔vs=_;simp only[b9,aO];constructor
 ·rintro⟨_,_,rfl,rfl,⟨_,_,rfl,rfl,⟨_,_,rfl,rfl,rfl⟩⟩⟩;rfl
 ·rintro rfl;exact⟨_,_,rfl,rfl,⟨_,_,rfl,rfl,⟨_,_,rfl,rfl,rfl⟩⟩⟩
theorem aeT(I:bw)(β:Nat→Value)(x:bL):bO I β (eo.enc x) (Ac x):=by
 show bO I β [.int .i64 x.Hop.bg,.int .i64 x.Hop.aQ,.int .i64 x.gr] _;simp only[bO,ar,aO];exact⟨_,_,rfl,rfl,⟨_,_,rfl,rfl,⟨_,_,rfl,rfl,rfl⟩⟩⟩
theorem aeU(x:bL):∀v∈Ac x,v.oneCell'=true:=by
 intro v af;simp only[Ac,List.mem_cons,List.not_mem_nil,or_false]at af;rcases af with rfl|rfl|rfl<;>rfl
theorem aeV(a b:bL):FP a b=some (fL [λx:bL=>x.Hop.bg,λx:bL=>x.Hop.aQ] a b):=by
 unfold FP qL;simp only[ML,DA,fL];rcases Int.lt_trichotomy a.Hop.bg b.Hop.bg with bJ|bJ|bJ<;>rcases Int.lt_trichotomy a.Hop.aQ b.Hop.aQ with h1|h1|h1<;>simp[bf,ez,bJ,h1]<;>(repeat (first|rw[if_neg (by omega)]|rw[if_pos (by omega)]))<;>simp
theorem YN:Ho prog 127 128 Ac 3 (fL [λx:bL=>x.Hop.bg,λx:bL=>x.Hop.aQ]):=λbV off aF d w rX V W=>
 AnyQ.slices_SortFunc Tryz.PZ 3 isAgg175 sizeOf175 Ac (λ_=>rfl) aeU _ (Ma _) 128 #[] bV off aF d w (enters_of func128 (by kernel_rfl) rfl)
  (Ll aeT (λx y=>alk (aeV x y)) bV off d.size w) rX V W
theorem Xe{zs bu:List bL}(h:m0 (fL [λx:bL=>x.Hop.bg,λx:bL=>x.Hop.aQ]) zs=some bu):gi prog 127 [(d,.slice T 3 (aD eo zs) 0 false)] [.own d,.fn 128 []] (λr az=>r=.cD []∧az=[(d,.slice T 3 (aD eo bu) 0 false)]):=
 LC aeS (by decide) (λ_=>rfl) (λ_=>rfl) (x3 _) YN (λp aF xE w=>AnyF.slices_SortFunc_none Tryz.PZ p aF xE w) h
def Tryz.Xf:Shelf.Ren:=
 {  f:=λx=>match x with|6=>154|15=>178|14=>184|28=>206|29=>207|20=>224|21=>225|22=>226|23=>227|24=>228|25=>229|26=>230|27=>231|46=>246|47=>236|48=>237|49=>247|50=>248|57=>261|n=>n,t:=λx=>match x with|22=>53|24=>60|25=>200|3=>3|39=>178|0=>0|53=>252|55=>254|4=>4|46=>246|45=>245|50=>89|5=>5|9=>9|66=>272|70=>276|76=>289|77=>290|n=>n,g:=λn=>n}
theorem Tryz.P0:SlLaysF0.n6 prog Tryz.Xf:=
  {mixed:=by kernel_rfl,f6:=⟨ "slices.SortFunc[[]bitcast/api.Load,bitcast/api.Load]",of_decide_eq_true (by kernel_rfl),func154.trans (by kernel_rfl)⟩,
   f14:=⟨ "slices.pdqsortCmpFunc[bitcast/api.Load]",of_decide_eq_true (by kernel_rfl),func184.trans (by kernel_rfl)⟩,f15:=func178.trans (by kernel_rfl),
   f20:=⟨ "slices.insertionSortCmpFunc[bitcast/api.Load]",of_decide_eq_true (by kernel_rfl),func224.trans (by kernel_rfl)⟩,f21:=⟨ "slices.heapSortCmpFunc[bitcast/api.Load]",
   of_decide_eq_true (by kernel_rfl),func225.trans (by kernel_rfl)⟩,f22:=⟨ "slices.breakPatternsCmpFunc[bitcast/api.Load]",of_decide_eq_true (by kernel_rfl),func226.trans (by kernel_rfl)⟩,
   f23:=⟨ "slices.choosePivotCmpFunc[bitcast/api.Load]",of_decide_eq_true (by kernel_rfl),func227.trans (by kernel_rfl)⟩,f24:=⟨ "slices.reverseRangeCmpFunc[bitcast/api.Load]",
   of_decide_eq_true (by kernel_rfl),func228.trans (by kernel_rfl)⟩,f25:=⟨ "slices.partialInsertionSortCmpFunc[bitcast/api.Load]",of_decide_eq_true (by kernel_rfl),
   func229.trans (by kernel_rfl)⟩,f26:=⟨ "slices.partitionEqualCmpFunc[bitcast/api.Load]",of_decide_eq_true (by kernel_rfl),func230.trans (by kernel_rfl)⟩,
   f27:=⟨ "slices.partitionCmpFunc[bitcast/api.Load]",of_decide_eq_true (by kernel_rfl),func231.trans (by kernel_rfl)⟩,f28:=func206.trans (by kernel_rfl),
   f29:=func207.trans (by kernel_rfl),f46:=⟨ "slices.siftDownCmpFunc[bitcast/api.Load]",of_decide_eq_true (by kernel_rfl),func246.trans (by kernel_rfl)⟩,
   f47:=func236.trans (by kernel_rfl),f48:=func237.trans (by kernel_rfl),f49:=⟨ "slices.medianAdjacentCmpFunc[bitcast/api.Load]",of_decide_eq_true (by kernel_rfl),
   func247.trans (by kernel_rfl)⟩,f50:=⟨ "slices.medianCmpFunc[bitcast/api.Load]",of_decide_eq_true (by kernel_rfl),func248.trans (by kernel_rfl)⟩,
   f57:=⟨ "slices.order2CmpFunc[bitcast/api.Load]",of_decide_eq_true (by kernel_rfl),func261.trans (by kernel_rfl)⟩,t0:=underlying0,a0:=isAgg0,z0:=sizeOf0,
   v0:=zeroValue0,t3:=underlying3,a3:=isAgg3,z3:=sizeOf3,v3:=zeroValue3,t4:=underlying4,a4:=isAgg4,z4:=sizeOf4,v4:=zeroValue4,
   t5:=underlying5,a5:=isAgg5,z5:=sizeOf5,v5:=zeroValue5,t9:=underlying9,a9:=isAgg9,z9:=sizeOf9,v9:=zeroValue9,t22:=underlying53,
   a22:=isAgg53,z22:=sizeOf53,v22:=zeroValue53,t25:=underlying200,a25:=isAgg200,z25:=sizeOf200,v25:=zeroValue200,t39:=underlying178,
   a39:=isAgg178,z39:=sizeOf178,v39:=zeroValue178,t45:=underlying245,a45:=isAgg245,z45:=sizeOf245,v45:=zeroValue245,t46:=underlying246,
   a46:=isAgg246,z46:=sizeOf246,v46:=zeroValue246,t50:=underlying89,a50:=isAgg89,z50:=sizeOf89,v50:=zeroValue89,t53:=underlying252,
   a53:=isAgg252,z53:=sizeOf252,v53:=zeroValue252,t55:=underlying254,a55:=isAgg254,z55:=sizeOf254,v55:=zeroValue254,t66:=underlying272,
   a66:=isAgg272,z66:=sizeOf272,v66:=zeroValue272,t70:=underlying276,a70:=isAgg276,z70:=sizeOf276,v70:=zeroValue276,t76:=underlying289,
   a76:=isAgg289,z76:=sizeOf289,v76:=zeroValue289,t77:=underlying290,a77:=isAgg290,z77:=sizeOf290,v77:=zeroValue290}
def Aj(x:ep):List Value:=[.int .i64 x.bg,.int .i64 x.aQ,.int .i64 x.Count]
theorem ak6(I:bw)(x:ep)(vs:List Value):b9 I (gx.enc x) vs↔vs=Aj x:=by
 show b9 I [.int .i64 x.bg,.int .i64 x.aQ,.int .i64 x.Count] vs↔vs=_;simp only[b9,aO];constructor
 ·rintro⟨_,_,rfl,rfl,⟨_,_,rfl,rfl,⟨_,_,rfl,rfl,rfl⟩⟩⟩;rfl
 ·rintro rfl;exact⟨_,_,rfl,rfl,⟨_,_,rfl,rfl,⟨_,_,rfl,rfl,rfl⟩⟩⟩
theorem ak8(I:bw)(β:Nat→Value)(x:ep):bO I β (gx.enc x) (Aj x):=by
 show bO I β [.int .i64 x.bg,.int .i64 x.aQ,.int .i64 x.Count] _;simp only[bO,ar,aO];exact⟨_,_,rfl,rfl,⟨_,_,rfl,rfl,⟨_,_,rfl,rfl,rfl⟩⟩⟩
theorem ak2(x:ep):∀v∈Aj x,v.oneCell'=true:=by
 intro v af;simp only[Aj,List.mem_cons,List.not_mem_nil,or_false]at af;rcases af with rfl|rfl|rfl<;>rfl
theorem aej(a b:ep):Fh a b=some (fL [λx:ep=>x.bg,λx:ep=>x.aQ] a b):=by
 unfold Fh qL;simp only[ML,DA,fL];rcases Int.lt_trichotomy a.bg b.bg with bJ|bJ|bJ<;>rcases Int.lt_trichotomy a.aQ b.aQ with h1|h1|h1<;>simp[bf,ez,bJ,h1]<;>(repeat (first|rw[if_neg (by omega)]|rw[if_pos (by omega)]))<;>simp
theorem Z2:Ho prog 154 155 Aj 3 (fL [λx:ep=>x.bg,λx:ep=>x.aQ]):=λbV off aF d w rX V W=>
 AnyQ.slices_SortFunc Tryz.P0 3 isAgg60 sizeOf60 Aj (λ_=>rfl) ak2 _ (Ma _) 155 #[] bV off aF d w (enters_of func155 (by kernel_rfl) rfl)
  (Ll ak8 (λx y=>ai5 (aej x y)) bV off d.size w) rX V W
theorem Xg{zs bu:List ep}(h:m0 (fL [λx:ep=>x.bg,λx:ep=>x.aQ]) zs=some bu):gi prog 154 [(d,.slice T 3 (aD gx zs) 0 false)] [.own d,.fn 155 []] (λr az=>r=.cD []∧az=[(d,.slice T 3 (aD gx bu) 0 false)]):=
 LC ak6 (by decide) (λ_=>rfl) (λ_=>rfl) (x3 _) Z2 (λp aF xE w=>AnyF.slices_SortFunc_none Tryz.P0 p aF xE w) h
end Go.Proofs.YtmnbolcmepihlaaGreat
