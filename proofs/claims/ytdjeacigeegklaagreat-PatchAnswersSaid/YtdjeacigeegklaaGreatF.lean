/- The types of this translation, as the rules want aeI. No condition. -/
import Derived.Test.YtdjeacigeegklaaGreatAB
import Derived.Test.YtdjeacigeegklaaGreatRows
import Derived.OwnWalk
namespace Go.Proofs.YtdjeacigeegklaaGreat
set_option linter.all false
abbrev zI0:Value:=.int .i64 0
abbrev zS0:Value:=.slice none 0 0
open Go Go.Proofs.Tryz
set_option maxRecDepth 100000
abbrev Zr(i:Nat)(c:List Value):Prop:=∀w,∃z,(zeroValue i).run prog w=.ok z w∧z.cells=c.toArray
theorem hmix:prog.follows .mixedOrders=true:=by kernel_rfl
theorem ze2:Zr 2 [zI0]:=λw=>⟨_,zeroValue2 w,rfl⟩
theorem ze3:Zr 3 [zI0]:=λw=>⟨_,zeroValue3 w,rfl⟩
theorem ze4:Zr 4 [.bool false]:=λw=>⟨_,zeroValue4 w,rfl⟩
theorem ze5:Zr 5 [.int .u8 0]:=λw=>⟨_,zeroValue5 w,rfl⟩
theorem ze6:Zr 6 [.int .u8 0]:=λw=>⟨_,zeroValue6 w,rfl⟩
theorem ze7:Zr 7 [zI0,zI0,.bool false,.int .u8 0]:=λw=>⟨_,zeroValue7 w,rfl⟩
theorem ze8:Zr 8 [zI0,zI0,.bool false,.int .u8 0]:=λw=>⟨_,zeroValue8 w,rfl⟩
theorem ze9:Zr 9 [.string ⟨#[]⟩]:=λw=>⟨_,zeroValue9 w,rfl⟩
theorem ze10:Zr 10 [.string ⟨#[]⟩]:=λw=>⟨_,zeroValue10 w,rfl⟩
theorem ze11:Zr 11 [.string ⟨#[]⟩]:=λw=>⟨_,zeroValue11 w,rfl⟩
theorem ze12:Zr 12 [.int .u64 0]:=λw=>⟨_,zeroValue12 w,rfl⟩
theorem ze13:Zr 13 [.string ⟨#[]⟩,.int .u64 0]:=λw=>⟨_,zeroValue13 w,rfl⟩
theorem ze14:Zr 14 [.string ⟨#[]⟩,.int .u64 0]:=λw=>⟨_,zeroValue14 w,rfl⟩
theorem ze15:Zr 15 [.pointer none]:=λw=>⟨_,zeroValue15 w,rfl⟩
theorem ze16:Zr 16 [.pointer none]:=λw=>⟨_,zeroValue16 w,rfl⟩
theorem ze17:Zr 17 [.pointer none]:=λw=>⟨_,zeroValue17 w,rfl⟩
theorem ze18:Zr 18 [.pointer none]:=λw=>⟨_,zeroValue18 w,rfl⟩
theorem ze19:Zr 19 [.pointer none]:=λw=>⟨_,zeroValue19 w,rfl⟩
theorem ze21:Zr 21 [.int .i32 0]:=λw=>⟨_,zeroValue21 w,rfl⟩
theorem aqg:Zr 22 [zS0]:=λw=>⟨_,zeroValue22 w,rfl⟩
theorem ze23:Zr 23 [.pointer none]:=λw=>⟨_,zeroValue23 w,rfl⟩
theorem ze25:Zr 25 [zS0]:=λw=>⟨_,zeroValue25 w,rfl⟩
theorem ze26:Zr 26 [zS0]:=λw=>⟨_,zeroValue26 w,rfl⟩
theorem ze27:Zr 27 [zS0,zS0]:=λw=>⟨_,zeroValue27 w,rfl⟩
theorem aqh:Zr 28 [zS0,zS0]:=λw=>⟨_,zeroValue28 w,rfl⟩
theorem ze30:Zr 30 [zS0]:=λw=>⟨_,zeroValue30 w,rfl⟩
theorem ze31:Zr 31 [zI0,zS0]:=λw=>⟨_,zeroValue31 w,rfl⟩
theorem aqi:Zr 32 [zI0,zS0]:=λw=>⟨_,zeroValue32 w,rfl⟩
theorem ze34:Zr 34 [.int .u64 0]:=λw=>⟨_,zeroValue34 w,rfl⟩
theorem ze35:Zr 35 [zI0,zI0,zI0,zI0,zI0,zI0,zI0,zI0,.int .u64 0,.string ⟨#[]⟩]:=λw=>⟨_,zeroValue35 w,rfl⟩
theorem aqj:Zr 36 [zI0,zI0,zI0,zI0,zI0,zI0,zI0,zI0,.int .u64 0,.string ⟨#[]⟩]:=λw=>⟨_,zeroValue36 w,rfl⟩
theorem ze37:Zr 37 [zI0,zI0,zI0,zI0]:=λw=>⟨_,zeroValue37 w,rfl⟩
theorem aqk:Zr 38 [zI0,zI0,zI0,zI0]:=λw=>⟨_,zeroValue38 w,rfl⟩
theorem ze40:Zr 40 [.int .u64 0]:=λw=>⟨_,zeroValue40 w,rfl⟩
theorem ze41:Zr 41 [zI0,.bool false]:=λw=>⟨_,zeroValue41 w,rfl⟩
theorem aql:Zr 42 [zI0,.bool false]:=λw=>⟨_,zeroValue42 w,rfl⟩
theorem ze44:Zr 44 [zS0]:=λw=>⟨_,zeroValue44 w,rfl⟩
theorem ze45:Zr 45 [.int .u64 0,.int .u64 0,zS0]:=λw=>⟨_,zeroValue45 w,rfl⟩
theorem ze46:Zr 46 [.int .u64 0,.int .u64 0,zS0]:=λw=>⟨_,zeroValue46 w,rfl⟩
theorem ze47:Zr 47 [zI0]:=λw=>⟨_,zeroValue47 w,rfl⟩
theorem ze52:Zr 52 [zS0,zI0,zI0,zI0,zI0,zI0,zI0,zI0,zI0,.int .u64 0,.string ⟨#[]⟩]:=λw=>⟨_,zeroValue52 w,rfl⟩
theorem aqm:Zr 54 [zI0,zS0,zI0,zI0,zI0,zI0,zI0,zI0,zI0,zI0,.int .u64 0,.string ⟨#[]⟩]:=λw=>⟨_,zeroValue54 w,rfl⟩
theorem ze61:Zr 61 [zS0]:=λw=>⟨_,zeroValue61 w,rfl⟩
theorem aqn:Zr 63 [zI0,zS0]:=λw=>⟨_,zeroValue63 w,rfl⟩
theorem aqo:Zr 67 [zI0,zI0]:=λw=>⟨_,zeroValue67 w,rfl⟩
theorem ze70:Zr 70 [zS0]:=λw=>⟨_,zeroValue70 w,rfl⟩
theorem ze71:Zr 71 [zS0]:=λw=>⟨_,zeroValue71 w,rfl⟩
theorem ze72:Zr 72 [zS0]:=λw=>⟨_,zeroValue72 w,rfl⟩
theorem ze74:Zr 74 [zS0,zS0,zS0]:=λw=>⟨_,zeroValue74 w,rfl⟩
theorem aqp:Zr 78 [zI0,zI0,zI0,zI0,zI0,zI0,zI0,zI0,zI0,.int .u64 0,.string ⟨#[]⟩]:=λw=>⟨_,zeroValue78 w,rfl⟩
theorem aqq:Zr 81 [zI0,zI0,.int .u64 0]:=λw=>⟨_,zeroValue81 w,rfl⟩
theorem aqr:Zr 89 [zI0,zI0,zI0,zI0,zI0]:=λw=>⟨_,zeroValue89 w,rfl⟩
theorem ze91:Zr 91 [zS0]:=λw=>⟨_,zeroValue91 w,rfl⟩
theorem ze93:Zr 93 [zS0]:=λw=>⟨_,zeroValue93 w,rfl⟩
theorem ze94:Zr 94 [zS0]:=λw=>⟨_,zeroValue94 w,rfl⟩
theorem ze96:Zr 96 [zS0]:=λw=>⟨_,zeroValue96 w,rfl⟩
theorem ze97:Zr 97 [zS0]:=λw=>⟨_,zeroValue97 w,rfl⟩
theorem alx:Zr 100 [zS0,zS0]:=λw=>⟨_,zeroValue100 w,rfl⟩
theorem atZ:Zr 105 [zS0]:=λw=>⟨_,zeroValue105 w,rfl⟩
theorem at0:Zr 115 [zS0,zI0]:=λw=>⟨_,zeroValue115 w,rfl⟩
theorem at1:Zr 117 [zS0]:=λw=>⟨_,zeroValue117 w,rfl⟩
theorem aly:Zr 118 [zS0]:=λw=>⟨_,zeroValue118 w,rfl⟩
theorem at3:Zr 130 [.nilFunc]:=λw=>⟨_,zeroValue130 w,rfl⟩
theorem at4:Zr 136 [zS0]:=λw=>⟨_,zeroValue136 w,rfl⟩
theorem alz:Zr 141 [zI0,.int .u64 0]:=λw=>⟨_,zeroValue141 w,rfl⟩
theorem alA:Zr 143 [zI0,zI0,zI0,zI0,zI0,zS0,zI0,zI0,zI0,zI0,zI0,zI0,zI0,zI0,.int .u64 0,.string ⟨#[]⟩]:=λw=>⟨_,zeroValue143 w,rfl⟩
theorem at5:Zr 152 [.nilFunc]:=λw=>⟨_,zeroValue152 w,rfl⟩
theorem alB:Zr 154 [zI0,zS0,zI0,zI0,zI0,zI0,zI0,zI0,zI0,zI0,.int .u64 0,.string ⟨#[]⟩]:=λw=>⟨_,zeroValue154 w,rfl⟩
theorem at6:Zr 155 [zS0]:=λw=>⟨_,zeroValue155 w,rfl⟩
theorem at7:Zr 157 [zI0,zS0,zS0,zS0,zS0,zS0,zS0,zS0,zS0,zS0,zS0,zS0]:=λw=>⟨_,zeroValue157 w,rfl⟩
theorem at8:Zr 159 [zI0,zS0,zI0,zI0,zI0,zI0,zI0,zI0,zI0,zI0,.int .u64 0,.string ⟨#[]⟩]:=λw=>⟨_,zeroValue159 w,rfl⟩
theorem alC:Zr 160 [zI0,zS0,zI0,zI0,zI0,zI0,zI0,zI0,zI0,zI0,.int .u64 0,.string ⟨#[]⟩]:=λw=>⟨_,zeroValue160 w,rfl⟩
theorem at9:Zr 161 [zS0]:=λw=>⟨_,zeroValue161 w,rfl⟩
theorem aua:Zr 168 [.nilFunc]:=λw=>⟨_,zeroValue168 w,rfl⟩
theorem aub:Zr 170 [.nilFunc]:=λw=>⟨_,zeroValue170 w,rfl⟩
theorem auc:Zr 172 [.nilFunc]:=λw=>⟨_,zeroValue172 w,rfl⟩
theorem aud:Zr 173 [.nilFunc]:=λw=>⟨_,zeroValue173 w,rfl⟩
theorem aaz:Zr 177 [zI0,zI0]:=λw=>⟨_,zeroValue177 w,rfl⟩
theorem aue:Zr 178 [zS0]:=λw=>⟨_,zeroValue178 w,rfl⟩
theorem auf:Zr 184 [zI0,zI0,zI0]:=λw=>⟨_,zeroValue184 w,rfl⟩
theorem aug:Zr 193 [.pointer none]:=λw=>⟨_,zeroValue193 w,rfl⟩
theorem auh:Zr 200 [.map none]:=λw=>⟨_,zeroValue200 w,rfl⟩
theorem aui:Zr 202 [.map none,.map none]:=λw=>⟨_,zeroValue202 w,rfl⟩
theorem auj:Zr 204 [.map none]:=λw=>⟨_,zeroValue204 w,rfl⟩
theorem auk:Zr 215 [.nilFunc]:=λw=>⟨_,zeroValue215 w,rfl⟩
theorem aul:Zr 216 [zS0]:=λw=>⟨_,zeroValue216 w,rfl⟩
theorem alD:Zr 218 [zI0,zI0]:=λw=>⟨_,zeroValue218 w,rfl⟩
theorem aum:Zr 220 [.nilFunc]:=λw=>⟨_,zeroValue220 w,rfl⟩
theorem aun:Zr 228 [zI0]:=λw=>⟨_,zeroValue228 w,rfl⟩
theorem auo:Zr 235 [.int .u32 0]:=λw=>⟨_,zeroValue235 w,rfl⟩
theorem ty2:TyS prog 2 1 false:=⟨sizeOf2,isAgg2⟩
theorem ty3:TyS prog 3 1 false:=⟨sizeOf3,isAgg3⟩
theorem ty4:TyS prog 4 1 false:=⟨sizeOf4,isAgg4⟩
theorem ty5:TyS prog 5 1 false:=⟨sizeOf5,isAgg5⟩
theorem ty6:TyS prog 6 1 false:=⟨sizeOf6,isAgg6⟩
theorem ty7:TyS prog 7 4 true:=⟨sizeOf7,isAgg7⟩
theorem str7:fO prog 7 [zI0,zI0,.bool false,.int .u8 0] [(0,1),(1,1),(2,1),(3,1)]:=gI zeroValue7 underlying7 (λw=>by kernel_rfl)
theorem aqs:cn prog 7 0 0:=⟨λa w=>by kernel_rfl⟩
theorem aqt:cn prog 7 1 1:=⟨λa w=>by kernel_rfl⟩
theorem aqu:cn prog 7 2 2:=⟨λa w=>by kernel_rfl⟩
theorem aqv:cn prog 7 3 3:=⟨λa w=>by kernel_rfl⟩
theorem aqw:bK prog 7 0 0 1 false:=bN underlying7 (by kernel_rfl) ty2 (by decide)
theorem aqx:bK prog 7 1 1 1 false:=bN underlying7 (by kernel_rfl) ty3 (by decide)
theorem aqy:bK prog 7 2 2 1 false:=bN underlying7 (by kernel_rfl) ty4 (by decide)
theorem aqz:bK prog 7 3 3 1 false:=bN underlying7 (by kernel_rfl) ty6 (by decide)
theorem ty8:TyS prog 8 4 true:=⟨sizeOf8,isAgg8⟩
theorem str8:fO prog 8 [zI0,zI0,.bool false,.int .u8 0] [(0,1),(1,1),(2,1),(3,1)]:=gI zeroValue8 underlying8 (λw=>by kernel_rfl)
theorem aqA:cn prog 8 0 0:=⟨λa w=>by kernel_rfl⟩
theorem aqB:cn prog 8 1 1:=⟨λa w=>by kernel_rfl⟩
theorem aqC:cn prog 8 2 2:=⟨λa w=>by kernel_rfl⟩
theorem aqD:cn prog 8 3 3:=⟨λa w=>by kernel_rfl⟩
theorem aqE:bK prog 8 0 0 1 false:=bN underlying8 (by kernel_rfl) ty2 (by decide)
theorem aqF:bK prog 8 1 1 1 false:=bN underlying8 (by kernel_rfl) ty3 (by decide)
theorem aqG:bK prog 8 2 2 1 false:=bN underlying8 (by kernel_rfl) ty4 (by decide)
theorem aqH:bK prog 8 3 3 1 false:=bN underlying8 (by kernel_rfl) ty6 (by decide)
theorem ty9:TyS prog 9 1 false:=⟨sizeOf9,isAgg9⟩
theorem ty10:TyS prog 10 1 false:=⟨sizeOf10,isAgg10⟩
theorem ty11:TyS prog 11 1 false:=⟨sizeOf11,isAgg11⟩
theorem aji:TyS prog 12 1 false:=⟨sizeOf12,isAgg12⟩
theorem ty13:TyS prog 13 2 true:=⟨sizeOf13,isAgg13⟩
theorem aup:fO prog 13 [.string ⟨#[]⟩,.int .u64 0] [(0,1),(1,1)]:=gI zeroValue13 underlying13 (λw=>by kernel_rfl)
theorem amU:cn prog 13 0 0:=⟨λa w=>by kernel_rfl⟩
theorem amV:cn prog 13 1 1:=⟨λa w=>by kernel_rfl⟩
theorem amW:bK prog 13 0 0 1 false:=bN underlying13 (by kernel_rfl) ty9 (by decide)
theorem amX:bK prog 13 1 1 1 false:=bN underlying13 (by kernel_rfl) aji (by decide)
theorem ty14:TyS prog 14 2 true:=⟨sizeOf14,isAgg14⟩
theorem auq:fO prog 14 [.string ⟨#[]⟩,.int .u64 0] [(0,1),(1,1)]:=gI zeroValue14 underlying14 (λw=>by kernel_rfl)
theorem amY:cn prog 14 0 0:=⟨λa w=>by kernel_rfl⟩
theorem amZ:cn prog 14 1 1:=⟨λa w=>by kernel_rfl⟩
theorem am0:bK prog 14 0 0 1 false:=bN underlying14 (by kernel_rfl) ty9 (by decide)
theorem am1:bK prog 14 1 1 1 false:=bN underlying14 (by kernel_rfl) aji (by decide)
theorem ty15:TyS prog 15 1 false:=⟨sizeOf15,isAgg15⟩
theorem ty16:TyS prog 16 1 false:=⟨sizeOf16,isAgg16⟩
theorem ajj:TyS prog 17 1 false:=⟨sizeOf17,isAgg17⟩
theorem ty18:TyS prog 18 1 true:=⟨sizeOf18,isAgg18⟩
theorem aur:fO prog 18 [.pointer none] [(0,1)]:=gI zeroValue18 underlying18 (λw=>by kernel_rfl)
theorem am2:cn prog 18 0 0:=⟨λa w=>by kernel_rfl⟩
theorem am3:bK prog 18 0 0 1 false:=bN underlying18 (by kernel_rfl) ajj (by decide)
theorem ty19:TyS prog 19 1 true:=⟨sizeOf19,isAgg19⟩
theorem aus:fO prog 19 [.pointer none] [(0,1)]:=gI zeroValue19 underlying19 (λw=>by kernel_rfl)
theorem am4:cn prog 19 0 0:=⟨λa w=>by kernel_rfl⟩
theorem am5:bK prog 19 0 0 1 false:=bN underlying19 (by kernel_rfl) ajj (by decide)
theorem ty21:TyS prog 21 1 false:=⟨sizeOf21,isAgg21⟩
theorem ahb:TyS prog 22 1 false:=⟨sizeOf22,isAgg22⟩
theorem sl22:SlS prog 22 3 1:=⟨underlying22,sizeOf3⟩
theorem ahc:iz prog 22 3 1 8:=⟨underlying22,(by obtain⟨i,h1,h2,h3,h4⟩:=info_parts (by kernel_rfl:(prog.info? 3).map (λi=>(i.zero,i.size,i.bytes))=some (some (zI0),1,8));exact⟨i,_,h1,h2,h3,h4,rfl⟩),by decide⟩
theorem alF:iP prog 22 3 1 [zI0]:=⟨underlying22,sizeOf3,ze3,rfl⟩
theorem ty23:TyS prog 23 1 false:=⟨sizeOf23,isAgg23⟩
theorem ajk:TyS prog 25 1 false:=⟨sizeOf25,isAgg25⟩
theorem sl25:SlS prog 25 42 2:=⟨underlying25,sizeOf42⟩
theorem aut:iz prog 25 42 2 16:=⟨underlying25,(by obtain⟨i,h1,h2,h3,h4⟩:=info_parts (by kernel_rfl:(prog.info? 42).map (λi=>(i.zero,i.size,i.bytes))=some (some (.agg #[zI0,.bool false]),2,16));exact⟨i,_,h1,h2,h3,h4,rfl⟩),by decide⟩
theorem auu:iP prog 25 42 2 [zI0,.bool false]:=⟨underlying25,sizeOf42,aql,rfl⟩
theorem ajl:TyS prog 26 1 false:=⟨sizeOf26,isAgg26⟩
theorem sl26:SlS prog 26 89 5:=⟨underlying26,sizeOf89⟩
theorem auv:iz prog 26 89 5 40:=⟨underlying26,(by obtain⟨i,h1,h2,h3,h4⟩:=info_parts (by kernel_rfl:(prog.info? 89).map (λi=>(i.zero,i.size,i.bytes))=some (some (.agg #[zI0,zI0,zI0,zI0,zI0]),5,40));exact⟨i,_,h1,h2,h3,h4,rfl⟩),by decide⟩
theorem auw:iP prog 26 89 5 [zI0,zI0,zI0,zI0,zI0]:=⟨underlying26,sizeOf89,aqr,rfl⟩
theorem ty27:TyS prog 27 2 true:=⟨sizeOf27,isAgg27⟩
theorem auy:fO prog 27 [zS0,zS0] [(0,1),(1,1)]:=gI zeroValue27 underlying27 (λw=>by kernel_rfl)
theorem am6:cn prog 27 0 0:=⟨λa w=>by kernel_rfl⟩
theorem am7:cn prog 27 1 1:=⟨λa w=>by kernel_rfl⟩
theorem am8:bK prog 27 0 0 1 false:=bN underlying27 (by kernel_rfl) ajk (by decide)
theorem am9:bK prog 27 1 1 1 false:=bN underlying27 (by kernel_rfl) ajl (by decide)
theorem ajm:TyS prog 28 2 true:=⟨sizeOf28,isAgg28⟩
theorem auz:fO prog 28 [zS0,zS0] [(0,1),(1,1)]:=gI zeroValue28 underlying28 (λw=>by kernel_rfl)
theorem ana:cn prog 28 0 0:=⟨λa w=>by kernel_rfl⟩
theorem anb:cn prog 28 1 1:=⟨λa w=>by kernel_rfl⟩
theorem anc:bK prog 28 0 0 1 false:=bN underlying28 (by kernel_rfl) ajk (by decide)
theorem ane:bK prog 28 1 1 1 false:=bN underlying28 (by kernel_rfl) ajl (by decide)
theorem ajn:TyS prog 30 1 false:=⟨sizeOf30,isAgg30⟩
theorem aqI:SlS prog 30 38 4:=⟨underlying30,sizeOf38⟩
theorem auA:iz prog 30 38 4 32:=⟨underlying30,(by obtain⟨i,h1,h2,h3,h4⟩:=info_parts (by kernel_rfl:(prog.info? 38).map (λi=>(i.zero,i.size,i.bytes))=some (some (.agg #[zI0,zI0,zI0,zI0]),4,32));exact⟨i,_,h1,h2,h3,h4,rfl⟩),by decide⟩
theorem auB:iP prog 30 38 4 [zI0,zI0,zI0,zI0]:=⟨underlying30,sizeOf38,aqk,rfl⟩
theorem ty31:TyS prog 31 2 true:=⟨sizeOf31,isAgg31⟩
theorem auC:fO prog 31 [zI0,zS0] [(0,1),(1,1)]:=gI zeroValue31 underlying31 (λw=>by kernel_rfl)
theorem anf:cn prog 31 0 0:=⟨λa w=>by kernel_rfl⟩
theorem ang:cn prog 31 1 1:=⟨λa w=>by kernel_rfl⟩
theorem anh:bK prog 31 0 0 1 false:=bN underlying31 (by kernel_rfl) ty3 (by decide)
theorem ani:bK prog 31 1 1 1 false:=bN underlying31 (by kernel_rfl) ajn (by decide)
theorem aqJ:TyS prog 32 2 true:=⟨sizeOf32,isAgg32⟩
theorem auD:fO prog 32 [zI0,zS0] [(0,1),(1,1)]:=gI zeroValue32 underlying32 (λw=>by kernel_rfl)
theorem anj:cn prog 32 0 0:=⟨λa w=>by kernel_rfl⟩
theorem ank:cn prog 32 1 1:=⟨λa w=>by kernel_rfl⟩
theorem anl:bK prog 32 0 0 1 false:=bN underlying32 (by kernel_rfl) ty3 (by decide)
theorem anm:bK prog 32 1 1 1 false:=bN underlying32 (by kernel_rfl) ajn (by decide)
theorem yG:TyS prog 34 1 false:=⟨sizeOf34,isAgg34⟩
theorem ty35:TyS prog 35 10 true:=⟨sizeOf35,isAgg35⟩
theorem auE:fO prog 35 [zI0,zI0,zI0,zI0,zI0,zI0,zI0,zI0,.int .u64 0,.string ⟨#[]⟩] [(0,1),(1,1),(2,1),(3,1),(4,1),(5,1),(6,1),(7,1),(8,1),(9,1)]:=gI zeroValue35 underlying35 (λw=>by kernel_rfl)
theorem ann:cn prog 35 0 0:=⟨λa w=>by kernel_rfl⟩
theorem ano:cn prog 35 1 1:=⟨λa w=>by kernel_rfl⟩
theorem anp:cn prog 35 2 2:=⟨λa w=>by kernel_rfl⟩
theorem anq:cn prog 35 3 3:=⟨λa w=>by kernel_rfl⟩
theorem anr:cn prog 35 4 4:=⟨λa w=>by kernel_rfl⟩
theorem ans:cn prog 35 5 5:=⟨λa w=>by kernel_rfl⟩
theorem ant:cn prog 35 6 6:=⟨λa w=>by kernel_rfl⟩
theorem anu:cn prog 35 7 7:=⟨λa w=>by kernel_rfl⟩
theorem anv:cn prog 35 8 8:=⟨λa w=>by kernel_rfl⟩
theorem anw:cn prog 35 9 9:=⟨λa w=>by kernel_rfl⟩
theorem anx:bK prog 35 0 0 1 false:=bN underlying35 (by kernel_rfl) ty3 (by decide)
theorem anz:bK prog 35 1 1 1 false:=bN underlying35 (by kernel_rfl) ty3 (by decide)
theorem anA:bK prog 35 2 2 1 false:=bN underlying35 (by kernel_rfl) ty3 (by decide)
theorem anB:bK prog 35 3 3 1 false:=bN underlying35 (by kernel_rfl) ty3 (by decide)
theorem anC:bK prog 35 4 4 1 false:=bN underlying35 (by kernel_rfl) ty3 (by decide)
theorem anD:bK prog 35 5 5 1 false:=bN underlying35 (by kernel_rfl) ty3 (by decide)
theorem anE:bK prog 35 6 6 1 false:=bN underlying35 (by kernel_rfl) ty3 (by decide)
theorem anG:bK prog 35 7 7 1 false:=bN underlying35 (by kernel_rfl) ty3 (by decide)
theorem anH:bK prog 35 8 8 1 false:=bN underlying35 (by kernel_rfl) yG (by decide)
theorem anI:bK prog 35 9 9 1 false:=bN underlying35 (by kernel_rfl) ty9 (by decide)
theorem ajo:TyS prog 36 10 true:=⟨sizeOf36,isAgg36⟩
theorem auF:fO prog 36 [zI0,zI0,zI0,zI0,zI0,zI0,zI0,zI0,.int .u64 0,.string ⟨#[]⟩] [(0,1),(1,1),(2,1),(3,1),(4,1),(5,1),(6,1),(7,1),(8,1),(9,1)]:=gI zeroValue36 underlying36 (λw=>by kernel_rfl)
theorem anJ:cn prog 36 0 0:=⟨λa w=>by kernel_rfl⟩
theorem anK:cn prog 36 1 1:=⟨λa w=>by kernel_rfl⟩
theorem anL:cn prog 36 2 2:=⟨λa w=>by kernel_rfl⟩
theorem anM:cn prog 36 3 3:=⟨λa w=>by kernel_rfl⟩
theorem anN:cn prog 36 4 4:=⟨λa w=>by kernel_rfl⟩
theorem anO:cn prog 36 5 5:=⟨λa w=>by kernel_rfl⟩
theorem anP:cn prog 36 6 6:=⟨λa w=>by kernel_rfl⟩
theorem anQ:cn prog 36 7 7:=⟨λa w=>by kernel_rfl⟩
theorem anR:cn prog 36 8 8:=⟨λa w=>by kernel_rfl⟩
theorem anS:cn prog 36 9 9:=⟨λa w=>by kernel_rfl⟩
theorem anT:bK prog 36 0 0 1 false:=bN underlying36 (by kernel_rfl) ty3 (by decide)
theorem anU:bK prog 36 1 1 1 false:=bN underlying36 (by kernel_rfl) ty3 (by decide)
theorem anV:bK prog 36 2 2 1 false:=bN underlying36 (by kernel_rfl) ty3 (by decide)
theorem anW:bK prog 36 3 3 1 false:=bN underlying36 (by kernel_rfl) ty3 (by decide)
theorem anX:bK prog 36 4 4 1 false:=bN underlying36 (by kernel_rfl) ty3 (by decide)
theorem anY:bK prog 36 5 5 1 false:=bN underlying36 (by kernel_rfl) ty3 (by decide)
theorem anZ:bK prog 36 6 6 1 false:=bN underlying36 (by kernel_rfl) ty3 (by decide)
theorem an0:bK prog 36 7 7 1 false:=bN underlying36 (by kernel_rfl) ty3 (by decide)
theorem an1:bK prog 36 8 8 1 false:=bN underlying36 (by kernel_rfl) yG (by decide)
theorem an2:bK prog 36 9 9 1 false:=bN underlying36 (by kernel_rfl) ty9 (by decide)
theorem auG(a0 b0:Int)(a1 b1:Int)(a2 b2:Int)(a3 b3:Int)(a4 b4:Int)(a5 b5:Int)(a6 b6:Int)(a7 b7:Int)(a8 b8:Int)(a9 b9:ByteArray)(w:World):(Op.eqFields 9999 #[.int .i64 a0,.int .i64 a1,.int .i64 a2,.int .i64 a3,.int .i64 a4,.int .i64 a5,.int .i64 a6,.int .i64 a7,.int .u64 a8,.string a9] #[.int .i64 b0,.int .i64 b1,.int .i64 b2,.int .i64 b3,.int .i64 b4,.int .i64 b5,.int .i64 b6,.int .i64 b7,.int .u64 b8,.string b9] (prog.fieldsOf 36).toList).run prog w=.ok (decide (a0=b0)&&(decide (a1=b1)&&(decide (a2=b2)&&(decide (a3=b3)&&(decide (a4=b4)&&(decide (a5=b5)&&(decide (a6=b6)&&(decide (a7=b7)&&(decide (a8=b8)&&((a9.toList==b9.toList)&&true)))))))))) w:=by
 have hf:(prog.fieldsOf 36).toList.map (λf=>(f.name== "_",f.type,f.offset))=[(false,3,0),(false,3,1),(false,3,2),(false,3,3),(false,3,4),(false,3,5),(false,3,6),(false,3,7),(false,34,8),(false,9,9)]:=by kernel_rfl
 have q:(Op.eqFields 9999 #[.int .i64 a0,.int .i64 a1,.int .i64 a2,.int .i64 a3,.int .i64 a4,.int .i64 a5,.int .i64 a6,.int .i64 a7,.int .u64 a8,.string a9] #[.int .i64 b0,.int .i64 b1,.int .i64 b2,.int .i64 b3,.int .i64 b4,.int .i64 b5,.int .i64 b6,.int .i64 b7,.int .u64 b8,.string b9] (prog.fieldsOf 36).toList).run prog w=.ok (decide (a0=b0)&&(decide (a1=b1)&&(decide (a2=b2)&&(decide (a3=b3)&&(decide (a4=b4)&&(decide (a5=b5)&&(decide (a6=b6)&&(decide (a7=b7)&&(decide (a8=b8)&&((a9.toList==b9.toList)&&true)))))))))) w:=by
  obtain⟨f0,t0,e0,h0,hf⟩:=cW hf
  obtain⟨f1,t1,e1,h1,hf⟩:=cW hf
  obtain⟨f2,t2,e2,h2,hf⟩:=cW hf
  obtain⟨f3,t3,e3,h3,hf⟩:=cW hf
  obtain⟨f4,t4,e4,h4,hf⟩:=cW hf
  obtain⟨f5,t5,e5,h5,hf⟩:=cW hf
  obtain⟨f6,t6,e6,h6,hf⟩:=cW hf
  obtain⟨f7,t7,e7,h7,hf⟩:=cW hf
  obtain⟨f8,t8,e8,h8,hf⟩:=cW hf
  obtain⟨f9,t9,e9,h9,hf⟩:=cW hf
  rw[e0,e1,e2,e3,e4,e5,e6,e7,e8,e9,oU hf]
  exact eZ h0 isAgg3 underlying3 rfl rfl (eZ h1 isAgg3 underlying3 rfl rfl (eZ h2 isAgg3 underlying3 rfl rfl (eZ h3 isAgg3 underlying3 rfl rfl (eZ h4 isAgg3 underlying3 rfl rfl (eZ h5 isAgg3 underlying3 rfl rfl (eZ h6 isAgg3 underlying3 rfl rfl (eZ h7 isAgg3 underlying3 rfl rfl (eZ h8 isAgg34 underlying34 rfl rfl (ab9 h9 isAgg9 underlying9 rfl rfl (tN))))))))))
 exact q
theorem ae0(x y:Operand)(a0 b0:Int)(a1 b1:Int)(a2 b2:Int)(a3 b3:Int)(a4 b4:Int)(a5 b5:Int)(a6 b6:Int)(a7 b7:Int)(a8 b8:Int)(a9 b9:ByteArray)(w:World):(do eqGuard .neq 36 x y (.agg #[.int .i64 a0,.int .i64 a1,.int .i64 a2,.int .i64 a3,.int .i64 a4,.int .i64 a5,.int .i64 a6,.int .i64 a7,.int .u64 a8,.string a9]) (.agg #[.int .i64 b0,.int .i64 b1,.int .i64 b2,.int .i64 b3,.int .i64 b4,.int .i64 b5,.int .i64 b6,.int .i64 b7,.int .u64 b8,.string b9]);binOp .neq 36 (.agg #[.int .i64 a0,.int .i64 a1,.int .i64 a2,.int .i64 a3,.int .i64 a4,.int .i64 a5,.int .i64 a6,.int .i64 a7,.int .u64 a8,.string a9]) (.agg #[.int .i64 b0,.int .i64 b1,.int .i64 b2,.int .i64 b3,.int .i64 b4,.int .i64 b5,.int .i64 b6,.int .i64 b7,.int .u64 b8,.string b9]):Sem Value).run prog w=.ok (.bool (!(decide (a0=b0)&&(decide (a1=b1)&&(decide (a2=b2)&&(decide (a3=b3)&&(decide (a4=b4)&&(decide (a5=b5)&&(decide (a6=b6)&&(decide (a7=b7)&&(decide (a8=b8)&&((a9.toList==b9.toList)&&true)))))))))))) w:=aax _ _ _ x y (by kernel_rfl) (by kernel_rfl) (by kernel_rfl) (auG a0 b0 a1 b1 a2 b2 a3 b3 a4 b4 a5 b5 a6 b6 a7 b7 a8 b8 a9 b9 w)
theorem ty37:TyS prog 37 4 true:=⟨sizeOf37,isAgg37⟩
theorem auH:fO prog 37 [zI0,zI0,zI0,zI0] [(0,1),(1,1),(2,1),(3,1)]:=gI zeroValue37 underlying37 (λw=>by kernel_rfl)
theorem an3:cn prog 37 0 0:=⟨λa w=>by kernel_rfl⟩
theorem an4:cn prog 37 1 1:=⟨λa w=>by kernel_rfl⟩
theorem an5:cn prog 37 2 2:=⟨λa w=>by kernel_rfl⟩
theorem an6:cn prog 37 3 3:=⟨λa w=>by kernel_rfl⟩
theorem an7:bK prog 37 0 0 1 false:=bN underlying37 (by kernel_rfl) ty3 (by decide)
theorem an8:bK prog 37 1 1 1 false:=bN underlying37 (by kernel_rfl) ty3 (by decide)
theorem an9:bK prog 37 2 2 1 false:=bN underlying37 (by kernel_rfl) ty3 (by decide)
theorem aoa:bK prog 37 3 3 1 false:=bN underlying37 (by kernel_rfl) ty3 (by decide)
theorem aqK:TyS prog 38 4 true:=⟨sizeOf38,isAgg38⟩
theorem auI:fO prog 38 [zI0,zI0,zI0,zI0] [(0,1),(1,1),(2,1),(3,1)]:=gI zeroValue38 underlying38 (λw=>by kernel_rfl)
theorem aob:cn prog 38 0 0:=⟨λa w=>by kernel_rfl⟩
theorem aoc:cn prog 38 1 1:=⟨λa w=>by kernel_rfl⟩
theorem aod:cn prog 38 2 2:=⟨λa w=>by kernel_rfl⟩
theorem aoe:cn prog 38 3 3:=⟨λa w=>by kernel_rfl⟩
theorem aof:bK prog 38 0 0 1 false:=bN underlying38 (by kernel_rfl) ty3 (by decide)
theorem aog:bK prog 38 1 1 1 false:=bN underlying38 (by kernel_rfl) ty3 (by decide)
theorem aoh:bK prog 38 2 2 1 false:=bN underlying38 (by kernel_rfl) ty3 (by decide)
theorem aoi:bK prog 38 3 3 1 false:=bN underlying38 (by kernel_rfl) ty3 (by decide)
theorem ty40:TyS prog 40 1 false:=⟨sizeOf40,isAgg40⟩
theorem ty41:TyS prog 41 2 true:=⟨sizeOf41,isAgg41⟩
theorem auJ:fO prog 41 [zI0,.bool false] [(0,1),(1,1)]:=gI zeroValue41 underlying41 (λw=>by kernel_rfl)
theorem aoj:cn prog 41 0 0:=⟨λa w=>by kernel_rfl⟩
theorem aok:cn prog 41 1 1:=⟨λa w=>by kernel_rfl⟩
theorem aol:bK prog 41 0 0 1 false:=bN underlying41 (by kernel_rfl) ty3 (by decide)
theorem aom:bK prog 41 1 1 1 false:=bN underlying41 (by kernel_rfl) ty4 (by decide)
theorem ty42:TyS prog 42 2 true:=⟨sizeOf42,isAgg42⟩
theorem auK:fO prog 42 [zI0,.bool false] [(0,1),(1,1)]:=gI zeroValue42 underlying42 (λw=>by kernel_rfl)
theorem aon:cn prog 42 0 0:=⟨λa w=>by kernel_rfl⟩
theorem aoo:cn prog 42 1 1:=⟨λa w=>by kernel_rfl⟩
theorem aop:bK prog 42 0 0 1 false:=bN underlying42 (by kernel_rfl) ty3 (by decide)
theorem aoq:bK prog 42 1 1 1 false:=bN underlying42 (by kernel_rfl) ty4 (by decide)
theorem ajp:TyS prog 44 1 false:=⟨sizeOf44,isAgg44⟩
theorem sl44:SlS prog 44 54 12:=⟨underlying44,sizeOf54⟩
theorem auL:iz prog 44 54 12 120:=⟨underlying44,(by obtain⟨i,h1,h2,h3,h4⟩:=info_parts (by kernel_rfl:(prog.info? 54).map (λi=>(i.zero,i.size,i.bytes))=some (some (.agg #[zI0,zS0,zI0,zI0,zI0,zI0,zI0,zI0,zI0,zI0,.int .u64 0,.string ⟨#[]⟩]),12,120));exact⟨i,_,h1,h2,h3,h4,rfl⟩),by decide⟩
theorem auM:iP prog 44 54 12 [zI0,zS0,zI0,zI0,zI0,zI0,zI0,zI0,zI0,zI0,.int .u64 0,.string ⟨#[]⟩]:=⟨underlying44,sizeOf54,aqm,rfl⟩
theorem ty45:TyS prog 45 3 true:=⟨sizeOf45,isAgg45⟩
theorem auN:fO prog 45 [.int .u64 0,.int .u64 0,zS0] [(0,1),(1,1),(2,1)]:=gI zeroValue45 underlying45 (λw=>by kernel_rfl)
theorem aor:cn prog 45 0 0:=⟨λa w=>by kernel_rfl⟩
theorem aos:cn prog 45 1 1:=⟨λa w=>by kernel_rfl⟩
theorem aot:cn prog 45 2 2:=⟨λa w=>by kernel_rfl⟩
theorem aou:bK prog 45 0 0 1 false:=bN underlying45 (by kernel_rfl) yG (by decide)
theorem aov:bK prog 45 1 1 1 false:=bN underlying45 (by kernel_rfl) yG (by decide)
theorem aow:bK prog 45 2 2 1 false:=bN underlying45 (by kernel_rfl) ajp (by decide)
theorem ty46:TyS prog 46 3 true:=⟨sizeOf46,isAgg46⟩
theorem auO:fO prog 46 [.int .u64 0,.int .u64 0,zS0] [(0,1),(1,1),(2,1)]:=gI zeroValue46 underlying46 (λw=>by kernel_rfl)
theorem aox:cn prog 46 0 0:=⟨λa w=>by kernel_rfl⟩
theorem aoy:cn prog 46 1 1:=⟨λa w=>by kernel_rfl⟩
theorem aoz:cn prog 46 2 2:=⟨λa w=>by kernel_rfl⟩
theorem aoA:bK prog 46 0 0 1 false:=bN underlying46 (by kernel_rfl) yG (by decide)
theorem aoB:bK prog 46 1 1 1 false:=bN underlying46 (by kernel_rfl) yG (by decide)
theorem aoC:bK prog 46 2 2 1 false:=bN underlying46 (by kernel_rfl) ajp (by decide)
theorem ty47:TyS prog 47 1 false:=⟨sizeOf47,isAgg47⟩
theorem ae1:TyS prog 52 11 true:=⟨sizeOf52,isAgg52⟩
theorem auP:fO prog 52 [zS0,zI0,zI0,zI0,zI0,zI0,zI0,zI0,zI0,.int .u64 0,.string ⟨#[]⟩] [(0,1),(1,10)]:=gI zeroValue52 underlying52 (λw=>by kernel_rfl)
theorem aoD:cn prog 52 0 0:=⟨λa w=>by kernel_rfl⟩
theorem aoE:cn prog 52 1 1:=⟨λa w=>by kernel_rfl⟩
theorem aoF:bK prog 52 0 0 1 false:=bN underlying52 (by kernel_rfl) ahb (by decide)
theorem aoG:bK prog 52 1 1 10 true:=bN underlying52 (by kernel_rfl) ajo (by decide)
theorem aqL:TyS prog 54 12 true:=⟨sizeOf54,isAgg54⟩
theorem auQ:fO prog 54 [zI0,zS0,zI0,zI0,zI0,zI0,zI0,zI0,zI0,zI0,.int .u64 0,.string ⟨#[]⟩] [(0,1),(1,11)]:=gI zeroValue54 underlying54 (λw=>by kernel_rfl)
theorem aoH:cn prog 54 0 0:=⟨λa w=>by kernel_rfl⟩
theorem aoI:cn prog 54 1 1:=⟨λa w=>by kernel_rfl⟩
theorem aoJ:bK prog 54 0 0 1 false:=bN underlying54 (by kernel_rfl) ty3 (by decide)
theorem aoK:bK prog 54 1 1 11 true:=bN underlying54 (by kernel_rfl) ae1 (by decide)
theorem ajq:TyS prog 61 1 false:=⟨sizeOf61,isAgg61⟩
theorem sl61:SlS prog 61 67 2:=⟨underlying61,sizeOf67⟩
theorem auR:iz prog 61 67 2 16:=⟨underlying61,(by obtain⟨i,h1,h2,h3,h4⟩:=info_parts (by kernel_rfl:(prog.info? 67).map (λi=>(i.zero,i.size,i.bytes))=some (some (.agg #[zI0,zI0]),2,16));exact⟨i,_,h1,h2,h3,h4,rfl⟩),by decide⟩
theorem auS:iP prog 61 67 2 [zI0,zI0]:=⟨underlying61,sizeOf67,aqo,rfl⟩
theorem ty63:TyS prog 63 2 true:=⟨sizeOf63,isAgg63⟩
theorem auT:fO prog 63 [zI0,zS0] [(0,1),(1,1)]:=gI zeroValue63 underlying63 (λw=>by kernel_rfl)
theorem aoL:cn prog 63 0 0:=⟨λa w=>by kernel_rfl⟩
theorem aoM:cn prog 63 1 1:=⟨λa w=>by kernel_rfl⟩
theorem aoN:bK prog 63 0 0 1 false:=bN underlying63 (by kernel_rfl) ty3 (by decide)
theorem aoO:bK prog 63 1 1 1 false:=bN underlying63 (by kernel_rfl) ajq (by decide)
theorem ty67:TyS prog 67 2 true:=⟨sizeOf67,isAgg67⟩
theorem auU:fO prog 67 [zI0,zI0] [(0,1),(1,1)]:=gI zeroValue67 underlying67 (λw=>by kernel_rfl)
theorem aoP:cn prog 67 0 0:=⟨λa w=>by kernel_rfl⟩
theorem aoQ:cn prog 67 1 1:=⟨λa w=>by kernel_rfl⟩
theorem aoR:bK prog 67 0 0 1 false:=bN underlying67 (by kernel_rfl) ty3 (by decide)
theorem aoS:bK prog 67 1 1 1 false:=bN underlying67 (by kernel_rfl) ty3 (by decide)
theorem auV(a0 b0:Int)(a1 b1:Int)(w:World):(Op.eqFields 9999 #[.int .i64 a0,.int .i64 a1] #[.int .i64 b0,.int .i64 b1] (prog.fieldsOf 67).toList).run prog w=.ok (decide (a0=b0)&&(decide (a1=b1)&&true)) w:=by
 have hf:(prog.fieldsOf 67).toList.map (λf=>(f.name== "_",f.type,f.offset))=[(false,3,0),(false,3,1)]:=by kernel_rfl
 have q:(Op.eqFields 9999 #[.int .i64 a0,.int .i64 a1] #[.int .i64 b0,.int .i64 b1] (prog.fieldsOf 67).toList).run prog w=.ok (decide (a0=b0)&&(decide (a1=b1)&&true)) w:=by
  obtain⟨f0,t0,e0,h0,hf⟩:=cW hf
  obtain⟨f1,t1,e1,h1,hf⟩:=cW hf
  rw[e0,e1,oU hf]
  exact eZ h0 isAgg3 underlying3 rfl rfl (eZ h1 isAgg3 underlying3 rfl rfl (tN))
 exact q
theorem ajr(x y:Operand)(a0 b0:Int)(a1 b1:Int)(w:World):(do eqGuard .eql 67 x y (.agg #[.int .i64 a0,.int .i64 a1]) (.agg #[.int .i64 b0,.int .i64 b1]);binOp .eql 67 (.agg #[.int .i64 a0,.int .i64 a1]) (.agg #[.int .i64 b0,.int .i64 b1]):Sem Value).run prog w=.ok (.bool (decide (a0=b0)&&(decide (a1=b1)&&true))) w:=amQ _ _ _ x y (by kernel_rfl) (by kernel_rfl) (by kernel_rfl) (auV a0 b0 a1 b1 w)
theorem aqM:TyS prog 70 1 false:=⟨sizeOf70,isAgg70⟩
theorem sl70:SlS prog 70 78 11:=⟨underlying70,sizeOf78⟩
theorem auW:iz prog 70 78 11 96:=⟨underlying70,(by obtain⟨i,h1,h2,h3,h4⟩:=info_parts (by kernel_rfl:(prog.info? 78).map (λi=>(i.zero,i.size,i.bytes))=some (some (.agg #[zI0,zI0,zI0,zI0,zI0,zI0,zI0,zI0,zI0,.int .u64 0,.string ⟨#[]⟩]),11,96));exact⟨i,_,h1,h2,h3,h4,rfl⟩),by decide⟩
theorem auX:iP prog 70 78 11 [zI0,zI0,zI0,zI0,zI0,zI0,zI0,zI0,zI0,.int .u64 0,.string ⟨#[]⟩]:=⟨underlying70,sizeOf78,aqp,rfl⟩
theorem aqN:TyS prog 71 1 false:=⟨sizeOf71,isAgg71⟩
theorem sl71:SlS prog 71 81 3:=⟨underlying71,sizeOf81⟩
theorem auZ:iz prog 71 81 3 24:=⟨underlying71,(by obtain⟨i,h1,h2,h3,h4⟩:=info_parts (by kernel_rfl:(prog.info? 81).map (λi=>(i.zero,i.size,i.bytes))=some (some (.agg #[zI0,zI0,.int .u64 0]),3,24));exact⟨i,_,h1,h2,h3,h4,rfl⟩),by decide⟩
theorem au0:iP prog 71 81 3 [zI0,zI0,.int .u64 0]:=⟨underlying71,sizeOf81,aqq,rfl⟩
theorem aqO:TyS prog 72 1 false:=⟨sizeOf72,isAgg72⟩
theorem sl72:SlS prog 72 141 2:=⟨underlying72,sizeOf141⟩
theorem au1:iz prog 72 141 2 16:=⟨underlying72,(by obtain⟨i,h1,h2,h3,h4⟩:=info_parts (by kernel_rfl:(prog.info? 141).map (λi=>(i.zero,i.size,i.bytes))=some (some (.agg #[zI0,.int .u64 0]),2,16));exact⟨i,_,h1,h2,h3,h4,rfl⟩),by decide⟩
theorem au2:iP prog 72 141 2 [zI0,.int .u64 0]:=⟨underlying72,sizeOf141,alz,rfl⟩
theorem aqP:TyS prog 74 3 true:=⟨sizeOf74,isAgg74⟩
theorem au3:fO prog 74 [zS0,zS0,zS0] [(0,1),(1,1),(2,1)]:=gI zeroValue74 underlying74 (λw=>by kernel_rfl)
theorem aoT:cn prog 74 0 0:=⟨λa w=>by kernel_rfl⟩
theorem aoU:cn prog 74 1 1:=⟨λa w=>by kernel_rfl⟩
theorem aoV:cn prog 74 2 2:=⟨λa w=>by kernel_rfl⟩
theorem aoW:bK prog 74 0 0 1 false:=bN underlying74 (by kernel_rfl) aqM (by decide)
theorem aoX:bK prog 74 1 1 1 false:=bN underlying74 (by kernel_rfl) aqN (by decide)
theorem aoY:bK prog 74 2 2 1 false:=bN underlying74 (by kernel_rfl) aqO (by decide)
theorem ty78:TyS prog 78 11 true:=⟨sizeOf78,isAgg78⟩
theorem au4:fO prog 78 [zI0,zI0,zI0,zI0,zI0,zI0,zI0,zI0,zI0,.int .u64 0,.string ⟨#[]⟩] [(0,1),(1,10)]:=gI zeroValue78 underlying78 (λw=>by kernel_rfl)
theorem aoZ:cn prog 78 0 0:=⟨λa w=>by kernel_rfl⟩
theorem ao0:cn prog 78 1 1:=⟨λa w=>by kernel_rfl⟩
theorem ao1:bK prog 78 0 0 1 false:=bN underlying78 (by kernel_rfl) ty3 (by decide)
theorem ao2:bK prog 78 1 1 10 true:=bN underlying78 (by kernel_rfl) ajo (by decide)
theorem au5(a0 b0:Int)(a1 b1:Int)(a2 b2:Int)(a3 b3:Int)(a4 b4:Int)(a5 b5:Int)(a6 b6:Int)(a7 b7:Int)(a8 b8:Int)(a9 b9:Int)(a10 b10:ByteArray)(w:World):(Op.eqFields 9999 #[.int .i64 a0,.int .i64 a1,.int .i64 a2,.int .i64 a3,.int .i64 a4,.int .i64 a5,.int .i64 a6,.int .i64 a7,.int .i64 a8,.int .u64 a9,.string a10] #[.int .i64 b0,.int .i64 b1,.int .i64 b2,.int .i64 b3,.int .i64 b4,.int .i64 b5,.int .i64 b6,.int .i64 b7,.int .i64 b8,.int .u64 b9,.string b10] (prog.fieldsOf 78).toList).run prog w=.ok (decide (a0=b0)&&((decide (a1=b1)&&(decide (a2=b2)&&(decide (a3=b3)&&(decide (a4=b4)&&(decide (a5=b5)&&(decide (a6=b6)&&(decide (a7=b7)&&(decide (a8=b8)&&(decide (a9=b9)&&((a10.toList==b10.toList)&&true))))))))))&&true)) w:=by
 have nO:(prog.fieldsOf 36).toList.map (λf=>(f.name== "_",f.type,f.offset))=[(false,3,0),(false,3,1),(false,3,2),(false,3,3),(false,3,4),(false,3,5),(false,3,6),(false,3,7),(false,34,8),(false,9,9)]:=by kernel_rfl
 have q_1:(Op.eqFields 9998 #[.int .i64 a1,.int .i64 a2,.int .i64 a3,.int .i64 a4,.int .i64 a5,.int .i64 a6,.int .i64 a7,.int .i64 a8,.int .u64 a9,.string a10] #[.int .i64 b1,.int .i64 b2,.int .i64 b3,.int .i64 b4,.int .i64 b5,.int .i64 b6,.int .i64 b7,.int .i64 b8,.int .u64 b9,.string b10] (prog.fieldsOf 36).toList).run prog w=.ok (decide (a1=b1)&&(decide (a2=b2)&&(decide (a3=b3)&&(decide (a4=b4)&&(decide (a5=b5)&&(decide (a6=b6)&&(decide (a7=b7)&&(decide (a8=b8)&&(decide (a9=b9)&&((a10.toList==b10.toList)&&true)))))))))) w:=by
  obtain⟨f0,t0,e0,h0,nO⟩:=cW nO
  obtain⟨f1,t1,e1,h1,nO⟩:=cW nO
  obtain⟨f2,t2,e2,h2,nO⟩:=cW nO
  obtain⟨f3,t3,e3,h3,nO⟩:=cW nO
  obtain⟨f4,t4,e4,h4,nO⟩:=cW nO
  obtain⟨f5,t5,e5,h5,nO⟩:=cW nO
  obtain⟨f6,t6,e6,h6,nO⟩:=cW nO
  obtain⟨f7,t7,e7,h7,nO⟩:=cW nO
  obtain⟨f8,t8,e8,h8,nO⟩:=cW nO
  obtain⟨f9,t9,e9,h9,nO⟩:=cW nO
  rw[e0,e1,e2,e3,e4,e5,e6,e7,e8,e9,oU nO]
  exact eZ h0 isAgg3 underlying3 rfl rfl (eZ h1 isAgg3 underlying3 rfl rfl (eZ h2 isAgg3 underlying3 rfl rfl (eZ h3 isAgg3 underlying3 rfl rfl (eZ h4 isAgg3 underlying3 rfl rfl (eZ h5 isAgg3 underlying3 rfl rfl (eZ h6 isAgg3 underlying3 rfl rfl (eZ h7 isAgg3 underlying3 rfl rfl (eZ h8 isAgg34 underlying34 rfl rfl (ab9 h9 isAgg9 underlying9 rfl rfl (tN))))))))))
 have hf:(prog.fieldsOf 78).toList.map (λf=>(f.name== "_",f.type,f.offset))=[(false,3,0),(false,36,1)]:=by kernel_rfl
 have q:(Op.eqFields 9999 #[.int .i64 a0,.int .i64 a1,.int .i64 a2,.int .i64 a3,.int .i64 a4,.int .i64 a5,.int .i64 a6,.int .i64 a7,.int .i64 a8,.int .u64 a9,.string a10] #[.int .i64 b0,.int .i64 b1,.int .i64 b2,.int .i64 b3,.int .i64 b4,.int .i64 b5,.int .i64 b6,.int .i64 b7,.int .i64 b8,.int .u64 b9,.string b10] (prog.fieldsOf 78).toList).run prog w=.ok (decide (a0=b0)&&((decide (a1=b1)&&(decide (a2=b2)&&(decide (a3=b3)&&(decide (a4=b4)&&(decide (a5=b5)&&(decide (a6=b6)&&(decide (a7=b7)&&(decide (a8=b8)&&(decide (a9=b9)&&((a10.toList==b10.toList)&&true))))))))))&&true)) w:=by
  obtain⟨f0,t0,e0,h0,hf⟩:=cW hf
  obtain⟨f1,t1,e1,h1,hf⟩:=cW hf
  rw[e0,e1,oU hf]
  exact eZ h0 isAgg3 underlying3 rfl rfl (ag9 h1 isAgg36 sizeOf36 underlying36 (by kernel_rfl) rfl rfl q_1 (tN))
 exact q
theorem ajs(x y:Operand)(a0 b0:Int)(a1 b1:Int)(a2 b2:Int)(a3 b3:Int)(a4 b4:Int)(a5 b5:Int)(a6 b6:Int)(a7 b7:Int)(a8 b8:Int)(a9 b9:Int)(a10 b10:ByteArray)(w:World):(do eqGuard .neq 78 x y (.agg #[.int .i64 a0,.int .i64 a1,.int .i64 a2,.int .i64 a3,.int .i64 a4,.int .i64 a5,.int .i64 a6,.int .i64 a7,.int .i64 a8,.int .u64 a9,.string a10]) (.agg #[.int .i64 b0,.int .i64 b1,.int .i64 b2,.int .i64 b3,.int .i64 b4,.int .i64 b5,.int .i64 b6,.int .i64 b7,.int .i64 b8,.int .u64 b9,.string b10]);binOp .neq 78 (.agg #[.int .i64 a0,.int .i64 a1,.int .i64 a2,.int .i64 a3,.int .i64 a4,.int .i64 a5,.int .i64 a6,.int .i64 a7,.int .i64 a8,.int .u64 a9,.string a10]) (.agg #[.int .i64 b0,.int .i64 b1,.int .i64 b2,.int .i64 b3,.int .i64 b4,.int .i64 b5,.int .i64 b6,.int .i64 b7,.int .i64 b8,.int .u64 b9,.string b10]):Sem Value).run prog w=.ok (.bool (!(decide (a0=b0)&&((decide (a1=b1)&&(decide (a2=b2)&&(decide (a3=b3)&&(decide (a4=b4)&&(decide (a5=b5)&&(decide (a6=b6)&&(decide (a7=b7)&&(decide (a8=b8)&&(decide (a9=b9)&&((a10.toList==b10.toList)&&true))))))))))&&true)))) w:=aax _ _ _ x y (by kernel_rfl) (by kernel_rfl) (by kernel_rfl) (au5 a0 b0 a1 b1 a2 b2 a3 b3 a4 b4 a5 b5 a6 b6 a7 b7 a8 b8 a9 b9 a10 b10 w)
theorem ty81:TyS prog 81 3 true:=⟨sizeOf81,isAgg81⟩
theorem au6:fO prog 81 [zI0,zI0,.int .u64 0] [(0,1),(1,1),(2,1)]:=gI zeroValue81 underlying81 (λw=>by kernel_rfl)
theorem ao3:cn prog 81 0 0:=⟨λa w=>by kernel_rfl⟩
theorem ao4:cn prog 81 1 1:=⟨λa w=>by kernel_rfl⟩
theorem ao5:cn prog 81 2 2:=⟨λa w=>by kernel_rfl⟩
theorem ao6:bK prog 81 0 0 1 false:=bN underlying81 (by kernel_rfl) ty3 (by decide)
theorem ao7:bK prog 81 1 1 1 false:=bN underlying81 (by kernel_rfl) ty3 (by decide)
theorem ao8:bK prog 81 2 2 1 false:=bN underlying81 (by kernel_rfl) yG (by decide)
theorem au7(a0 b0:Int)(a1 b1:Int)(a2 b2:Int)(w:World):(Op.eqFields 9999 #[.int .i64 a0,.int .i64 a1,.int .u64 a2] #[.int .i64 b0,.int .i64 b1,.int .u64 b2] (prog.fieldsOf 81).toList).run prog w=.ok (decide (a0=b0)&&(decide (a1=b1)&&(decide (a2=b2)&&true))) w:=by
 have hf:(prog.fieldsOf 81).toList.map (λf=>(f.name== "_",f.type,f.offset))=[(false,3,0),(false,3,1),(false,34,2)]:=by kernel_rfl
 have q:(Op.eqFields 9999 #[.int .i64 a0,.int .i64 a1,.int .u64 a2] #[.int .i64 b0,.int .i64 b1,.int .u64 b2] (prog.fieldsOf 81).toList).run prog w=.ok (decide (a0=b0)&&(decide (a1=b1)&&(decide (a2=b2)&&true))) w:=by
  obtain⟨f0,t0,e0,h0,hf⟩:=cW hf
  obtain⟨f1,t1,e1,h1,hf⟩:=cW hf
  obtain⟨f2,t2,e2,h2,hf⟩:=cW hf
  rw[e0,e1,e2,oU hf]
  exact eZ h0 isAgg3 underlying3 rfl rfl (eZ h1 isAgg3 underlying3 rfl rfl (eZ h2 isAgg34 underlying34 rfl rfl (tN)))
 exact q
theorem ajt(x y:Operand)(a0 b0:Int)(a1 b1:Int)(a2 b2:Int)(w:World):(do eqGuard .neq 81 x y (.agg #[.int .i64 a0,.int .i64 a1,.int .u64 a2]) (.agg #[.int .i64 b0,.int .i64 b1,.int .u64 b2]);binOp .neq 81 (.agg #[.int .i64 a0,.int .i64 a1,.int .u64 a2]) (.agg #[.int .i64 b0,.int .i64 b1,.int .u64 b2]):Sem Value).run prog w=.ok (.bool (!(decide (a0=b0)&&(decide (a1=b1)&&(decide (a2=b2)&&true))))) w:=aax _ _ _ x y (by kernel_rfl) (by kernel_rfl) (by kernel_rfl) (au7 a0 b0 a1 b1 a2 b2 w)
theorem ty89:TyS prog 89 5 true:=⟨sizeOf89,isAgg89⟩
theorem au8:fO prog 89 [zI0,zI0,zI0,zI0,zI0] [(0,1),(1,1),(2,1),(3,1),(4,1)]:=gI zeroValue89 underlying89 (λw=>by kernel_rfl)
theorem ao9:cn prog 89 0 0:=⟨λa w=>by kernel_rfl⟩
theorem apa:cn prog 89 1 1:=⟨λa w=>by kernel_rfl⟩
theorem apb:cn prog 89 2 2:=⟨λa w=>by kernel_rfl⟩
theorem apc:cn prog 89 3 3:=⟨λa w=>by kernel_rfl⟩
theorem apd:cn prog 89 4 4:=⟨λa w=>by kernel_rfl⟩
theorem ape:bK prog 89 0 0 1 false:=bN underlying89 (by kernel_rfl) ty3 (by decide)
theorem apf:bK prog 89 1 1 1 false:=bN underlying89 (by kernel_rfl) ty3 (by decide)
theorem apg:bK prog 89 2 2 1 false:=bN underlying89 (by kernel_rfl) ty3 (by decide)
theorem aph:bK prog 89 3 3 1 false:=bN underlying89 (by kernel_rfl) ty3 (by decide)
theorem api:bK prog 89 4 4 1 false:=bN underlying89 (by kernel_rfl) ty3 (by decide)
theorem ty91:TyS prog 91 1 false:=⟨sizeOf91,isAgg91⟩
theorem sl91:SlS prog 91 32 2:=⟨underlying91,sizeOf32⟩
theorem au9:iz prog 91 32 2 32:=⟨underlying91,(by obtain⟨i,h1,h2,h3,h4⟩:=info_parts (by kernel_rfl:(prog.info? 32).map (λi=>(i.zero,i.size,i.bytes))=some (some (.agg #[zI0,zS0]),2,32));exact⟨i,_,h1,h2,h3,h4,rfl⟩),by decide⟩
theorem ava:iP prog 91 32 2 [zI0,zS0]:=⟨underlying91,sizeOf32,aqi,rfl⟩
theorem ty93:TyS prog 93 1 false:=⟨sizeOf93,isAgg93⟩
theorem sl93:SlS prog 93 36 10:=⟨underlying93,sizeOf36⟩
theorem avb:iz prog 93 36 10 88:=⟨underlying93,(by obtain⟨i,h1,h2,h3,h4⟩:=info_parts (by kernel_rfl:(prog.info? 36).map (λi=>(i.zero,i.size,i.bytes))=some (some (.agg #[zI0,zI0,zI0,zI0,zI0,zI0,zI0,zI0,.int .u64 0,.string ⟨#[]⟩]),10,88));exact⟨i,_,h1,h2,h3,h4,rfl⟩),by decide⟩
theorem avc:iP prog 93 36 10 [zI0,zI0,zI0,zI0,zI0,zI0,zI0,zI0,.int .u64 0,.string ⟨#[]⟩]:=⟨underlying93,sizeOf36,aqj,rfl⟩
theorem ty94:TyS prog 94 1 false:=⟨sizeOf94,isAgg94⟩
theorem sl94:SlS prog 94 28 2:=⟨underlying94,sizeOf28⟩
theorem avd:iz prog 94 28 2 48:=⟨underlying94,(by obtain⟨i,h1,h2,h3,h4⟩:=info_parts (by kernel_rfl:(prog.info? 28).map (λi=>(i.zero,i.size,i.bytes))=some (some (.agg #[zS0,zS0]),2,48));exact⟨i,_,h1,h2,h3,h4,rfl⟩),by decide⟩
theorem ave:iP prog 94 28 2 [zS0,zS0]:=⟨underlying94,sizeOf28,aqh,rfl⟩
theorem ty96:TyS prog 96 1 false:=⟨sizeOf96,isAgg96⟩
theorem sl96:SlS prog 96 63 2:=⟨underlying96,sizeOf63⟩
theorem avf:iz prog 96 63 2 32:=⟨underlying96,(by obtain⟨i,h1,h2,h3,h4⟩:=info_parts (by kernel_rfl:(prog.info? 63).map (λi=>(i.zero,i.size,i.bytes))=some (some (.agg #[zI0,zS0]),2,32));exact⟨i,_,h1,h2,h3,h4,rfl⟩),by decide⟩
theorem avg:iP prog 96 63 2 [zI0,zS0]:=⟨underlying96,sizeOf63,aqn,rfl⟩
theorem ty97:TyS prog 97 1 false:=⟨sizeOf97,isAgg97⟩
theorem sl97:SlS prog 97 22 1:=⟨underlying97,sizeOf22⟩
theorem avh:iz prog 97 22 1 24:=⟨underlying97,(by obtain⟨i,h1,h2,h3,h4⟩:=info_parts (by kernel_rfl:(prog.info? 22).map (λi=>(i.zero,i.size,i.bytes))=some (some (zS0),1,24));exact⟨i,_,h1,h2,h3,h4,rfl⟩),by decide⟩
theorem avj:iP prog 97 22 1 [zS0]:=⟨underlying97,sizeOf22,aqg,rfl⟩
theorem alG:TyS prog 100 2 true:=⟨sizeOf100,isAgg100⟩
theorem aqQ:fO prog 100 [zS0,zS0] [(0,1),(1,1)]:=gI zeroValue100 underlying100 (λw=>by kernel_rfl)
theorem aju:cn prog 100 0 0:=⟨λa w=>by kernel_rfl⟩
theorem ajv:cn prog 100 1 1:=⟨λa w=>by kernel_rfl⟩
theorem ajw:bK prog 100 0 0 1 false:=bN underlying100 (by kernel_rfl) ajq (by decide)
theorem ajx:bK prog 100 1 1 1 false:=bN underlying100 (by kernel_rfl) ahb (by decide)
theorem avk:TyS prog 105 1 false:=⟨sizeOf105,isAgg105⟩
theorem avl:SlS prog 105 100 2:=⟨underlying105,sizeOf100⟩
theorem aqR:iz prog 105 100 2 48:=⟨underlying105,(by obtain⟨i,h1,h2,h3,h4⟩:=info_parts (by kernel_rfl:(prog.info? 100).map (λi=>(i.zero,i.size,i.bytes))=some (some (.agg #[zS0,zS0]),2,48));exact⟨i,_,h1,h2,h3,h4,rfl⟩),by decide⟩
theorem aqS:iP prog 105 100 2 [zS0,zS0]:=⟨underlying105,sizeOf100,alx,rfl⟩
theorem avm:TyS prog 115 2 true:=⟨sizeOf115,isAgg115⟩
theorem aqT:fO prog 115 [zS0,zI0] [(0,1),(1,1)]:=gI zeroValue115 underlying115 (λw=>by kernel_rfl)
theorem ajy:cn prog 115 0 0:=⟨λa w=>by kernel_rfl⟩
theorem ajz:cn prog 115 1 1:=⟨λa w=>by kernel_rfl⟩
theorem ajA:bK prog 115 0 0 1 false:=bN underlying115 (by kernel_rfl) ahb (by decide)
theorem ajB:bK prog 115 1 1 1 false:=bN underlying115 (by kernel_rfl) ty3 (by decide)
theorem avn:TyS prog 117 1 false:=⟨sizeOf117,isAgg117⟩
theorem w9:SlS prog 117 118 1:=⟨underlying117,sizeOf118⟩
theorem aih:iz prog 117 118 1 24:=⟨underlying117,(by obtain⟨i,h1,h2,h3,h4⟩:=info_parts (by kernel_rfl:(prog.info? 118).map (λi=>(i.zero,i.size,i.bytes))=some (some (zS0),1,24));exact⟨i,_,h1,h2,h3,h4,rfl⟩),by decide⟩
theorem aii:iP prog 117 118 1 [zS0]:=⟨underlying117,sizeOf118,aly,rfl⟩
theorem acd:TyS prog 118 1 false:=⟨sizeOf118,isAgg118⟩
theorem avo:SlS prog 118 4 1:=⟨underlying118,sizeOf4⟩
theorem aij:iz prog 118 4 1 1:=⟨underlying118,(by obtain⟨i,h1,h2,h3,h4⟩:=info_parts (by kernel_rfl:(prog.info? 4).map (λi=>(i.zero,i.size,i.bytes))=some (some (.bool false),1,1));exact⟨i,_,h1,h2,h3,h4,rfl⟩),by decide⟩
theorem aik:iP prog 118 4 1 [.bool false]:=⟨underlying118,sizeOf4,ze4,rfl⟩
theorem avp:TyS prog 130 1 false:=⟨sizeOf130,isAgg130⟩
theorem avq:TyS prog 136 1 false:=⟨sizeOf136,isAgg136⟩
theorem avr:SlS prog 136 143 16:=⟨underlying136,sizeOf143⟩
theorem aqU:iz prog 136 143 16 152:=⟨underlying136,(by obtain⟨i,h1,h2,h3,h4⟩:=info_parts (by kernel_rfl:(prog.info? 143).map (λi=>(i.zero,i.size,i.bytes))=some (some (.agg #[zI0,zI0,zI0,zI0,zI0,zS0,zI0,zI0,zI0,zI0,zI0,zI0,zI0,zI0,.int .u64 0,.string ⟨#[]⟩]),16,152));exact⟨i,_,h1,h2,h3,h4,rfl⟩),by decide⟩
theorem aqV:iP prog 136 143 16 [zI0,zI0,zI0,zI0,zI0,zS0,zI0,zI0,zI0,zI0,zI0,zI0,zI0,zI0,.int .u64 0,.string ⟨#[]⟩]:=⟨underlying136,sizeOf143,alA,rfl⟩
theorem avt:TyS prog 141 2 true:=⟨sizeOf141,isAgg141⟩
theorem aqW:fO prog 141 [zI0,.int .u64 0] [(0,1),(1,1)]:=gI zeroValue141 underlying141 (λw=>by kernel_rfl)
theorem ajC:cn prog 141 0 0:=⟨λa w=>by kernel_rfl⟩
theorem ajD:cn prog 141 1 1:=⟨λa w=>by kernel_rfl⟩
theorem ajE:bK prog 141 0 0 1 false:=bN underlying141 (by kernel_rfl) ty3 (by decide)
theorem ajF:bK prog 141 1 1 1 false:=bN underlying141 (by kernel_rfl) yG (by decide)
theorem aqX(a0 b0:Int)(a1 b1:Int)(w:World):(Op.eqFields 9999 #[.int .i64 a0,.int .u64 a1] #[.int .i64 b0,.int .u64 b1] (prog.fieldsOf 141).toList).run prog w=.ok (decide (a0=b0)&&(decide (a1=b1)&&true)) w:=by
 have hf:(prog.fieldsOf 141).toList.map (λf=>(f.name== "_",f.type,f.offset))=[(false,3,0),(false,34,1)]:=by kernel_rfl
 have q:(Op.eqFields 9999 #[.int .i64 a0,.int .u64 a1] #[.int .i64 b0,.int .u64 b1] (prog.fieldsOf 141).toList).run prog w=.ok (decide (a0=b0)&&(decide (a1=b1)&&true)) w:=by
  obtain⟨f0,t0,e0,h0,hf⟩:=cW hf
  obtain⟨f1,t1,e1,h1,hf⟩:=cW hf
  rw[e0,e1,oU hf]
  exact eZ h0 isAgg3 underlying3 rfl rfl (eZ h1 isAgg34 underlying34 rfl rfl (tN))
 exact q
theorem ail(x y:Operand)(a0 b0:Int)(a1 b1:Int)(w:World):(do eqGuard .neq 141 x y (.agg #[.int .i64 a0,.int .u64 a1]) (.agg #[.int .i64 b0,.int .u64 b1]);binOp .neq 141 (.agg #[.int .i64 a0,.int .u64 a1]) (.agg #[.int .i64 b0,.int .u64 b1]):Sem Value).run prog w=.ok (.bool (!(decide (a0=b0)&&(decide (a1=b1)&&true)))) w:=aax _ _ _ x y (by kernel_rfl) (by kernel_rfl) (by kernel_rfl) (aqX a0 b0 a1 b1 w)
theorem avu:TyS prog 143 16 true:=⟨sizeOf143,isAgg143⟩
theorem aqY:fO prog 143 [zI0,zI0,zI0,zI0,zI0,zS0,zI0,zI0,zI0,zI0,zI0,zI0,zI0,zI0,.int .u64 0,.string ⟨#[]⟩] [(0,4),(4,12)]:=gI zeroValue143 underlying143 (λw=>by kernel_rfl)
theorem ajG:cn prog 143 0 0:=⟨λa w=>by kernel_rfl⟩
theorem ajH:cn prog 143 1 4:=⟨λa w=>by kernel_rfl⟩
theorem ajI:bK prog 143 0 0 4 true:=bN underlying143 (by kernel_rfl) aqK (by decide)
theorem ajJ:bK prog 143 1 4 12 true:=bN underlying143 (by kernel_rfl) aqL (by decide)
theorem avv:TyS prog 152 1 false:=⟨sizeOf152,isAgg152⟩
theorem avw:TyS prog 154 12 true:=⟨sizeOf154,isAgg154⟩
theorem aqZ:fO prog 154 [zI0,zS0,zI0,zI0,zI0,zI0,zI0,zI0,zI0,zI0,.int .u64 0,.string ⟨#[]⟩] [(0,1),(1,11)]:=gI zeroValue154 underlying154 (λw=>by kernel_rfl)
theorem ajK:cn prog 154 0 0:=⟨λa w=>by kernel_rfl⟩
theorem ajL:cn prog 154 1 1:=⟨λa w=>by kernel_rfl⟩
theorem ajM:bK prog 154 0 0 1 false:=bN underlying154 (by kernel_rfl) ty3 (by decide)
theorem ajN:bK prog 154 1 1 11 true:=bN underlying154 (by kernel_rfl) ae1 (by decide)
theorem alH:TyS prog 155 1 false:=⟨sizeOf155,isAgg155⟩
theorem avx:SlS prog 155 154 12:=⟨underlying155,sizeOf154⟩
theorem aq0:iz prog 155 154 12 120:=⟨underlying155,(by obtain⟨i,h1,h2,h3,h4⟩:=info_parts (by kernel_rfl:(prog.info? 154).map (λi=>(i.zero,i.size,i.bytes))=some (some (.agg #[zI0,zS0,zI0,zI0,zI0,zI0,zI0,zI0,zI0,zI0,.int .u64 0,.string ⟨#[]⟩]),12,120));exact⟨i,_,h1,h2,h3,h4,rfl⟩),by decide⟩
theorem aq1:iP prog 155 154 12 [zI0,zS0,zI0,zI0,zI0,zI0,zI0,zI0,zI0,zI0,.int .u64 0,.string ⟨#[]⟩]:=⟨underlying155,sizeOf154,alB,rfl⟩
theorem avy:TyS prog 157 12 true:=⟨sizeOf157,isAgg157⟩
theorem aq2:fO prog 157 [zI0,zS0,zS0,zS0,zS0,zS0,zS0,zS0,zS0,zS0,zS0,zS0] [(0,2),(2,2),(4,2),(6,2),(8,3),(11,1)]:=gI zeroValue157 underlying157 (λw=>by kernel_rfl)
theorem ajO:cn prog 157 0 0:=⟨λa w=>by kernel_rfl⟩
theorem ajP:cn prog 157 1 2:=⟨λa w=>by kernel_rfl⟩
theorem ajQ:cn prog 157 2 4:=⟨λa w=>by kernel_rfl⟩
theorem ajR:cn prog 157 3 6:=⟨λa w=>by kernel_rfl⟩
theorem ajS:cn prog 157 4 8:=⟨λa w=>by kernel_rfl⟩
theorem ajT:cn prog 157 5 11:=⟨λa w=>by kernel_rfl⟩
theorem ajU:bK prog 157 0 0 2 true:=bN underlying157 (by kernel_rfl) aqJ (by decide)
theorem ajV:bK prog 157 1 2 2 true:=bN underlying157 (by kernel_rfl) ajm (by decide)
theorem ajW:bK prog 157 2 4 2 true:=bN underlying157 (by kernel_rfl) ajm (by decide)
theorem ajX:bK prog 157 3 6 2 true:=bN underlying157 (by kernel_rfl) alG (by decide)
theorem ajY:bK prog 157 4 8 3 true:=bN underlying157 (by kernel_rfl) aqP (by decide)
theorem ajZ:bK prog 157 5 11 1 false:=bN underlying157 (by kernel_rfl) alH (by decide)
theorem avz:TyS prog 159 12 true:=⟨sizeOf159,isAgg159⟩
theorem aq3:fO prog 159 [zI0,zS0,zI0,zI0,zI0,zI0,zI0,zI0,zI0,zI0,.int .u64 0,.string ⟨#[]⟩] [(0,1),(1,11)]:=gI zeroValue159 underlying159 (λw=>by kernel_rfl)
theorem aj0:cn prog 159 0 0:=⟨λa w=>by kernel_rfl⟩
theorem aj1:cn prog 159 1 1:=⟨λa w=>by kernel_rfl⟩
theorem aj2:bK prog 159 0 0 1 false:=bN underlying159 (by kernel_rfl) ty3 (by decide)
theorem aj3:bK prog 159 1 1 11 true:=bN underlying159 (by kernel_rfl) ae1 (by decide)
theorem avA:TyS prog 160 12 true:=⟨sizeOf160,isAgg160⟩
theorem aq4:fO prog 160 [zI0,zS0,zI0,zI0,zI0,zI0,zI0,zI0,zI0,zI0,.int .u64 0,.string ⟨#[]⟩] [(0,1),(1,11)]:=gI zeroValue160 underlying160 (λw=>by kernel_rfl)
theorem aj4:cn prog 160 0 0:=⟨λa w=>by kernel_rfl⟩
theorem aj5:cn prog 160 1 1:=⟨λa w=>by kernel_rfl⟩
theorem aj6:bK prog 160 0 0 1 false:=bN underlying160 (by kernel_rfl) ty3 (by decide)
theorem aj7:bK prog 160 1 1 11 true:=bN underlying160 (by kernel_rfl) ae1 (by decide)
theorem avB:TyS prog 161 1 false:=⟨sizeOf161,isAgg161⟩
theorem avC:SlS prog 161 160 12:=⟨underlying161,sizeOf160⟩
theorem aq5:iz prog 161 160 12 120:=⟨underlying161,(by obtain⟨i,h1,h2,h3,h4⟩:=info_parts (by kernel_rfl:(prog.info? 160).map (λi=>(i.zero,i.size,i.bytes))=some (some (.agg #[zI0,zS0,zI0,zI0,zI0,zI0,zI0,zI0,zI0,zI0,.int .u64 0,.string ⟨#[]⟩]),12,120));exact⟨i,_,h1,h2,h3,h4,rfl⟩),by decide⟩
theorem aq6:iP prog 161 160 12 [zI0,zS0,zI0,zI0,zI0,zI0,zI0,zI0,zI0,zI0,.int .u64 0,.string ⟨#[]⟩]:=⟨underlying161,sizeOf160,alC,rfl⟩
theorem avD:TyS prog 168 1 false:=⟨sizeOf168,isAgg168⟩
theorem avE:TyS prog 170 1 false:=⟨sizeOf170,isAgg170⟩
theorem avF:TyS prog 172 1 false:=⟨sizeOf172,isAgg172⟩
theorem avG:TyS prog 173 1 false:=⟨sizeOf173,isAgg173⟩
theorem avH:TyS prog 177 2 true:=⟨sizeOf177,isAgg177⟩
theorem avI:TyS prog 178 1 false:=⟨sizeOf178,isAgg178⟩
theorem avJ:SlS prog 178 177 2:=⟨underlying178,sizeOf177⟩
theorem aq7:iz prog 178 177 2 16:=⟨underlying178,(by obtain⟨i,h1,h2,h3,h4⟩:=info_parts (by kernel_rfl:(prog.info? 177).map (λi=>(i.zero,i.size,i.bytes))=some (some (.agg #[zI0,zI0]),2,16));exact⟨i,_,h1,h2,h3,h4,rfl⟩),by decide⟩
theorem aq8:iP prog 178 177 2 [zI0,zI0]:=⟨underlying178,sizeOf177,aaz,rfl⟩
theorem avK:TyS prog 184 3 true:=⟨sizeOf184,isAgg184⟩
theorem aq9:fO prog 184 [zI0,zI0,zI0] [(0,1),(1,1),(2,1)]:=gI zeroValue184 underlying184 (λw=>by kernel_rfl)
theorem aj8:cn prog 184 0 0:=⟨λa w=>by kernel_rfl⟩
theorem aj9:cn prog 184 1 1:=⟨λa w=>by kernel_rfl⟩
theorem aka:cn prog 184 2 2:=⟨λa w=>by kernel_rfl⟩
theorem akb:bK prog 184 0 0 1 false:=bN underlying184 (by kernel_rfl) ty3 (by decide)
theorem akc:bK prog 184 1 1 1 false:=bN underlying184 (by kernel_rfl) ty3 (by decide)
theorem akd:bK prog 184 2 2 1 false:=bN underlying184 (by kernel_rfl) ty3 (by decide)
theorem ara(a0 b0:Int)(a1 b1:Int)(a2 b2:Int)(w:World):(Op.eqFields 9999 #[.int .i64 a0,.int .i64 a1,.int .i64 a2] #[.int .i64 b0,.int .i64 b1,.int .i64 b2] (prog.fieldsOf 184).toList).run prog w=.ok (decide (a0=b0)&&(decide (a1=b1)&&(decide (a2=b2)&&true))) w:=by
 have hf:(prog.fieldsOf 184).toList.map (λf=>(f.name== "_",f.type,f.offset))=[(false,3,0),(false,3,1),(false,3,2)]:=by kernel_rfl
 have q:(Op.eqFields 9999 #[.int .i64 a0,.int .i64 a1,.int .i64 a2] #[.int .i64 b0,.int .i64 b1,.int .i64 b2] (prog.fieldsOf 184).toList).run prog w=.ok (decide (a0=b0)&&(decide (a1=b1)&&(decide (a2=b2)&&true))) w:=by
  obtain⟨f0,t0,e0,h0,hf⟩:=cW hf
  obtain⟨f1,t1,e1,h1,hf⟩:=cW hf
  obtain⟨f2,t2,e2,h2,hf⟩:=cW hf
  rw[e0,e1,e2,oU hf]
  exact eZ h0 isAgg3 underlying3 rfl rfl (eZ h1 isAgg3 underlying3 rfl rfl (eZ h2 isAgg3 underlying3 rfl rfl (tN)))
 exact q
theorem avL:TyS prog 193 1 false:=⟨sizeOf193,isAgg193⟩
theorem ahd:TyS prog 200 1 false:=⟨sizeOf200,isAgg200⟩
theorem kZ:lQ prog 200 3 216 .i64:=⟨underlying200,underlying3⟩
theorem avM:TyS prog 202 2 true:=⟨sizeOf202,isAgg202⟩
theorem arb:fO prog 202 [.map none,.map none] [(0,1),(1,1)]:=gI zeroValue202 underlying202 (λw=>by kernel_rfl)
theorem ake:cn prog 202 0 0:=⟨λa w=>by kernel_rfl⟩
theorem akf:cn prog 202 1 1:=⟨λa w=>by kernel_rfl⟩
theorem akg:bK prog 202 0 0 1 false:=bN underlying202 (by kernel_rfl) ahd (by decide)
theorem akh:bK prog 202 1 1 1 false:=bN underlying202 (by kernel_rfl) ahd (by decide)
theorem avN:TyS prog 204 1 false:=⟨sizeOf204,isAgg204⟩
theorem rj:lQ prog 204 3 3 .i64:=⟨underlying204,underlying3⟩
theorem avO:TyS prog 215 1 false:=⟨sizeOf215,isAgg215⟩
theorem avP:TyS prog 216 1 false:=⟨sizeOf216,isAgg216⟩
theorem avQ:SlS prog 216 218 2:=⟨underlying216,sizeOf218⟩
theorem arc:iz prog 216 218 2 16:=⟨underlying216,(by obtain⟨i,h1,h2,h3,h4⟩:=info_parts (by kernel_rfl:(prog.info? 218).map (λi=>(i.zero,i.size,i.bytes))=some (some (.agg #[zI0,zI0]),2,16));exact⟨i,_,h1,h2,h3,h4,rfl⟩),by decide⟩
theorem ard:iP prog 216 218 2 [zI0,zI0]:=⟨underlying216,sizeOf218,alD,rfl⟩
theorem avR:TyS prog 218 2 true:=⟨sizeOf218,isAgg218⟩
theorem arf:fO prog 218 [zI0,zI0] [(0,1),(1,1)]:=gI zeroValue218 underlying218 (λw=>by kernel_rfl)
theorem aki:cn prog 218 0 0:=⟨λa w=>by kernel_rfl⟩
theorem akj:cn prog 218 1 1:=⟨λa w=>by kernel_rfl⟩
theorem akk:bK prog 218 0 0 1 false:=bN underlying218 (by kernel_rfl) ty3 (by decide)
theorem akl:bK prog 218 1 1 1 false:=bN underlying218 (by kernel_rfl) ty3 (by decide)
theorem avS:TyS prog 220 1 false:=⟨sizeOf220,isAgg220⟩
theorem avT:TyS prog 228 1 false:=⟨sizeOf228,isAgg228⟩
theorem avU:TyS prog 235 1 false:=⟨sizeOf235,isAgg235⟩
end Go.Proofs.YtdjeacigeegklaaGreat
