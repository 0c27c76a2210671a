/- The types of this translation, as the rules want aam. No condition. -/
import Derived.Test.YtmnbolcmepihlaaGreatAB
import Derived.Test.YtmnbolcmepihlaaGreatRows
import Derived.OwnWalk
namespace Go.Proofs.YtmnbolcmepihlaaGreat
set_option linter.all false
abbrev zI0:Value:=.int .i64 0
abbrev zS0:Value:=.slice none 0 0
open Go Go.Proofs.Tryz
set_option maxRecDepth 100000
abbrev Zr(i:Nat)(c:List Value):Prop:=∀w,∃z,(zeroValue i).run prog w=.ok z w∧z.cells=c.toArray
theorem hmix:prog.follows .mixedOrders=true:=by kernel_rfl
theorem ze2:Zr 2 [zI0]:=λw=>⟨_,zeroValue2 w,rfl⟩
theorem ze3:Zr 3 [zI0]:=λw=>⟨_,zeroValue3 w,rfl⟩
theorem ze4:Zr 4 [.bool false]:=λw=>⟨_,zeroValue4 w,rfl⟩
theorem ze5:Zr 5 [.int .u8 0]:=λw=>⟨_,zeroValue5 w,rfl⟩
theorem ze6:Zr 6 [.int .u8 0]:=λw=>⟨_,zeroValue6 w,rfl⟩
theorem ze7:Zr 7 [zI0,zI0,.bool false,.int .u8 0]:=λw=>⟨_,zeroValue7 w,rfl⟩
theorem ze8:Zr 8 [zI0,zI0,.bool false,.int .u8 0]:=λw=>⟨_,zeroValue8 w,rfl⟩
theorem ze9:Zr 9 [.string ⟨#[]⟩]:=λw=>⟨_,zeroValue9 w,rfl⟩
theorem ze10:Zr 10 [.string ⟨#[]⟩]:=λw=>⟨_,zeroValue10 w,rfl⟩
theorem ze11:Zr 11 [.string ⟨#[]⟩]:=λw=>⟨_,zeroValue11 w,rfl⟩
theorem ze12:Zr 12 [.int .u64 0]:=λw=>⟨_,zeroValue12 w,rfl⟩
theorem ze13:Zr 13 [.string ⟨#[]⟩,.int .u64 0]:=λw=>⟨_,zeroValue13 w,rfl⟩
theorem ze14:Zr 14 [.string ⟨#[]⟩,.int .u64 0]:=λw=>⟨_,zeroValue14 w,rfl⟩
theorem ze15:Zr 15 [.pointer none]:=λw=>⟨_,zeroValue15 w,rfl⟩
theorem ze16:Zr 16 [.pointer none]:=λw=>⟨_,zeroValue16 w,rfl⟩
theorem ze17:Zr 17 [.pointer none]:=λw=>⟨_,zeroValue17 w,rfl⟩
theorem ze18:Zr 18 [.pointer none]:=λw=>⟨_,zeroValue18 w,rfl⟩
theorem ze19:Zr 19 [.pointer none]:=λw=>⟨_,zeroValue19 w,rfl⟩
theorem ze21:Zr 21 [.int .i32 0]:=λw=>⟨_,zeroValue21 w,rfl⟩
theorem amv:Zr 22 [zS0]:=λw=>⟨_,zeroValue22 w,rfl⟩
theorem ze23:Zr 23 [.pointer none]:=λw=>⟨_,zeroValue23 w,rfl⟩
theorem ze25:Zr 25 [zS0]:=λw=>⟨_,zeroValue25 w,rfl⟩
theorem ze26:Zr 26 [zS0]:=λw=>⟨_,zeroValue26 w,rfl⟩
theorem ze27:Zr 27 [zS0,zS0]:=λw=>⟨_,zeroValue27 w,rfl⟩
theorem ze28:Zr 28 [zS0,zS0]:=λw=>⟨_,zeroValue28 w,rfl⟩
theorem ze30:Zr 30 [zI0,.bool false]:=λw=>⟨_,zeroValue30 w,rfl⟩
theorem amw:Zr 31 [zI0,.bool false]:=λw=>⟨_,zeroValue31 w,rfl⟩
theorem ze34:Zr 34 [zS0]:=λw=>⟨_,zeroValue34 w,rfl⟩
theorem ze35:Zr 35 [zI0,zS0]:=λw=>⟨_,zeroValue35 w,rfl⟩
theorem amx:Zr 36 [zI0,zS0]:=λw=>⟨_,zeroValue36 w,rfl⟩
theorem ze37:Zr 37 [zI0]:=λw=>⟨_,zeroValue37 w,rfl⟩
theorem ze46:Zr 46 [zS0]:=λw=>⟨_,zeroValue46 w,rfl⟩
theorem ze48:Zr 48 [zS0]:=λw=>⟨_,zeroValue48 w,rfl⟩
theorem amy:Zr 52 [zI0,zS0,zI0]:=λw=>⟨_,zeroValue52 w,rfl⟩
theorem ze53:Zr 53 [zS0]:=λw=>⟨_,zeroValue53 w,rfl⟩
theorem amz:Zr 60 [zI0,zI0,zI0]:=λw=>⟨_,zeroValue60 w,rfl⟩
theorem amA:Zr 62 [zI0,zI0,zI0,zI0,zI0]:=λw=>⟨_,zeroValue62 w,rfl⟩
theorem ze76:Zr 76 [zS0]:=λw=>⟨_,zeroValue76 w,rfl⟩
theorem amB:Zr 84 [zI0,zI0]:=λw=>⟨_,zeroValue84 w,rfl⟩
theorem ap9:Zr 103 [zS0,zI0]:=λw=>⟨_,zeroValue103 w,rfl⟩
theorem aqa:Zr 105 [zS0]:=λw=>⟨_,zeroValue105 w,rfl⟩
theorem ajg:Zr 106 [zS0]:=λw=>⟨_,zeroValue106 w,rfl⟩
theorem aqb:Zr 111 [zS0]:=λw=>⟨_,zeroValue111 w,rfl⟩
theorem abZ:Zr 114 [zI0,zI0,zI0,zI0,zI0,zI0,zI0,zI0,zI0,zI0,zI0,zI0,zI0,zI0,zI0,zI0,zI0,zI0,zI0,zI0,zI0,zI0,zI0,zI0,zI0,zI0,zI0,zI0,zI0,zI0,zI0,zI0,zI0,zI0,zI0,zI0,zI0,zI0,zI0,zI0,zI0,zI0,zI0,zI0,zI0,zI0,zI0,zI0,zI0,zI0,zI0,zI0,zI0,zI0,zI0,zI0,zI0,zI0,zI0,zI0,zI0,zI0,zI0,zI0,zI0,zI0,zI0,zI0,zI0,zI0,zI0,zI0,zI0,zI0,zI0,zI0,zI0,zI0,zI0,zI0,zI0,zI0,zI0,zI0,zI0,zI0,zI0,zI0,zI0,zI0,zI0,zI0,zI0,zI0,zI0,zI0,zI0,zI0,zI0,zI0]:=λw=>⟨_,zeroValue114 w,rfl⟩
theorem aqc:Zr 125 [.map none]:=λw=>⟨_,zeroValue125 w,rfl⟩
theorem aqd:Zr 126 [.map none]:=λw=>⟨_,zeroValue126 w,rfl⟩
theorem ajh:Zr 144 [.map none]:=λw=>⟨_,zeroValue144 w,rfl⟩
theorem aqe:Zr 158 [.nilFunc]:=λw=>⟨_,zeroValue158 w,rfl⟩
theorem aqf:Zr 161 [.pointer none]:=λw=>⟨_,zeroValue161 w,rfl⟩
theorem aqg:Zr 162 [zS0]:=λw=>⟨_,zeroValue162 w,rfl⟩
theorem aqh:Zr 163 [zS0]:=λw=>⟨_,zeroValue163 w,rfl⟩
theorem aqi:Zr 165 [zS0,zS0,zS0]:=λw=>⟨_,zeroValue165 w,rfl⟩
theorem aji:Zr 166 [.map none]:=λw=>⟨_,zeroValue166 w,rfl⟩
theorem aqj:Zr 169 [zI0,zI0]:=λw=>⟨_,zeroValue169 w,rfl⟩
theorem aqk:Zr 172 [.nilFunc]:=λw=>⟨_,zeroValue172 w,rfl⟩
theorem ajj:Zr 175 [zI0,zI0,zI0]:=λw=>⟨_,zeroValue175 w,rfl⟩
theorem aql:Zr 177 [.nilFunc]:=λw=>⟨_,zeroValue177 w,rfl⟩
theorem aqm:Zr 178 [.int .u64 0]:=λw=>⟨_,zeroValue178 w,rfl⟩
theorem aqn:Zr 182 [.nilFunc]:=λw=>⟨_,zeroValue182 w,rfl⟩
theorem aqo:Zr 185 [.nilFunc]:=λw=>⟨_,zeroValue185 w,rfl⟩
theorem aqp:Zr 187 [.nilFunc]:=λw=>⟨_,zeroValue187 w,rfl⟩
theorem aqq:Zr 188 [.nilFunc]:=λw=>⟨_,zeroValue188 w,rfl⟩
theorem aqr:Zr 190 [.nilFunc]:=λw=>⟨_,zeroValue190 w,rfl⟩
theorem aqs:Zr 191 [.map none]:=λw=>⟨_,zeroValue191 w,rfl⟩
theorem aqt:Zr 198 [.nilFunc]:=λw=>⟨_,zeroValue198 w,rfl⟩
theorem aqu:Zr 245 [zI0]:=λw=>⟨_,zeroValue245 w,rfl⟩
theorem aqv:Zr 252 [.int .u32 0]:=λw=>⟨_,zeroValue252 w,rfl⟩
theorem aqw:Zr 254 [.int .u64 0]:=λw=>⟨_,zeroValue254 w,rfl⟩
theorem ty2:TyS prog 2 1 false:=⟨sizeOf2,isAgg2⟩
theorem ty3:TyS prog 3 1 false:=⟨sizeOf3,isAgg3⟩
theorem ty4:TyS prog 4 1 false:=⟨sizeOf4,isAgg4⟩
theorem ty5:TyS prog 5 1 false:=⟨sizeOf5,isAgg5⟩
theorem ty6:TyS prog 6 1 false:=⟨sizeOf6,isAgg6⟩
theorem ty7:TyS prog 7 4 true:=⟨sizeOf7,isAgg7⟩
theorem str7:iz prog 7 [zI0,zI0,.bool false,.int .u8 0] [(0,1),(1,1),(2,1),(3,1)]:=lF zeroValue7 underlying7 (λw=>by kernel_rfl)
theorem amC:dS prog 7 0 0:=⟨λa w=>by kernel_rfl⟩
theorem amD:dS prog 7 1 1:=⟨λa w=>by kernel_rfl⟩
theorem amE:dS prog 7 2 2:=⟨λa w=>by kernel_rfl⟩
theorem amF:dS prog 7 3 3:=⟨λa w=>by kernel_rfl⟩
theorem amG:cN prog 7 0 0 1 false:=dA underlying7 (by kernel_rfl) ty2 (by decide)
theorem amH:cN prog 7 1 1 1 false:=dA underlying7 (by kernel_rfl) ty3 (by decide)
theorem amI:cN prog 7 2 2 1 false:=dA underlying7 (by kernel_rfl) ty4 (by decide)
theorem amJ:cN prog 7 3 3 1 false:=dA underlying7 (by kernel_rfl) ty6 (by decide)
theorem ty8:TyS prog 8 4 true:=⟨sizeOf8,isAgg8⟩
theorem str8:iz prog 8 [zI0,zI0,.bool false,.int .u8 0] [(0,1),(1,1),(2,1),(3,1)]:=lF zeroValue8 underlying8 (λw=>by kernel_rfl)
theorem amK:dS prog 8 0 0:=⟨λa w=>by kernel_rfl⟩
theorem amL:dS prog 8 1 1:=⟨λa w=>by kernel_rfl⟩
theorem amM:dS prog 8 2 2:=⟨λa w=>by kernel_rfl⟩
theorem amN:dS prog 8 3 3:=⟨λa w=>by kernel_rfl⟩
theorem amO:cN prog 8 0 0 1 false:=dA underlying8 (by kernel_rfl) ty2 (by decide)
theorem amP:cN prog 8 1 1 1 false:=dA underlying8 (by kernel_rfl) ty3 (by decide)
theorem amQ:cN prog 8 2 2 1 false:=dA underlying8 (by kernel_rfl) ty4 (by decide)
theorem amR:cN prog 8 3 3 1 false:=dA underlying8 (by kernel_rfl) ty6 (by decide)
theorem ty9:TyS prog 9 1 false:=⟨sizeOf9,isAgg9⟩
theorem ty10:TyS prog 10 1 false:=⟨sizeOf10,isAgg10⟩
theorem ty11:TyS prog 11 1 false:=⟨sizeOf11,isAgg11⟩
theorem ahi:TyS prog 12 1 false:=⟨sizeOf12,isAgg12⟩
theorem ty13:TyS prog 13 2 true:=⟨sizeOf13,isAgg13⟩
theorem aqx:iz prog 13 [.string ⟨#[]⟩,.int .u64 0] [(0,1),(1,1)]:=lF zeroValue13 underlying13 (λw=>by kernel_rfl)
theorem akm:dS prog 13 0 0:=⟨λa w=>by kernel_rfl⟩
theorem akn:dS prog 13 1 1:=⟨λa w=>by kernel_rfl⟩
theorem ako:cN prog 13 0 0 1 false:=dA underlying13 (by kernel_rfl) ty9 (by decide)
theorem akp:cN prog 13 1 1 1 false:=dA underlying13 (by kernel_rfl) ahi (by decide)
theorem ty14:TyS prog 14 2 true:=⟨sizeOf14,isAgg14⟩
theorem aqy:iz prog 14 [.string ⟨#[]⟩,.int .u64 0] [(0,1),(1,1)]:=lF zeroValue14 underlying14 (λw=>by kernel_rfl)
theorem akq:dS prog 14 0 0:=⟨λa w=>by kernel_rfl⟩
theorem akr:dS prog 14 1 1:=⟨λa w=>by kernel_rfl⟩
theorem aks:cN prog 14 0 0 1 false:=dA underlying14 (by kernel_rfl) ty9 (by decide)
theorem akt:cN prog 14 1 1 1 false:=dA underlying14 (by kernel_rfl) ahi (by decide)
theorem ty15:TyS prog 15 1 false:=⟨sizeOf15,isAgg15⟩
theorem ty16:TyS prog 16 1 false:=⟨sizeOf16,isAgg16⟩
theorem ahj:TyS prog 17 1 false:=⟨sizeOf17,isAgg17⟩
theorem ty18:TyS prog 18 1 true:=⟨sizeOf18,isAgg18⟩
theorem aqz:iz prog 18 [.pointer none] [(0,1)]:=lF zeroValue18 underlying18 (λw=>by kernel_rfl)
theorem aku:dS prog 18 0 0:=⟨λa w=>by kernel_rfl⟩
theorem akv:cN prog 18 0 0 1 false:=dA underlying18 (by kernel_rfl) ahj (by decide)
theorem ty19:TyS prog 19 1 true:=⟨sizeOf19,isAgg19⟩
theorem aqA:iz prog 19 [.pointer none] [(0,1)]:=lF zeroValue19 underlying19 (λw=>by kernel_rfl)
theorem akw:dS prog 19 0 0:=⟨λa w=>by kernel_rfl⟩
theorem akx:cN prog 19 0 0 1 false:=dA underlying19 (by kernel_rfl) ahj (by decide)
theorem ty21:TyS prog 21 1 false:=⟨sizeOf21,isAgg21⟩
theorem kS:TyS prog 22 1 false:=⟨sizeOf22,isAgg22⟩
theorem oz:SlS prog 22 3 1:=⟨underlying22,sizeOf3⟩
theorem ab0:gL prog 22 3 1 8:=⟨underlying22,(by obtain⟨i,h1,h2,h3,h4⟩:=info_parts (by kernel_rfl:(prog.info? 3).map (λi=>(i.zero,i.size,i.bytes))=some (some (zI0),1,8));exact⟨i,_,h1,h2,h3,h4,rfl⟩),by decide⟩
theorem aey:iP prog 22 3 1 [zI0]:=⟨underlying22,sizeOf3,ze3,rfl⟩
theorem ty23:TyS prog 23 1 false:=⟨sizeOf23,isAgg23⟩
theorem ahk:TyS prog 25 1 false:=⟨sizeOf25,isAgg25⟩
theorem sl25:SlS prog 25 31 2:=⟨underlying25,sizeOf31⟩
theorem aqB:gL prog 25 31 2 16:=⟨underlying25,(by obtain⟨i,h1,h2,h3,h4⟩:=info_parts (by kernel_rfl:(prog.info? 31).map (λi=>(i.zero,i.size,i.bytes))=some (some (.agg #[zI0,.bool false]),2,16));exact⟨i,_,h1,h2,h3,h4,rfl⟩),by decide⟩
theorem aqC:iP prog 25 31 2 [zI0,.bool false]:=⟨underlying25,sizeOf31,amw,rfl⟩
theorem ahl:TyS prog 26 1 false:=⟨sizeOf26,isAgg26⟩
theorem sl26:SlS prog 26 62 5:=⟨underlying26,sizeOf62⟩
theorem aqD:gL prog 26 62 5 40:=⟨underlying26,(by obtain⟨i,h1,h2,h3,h4⟩:=info_parts (by kernel_rfl:(prog.info? 62).map (λi=>(i.zero,i.size,i.bytes))=some (some (.agg #[zI0,zI0,zI0,zI0,zI0]),5,40));exact⟨i,_,h1,h2,h3,h4,rfl⟩),by decide⟩
theorem aqE:iP prog 26 62 5 [zI0,zI0,zI0,zI0,zI0]:=⟨underlying26,sizeOf62,amA,rfl⟩
theorem ty27:TyS prog 27 2 true:=⟨sizeOf27,isAgg27⟩
theorem aqF:iz prog 27 [zS0,zS0] [(0,1),(1,1)]:=lF zeroValue27 underlying27 (λw=>by kernel_rfl)
theorem aky:dS prog 27 0 0:=⟨λa w=>by kernel_rfl⟩
theorem akz:dS prog 27 1 1:=⟨λa w=>by kernel_rfl⟩
theorem akA:cN prog 27 0 0 1 false:=dA underlying27 (by kernel_rfl) ahk (by decide)
theorem akB:cN prog 27 1 1 1 false:=dA underlying27 (by kernel_rfl) ahl (by decide)
theorem ty28:TyS prog 28 2 true:=⟨sizeOf28,isAgg28⟩
theorem aqG:iz prog 28 [zS0,zS0] [(0,1),(1,1)]:=lF zeroValue28 underlying28 (λw=>by kernel_rfl)
theorem akC:dS prog 28 0 0:=⟨λa w=>by kernel_rfl⟩
theorem akD:dS prog 28 1 1:=⟨λa w=>by kernel_rfl⟩
theorem akE:cN prog 28 0 0 1 false:=dA underlying28 (by kernel_rfl) ahk (by decide)
theorem akF:cN prog 28 1 1 1 false:=dA underlying28 (by kernel_rfl) ahl (by decide)
theorem ty30:TyS prog 30 2 true:=⟨sizeOf30,isAgg30⟩
theorem aqH:iz prog 30 [zI0,.bool false] [(0,1),(1,1)]:=lF zeroValue30 underlying30 (λw=>by kernel_rfl)
theorem akG:dS prog 30 0 0:=⟨λa w=>by kernel_rfl⟩
theorem akH:dS prog 30 1 1:=⟨λa w=>by kernel_rfl⟩
theorem akI:cN prog 30 0 0 1 false:=dA underlying30 (by kernel_rfl) ty3 (by decide)
theorem akJ:cN prog 30 1 1 1 false:=dA underlying30 (by kernel_rfl) ty4 (by decide)
theorem ty31:TyS prog 31 2 true:=⟨sizeOf31,isAgg31⟩
theorem aqI:iz prog 31 [zI0,.bool false] [(0,1),(1,1)]:=lF zeroValue31 underlying31 (λw=>by kernel_rfl)
theorem akK:dS prog 31 0 0:=⟨λa w=>by kernel_rfl⟩
theorem akL:dS prog 31 1 1:=⟨λa w=>by kernel_rfl⟩
theorem akM:cN prog 31 0 0 1 false:=dA underlying31 (by kernel_rfl) ty3 (by decide)
theorem akN:cN prog 31 1 1 1 false:=dA underlying31 (by kernel_rfl) ty4 (by decide)
theorem ahm:TyS prog 34 1 false:=⟨sizeOf34,isAgg34⟩
theorem sl34:SlS prog 34 84 2:=⟨underlying34,sizeOf84⟩
theorem aqJ:gL prog 34 84 2 16:=⟨underlying34,(by obtain⟨i,h1,h2,h3,h4⟩:=info_parts (by kernel_rfl:(prog.info? 84).map (λi=>(i.zero,i.size,i.bytes))=some (some (.agg #[zI0,zI0]),2,16));exact⟨i,_,h1,h2,h3,h4,rfl⟩),by decide⟩
theorem aqK:iP prog 34 84 2 [zI0,zI0]:=⟨underlying34,sizeOf84,amB,rfl⟩
theorem ty35:TyS prog 35 2 true:=⟨sizeOf35,isAgg35⟩
theorem aqL:iz prog 35 [zI0,zS0] [(0,1),(1,1)]:=lF zeroValue35 underlying35 (λw=>by kernel_rfl)
theorem akO:dS prog 35 0 0:=⟨λa w=>by kernel_rfl⟩
theorem akP:dS prog 35 1 1:=⟨λa w=>by kernel_rfl⟩
theorem akQ:cN prog 35 0 0 1 false:=dA underlying35 (by kernel_rfl) ty3 (by decide)
theorem akR:cN prog 35 1 1 1 false:=dA underlying35 (by kernel_rfl) ahm (by decide)
theorem ty36:TyS prog 36 2 true:=⟨sizeOf36,isAgg36⟩
theorem aqM:iz prog 36 [zI0,zS0] [(0,1),(1,1)]:=lF zeroValue36 underlying36 (λw=>by kernel_rfl)
theorem akS:dS prog 36 0 0:=⟨λa w=>by kernel_rfl⟩
theorem akT:dS prog 36 1 1:=⟨λa w=>by kernel_rfl⟩
theorem akU:cN prog 36 0 0 1 false:=dA underlying36 (by kernel_rfl) ty3 (by decide)
theorem akV:cN prog 36 1 1 1 false:=dA underlying36 (by kernel_rfl) ahm (by decide)
theorem ty37:TyS prog 37 1 false:=⟨sizeOf37,isAgg37⟩
theorem ty46:TyS prog 46 1 false:=⟨sizeOf46,isAgg46⟩
theorem sl46:SlS prog 46 52 3:=⟨underlying46,sizeOf52⟩
theorem aqN:gL prog 46 52 3 40:=⟨underlying46,(by obtain⟨i,h1,h2,h3,h4⟩:=info_parts (by kernel_rfl:(prog.info? 52).map (λi=>(i.zero,i.size,i.bytes))=some (some (.agg #[zI0,zS0,zI0]),3,40));exact⟨i,_,h1,h2,h3,h4,rfl⟩),by decide⟩
theorem aqO:iP prog 46 52 3 [zI0,zS0,zI0]:=⟨underlying46,sizeOf52,amy,rfl⟩
theorem ty48:TyS prog 48 1 false:=⟨sizeOf48,isAgg48⟩
theorem sl48:SlS prog 48 36 2:=⟨underlying48,sizeOf36⟩
theorem ajk:gL prog 48 36 2 32:=⟨underlying48,(by obtain⟨i,h1,h2,h3,h4⟩:=info_parts (by kernel_rfl:(prog.info? 36).map (λi=>(i.zero,i.size,i.bytes))=some (some (.agg #[zI0,zS0]),2,32));exact⟨i,_,h1,h2,h3,h4,rfl⟩),by decide⟩
theorem ajl:iP prog 48 36 2 [zI0,zS0]:=⟨underlying48,sizeOf36,amx,rfl⟩
theorem ty52:TyS prog 52 3 true:=⟨sizeOf52,isAgg52⟩
theorem aqP:iz prog 52 [zI0,zS0,zI0] [(0,1),(1,1),(2,1)]:=lF zeroValue52 underlying52 (λw=>by kernel_rfl)
theorem akW:dS prog 52 0 0:=⟨λa w=>by kernel_rfl⟩
theorem akX:dS prog 52 1 1:=⟨λa w=>by kernel_rfl⟩
theorem akY:dS prog 52 2 2:=⟨λa w=>by kernel_rfl⟩
theorem akZ:cN prog 52 0 0 1 false:=dA underlying52 (by kernel_rfl) ty3 (by decide)
theorem ak0:cN prog 52 1 1 1 false:=dA underlying52 (by kernel_rfl) kS (by decide)
theorem ak1:cN prog 52 2 2 1 false:=dA underlying52 (by kernel_rfl) ty3 (by decide)
theorem ty53:TyS prog 53 1 false:=⟨sizeOf53,isAgg53⟩
theorem sl53:SlS prog 53 60 3:=⟨underlying53,sizeOf60⟩
theorem aqQ:gL prog 53 60 3 24:=⟨underlying53,(by obtain⟨i,h1,h2,h3,h4⟩:=info_parts (by kernel_rfl:(prog.info? 60).map (λi=>(i.zero,i.size,i.bytes))=some (some (.agg #[zI0,zI0,zI0]),3,24));exact⟨i,_,h1,h2,h3,h4,rfl⟩),by decide⟩
theorem aqR:iP prog 53 60 3 [zI0,zI0,zI0]:=⟨underlying53,sizeOf60,amz,rfl⟩
theorem ty60:TyS prog 60 3 true:=⟨sizeOf60,isAgg60⟩
theorem aqS:iz prog 60 [zI0,zI0,zI0] [(0,1),(1,1),(2,1)]:=lF zeroValue60 underlying60 (λw=>by kernel_rfl)
theorem ak2:dS prog 60 0 0:=⟨λa w=>by kernel_rfl⟩
theorem ak3:dS prog 60 1 1:=⟨λa w=>by kernel_rfl⟩
theorem ak4:dS prog 60 2 2:=⟨λa w=>by kernel_rfl⟩
theorem ak5:cN prog 60 0 0 1 false:=dA underlying60 (by kernel_rfl) ty3 (by decide)
theorem ak6:cN prog 60 1 1 1 false:=dA underlying60 (by kernel_rfl) ty3 (by decide)
theorem ak7:cN prog 60 2 2 1 false:=dA underlying60 (by kernel_rfl) ty3 (by decide)
theorem ty62:TyS prog 62 5 true:=⟨sizeOf62,isAgg62⟩
theorem aqT:iz prog 62 [zI0,zI0,zI0,zI0,zI0] [(0,1),(1,1),(2,1),(3,1),(4,1)]:=lF zeroValue62 underlying62 (λw=>by kernel_rfl)
theorem ak8:dS prog 62 0 0:=⟨λa w=>by kernel_rfl⟩
theorem ak9:dS prog 62 1 1:=⟨λa w=>by kernel_rfl⟩
theorem ala:dS prog 62 2 2:=⟨λa w=>by kernel_rfl⟩
theorem alb:dS prog 62 3 3:=⟨λa w=>by kernel_rfl⟩
theorem alc:dS prog 62 4 4:=⟨λa w=>by kernel_rfl⟩
theorem ald:cN prog 62 0 0 1 false:=dA underlying62 (by kernel_rfl) ty3 (by decide)
theorem ale:cN prog 62 1 1 1 false:=dA underlying62 (by kernel_rfl) ty3 (by decide)
theorem alf:cN prog 62 2 2 1 false:=dA underlying62 (by kernel_rfl) ty3 (by decide)
theorem alg:cN prog 62 3 3 1 false:=dA underlying62 (by kernel_rfl) ty3 (by decide)
theorem alh:cN prog 62 4 4 1 false:=dA underlying62 (by kernel_rfl) ty3 (by decide)
theorem ty76:TyS prog 76 1 false:=⟨sizeOf76,isAgg76⟩
theorem kT:SlS prog 76 22 1:=⟨underlying76,sizeOf22⟩
theorem aez:gL prog 76 22 1 24:=⟨underlying76,(by obtain⟨i,h1,h2,h3,h4⟩:=info_parts (by kernel_rfl:(prog.info? 22).map (λi=>(i.zero,i.size,i.bytes))=some (some (zS0),1,24));exact⟨i,_,h1,h2,h3,h4,rfl⟩),by decide⟩
theorem aeA:iP prog 76 22 1 [zS0]:=⟨underlying76,sizeOf22,amv,rfl⟩
theorem amS:TyS prog 84 2 true:=⟨sizeOf84,isAgg84⟩
theorem aqU:iz prog 84 [zI0,zI0] [(0,1),(1,1)]:=lF zeroValue84 underlying84 (λw=>by kernel_rfl)
theorem ali:dS prog 84 0 0:=⟨λa w=>by kernel_rfl⟩
theorem alj:dS prog 84 1 1:=⟨λa w=>by kernel_rfl⟩
theorem alk:cN prog 84 0 0 1 false:=dA underlying84 (by kernel_rfl) ty3 (by decide)
theorem alm:cN prog 84 1 1 1 false:=dA underlying84 (by kernel_rfl) ty3 (by decide)
theorem zH(a0 b0:Int)(a1 b1:Int)(w:World):(Op.eqFields 9999 #[.int .i64 a0,.int .i64 a1] #[.int .i64 b0,.int .i64 b1] (prog.fieldsOf 84).toList).run prog w=.ok (decide (a0=b0)&&(decide (a1=b1)&&true)) w:=by
 have hf:(prog.fieldsOf 84).toList.map (λf=>(f.name== "_",f.type,f.offset))=[(false,3,0),(false,3,1)]:=by kernel_rfl
 have q:(Op.eqFields 9999 #[.int .i64 a0,.int .i64 a1] #[.int .i64 b0,.int .i64 b1] (prog.fieldsOf 84).toList).run prog w=.ok (decide (a0=b0)&&(decide (a1=b1)&&true)) w:=by
  obtain⟨f0,t0,e0,h0,hf⟩:=yf hf;obtain⟨f1,t1,e1,h1,hf⟩:=yf hf;rw[e0,e1,aev hf];exact ad5 h0 isAgg3 underlying3 rfl rfl (ad5 h1 isAgg3 underlying3 rfl rfl (aki))
 exact q
theorem aqV:TyS prog 103 2 true:=⟨sizeOf103,isAgg103⟩
theorem amT:iz prog 103 [zS0,zI0] [(0,1),(1,1)]:=lF zeroValue103 underlying103 (λw=>by kernel_rfl)
theorem ahn:dS prog 103 0 0:=⟨λa w=>by kernel_rfl⟩
theorem aho:dS prog 103 1 1:=⟨λa w=>by kernel_rfl⟩
theorem ahp:cN prog 103 0 0 1 false:=dA underlying103 (by kernel_rfl) kS (by decide)
theorem ahq:cN prog 103 1 1 1 false:=dA underlying103 (by kernel_rfl) ty3 (by decide)
theorem aqW:TyS prog 105 1 false:=⟨sizeOf105,isAgg105⟩
theorem s9:SlS prog 105 106 1:=⟨underlying105,sizeOf106⟩
theorem afU:gL prog 105 106 1 24:=⟨underlying105,(by obtain⟨i,h1,h2,h3,h4⟩:=info_parts (by kernel_rfl:(prog.info? 106).map (λi=>(i.zero,i.size,i.bytes))=some (some (zS0),1,24));exact⟨i,_,h1,h2,h3,h4,rfl⟩),by decide⟩
theorem afV:iP prog 105 106 1 [zS0]:=⟨underlying105,sizeOf106,ajg,rfl⟩
theorem zJ:TyS prog 106 1 false:=⟨sizeOf106,isAgg106⟩
theorem aqX:SlS prog 106 4 1:=⟨underlying106,sizeOf4⟩
theorem afW:gL prog 106 4 1 1:=⟨underlying106,(by obtain⟨i,h1,h2,h3,h4⟩:=info_parts (by kernel_rfl:(prog.info? 4).map (λi=>(i.zero,i.size,i.bytes))=some (some (.bool false),1,1));exact⟨i,_,h1,h2,h3,h4,rfl⟩),by decide⟩
theorem afX:iP prog 106 4 1 [.bool false]:=⟨underlying106,sizeOf4,ze4,rfl⟩
theorem ajm:TyS prog 111 1 false:=⟨sizeOf111,isAgg111⟩
theorem aeB:SlS prog 111 175 3:=⟨underlying111,sizeOf175⟩
theorem amU:gL prog 111 175 3 24:=⟨underlying111,(by obtain⟨i,h1,h2,h3,h4⟩:=info_parts (by kernel_rfl:(prog.info? 175).map (λi=>(i.zero,i.size,i.bytes))=some (some (.agg #[zI0,zI0,zI0]),3,24));exact⟨i,_,h1,h2,h3,h4,rfl⟩),by decide⟩
theorem amV:iP prog 111 175 3 [zI0,zI0,zI0]:=⟨underlying111,sizeOf175,ajj,rfl⟩
theorem zK:TyS prog 114 100 true:=⟨sizeOf114,isAgg114⟩
theorem aqY:TyS prog 125 1 false:=⟨sizeOf125,isAgg125⟩
theorem aqZ:TyS prog 126 1 false:=⟨sizeOf126,isAgg126⟩
theorem zM:TyS prog 144 1 false:=⟨sizeOf144,isAgg144⟩
theorem zN:jD prog 144 3 3 .i64:=⟨underlying144,underlying3⟩
theorem aq0:TyS prog 158 1 false:=⟨sizeOf158,isAgg158⟩
theorem aq1:TyS prog 161 1 false:=⟨sizeOf161,isAgg161⟩
theorem ajn:TyS prog 162 1 false:=⟨sizeOf162,isAgg162⟩
theorem zO:SlS prog 162 144 1:=⟨underlying162,sizeOf144⟩
theorem afY:gL prog 162 144 1 8:=⟨underlying162,(by obtain⟨i,h1,h2,h3,h4⟩:=info_parts (by kernel_rfl:(prog.info? 144).map (λi=>(i.zero,i.size,i.bytes))=some (some (.map none),1,8));exact⟨i,_,h1,h2,h3,h4,rfl⟩),by decide⟩
theorem amW:iP prog 162 144 1 [.map none]:=⟨underlying162,sizeOf144,ajh,rfl⟩
theorem ajo:TyS prog 163 1 false:=⟨sizeOf163,isAgg163⟩
theorem ajp:SlS prog 163 166 1:=⟨underlying163,sizeOf166⟩
theorem afZ:gL prog 163 166 1 8:=⟨underlying163,(by obtain⟨i,h1,h2,h3,h4⟩:=info_parts (by kernel_rfl:(prog.info? 166).map (λi=>(i.zero,i.size,i.bytes))=some (some (.map none),1,8));exact⟨i,_,h1,h2,h3,h4,rfl⟩),by decide⟩
theorem amX:iP prog 163 166 1 [.map none]:=⟨underlying163,sizeOf166,aji,rfl⟩
theorem aq2:TyS prog 165 3 true:=⟨sizeOf165,isAgg165⟩
theorem amY:iz prog 165 [zS0,zS0,zS0] [(0,1),(1,1),(2,1)]:=lF zeroValue165 underlying165 (λw=>by kernel_rfl)
theorem ahr:dS prog 165 0 0:=⟨λa w=>by kernel_rfl⟩
theorem ahs:dS prog 165 1 1:=⟨λa w=>by kernel_rfl⟩
theorem aht:dS prog 165 2 2:=⟨λa w=>by kernel_rfl⟩
theorem ahu:cN prog 165 0 0 1 false:=dA underlying165 (by kernel_rfl) ajm (by decide)
theorem ahv:cN prog 165 1 1 1 false:=dA underlying165 (by kernel_rfl) ajn (by decide)
theorem ahw:cN prog 165 2 2 1 false:=dA underlying165 (by kernel_rfl) ajo (by decide)
theorem ajq:TyS prog 166 1 false:=⟨sizeOf166,isAgg166⟩
theorem wJ:jD prog 166 3 169 .i64:=⟨underlying166,underlying3⟩
theorem aq3:TyS prog 169 2 true:=⟨sizeOf169,isAgg169⟩
theorem amZ:iz prog 169 [zI0,zI0] [(0,1),(1,1)]:=lF zeroValue169 underlying169 (λw=>by kernel_rfl)
theorem ahx:dS prog 169 0 0:=⟨λa w=>by kernel_rfl⟩
theorem ahy:dS prog 169 1 1:=⟨λa w=>by kernel_rfl⟩
theorem ahz:cN prog 169 0 0 1 false:=dA underlying169 (by kernel_rfl) ty3 (by decide)
theorem ahA:cN prog 169 1 1 1 false:=dA underlying169 (by kernel_rfl) ty3 (by decide)
theorem aq4:TyS prog 172 1 false:=⟨sizeOf172,isAgg172⟩
theorem aq5:TyS prog 175 3 true:=⟨sizeOf175,isAgg175⟩
theorem am0:iz prog 175 [zI0,zI0,zI0] [(0,2),(2,1)]:=lF zeroValue175 underlying175 (λw=>by kernel_rfl)
theorem ahB:dS prog 175 0 0:=⟨λa w=>by kernel_rfl⟩
theorem ahC:dS prog 175 1 2:=⟨λa w=>by kernel_rfl⟩
theorem ahD:cN prog 175 0 0 2 true:=dA underlying175 (by kernel_rfl) amS (by decide)
theorem ahE:cN prog 175 1 2 1 false:=dA underlying175 (by kernel_rfl) ty3 (by decide)
theorem aq6:TyS prog 177 1 false:=⟨sizeOf177,isAgg177⟩
theorem aq7:TyS prog 178 1 false:=⟨sizeOf178,isAgg178⟩
theorem aq8:TyS prog 182 1 false:=⟨sizeOf182,isAgg182⟩
theorem aq9:TyS prog 185 1 false:=⟨sizeOf185,isAgg185⟩
theorem ara:TyS prog 187 1 false:=⟨sizeOf187,isAgg187⟩
theorem arb:TyS prog 188 1 false:=⟨sizeOf188,isAgg188⟩
theorem ard:TyS prog 190 1 false:=⟨sizeOf190,isAgg190⟩
theorem arf:TyS prog 191 1 false:=⟨sizeOf191,isAgg191⟩
theorem af0:jD prog 191 3 4 .i64:=⟨underlying191,underlying3⟩
theorem arh:TyS prog 198 1 false:=⟨sizeOf198,isAgg198⟩
theorem ari:TyS prog 245 1 false:=⟨sizeOf245,isAgg245⟩
theorem arj:TyS prog 252 1 false:=⟨sizeOf252,isAgg252⟩
theorem ark:TyS prog 254 1 false:=⟨sizeOf254,isAgg254⟩
end Go.Proofs.YtmnbolcmepihlaaGreat
