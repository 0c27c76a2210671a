/- The types of this translation, as the rules want adF. No condition. -/
import Derived.Test.YtjdopimopgpagaaGreatAB
import Derived.Test.YtjdopimopgpagaaGreatRows
import Derived.OwnWalk
namespace Go.Proofs.YtjdopimopgpagaaGreat
set_option linter.all false
abbrev zI0:Value:=.int .i64 0
abbrev zS0:Value:=.slice none 0 0
open Go Go.Proofs.Tryz
set_option maxRecDepth 100000
abbrev Zr(i:Nat)(c:List Value):Prop:=∀w,∃z,(zeroValue i).run prog w=.ok z w∧z.cells=c.toArray
theorem aaA:prog.follows .mixedOrders=true:=by kernel_rfl
theorem ze1:Zr 1 [.nilFunc]:=λw=>⟨_,zeroValue1 w,rfl⟩
theorem ze2:Zr 2 [zI0]:=λw=>⟨_,zeroValue2 w,rfl⟩
theorem ze3:Zr 3 [zI0]:=λw=>⟨_,zeroValue3 w,rfl⟩
theorem ze4:Zr 4 [.bool false]:=λw=>⟨_,zeroValue4 w,rfl⟩
theorem ze5:Zr 5 [.int .u8 0]:=λw=>⟨_,zeroValue5 w,rfl⟩
theorem ze6:Zr 6 [.int .u8 0]:=λw=>⟨_,zeroValue6 w,rfl⟩
theorem ze7:Zr 7 [zI0,zI0,.bool false,.int .u8 0]:=λw=>⟨_,zeroValue7 w,rfl⟩
theorem ze8:Zr 8 [zI0,zI0,.bool false,.int .u8 0]:=λw=>⟨_,zeroValue8 w,rfl⟩
theorem ze9:Zr 9 [.string ⟨#[]⟩]:=λw=>⟨_,zeroValue9 w,rfl⟩
theorem ze10:Zr 10 [.string ⟨#[]⟩]:=λw=>⟨_,zeroValue10 w,rfl⟩
theorem ze11:Zr 11 [.string ⟨#[]⟩]:=λw=>⟨_,zeroValue11 w,rfl⟩
theorem ze12:Zr 12 [.int .u64 0]:=λw=>⟨_,zeroValue12 w,rfl⟩
theorem ze13:Zr 13 [.string ⟨#[]⟩,.int .u64 0]:=λw=>⟨_,zeroValue13 w,rfl⟩
theorem ze14:Zr 14 [.string ⟨#[]⟩,.int .u64 0]:=λw=>⟨_,zeroValue14 w,rfl⟩
theorem ze15:Zr 15 [.pointer none]:=λw=>⟨_,zeroValue15 w,rfl⟩
theorem ze16:Zr 16 [.pointer none]:=λw=>⟨_,zeroValue16 w,rfl⟩
theorem ze17:Zr 17 [.pointer none]:=λw=>⟨_,zeroValue17 w,rfl⟩
theorem ze18:Zr 18 [.pointer none]:=λw=>⟨_,zeroValue18 w,rfl⟩
theorem ze19:Zr 19 [.pointer none]:=λw=>⟨_,zeroValue19 w,rfl⟩
theorem ze21:Zr 21 [.int .i32 0]:=λw=>⟨_,zeroValue21 w,rfl⟩
theorem ze22:Zr 22 [zS0]:=λw=>⟨_,zeroValue22 w,rfl⟩
theorem am5:Zr 23 [zS0]:=λw=>⟨_,zeroValue23 w,rfl⟩
theorem ze24:Zr 24 [zS0]:=λw=>⟨_,zeroValue24 w,rfl⟩
theorem ze25:Zr 25 [zS0]:=λw=>⟨_,zeroValue25 w,rfl⟩
theorem ze26:Zr 26 [zS0,zS0,zS0]:=λw=>⟨_,zeroValue26 w,rfl⟩
theorem am6:Zr 27 [zS0,zS0,zS0]:=λw=>⟨_,zeroValue27 w,rfl⟩
theorem ze28:Zr 28 [.pointer none]:=λw=>⟨_,zeroValue28 w,rfl⟩
theorem ze32:Zr 32 [zS0]:=λw=>⟨_,zeroValue32 w,rfl⟩
theorem ze34:Zr 34 [zI0]:=λw=>⟨_,zeroValue34 w,rfl⟩
theorem ze43:Zr 43 [zS0]:=λw=>⟨_,zeroValue43 w,rfl⟩
theorem ze45:Zr 45 [zS0,zS0]:=λw=>⟨_,zeroValue45 w,rfl⟩
theorem ze48:Zr 48 [zS0]:=λw=>⟨_,zeroValue48 w,rfl⟩
theorem ze49:Zr 49 [zS0]:=λw=>⟨_,zeroValue49 w,rfl⟩
theorem ze51:Zr 51 [zS0]:=λw=>⟨_,zeroValue51 w,rfl⟩
theorem am7:Zr 53 [zI0,zI0,.bool false,zS0,zS0]:=λw=>⟨_,zeroValue53 w,rfl⟩
theorem ze58:Zr 58 [zS0]:=λw=>⟨_,zeroValue58 w,rfl⟩
theorem ze60:Zr 60 [zS0,zS0]:=λw=>⟨_,zeroValue60 w,rfl⟩
theorem ze64:Zr 64 [zS0]:=λw=>⟨_,zeroValue64 w,rfl⟩
theorem ze65:Zr 65 [zI0,zI0,.bool false,zS0,zS0]:=λw=>⟨_,zeroValue65 w,rfl⟩
theorem am8:Zr 66 [zI0,zI0,.bool false,zS0,zS0]:=λw=>⟨_,zeroValue66 w,rfl⟩
theorem ze69:Zr 69 [.nilFunc]:=λw=>⟨_,zeroValue69 w,rfl⟩
theorem am9:Zr 75 [zI0,zI0,zS0]:=λw=>⟨_,zeroValue75 w,rfl⟩
theorem ze79:Zr 79 [zS0]:=λw=>⟨_,zeroValue79 w,rfl⟩
theorem ze83:Zr 83 [zS0,zI0]:=λw=>⟨_,zeroValue83 w,rfl⟩
theorem ze84:Zr 84 [.nilFunc]:=λw=>⟨_,zeroValue84 w,rfl⟩
theorem ana:Zr 86 [zI0,zI0,zI0,zI0,zI0]:=λw=>⟨_,zeroValue86 w,rfl⟩
theorem anb:Zr 91 [zI0,zI0,zI0]:=λw=>⟨_,zeroValue91 w,rfl⟩
theorem anc:Zr 93 [zI0,.bool false]:=λw=>⟨_,zeroValue93 w,rfl⟩
theorem ze94:Zr 94 [.pointer none]:=λw=>⟨_,zeroValue94 w,rfl⟩
theorem ze97:Zr 97 [zS0,zS0,zS0]:=λw=>⟨_,zeroValue97 w,rfl⟩
theorem ze98:Zr 98 [zS0]:=λw=>⟨_,zeroValue98 w,rfl⟩
theorem ajo:Zr 105 [zI0,zI0,zI0]:=λw=>⟨_,zeroValue105 w,rfl⟩
theorem aqf:Zr 113 [.nilFunc]:=λw=>⟨_,zeroValue113 w,rfl⟩
theorem aqg:Zr 121 [.nilFunc]:=λw=>⟨_,zeroValue121 w,rfl⟩
theorem ajp:Zr 129 [zI0,zI0]:=λw=>⟨_,zeroValue129 w,rfl⟩
theorem aqh:Zr 132 [.nilFunc]:=λw=>⟨_,zeroValue132 w,rfl⟩
theorem aqi:Zr 133 [.pointer none]:=λw=>⟨_,zeroValue133 w,rfl⟩
theorem aqj:Zr 150 [.nilFunc]:=λw=>⟨_,zeroValue150 w,rfl⟩
theorem aqk:Zr 152 [.nilFunc]:=λw=>⟨_,zeroValue152 w,rfl⟩
theorem aql:Zr 154 [.nilFunc]:=λw=>⟨_,zeroValue154 w,rfl⟩
theorem aqm:Zr 155 [.nilFunc]:=λw=>⟨_,zeroValue155 w,rfl⟩
theorem aqn:Zr 158 [.nilFunc]:=λw=>⟨_,zeroValue158 w,rfl⟩
theorem aqo:Zr 161 [zS0]:=λw=>⟨_,zeroValue161 w,rfl⟩
theorem ajq:Zr 164 [zI0,zI0,zI0,zI0]:=λw=>⟨_,zeroValue164 w,rfl⟩
theorem aqp:Zr 165 [.nilFunc]:=λw=>⟨_,zeroValue165 w,rfl⟩
theorem aqq:Zr 178 [.int .u64 0]:=λw=>⟨_,zeroValue178 w,rfl⟩
theorem aqr:Zr 182 [.pointer none]:=λw=>⟨_,zeroValue182 w,rfl⟩
theorem aqs:Zr 187 [.nilFunc]:=λw=>⟨_,zeroValue187 w,rfl⟩
theorem aqt:Zr 189 [zS0]:=λw=>⟨_,zeroValue189 w,rfl⟩
theorem aqu:Zr 193 [zI0]:=λw=>⟨_,zeroValue193 w,rfl⟩
theorem aqv:Zr 201 [.int .u32 0]:=λw=>⟨_,zeroValue201 w,rfl⟩
theorem aqw:Zr 203 [.int .u64 0]:=λw=>⟨_,zeroValue203 w,rfl⟩
theorem aqx:Zr 208 [zS0,zI0]:=λw=>⟨_,zeroValue208 w,rfl⟩
theorem aqy:Zr 221 [zS0,zI0]:=λw=>⟨_,zeroValue221 w,rfl⟩
theorem aqz:Zr 231 [.pointer none]:=λw=>⟨_,zeroValue231 w,rfl⟩
theorem aqA:Zr 235 [.pointer none]:=λw=>⟨_,zeroValue235 w,rfl⟩
theorem ty1:TyS prog 1 1 false:=⟨sizeOf1,isAgg1⟩
theorem ty2:TyS prog 2 1 false:=⟨sizeOf2,isAgg2⟩
theorem ty3:TyS prog 3 1 false:=⟨sizeOf3,isAgg3⟩
theorem ty4:TyS prog 4 1 false:=⟨sizeOf4,isAgg4⟩
theorem ty5:TyS prog 5 1 false:=⟨sizeOf5,isAgg5⟩
theorem ty6:TyS prog 6 1 false:=⟨sizeOf6,isAgg6⟩
theorem ty7:TyS prog 7 4 true:=⟨sizeOf7,isAgg7⟩
theorem str7:iP prog 7 [zI0,zI0,.bool false,.int .u8 0] [(0,1),(1,1),(2,1),(3,1)]:=kL zeroValue7 underlying7 (λw=>by kernel_rfl)
theorem ane:cZ prog 7 0 0:=⟨λa w=>by kernel_rfl⟩
theorem anf:cZ prog 7 1 1:=⟨λa w=>by kernel_rfl⟩
theorem ang:cZ prog 7 2 2:=⟨λa w=>by kernel_rfl⟩
theorem anh:cZ prog 7 3 3:=⟨λa w=>by kernel_rfl⟩
theorem ani:cu prog 7 0 0 1 false:=cE underlying7 (by kernel_rfl) ty2 (by decide)
theorem anj:cu prog 7 1 1 1 false:=cE underlying7 (by kernel_rfl) ty3 (by decide)
theorem ank:cu prog 7 2 2 1 false:=cE underlying7 (by kernel_rfl) ty4 (by decide)
theorem anl:cu prog 7 3 3 1 false:=cE underlying7 (by kernel_rfl) ty6 (by decide)
theorem ty8:TyS prog 8 4 true:=⟨sizeOf8,isAgg8⟩
theorem str8:iP prog 8 [zI0,zI0,.bool false,.int .u8 0] [(0,1),(1,1),(2,1),(3,1)]:=kL zeroValue8 underlying8 (λw=>by kernel_rfl)
theorem anm:cZ prog 8 0 0:=⟨λa w=>by kernel_rfl⟩
theorem ann:cZ prog 8 1 1:=⟨λa w=>by kernel_rfl⟩
theorem ano:cZ prog 8 2 2:=⟨λa w=>by kernel_rfl⟩
theorem anp:cZ prog 8 3 3:=⟨λa w=>by kernel_rfl⟩
theorem anq:cu prog 8 0 0 1 false:=cE underlying8 (by kernel_rfl) ty2 (by decide)
theorem anr:cu prog 8 1 1 1 false:=cE underlying8 (by kernel_rfl) ty3 (by decide)
theorem ans:cu prog 8 2 2 1 false:=cE underlying8 (by kernel_rfl) ty4 (by decide)
theorem ant:cu prog 8 3 3 1 false:=cE underlying8 (by kernel_rfl) ty6 (by decide)
theorem ty9:TyS prog 9 1 false:=⟨sizeOf9,isAgg9⟩
theorem ty10:TyS prog 10 1 false:=⟨sizeOf10,isAgg10⟩
theorem ty11:TyS prog 11 1 false:=⟨sizeOf11,isAgg11⟩
theorem ahS:TyS prog 12 1 false:=⟨sizeOf12,isAgg12⟩
theorem ty13:TyS prog 13 2 true:=⟨sizeOf13,isAgg13⟩
theorem aqB:iP prog 13 [.string ⟨#[]⟩,.int .u64 0] [(0,1),(1,1)]:=kL zeroValue13 underlying13 (λw=>by kernel_rfl)
theorem akE:cZ prog 13 0 0:=⟨λa w=>by kernel_rfl⟩
theorem akF:cZ prog 13 1 1:=⟨λa w=>by kernel_rfl⟩
theorem akG:cu prog 13 0 0 1 false:=cE underlying13 (by kernel_rfl) ty9 (by decide)
theorem akH:cu prog 13 1 1 1 false:=cE underlying13 (by kernel_rfl) ahS (by decide)
theorem ty14:TyS prog 14 2 true:=⟨sizeOf14,isAgg14⟩
theorem aqC:iP prog 14 [.string ⟨#[]⟩,.int .u64 0] [(0,1),(1,1)]:=kL zeroValue14 underlying14 (λw=>by kernel_rfl)
theorem akI:cZ prog 14 0 0:=⟨λa w=>by kernel_rfl⟩
theorem akJ:cZ prog 14 1 1:=⟨λa w=>by kernel_rfl⟩
theorem akK:cu prog 14 0 0 1 false:=cE underlying14 (by kernel_rfl) ty9 (by decide)
theorem akL:cu prog 14 1 1 1 false:=cE underlying14 (by kernel_rfl) ahS (by decide)
theorem ty15:TyS prog 15 1 false:=⟨sizeOf15,isAgg15⟩
theorem ty16:TyS prog 16 1 false:=⟨sizeOf16,isAgg16⟩
theorem ahT:TyS prog 17 1 false:=⟨sizeOf17,isAgg17⟩
theorem ty18:TyS prog 18 1 true:=⟨sizeOf18,isAgg18⟩
theorem aqD:iP prog 18 [.pointer none] [(0,1)]:=kL zeroValue18 underlying18 (λw=>by kernel_rfl)
theorem akM:cZ prog 18 0 0:=⟨λa w=>by kernel_rfl⟩
theorem akN:cu prog 18 0 0 1 false:=cE underlying18 (by kernel_rfl) ahT (by decide)
theorem ty19:TyS prog 19 1 true:=⟨sizeOf19,isAgg19⟩
theorem aqE:iP prog 19 [.pointer none] [(0,1)]:=kL zeroValue19 underlying19 (λw=>by kernel_rfl)
theorem akO:cZ prog 19 0 0:=⟨λa w=>by kernel_rfl⟩
theorem akP:cu prog 19 0 0 1 false:=cE underlying19 (by kernel_rfl) ahT (by decide)
theorem ty21:TyS prog 21 1 false:=⟨sizeOf21,isAgg21⟩
theorem ahU:TyS prog 22 1 false:=⟨sizeOf22,isAgg22⟩
theorem sl22:SlS prog 22 3 1:=⟨underlying22,sizeOf3⟩
theorem aqF:oR prog 22 3 1 8:=⟨underlying22,(by obtain⟨i,h1,h2,h3,h4⟩:=info_parts (by kernel_rfl:(prog.info? 3).map (λi=>(i.zero,i.size,i.bytes))=some (some (zI0),1,8));exact⟨i,_,h1,h2,h3,h4,rfl⟩),by decide⟩
theorem aqG:nX prog 22 3 1 [zI0]:=⟨underlying22,sizeOf3,ze3,rfl⟩
theorem afQ:TyS prog 23 1 false:=⟨sizeOf23,isAgg23⟩
theorem sl23:SlS prog 23 86 5:=⟨underlying23,sizeOf86⟩
theorem aqH:oR prog 23 86 5 40:=⟨underlying23,(by obtain⟨i,h1,h2,h3,h4⟩:=info_parts (by kernel_rfl:(prog.info? 86).map (λi=>(i.zero,i.size,i.bytes))=some (some (.agg #[zI0,zI0,zI0,zI0,zI0]),5,40));exact⟨i,_,h1,h2,h3,h4,rfl⟩),by decide⟩
theorem aqI:nX prog 23 86 5 [zI0,zI0,zI0,zI0,zI0]:=⟨underlying23,sizeOf86,ana,rfl⟩
theorem ahV:TyS prog 24 1 false:=⟨sizeOf24,isAgg24⟩
theorem sl24:SlS prog 24 53 5:=⟨underlying24,sizeOf53⟩
theorem aqJ:oR prog 24 53 5 72:=⟨underlying24,(by obtain⟨i,h1,h2,h3,h4⟩:=info_parts (by kernel_rfl:(prog.info? 53).map (λi=>(i.zero,i.size,i.bytes))=some (some (.agg #[zI0,zI0,.bool false,zS0,zS0]),5,72));exact⟨i,_,h1,h2,h3,h4,rfl⟩),by decide⟩
theorem aqK:nX prog 24 53 5 [zI0,zI0,.bool false,zS0,zS0]:=⟨underlying24,sizeOf53,am7,rfl⟩
theorem ahW:TyS prog 25 1 false:=⟨sizeOf25,isAgg25⟩
theorem ahX:SlS prog 25 75 3:=⟨underlying25,sizeOf75⟩
theorem aqL:oR prog 25 75 3 40:=⟨underlying25,(by obtain⟨i,h1,h2,h3,h4⟩:=info_parts (by kernel_rfl:(prog.info? 75).map (λi=>(i.zero,i.size,i.bytes))=some (some (.agg #[zI0,zI0,zS0]),3,40));exact⟨i,_,h1,h2,h3,h4,rfl⟩),by decide⟩
theorem aqM:nX prog 25 75 3 [zI0,zI0,zS0]:=⟨underlying25,sizeOf75,am9,rfl⟩
theorem ty26:TyS prog 26 3 true:=⟨sizeOf26,isAgg26⟩
theorem aqN:iP prog 26 [zS0,zS0,zS0] [(0,1),(1,1),(2,1)]:=kL zeroValue26 underlying26 (λw=>by kernel_rfl)
theorem akQ:cZ prog 26 0 0:=⟨λa w=>by kernel_rfl⟩
theorem akR:cZ prog 26 1 1:=⟨λa w=>by kernel_rfl⟩
theorem akS:cZ prog 26 2 2:=⟨λa w=>by kernel_rfl⟩
theorem akT:cu prog 26 0 0 1 false:=cE underlying26 (by kernel_rfl) afQ (by decide)
theorem akU:cu prog 26 1 1 1 false:=cE underlying26 (by kernel_rfl) ahV (by decide)
theorem akV:cu prog 26 2 2 1 false:=cE underlying26 (by kernel_rfl) ahW (by decide)
theorem anu:TyS prog 27 3 true:=⟨sizeOf27,isAgg27⟩
theorem aqO:iP prog 27 [zS0,zS0,zS0] [(0,1),(1,1),(2,1)]:=kL zeroValue27 underlying27 (λw=>by kernel_rfl)
theorem akW:cZ prog 27 0 0:=⟨λa w=>by kernel_rfl⟩
theorem akX:cZ prog 27 1 1:=⟨λa w=>by kernel_rfl⟩
theorem akY:cZ prog 27 2 2:=⟨λa w=>by kernel_rfl⟩
theorem akZ:cu prog 27 0 0 1 false:=cE underlying27 (by kernel_rfl) afQ (by decide)
theorem ak0:cu prog 27 1 1 1 false:=cE underlying27 (by kernel_rfl) ahV (by decide)
theorem ak1:cu prog 27 2 2 1 false:=cE underlying27 (by kernel_rfl) ahW (by decide)
theorem ty28:TyS prog 28 1 false:=⟨sizeOf28,isAgg28⟩
theorem ty32:TyS prog 32 1 false:=⟨sizeOf32,isAgg32⟩
theorem sl32:SlS prog 32 27 3:=⟨underlying32,sizeOf27⟩
theorem aqP:oR prog 32 27 3 72:=⟨underlying32,(by obtain⟨i,h1,h2,h3,h4⟩:=info_parts (by kernel_rfl:(prog.info? 27).map (λi=>(i.zero,i.size,i.bytes))=some (some (.agg #[zS0,zS0,zS0]),3,72));exact⟨i,_,h1,h2,h3,h4,rfl⟩),by decide⟩
theorem aqQ:nX prog 32 27 3 [zS0,zS0,zS0]:=⟨underlying32,sizeOf27,am6,rfl⟩
theorem ty34:TyS prog 34 1 false:=⟨sizeOf34,isAgg34⟩
theorem anv:TyS prog 43 1 false:=⟨sizeOf43,isAgg43⟩
theorem sl43:SlS prog 43 93 2:=⟨underlying43,sizeOf93⟩
theorem aqR:oR prog 43 93 2 16:=⟨underlying43,(by obtain⟨i,h1,h2,h3,h4⟩:=info_parts (by kernel_rfl:(prog.info? 93).map (λi=>(i.zero,i.size,i.bytes))=some (some (.agg #[zI0,.bool false]),2,16));exact⟨i,_,h1,h2,h3,h4,rfl⟩),by decide⟩
theorem aqS:nX prog 43 93 2 [zI0,.bool false]:=⟨underlying43,sizeOf93,anc,rfl⟩
theorem ty45:TyS prog 45 2 true:=⟨sizeOf45,isAgg45⟩
theorem aqT:iP prog 45 [zS0,zS0] [(0,1),(1,1)]:=kL zeroValue45 underlying45 (λw=>by kernel_rfl)
theorem ak2:cZ prog 45 0 0:=⟨λa w=>by kernel_rfl⟩
theorem ak3:cZ prog 45 1 1:=⟨λa w=>by kernel_rfl⟩
theorem ak4:cu prog 45 0 0 1 false:=cE underlying45 (by kernel_rfl) anv (by decide)
theorem ak5:cu prog 45 1 1 1 false:=cE underlying45 (by kernel_rfl) afQ (by decide)
theorem afR:TyS prog 48 1 false:=⟨sizeOf48,isAgg48⟩
theorem sl48:SlS prog 48 91 3:=⟨underlying48,sizeOf91⟩
theorem aqU:oR prog 48 91 3 24:=⟨underlying48,(by obtain⟨i,h1,h2,h3,h4⟩:=info_parts (by kernel_rfl:(prog.info? 91).map (λi=>(i.zero,i.size,i.bytes))=some (some (.agg #[zI0,zI0,zI0]),3,24));exact⟨i,_,h1,h2,h3,h4,rfl⟩),by decide⟩
theorem aqV:nX prog 48 91 3 [zI0,zI0,zI0]:=⟨underlying48,sizeOf91,anb,rfl⟩
theorem anw:TyS prog 49 1 false:=⟨sizeOf49,isAgg49⟩
theorem sl49:SlS prog 49 66 5:=⟨underlying49,sizeOf66⟩
theorem aqW:oR prog 49 66 5 72:=⟨underlying49,(by obtain⟨i,h1,h2,h3,h4⟩:=info_parts (by kernel_rfl:(prog.info? 66).map (λi=>(i.zero,i.size,i.bytes))=some (some (.agg #[zI0,zI0,.bool false,zS0,zS0]),5,72));exact⟨i,_,h1,h2,h3,h4,rfl⟩),by decide⟩
theorem aqX:nX prog 49 66 5 [zI0,zI0,.bool false,zS0,zS0]:=⟨underlying49,sizeOf66,am8,rfl⟩
theorem ahY:TyS prog 51 1 true:=⟨sizeOf51,isAgg51⟩
theorem aqY:iP prog 51 [zS0] [(0,1)]:=kL zeroValue51 underlying51 (λw=>by kernel_rfl)
theorem ak6:cZ prog 51 0 0:=⟨λa w=>by kernel_rfl⟩
theorem ak7:cu prog 51 0 0 1 false:=cE underlying51 (by kernel_rfl) anw (by decide)
theorem ty53:TyS prog 53 5 true:=⟨sizeOf53,isAgg53⟩
theorem aqZ:iP prog 53 [zI0,zI0,.bool false,zS0,zS0] [(0,1),(1,1),(2,1),(3,1),(4,1)]:=kL zeroValue53 underlying53 (λw=>by kernel_rfl)
theorem ak8:cZ prog 53 0 0:=⟨λa w=>by kernel_rfl⟩
theorem ak9:cZ prog 53 1 1:=⟨λa w=>by kernel_rfl⟩
theorem ala:cZ prog 53 2 2:=⟨λa w=>by kernel_rfl⟩
theorem alb:cZ prog 53 3 3:=⟨λa w=>by kernel_rfl⟩
theorem alc:cZ prog 53 4 4:=⟨λa w=>by kernel_rfl⟩
theorem ald:cu prog 53 0 0 1 false:=cE underlying53 (by kernel_rfl) ty3 (by decide)
theorem ale:cu prog 53 1 1 1 false:=cE underlying53 (by kernel_rfl) ty3 (by decide)
theorem alf:cu prog 53 2 2 1 false:=cE underlying53 (by kernel_rfl) ty4 (by decide)
theorem alg:cu prog 53 3 3 1 false:=cE underlying53 (by kernel_rfl) afR (by decide)
theorem alh:cu prog 53 4 4 1 true:=cE underlying53 (by kernel_rfl) ahY (by decide)
theorem anx:TyS prog 58 1 false:=⟨sizeOf58,isAgg58⟩
theorem sl58:SlS prog 58 129 2:=⟨underlying58,sizeOf129⟩
theorem aq0:oR prog 58 129 2 16:=⟨underlying58,(by obtain⟨i,h1,h2,h3,h4⟩:=info_parts (by kernel_rfl:(prog.info? 129).map (λi=>(i.zero,i.size,i.bytes))=some (some (.agg #[zI0,zI0]),2,16));exact⟨i,_,h1,h2,h3,h4,rfl⟩),by decide⟩
theorem aq1:nX prog 58 129 2 [zI0,zI0]:=⟨underlying58,sizeOf129,ajp,rfl⟩
theorem ty60:TyS prog 60 2 true:=⟨sizeOf60,isAgg60⟩
theorem aq2:iP prog 60 [zS0,zS0] [(0,1),(1,1)]:=kL zeroValue60 underlying60 (λw=>by kernel_rfl)
theorem ali:cZ prog 60 0 0:=⟨λa w=>by kernel_rfl⟩
theorem alj:cZ prog 60 1 1:=⟨λa w=>by kernel_rfl⟩
theorem alk:cu prog 60 0 0 1 false:=cE underlying60 (by kernel_rfl) anx (by decide)
theorem alm:cu prog 60 1 1 1 false:=cE underlying60 (by kernel_rfl) ahU (by decide)
theorem ahZ:TyS prog 64 1 false:=⟨sizeOf64,isAgg64⟩
theorem sl64:SlS prog 64 105 3:=⟨underlying64,sizeOf105⟩
theorem aq3:oR prog 64 105 3 24:=⟨underlying64,(by obtain⟨i,h1,h2,h3,h4⟩:=info_parts (by kernel_rfl:(prog.info? 105).map (λi=>(i.zero,i.size,i.bytes))=some (some (.agg #[zI0,zI0,zI0]),3,24));exact⟨i,_,h1,h2,h3,h4,rfl⟩),by decide⟩
theorem aq4:nX prog 64 105 3 [zI0,zI0,zI0]:=⟨underlying64,sizeOf105,ajo,rfl⟩
theorem ty65:TyS prog 65 5 true:=⟨sizeOf65,isAgg65⟩
theorem aq5:iP prog 65 [zI0,zI0,.bool false,zS0,zS0] [(0,1),(1,1),(2,1),(3,1),(4,1)]:=kL zeroValue65 underlying65 (λw=>by kernel_rfl)
theorem aln:cZ prog 65 0 0:=⟨λa w=>by kernel_rfl⟩
theorem alo:cZ prog 65 1 1:=⟨λa w=>by kernel_rfl⟩
theorem alp:cZ prog 65 2 2:=⟨λa w=>by kernel_rfl⟩
theorem alq:cZ prog 65 3 3:=⟨λa w=>by kernel_rfl⟩
theorem alr:cZ prog 65 4 4:=⟨λa w=>by kernel_rfl⟩
theorem als:cu prog 65 0 0 1 false:=cE underlying65 (by kernel_rfl) ty3 (by decide)
theorem alu:cu prog 65 1 1 1 false:=cE underlying65 (by kernel_rfl) ty3 (by decide)
theorem alv:cu prog 65 2 2 1 false:=cE underlying65 (by kernel_rfl) ty4 (by decide)
theorem alw:cu prog 65 3 3 1 false:=cE underlying65 (by kernel_rfl) ahZ (by decide)
theorem alx:cu prog 65 4 4 1 false:=cE underlying65 (by kernel_rfl) afR (by decide)
theorem ty66:TyS prog 66 5 true:=⟨sizeOf66,isAgg66⟩
theorem aq6:iP prog 66 [zI0,zI0,.bool false,zS0,zS0] [(0,1),(1,1),(2,1),(3,1),(4,1)]:=kL zeroValue66 underlying66 (λw=>by kernel_rfl)
theorem aly:cZ prog 66 0 0:=⟨λa w=>by kernel_rfl⟩
theorem alz:cZ prog 66 1 1:=⟨λa w=>by kernel_rfl⟩
theorem alA:cZ prog 66 2 2:=⟨λa w=>by kernel_rfl⟩
theorem alB:cZ prog 66 3 3:=⟨λa w=>by kernel_rfl⟩
theorem alC:cZ prog 66 4 4:=⟨λa w=>by kernel_rfl⟩
theorem alD:cu prog 66 0 0 1 false:=cE underlying66 (by kernel_rfl) ty3 (by decide)
theorem alF:cu prog 66 1 1 1 false:=cE underlying66 (by kernel_rfl) ty3 (by decide)
theorem alG:cu prog 66 2 2 1 false:=cE underlying66 (by kernel_rfl) ty4 (by decide)
theorem alH:cu prog 66 3 3 1 false:=cE underlying66 (by kernel_rfl) ahZ (by decide)
theorem alI:cu prog 66 4 4 1 false:=cE underlying66 (by kernel_rfl) afR (by decide)
theorem ty69:TyS prog 69 1 false:=⟨sizeOf69,isAgg69⟩
theorem ty75:TyS prog 75 3 true:=⟨sizeOf75,isAgg75⟩
theorem aq7:iP prog 75 [zI0,zI0,zS0] [(0,1),(1,1),(2,1)]:=kL zeroValue75 underlying75 (λw=>by kernel_rfl)
theorem alJ:cZ prog 75 0 0:=⟨λa w=>by kernel_rfl⟩
theorem alK:cZ prog 75 1 1:=⟨λa w=>by kernel_rfl⟩
theorem alL:cZ prog 75 2 2:=⟨λa w=>by kernel_rfl⟩
theorem alM:cu prog 75 0 0 1 false:=cE underlying75 (by kernel_rfl) ty3 (by decide)
theorem alN:cu prog 75 1 1 1 false:=cE underlying75 (by kernel_rfl) ty3 (by decide)
theorem alO:cu prog 75 2 2 1 true:=cE underlying75 (by kernel_rfl) ahY (by decide)
theorem ty79:TyS prog 79 1 false:=⟨sizeOf79,isAgg79⟩
theorem sl79:SlS prog 79 23 1:=⟨underlying79,sizeOf23⟩
theorem aq8:oR prog 79 23 1 24:=⟨underlying79,(by obtain⟨i,h1,h2,h3,h4⟩:=info_parts (by kernel_rfl:(prog.info? 23).map (λi=>(i.zero,i.size,i.bytes))=some (some (zS0),1,24));exact⟨i,_,h1,h2,h3,h4,rfl⟩),by decide⟩
theorem aq9:nX prog 79 23 1 [zS0]:=⟨underlying79,sizeOf23,am5,rfl⟩
theorem ty83:TyS prog 83 2 true:=⟨sizeOf83,isAgg83⟩
theorem ara:iP prog 83 [zS0,zI0] [(0,1),(1,1)]:=kL zeroValue83 underlying83 (λw=>by kernel_rfl)
theorem alP:cZ prog 83 0 0:=⟨λa w=>by kernel_rfl⟩
theorem alQ:cZ prog 83 1 1:=⟨λa w=>by kernel_rfl⟩
theorem alR:cu prog 83 0 0 1 false:=cE underlying83 (by kernel_rfl) ahU (by decide)
theorem alS:cu prog 83 1 1 1 false:=cE underlying83 (by kernel_rfl) ty3 (by decide)
theorem ty84:TyS prog 84 1 false:=⟨sizeOf84,isAgg84⟩
theorem ty86:TyS prog 86 5 true:=⟨sizeOf86,isAgg86⟩
theorem arb:iP prog 86 [zI0,zI0,zI0,zI0,zI0] [(0,1),(1,1),(2,1),(3,1),(4,1)]:=kL zeroValue86 underlying86 (λw=>by kernel_rfl)
theorem alT:cZ prog 86 0 0:=⟨λa w=>by kernel_rfl⟩
theorem alU:cZ prog 86 1 1:=⟨λa w=>by kernel_rfl⟩
theorem alV:cZ prog 86 2 2:=⟨λa w=>by kernel_rfl⟩
theorem alW:cZ prog 86 3 3:=⟨λa w=>by kernel_rfl⟩
theorem alX:cZ prog 86 4 4:=⟨λa w=>by kernel_rfl⟩
theorem alY:cu prog 86 0 0 1 false:=cE underlying86 (by kernel_rfl) ty3 (by decide)
theorem alZ:cu prog 86 1 1 1 false:=cE underlying86 (by kernel_rfl) ty3 (by decide)
theorem al0:cu prog 86 2 2 1 false:=cE underlying86 (by kernel_rfl) ty3 (by decide)
theorem al1:cu prog 86 3 3 1 false:=cE underlying86 (by kernel_rfl) ty3 (by decide)
theorem al2:cu prog 86 4 4 1 false:=cE underlying86 (by kernel_rfl) ty3 (by decide)
theorem arc(a0 b0:Int)(a1 b1:Int)(a2 b2:Int)(a3 b3:Int)(a4 b4:Int)(w:World):(Op.eqFields 9999 #[.int .i64 a0,.int .i64 a1,.int .i64 a2,.int .i64 a3,.int .i64 a4] #[.int .i64 b0,.int .i64 b1,.int .i64 b2,.int .i64 b3,.int .i64 b4] (prog.fieldsOf 86).toList).run prog w=.ok (decide (a0=b0)&&(decide (a1=b1)&&(decide (a2=b2)&&(decide (a3=b3)&&(decide (a4=b4)&&true))))) w:=by
 have hf:(prog.fieldsOf 86).toList.map (λf=>(f.name== "_",f.type,f.offset))=[(false,3,0),(false,3,1),(false,3,2),(false,3,3),(false,3,4)]:=by kernel_rfl
 have q:(Op.eqFields 9999 #[.int .i64 a0,.int .i64 a1,.int .i64 a2,.int .i64 a3,.int .i64 a4] #[.int .i64 b0,.int .i64 b1,.int .i64 b2,.int .i64 b3,.int .i64 b4] (prog.fieldsOf 86).toList).run prog w=.ok (decide (a0=b0)&&(decide (a1=b1)&&(decide (a2=b2)&&(decide (a3=b3)&&(decide (a4=b4)&&true))))) w:=by
  obtain⟨f0,t0,e0,h0,hf⟩:=fS hf
  obtain⟨f1,t1,e1,h1,hf⟩:=fS hf
  obtain⟨f2,t2,e2,h2,hf⟩:=fS hf
  obtain⟨f3,t3,e3,h3,hf⟩:=fS hf
  obtain⟨f4,t4,e4,h4,hf⟩:=fS hf
  rw[e0,e1,e2,e3,e4,uL hf]
  exact mc h0 isAgg3 underlying3 rfl rfl (mc h1 isAgg3 underlying3 rfl rfl (mc h2 isAgg3 underlying3 rfl rfl (mc h3 isAgg3 underlying3 rfl rfl (mc h4 isAgg3 underlying3 rfl rfl (zy)))))
 exact q
theorem ah0(x y:Operand)(a0 b0:Int)(a1 b1:Int)(a2 b2:Int)(a3 b3:Int)(a4 b4:Int)(w:World):(do eqGuard .neq 86 x y (.agg #[.int .i64 a0,.int .i64 a1,.int .i64 a2,.int .i64 a3,.int .i64 a4]) (.agg #[.int .i64 b0,.int .i64 b1,.int .i64 b2,.int .i64 b3,.int .i64 b4]);binOp .neq 86 (.agg #[.int .i64 a0,.int .i64 a1,.int .i64 a2,.int .i64 a3,.int .i64 a4]) (.agg #[.int .i64 b0,.int .i64 b1,.int .i64 b2,.int .i64 b3,.int .i64 b4]):Sem Value).run prog w=.ok (.bool (!(decide (a0=b0)&&(decide (a1=b1)&&(decide (a2=b2)&&(decide (a3=b3)&&(decide (a4=b4)&&true))))))) w:=zz _ _ _ x y (by kernel_rfl) (by kernel_rfl) (by kernel_rfl) (arc a0 b0 a1 b1 a2 b2 a3 b3 a4 b4 w)
theorem anz:TyS prog 91 3 true:=⟨sizeOf91,isAgg91⟩
theorem ard:iP prog 91 [zI0,zI0,zI0] [(0,1),(1,1),(2,1)]:=kL zeroValue91 underlying91 (λw=>by kernel_rfl)
theorem al3:cZ prog 91 0 0:=⟨λa w=>by kernel_rfl⟩
theorem al4:cZ prog 91 1 1:=⟨λa w=>by kernel_rfl⟩
theorem al5:cZ prog 91 2 2:=⟨λa w=>by kernel_rfl⟩
theorem al6:cu prog 91 0 0 1 false:=cE underlying91 (by kernel_rfl) ty3 (by decide)
theorem al7:cu prog 91 1 1 1 false:=cE underlying91 (by kernel_rfl) ty3 (by decide)
theorem al8:cu prog 91 2 2 1 false:=cE underlying91 (by kernel_rfl) ty3 (by decide)
theorem arf(a0 b0:Int)(a1 b1:Int)(a2 b2:Int)(w:World):(Op.eqFields 9999 #[.int .i64 a0,.int .i64 a1,.int .i64 a2] #[.int .i64 b0,.int .i64 b1,.int .i64 b2] (prog.fieldsOf 91).toList).run prog w=.ok (decide (a0=b0)&&(decide (a1=b1)&&(decide (a2=b2)&&true))) w:=by
 have hf:(prog.fieldsOf 91).toList.map (λf=>(f.name== "_",f.type,f.offset))=[(false,3,0),(false,3,1),(false,3,2)]:=by kernel_rfl
 have q:(Op.eqFields 9999 #[.int .i64 a0,.int .i64 a1,.int .i64 a2] #[.int .i64 b0,.int .i64 b1,.int .i64 b2] (prog.fieldsOf 91).toList).run prog w=.ok (decide (a0=b0)&&(decide (a1=b1)&&(decide (a2=b2)&&true))) w:=by
  obtain⟨f0,t0,e0,h0,hf⟩:=fS hf
  obtain⟨f1,t1,e1,h1,hf⟩:=fS hf
  obtain⟨f2,t2,e2,h2,hf⟩:=fS hf
  rw[e0,e1,e2,uL hf]
  exact mc h0 isAgg3 underlying3 rfl rfl (mc h1 isAgg3 underlying3 rfl rfl (mc h2 isAgg3 underlying3 rfl rfl (zy)))
 exact q
theorem aaB(x y:Operand)(a0 b0:Int)(a1 b1:Int)(a2 b2:Int)(w:World):(do eqGuard .neq 91 x y (.agg #[.int .i64 a0,.int .i64 a1,.int .i64 a2]) (.agg #[.int .i64 b0,.int .i64 b1,.int .i64 b2]);binOp .neq 91 (.agg #[.int .i64 a0,.int .i64 a1,.int .i64 a2]) (.agg #[.int .i64 b0,.int .i64 b1,.int .i64 b2]):Sem Value).run prog w=.ok (.bool (!(decide (a0=b0)&&(decide (a1=b1)&&(decide (a2=b2)&&true))))) w:=zz _ _ _ x y (by kernel_rfl) (by kernel_rfl) (by kernel_rfl) (arf a0 b0 a1 b1 a2 b2 w)
theorem ty93:TyS prog 93 2 true:=⟨sizeOf93,isAgg93⟩
theorem arh:iP prog 93 [zI0,.bool false] [(0,1),(1,1)]:=kL zeroValue93 underlying93 (λw=>by kernel_rfl)
theorem al9:cZ prog 93 0 0:=⟨λa w=>by kernel_rfl⟩
theorem ama:cZ prog 93 1 1:=⟨λa w=>by kernel_rfl⟩
theorem amb:cu prog 93 0 0 1 false:=cE underlying93 (by kernel_rfl) ty3 (by decide)
theorem amc:cu prog 93 1 1 1 false:=cE underlying93 (by kernel_rfl) ty4 (by decide)
theorem ari(a0 b0:Int)(a1 b1:Bool)(w:World):(Op.eqFields 9999 #[.int .i64 a0,.bool a1] #[.int .i64 b0,.bool b1] (prog.fieldsOf 93).toList).run prog w=.ok (decide (a0=b0)&&((a1==b1)&&true)) w:=by
 have hf:(prog.fieldsOf 93).toList.map (λf=>(f.name== "_",f.type,f.offset))=[(false,3,0),(false,4,1)]:=by kernel_rfl
 have q:(Op.eqFields 9999 #[.int .i64 a0,.bool a1] #[.int .i64 b0,.bool b1] (prog.fieldsOf 93).toList).run prog w=.ok (decide (a0=b0)&&((a1==b1)&&true)) w:=by
  obtain⟨f0,t0,e0,h0,hf⟩:=fS hf
  obtain⟨f1,t1,e1,h1,hf⟩:=fS hf
  rw[e0,e1,uL hf]
  exact mc h0 isAgg3 underlying3 rfl rfl (ahR h1 isAgg4 underlying4 rfl rfl (zy))
 exact q
theorem ah1(x y:Operand)(a0 b0:Int)(a1 b1:Bool)(w:World):(do eqGuard .neq 93 x y (.agg #[.int .i64 a0,.bool a1]) (.agg #[.int .i64 b0,.bool b1]);binOp .neq 93 (.agg #[.int .i64 a0,.bool a1]) (.agg #[.int .i64 b0,.bool b1]):Sem Value).run prog w=.ok (.bool (!(decide (a0=b0)&&((a1==b1)&&true)))) w:=zz _ _ _ x y (by kernel_rfl) (by kernel_rfl) (by kernel_rfl) (ari a0 b0 a1 b1 w)
theorem ty94:TyS prog 94 1 false:=⟨sizeOf94,isAgg94⟩
theorem ty97:TyS prog 97 3 true:=⟨sizeOf97,isAgg97⟩
theorem arj:iP prog 97 [zS0,zS0,zS0] [(0,3)]:=kL zeroValue97 underlying97 (λw=>by kernel_rfl)
theorem amd:cZ prog 97 0 0:=⟨λa w=>by kernel_rfl⟩
theorem ame:cu prog 97 0 0 3 true:=cE underlying97 (by kernel_rfl) anu (by decide)
theorem ty98:TyS prog 98 1 false:=⟨sizeOf98,isAgg98⟩
theorem sl98:SlS prog 98 1 1:=⟨underlying98,sizeOf1⟩
theorem ark:oR prog 98 1 1 8:=⟨underlying98,(by obtain⟨i,h1,h2,h3,h4⟩:=info_parts (by kernel_rfl:(prog.info? 1).map (λi=>(i.zero,i.size,i.bytes))=some (some (.nilFunc),1,8));exact⟨i,_,h1,h2,h3,h4,rfl⟩),by decide⟩
theorem arl:nX prog 98 1 1 [.nilFunc]:=⟨underlying98,sizeOf1,ze1,rfl⟩
theorem arn:TyS prog 105 3 true:=⟨sizeOf105,isAgg105⟩
theorem anA:iP prog 105 [zI0,zI0,zI0] [(0,1),(1,1),(2,1)]:=kL zeroValue105 underlying105 (λw=>by kernel_rfl)
theorem ah2:cZ prog 105 0 0:=⟨λa w=>by kernel_rfl⟩
theorem ah3:cZ prog 105 1 1:=⟨λa w=>by kernel_rfl⟩
theorem ah4:cZ prog 105 2 2:=⟨λa w=>by kernel_rfl⟩
theorem ah5:cu prog 105 0 0 1 false:=cE underlying105 (by kernel_rfl) ty3 (by decide)
theorem ah6:cu prog 105 1 1 1 false:=cE underlying105 (by kernel_rfl) ty3 (by decide)
theorem ah7:cu prog 105 2 2 1 false:=cE underlying105 (by kernel_rfl) ty3 (by decide)
theorem anB(a0 b0:Int)(a1 b1:Int)(a2 b2:Int)(w:World):(Op.eqFields 9999 #[.int .i64 a0,.int .i64 a1,.int .i64 a2] #[.int .i64 b0,.int .i64 b1,.int .i64 b2] (prog.fieldsOf 105).toList).run prog w=.ok (decide (a0=b0)&&(decide (a1=b1)&&(decide (a2=b2)&&true))) w:=by
 have hf:(prog.fieldsOf 105).toList.map (λf=>(f.name== "_",f.type,f.offset))=[(false,3,0),(false,3,1),(false,3,2)]:=by kernel_rfl
 have q:(Op.eqFields 9999 #[.int .i64 a0,.int .i64 a1,.int .i64 a2] #[.int .i64 b0,.int .i64 b1,.int .i64 b2] (prog.fieldsOf 105).toList).run prog w=.ok (decide (a0=b0)&&(decide (a1=b1)&&(decide (a2=b2)&&true))) w:=by
  obtain⟨f0,t0,e0,h0,hf⟩:=fS hf
  obtain⟨f1,t1,e1,h1,hf⟩:=fS hf
  obtain⟨f2,t2,e2,h2,hf⟩:=fS hf
  rw[e0,e1,e2,uL hf]
  exact mc h0 isAgg3 underlying3 rfl rfl (mc h1 isAgg3 underlying3 rfl rfl (mc h2 isAgg3 underlying3 rfl rfl (zy)))
 exact q
theorem acT(x y:Operand)(a0 b0:Int)(a1 b1:Int)(a2 b2:Int)(w:World):(do eqGuard .neq 105 x y (.agg #[.int .i64 a0,.int .i64 a1,.int .i64 a2]) (.agg #[.int .i64 b0,.int .i64 b1,.int .i64 b2]);binOp .neq 105 (.agg #[.int .i64 a0,.int .i64 a1,.int .i64 a2]) (.agg #[.int .i64 b0,.int .i64 b1,.int .i64 b2]):Sem Value).run prog w=.ok (.bool (!(decide (a0=b0)&&(decide (a1=b1)&&(decide (a2=b2)&&true))))) w:=zz _ _ _ x y (by kernel_rfl) (by kernel_rfl) (by kernel_rfl) (anB a0 b0 a1 b1 a2 b2 w)
theorem aro:TyS prog 113 1 false:=⟨sizeOf113,isAgg113⟩
theorem arp:TyS prog 121 1 false:=⟨sizeOf121,isAgg121⟩
theorem arq:TyS prog 129 2 true:=⟨sizeOf129,isAgg129⟩
theorem anC:iP prog 129 [zI0,zI0] [(0,1),(1,1)]:=kL zeroValue129 underlying129 (λw=>by kernel_rfl)
theorem ah8:cZ prog 129 0 0:=⟨λa w=>by kernel_rfl⟩
theorem ah9:cZ prog 129 1 1:=⟨λa w=>by kernel_rfl⟩
theorem aia:cu prog 129 0 0 1 false:=cE underlying129 (by kernel_rfl) ty3 (by decide)
theorem aib:cu prog 129 1 1 1 false:=cE underlying129 (by kernel_rfl) ty3 (by decide)
theorem ars:TyS prog 132 1 false:=⟨sizeOf132,isAgg132⟩
theorem art:TyS prog 133 1 false:=⟨sizeOf133,isAgg133⟩
theorem aru:TyS prog 150 1 false:=⟨sizeOf150,isAgg150⟩
theorem arv:TyS prog 152 1 false:=⟨sizeOf152,isAgg152⟩
theorem arw:TyS prog 154 1 false:=⟨sizeOf154,isAgg154⟩
theorem arx:TyS prog 155 1 false:=⟨sizeOf155,isAgg155⟩
theorem ary:TyS prog 158 1 false:=⟨sizeOf158,isAgg158⟩
theorem arz:TyS prog 161 1 false:=⟨sizeOf161,isAgg161⟩
theorem arA:SlS prog 161 164 4:=⟨underlying161,sizeOf164⟩
theorem anD:oR prog 161 164 4 32:=⟨underlying161,(by obtain⟨i,h1,h2,h3,h4⟩:=info_parts (by kernel_rfl:(prog.info? 164).map (λi=>(i.zero,i.size,i.bytes))=some (some (.agg #[zI0,zI0,zI0,zI0]),4,32));exact⟨i,_,h1,h2,h3,h4,rfl⟩),by decide⟩
theorem anE:nX prog 161 164 4 [zI0,zI0,zI0,zI0]:=⟨underlying161,sizeOf164,ajq,rfl⟩
theorem arB:TyS prog 164 4 true:=⟨sizeOf164,isAgg164⟩
theorem anF:iP prog 164 [zI0,zI0,zI0,zI0] [(0,1),(1,3)]:=kL zeroValue164 underlying164 (λw=>by kernel_rfl)
theorem aic:cZ prog 164 0 0:=⟨λa w=>by kernel_rfl⟩
theorem aid:cZ prog 164 1 1:=⟨λa w=>by kernel_rfl⟩
theorem aie:cu prog 164 0 0 1 false:=cE underlying164 (by kernel_rfl) ty3 (by decide)
theorem aif:cu prog 164 1 1 3 true:=cE underlying164 (by kernel_rfl) anz (by decide)
theorem arC:TyS prog 165 1 false:=⟨sizeOf165,isAgg165⟩
theorem arD:TyS prog 178 1 false:=⟨sizeOf178,isAgg178⟩
theorem arE:TyS prog 182 1 false:=⟨sizeOf182,isAgg182⟩
theorem arF:TyS prog 187 1 false:=⟨sizeOf187,isAgg187⟩
theorem ajr:TyS prog 189 1 false:=⟨sizeOf189,isAgg189⟩
theorem arG:SlS prog 189 5 1:=⟨underlying189,sizeOf5⟩
theorem anG:oR prog 189 5 1 1:=⟨underlying189,(by obtain⟨i,h1,h2,h3,h4⟩:=info_parts (by kernel_rfl:(prog.info? 5).map (λi=>(i.zero,i.size,i.bytes))=some (some (.int .u8 0),1,1));exact⟨i,_,h1,h2,h3,h4,rfl⟩),by decide⟩
theorem anH:nX prog 189 5 1 [.int .u8 0]:=⟨underlying189,sizeOf5,ze5,rfl⟩
theorem arH:TyS prog 193 1 false:=⟨sizeOf193,isAgg193⟩
theorem arI:TyS prog 201 1 false:=⟨sizeOf201,isAgg201⟩
theorem arJ:TyS prog 203 1 false:=⟨sizeOf203,isAgg203⟩
theorem ajs:TyS prog 208 2 true:=⟨sizeOf208,isAgg208⟩
theorem anI:iP prog 208 [zS0,zI0] [(0,1),(1,1)]:=kL zeroValue208 underlying208 (λw=>by kernel_rfl)
theorem aih:cZ prog 208 0 0:=⟨λa w=>by kernel_rfl⟩
theorem aii:cZ prog 208 1 1:=⟨λa w=>by kernel_rfl⟩
theorem aij:cu prog 208 0 0 1 false:=cE underlying208 (by kernel_rfl) ajr (by decide)
theorem aik:cu prog 208 1 1 1 false:=cE underlying208 (by kernel_rfl) ty3 (by decide)
theorem arK:TyS prog 221 2 true:=⟨sizeOf221,isAgg221⟩
theorem anJ:iP prog 221 [zS0,zI0] [(0,2)]:=kL zeroValue221 underlying221 (λw=>by kernel_rfl)
theorem ail:cZ prog 221 0 0:=⟨λa w=>by kernel_rfl⟩
theorem aim:cu prog 221 0 0 2 true:=cE underlying221 (by kernel_rfl) ajs (by decide)
theorem arL:TyS prog 231 1 false:=⟨sizeOf231,isAgg231⟩
theorem arM:TyS prog 235 1 false:=⟨sizeOf235,isAgg235⟩
end Go.Proofs.YtjdopimopgpagaaGreat
