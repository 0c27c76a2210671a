/- The types of this translation, as the rules want xg. No condition. -/
import Derived.Test.YtmnbolcmepihlaaGreatAB
import Derived.Test.YtmnbolcmepihlaaGreatRows
import Derived.OwnWalk
namespace Go.Proofs.YtmnbolcmepihlaaGreat
set_option linter.all false
abbrev zI0:Value:=.int .i64 0
abbrev zS0:Value:=.slice none 0 0
open Go Go.Proofs.Tryz
set_option maxRecDepth 100000
abbrev Zr(i:Nat)(c:List Value):Prop:=∀w,∃z,(zeroValue i).run prog w=.ok z w∧z.cells=c.toArray
theorem hmix:prog.follows .mixedOrders=true:=by kernel_rfl
theorem ze2:Zr 2 [zI0]:=λw=>⟨_,zeroValue2 w,rfl⟩
theorem ze3:Zr 3 [zI0]:=λw=>⟨_,zeroValue3 w,rfl⟩
theorem ze4:Zr 4 [.bool false]:=λw=>⟨_,zeroValue4 w,rfl⟩
theorem ze5:Zr 5 [.int .u8 0]:=λw=>⟨_,zeroValue5 w,rfl⟩
theorem ze6:Zr 6 [.int .u8 0]:=λw=>⟨_,zeroValue6 w,rfl⟩
theorem ze7:Zr 7 [zI0,zI0,.bool false,.int .u8 0]:=λw=>⟨_,zeroValue7 w,rfl⟩
theorem ze8:Zr 8 [zI0,zI0,.bool false,.int .u8 0]:=λw=>⟨_,zeroValue8 w,rfl⟩
theorem ze9:Zr 9 [.string ⟨#[]⟩]:=λw=>⟨_,zeroValue9 w,rfl⟩
theorem ze10:Zr 10 [.string ⟨#[]⟩]:=λw=>⟨_,zeroValue10 w,rfl⟩
theorem ze11:Zr 11 [.string ⟨#[]⟩]:=λw=>⟨_,zeroValue11 w,rfl⟩
theorem ze12:Zr 12 [.int .u64 0]:=λw=>⟨_,zeroValue12 w,rfl⟩
theorem ze13:Zr 13 [.string ⟨#[]⟩,.int .u64 0]:=λw=>⟨_,zeroValue13 w,rfl⟩
theorem ze14:Zr 14 [.string ⟨#[]⟩,.int .u64 0]:=λw=>⟨_,zeroValue14 w,rfl⟩
theorem ze15:Zr 15 [.pointer none]:=λw=>⟨_,zeroValue15 w,rfl⟩
theorem ze16:Zr 16 [.pointer none]:=λw=>⟨_,zeroValue16 w,rfl⟩
theorem ze17:Zr 17 [.pointer none]:=λw=>⟨_,zeroValue17 w,rfl⟩
theorem ze18:Zr 18 [.pointer none]:=λw=>⟨_,zeroValue18 w,rfl⟩
theorem ze19:Zr 19 [.pointer none]:=λw=>⟨_,zeroValue19 w,rfl⟩
theorem ze21:Zr 21 [.int .i32 0]:=λw=>⟨_,zeroValue21 w,rfl⟩
theorem ze22:Zr 22 [zS0]:=λw=>⟨_,zeroValue22 w,rfl⟩
theorem ze23:Zr 23 [.pointer none]:=λw=>⟨_,zeroValue23 w,rfl⟩
theorem ze25:Zr 25 [zS0]:=λw=>⟨_,zeroValue25 w,rfl⟩
theorem ze26:Zr 26 [zS0]:=λw=>⟨_,zeroValue26 w,rfl⟩
theorem ze27:Zr 27 [zS0,zS0]:=λw=>⟨_,zeroValue27 w,rfl⟩
theorem ze28:Zr 28 [zS0,zS0]:=λw=>⟨_,zeroValue28 w,rfl⟩
theorem ze30:Zr 30 [zI0,.bool false]:=λw=>⟨_,zeroValue30 w,rfl⟩
theorem aiY:Zr 31 [zI0,.bool false]:=λw=>⟨_,zeroValue31 w,rfl⟩
theorem ze34:Zr 34 [zS0]:=λw=>⟨_,zeroValue34 w,rfl⟩
theorem ze35:Zr 35 [zI0,zS0]:=λw=>⟨_,zeroValue35 w,rfl⟩
theorem aiZ:Zr 36 [zI0,zS0]:=λw=>⟨_,zeroValue36 w,rfl⟩
theorem ze37:Zr 37 [zI0]:=λw=>⟨_,zeroValue37 w,rfl⟩
theorem ze46:Zr 46 [zS0]:=λw=>⟨_,zeroValue46 w,rfl⟩
theorem ze48:Zr 48 [zS0]:=λw=>⟨_,zeroValue48 w,rfl⟩
theorem ai0:Zr 52 [zI0,zS0,zI0]:=λw=>⟨_,zeroValue52 w,rfl⟩
theorem ze53:Zr 53 [zS0]:=λw=>⟨_,zeroValue53 w,rfl⟩
theorem ai1:Zr 60 [zI0,zI0,zI0]:=λw=>⟨_,zeroValue60 w,rfl⟩
theorem ai2:Zr 62 [zI0,zI0,zI0,zI0,zI0]:=λw=>⟨_,zeroValue62 w,rfl⟩
theorem ai3:Zr 84 [zI0,zI0]:=λw=>⟨_,zeroValue84 w,rfl⟩
theorem amf:Zr 103 [zS0,zI0]:=λw=>⟨_,zeroValue103 w,rfl⟩
theorem amg:Zr 105 [zS0]:=λw=>⟨_,zeroValue105 w,rfl⟩
theorem afJ:Zr 106 [zS0]:=λw=>⟨_,zeroValue106 w,rfl⟩
theorem amh:Zr 111 [zS0]:=λw=>⟨_,zeroValue111 w,rfl⟩
theorem ami:Zr 125 [.map none]:=λw=>⟨_,zeroValue125 w,rfl⟩
theorem amj:Zr 126 [.map none]:=λw=>⟨_,zeroValue126 w,rfl⟩
theorem afK:Zr 144 [.map none]:=λw=>⟨_,zeroValue144 w,rfl⟩
theorem amk:Zr 158 [.nilFunc]:=λw=>⟨_,zeroValue158 w,rfl⟩
theorem aml:Zr 161 [.pointer none]:=λw=>⟨_,zeroValue161 w,rfl⟩
theorem amm:Zr 162 [zS0]:=λw=>⟨_,zeroValue162 w,rfl⟩
theorem amn:Zr 163 [zS0]:=λw=>⟨_,zeroValue163 w,rfl⟩
theorem amo:Zr 165 [zS0,zS0,zS0]:=λw=>⟨_,zeroValue165 w,rfl⟩
theorem afL:Zr 166 [.map none]:=λw=>⟨_,zeroValue166 w,rfl⟩
theorem amp:Zr 169 [zI0,zI0]:=λw=>⟨_,zeroValue169 w,rfl⟩
theorem amq:Zr 172 [.nilFunc]:=λw=>⟨_,zeroValue172 w,rfl⟩
theorem afM:Zr 175 [zI0,zI0,zI0]:=λw=>⟨_,zeroValue175 w,rfl⟩
theorem amr:Zr 177 [.nilFunc]:=λw=>⟨_,zeroValue177 w,rfl⟩
theorem ams:Zr 178 [.int .u64 0]:=λw=>⟨_,zeroValue178 w,rfl⟩
theorem amt:Zr 182 [.nilFunc]:=λw=>⟨_,zeroValue182 w,rfl⟩
theorem amu:Zr 185 [.nilFunc]:=λw=>⟨_,zeroValue185 w,rfl⟩
theorem amv:Zr 187 [.nilFunc]:=λw=>⟨_,zeroValue187 w,rfl⟩
theorem amw:Zr 188 [.nilFunc]:=λw=>⟨_,zeroValue188 w,rfl⟩
theorem amx:Zr 190 [.nilFunc]:=λw=>⟨_,zeroValue190 w,rfl⟩
theorem amy:Zr 191 [.map none]:=λw=>⟨_,zeroValue191 w,rfl⟩
theorem amz:Zr 198 [.nilFunc]:=λw=>⟨_,zeroValue198 w,rfl⟩
theorem amA:Zr 245 [zI0]:=λw=>⟨_,zeroValue245 w,rfl⟩
theorem amB:Zr 252 [.int .u32 0]:=λw=>⟨_,zeroValue252 w,rfl⟩
theorem amC:Zr 254 [.int .u64 0]:=λw=>⟨_,zeroValue254 w,rfl⟩
theorem ty2:TyS prog 2 1 false:=⟨sizeOf2,isAgg2⟩
theorem ty3:TyS prog 3 1 false:=⟨sizeOf3,isAgg3⟩
theorem ty4:TyS prog 4 1 false:=⟨sizeOf4,isAgg4⟩
theorem ty5:TyS prog 5 1 false:=⟨sizeOf5,isAgg5⟩
theorem ty6:TyS prog 6 1 false:=⟨sizeOf6,isAgg6⟩
theorem ty7:TyS prog 7 4 true:=⟨sizeOf7,isAgg7⟩
theorem str7:gy prog 7 [zI0,zI0,.bool false,.int .u8 0] [(0,1),(1,1),(2,1),(3,1)]:=jE zeroValue7 underlying7 (λw=>by kernel_rfl)
theorem ai4:dz prog 7 0 0:=⟨λa w=>by kernel_rfl⟩
theorem ai5:dz prog 7 1 1:=⟨λa w=>by kernel_rfl⟩
theorem ai6:dz prog 7 2 2:=⟨λa w=>by kernel_rfl⟩
theorem ai7:dz prog 7 3 3:=⟨λa w=>by kernel_rfl⟩
theorem ai8:ct prog 7 0 0 1 false:=cQ underlying7 (by kernel_rfl) ty2 (by decide)
theorem ai9:ct prog 7 1 1 1 false:=cQ underlying7 (by kernel_rfl) ty3 (by decide)
theorem aja:ct prog 7 2 2 1 false:=cQ underlying7 (by kernel_rfl) ty4 (by decide)
theorem ajb:ct prog 7 3 3 1 false:=cQ underlying7 (by kernel_rfl) ty6 (by decide)
theorem ty8:TyS prog 8 4 true:=⟨sizeOf8,isAgg8⟩
theorem str8:gy prog 8 [zI0,zI0,.bool false,.int .u8 0] [(0,1),(1,1),(2,1),(3,1)]:=jE zeroValue8 underlying8 (λw=>by kernel_rfl)
theorem ajc:dz prog 8 0 0:=⟨λa w=>by kernel_rfl⟩
theorem ajd:dz prog 8 1 1:=⟨λa w=>by kernel_rfl⟩
theorem aje:dz prog 8 2 2:=⟨λa w=>by kernel_rfl⟩
theorem ajf:dz prog 8 3 3:=⟨λa w=>by kernel_rfl⟩
theorem ajg:ct prog 8 0 0 1 false:=cQ underlying8 (by kernel_rfl) ty2 (by decide)
theorem ajh:ct prog 8 1 1 1 false:=cQ underlying8 (by kernel_rfl) ty3 (by decide)
theorem aji:ct prog 8 2 2 1 false:=cQ underlying8 (by kernel_rfl) ty4 (by decide)
theorem ajj:ct prog 8 3 3 1 false:=cQ underlying8 (by kernel_rfl) ty6 (by decide)
theorem ty9:TyS prog 9 1 false:=⟨sizeOf9,isAgg9⟩
theorem ty10:TyS prog 10 1 false:=⟨sizeOf10,isAgg10⟩
theorem ty11:TyS prog 11 1 false:=⟨sizeOf11,isAgg11⟩
theorem ad4:TyS prog 12 1 false:=⟨sizeOf12,isAgg12⟩
theorem ty13:TyS prog 13 2 true:=⟨sizeOf13,isAgg13⟩
theorem amD:gy prog 13 [.string ⟨#[]⟩,.int .u64 0] [(0,1),(1,1)]:=jE zeroValue13 underlying13 (λw=>by kernel_rfl)
theorem agQ:dz prog 13 0 0:=⟨λa w=>by kernel_rfl⟩
theorem agR:dz prog 13 1 1:=⟨λa w=>by kernel_rfl⟩
theorem agS:ct prog 13 0 0 1 false:=cQ underlying13 (by kernel_rfl) ty9 (by decide)
theorem agT:ct prog 13 1 1 1 false:=cQ underlying13 (by kernel_rfl) ad4 (by decide)
theorem ty14:TyS prog 14 2 true:=⟨sizeOf14,isAgg14⟩
theorem amE:gy prog 14 [.string ⟨#[]⟩,.int .u64 0] [(0,1),(1,1)]:=jE zeroValue14 underlying14 (λw=>by kernel_rfl)
theorem agU:dz prog 14 0 0:=⟨λa w=>by kernel_rfl⟩
theorem agV:dz prog 14 1 1:=⟨λa w=>by kernel_rfl⟩
theorem agW:ct prog 14 0 0 1 false:=cQ underlying14 (by kernel_rfl) ty9 (by decide)
theorem agX:ct prog 14 1 1 1 false:=cQ underlying14 (by kernel_rfl) ad4 (by decide)
theorem ty15:TyS prog 15 1 false:=⟨sizeOf15,isAgg15⟩
theorem ty16:TyS prog 16 1 false:=⟨sizeOf16,isAgg16⟩
theorem ad5:TyS prog 17 1 false:=⟨sizeOf17,isAgg17⟩
theorem ty18:TyS prog 18 1 true:=⟨sizeOf18,isAgg18⟩
theorem amF:gy prog 18 [.pointer none] [(0,1)]:=jE zeroValue18 underlying18 (λw=>by kernel_rfl)
theorem agY:dz prog 18 0 0:=⟨λa w=>by kernel_rfl⟩
theorem agZ:ct prog 18 0 0 1 false:=cQ underlying18 (by kernel_rfl) ad5 (by decide)
theorem ty19:TyS prog 19 1 true:=⟨sizeOf19,isAgg19⟩
theorem amG:gy prog 19 [.pointer none] [(0,1)]:=jE zeroValue19 underlying19 (λw=>by kernel_rfl)
theorem ag0:dz prog 19 0 0:=⟨λa w=>by kernel_rfl⟩
theorem ag1:ct prog 19 0 0 1 false:=cQ underlying19 (by kernel_rfl) ad5 (by decide)
theorem ty21:TyS prog 21 1 false:=⟨sizeOf21,isAgg21⟩
theorem ad6:TyS prog 22 1 false:=⟨sizeOf22,isAgg22⟩
theorem sl22:SlS prog 22 3 1:=⟨underlying22,sizeOf3⟩
theorem afN:fV prog 22 3 1 8:=⟨underlying22,(by obtain⟨i,h1,h2,h3,h4⟩:=info_parts (by kernel_rfl:(prog.info? 3).map (λi=>(i.zero,i.size,i.bytes))=some (some (zI0),1,8));exact⟨i,_,h1,h2,h3,h4,rfl⟩),by decide⟩
theorem amH:gU prog 22 3 1 [zI0]:=⟨underlying22,sizeOf3,ze3,rfl⟩
theorem ty23:TyS prog 23 1 false:=⟨sizeOf23,isAgg23⟩
theorem ad7:TyS prog 25 1 false:=⟨sizeOf25,isAgg25⟩
theorem sl25:SlS prog 25 31 2:=⟨underlying25,sizeOf31⟩
theorem amI:fV prog 25 31 2 16:=⟨underlying25,(by obtain⟨i,h1,h2,h3,h4⟩:=info_parts (by kernel_rfl:(prog.info? 31).map (λi=>(i.zero,i.size,i.bytes))=some (some (.agg #[zI0,.bool false]),2,16));exact⟨i,_,h1,h2,h3,h4,rfl⟩),by decide⟩
theorem amJ:gU prog 25 31 2 [zI0,.bool false]:=⟨underlying25,sizeOf31,aiY,rfl⟩
theorem ad8:TyS prog 26 1 false:=⟨sizeOf26,isAgg26⟩
theorem sl26:SlS prog 26 62 5:=⟨underlying26,sizeOf62⟩
theorem amK:fV prog 26 62 5 40:=⟨underlying26,(by obtain⟨i,h1,h2,h3,h4⟩:=info_parts (by kernel_rfl:(prog.info? 62).map (λi=>(i.zero,i.size,i.bytes))=some (some (.agg #[zI0,zI0,zI0,zI0,zI0]),5,40));exact⟨i,_,h1,h2,h3,h4,rfl⟩),by decide⟩
theorem amL:gU prog 26 62 5 [zI0,zI0,zI0,zI0,zI0]:=⟨underlying26,sizeOf62,ai2,rfl⟩
theorem ty27:TyS prog 27 2 true:=⟨sizeOf27,isAgg27⟩
theorem amM:gy prog 27 [zS0,zS0] [(0,1),(1,1)]:=jE zeroValue27 underlying27 (λw=>by kernel_rfl)
theorem ag3:dz prog 27 0 0:=⟨λa w=>by kernel_rfl⟩
theorem ag4:dz prog 27 1 1:=⟨λa w=>by kernel_rfl⟩
theorem ag5:ct prog 27 0 0 1 false:=cQ underlying27 (by kernel_rfl) ad7 (by decide)
theorem ag6:ct prog 27 1 1 1 false:=cQ underlying27 (by kernel_rfl) ad8 (by decide)
theorem ty28:TyS prog 28 2 true:=⟨sizeOf28,isAgg28⟩
theorem amN:gy prog 28 [zS0,zS0] [(0,1),(1,1)]:=jE zeroValue28 underlying28 (λw=>by kernel_rfl)
theorem ag7:dz prog 28 0 0:=⟨λa w=>by kernel_rfl⟩
theorem ag8:dz prog 28 1 1:=⟨λa w=>by kernel_rfl⟩
theorem ag9:ct prog 28 0 0 1 false:=cQ underlying28 (by kernel_rfl) ad7 (by decide)
theorem aha:ct prog 28 1 1 1 false:=cQ underlying28 (by kernel_rfl) ad8 (by decide)
theorem ty30:TyS prog 30 2 true:=⟨sizeOf30,isAgg30⟩
theorem amO:gy prog 30 [zI0,.bool false] [(0,1),(1,1)]:=jE zeroValue30 underlying30 (λw=>by kernel_rfl)
theorem ahb:dz prog 30 0 0:=⟨λa w=>by kernel_rfl⟩
theorem ahc:dz prog 30 1 1:=⟨λa w=>by kernel_rfl⟩
theorem ahd:ct prog 30 0 0 1 false:=cQ underlying30 (by kernel_rfl) ty3 (by decide)
theorem ahe:ct prog 30 1 1 1 false:=cQ underlying30 (by kernel_rfl) ty4 (by decide)
theorem ty31:TyS prog 31 2 true:=⟨sizeOf31,isAgg31⟩
theorem amP:gy prog 31 [zI0,.bool false] [(0,1),(1,1)]:=jE zeroValue31 underlying31 (λw=>by kernel_rfl)
theorem ahf:dz prog 31 0 0:=⟨λa w=>by kernel_rfl⟩
theorem ahg:dz prog 31 1 1:=⟨λa w=>by kernel_rfl⟩
theorem ahh:ct prog 31 0 0 1 false:=cQ underlying31 (by kernel_rfl) ty3 (by decide)
theorem ahi:ct prog 31 1 1 1 false:=cQ underlying31 (by kernel_rfl) ty4 (by decide)
theorem ad9:TyS prog 34 1 false:=⟨sizeOf34,isAgg34⟩
theorem sl34:SlS prog 34 84 2:=⟨underlying34,sizeOf84⟩
theorem amQ:fV prog 34 84 2 16:=⟨underlying34,(by obtain⟨i,h1,h2,h3,h4⟩:=info_parts (by kernel_rfl:(prog.info? 84).map (λi=>(i.zero,i.size,i.bytes))=some (some (.agg #[zI0,zI0]),2,16));exact⟨i,_,h1,h2,h3,h4,rfl⟩),by decide⟩
theorem amR:gU prog 34 84 2 [zI0,zI0]:=⟨underlying34,sizeOf84,ai3,rfl⟩
theorem ty35:TyS prog 35 2 true:=⟨sizeOf35,isAgg35⟩
theorem amS:gy prog 35 [zI0,zS0] [(0,1),(1,1)]:=jE zeroValue35 underlying35 (λw=>by kernel_rfl)
theorem ahj:dz prog 35 0 0:=⟨λa w=>by kernel_rfl⟩
theorem ahk:dz prog 35 1 1:=⟨λa w=>by kernel_rfl⟩
theorem ahl:ct prog 35 0 0 1 false:=cQ underlying35 (by kernel_rfl) ty3 (by decide)
theorem ahm:ct prog 35 1 1 1 false:=cQ underlying35 (by kernel_rfl) ad9 (by decide)
theorem ty36:TyS prog 36 2 true:=⟨sizeOf36,isAgg36⟩
theorem amT:gy prog 36 [zI0,zS0] [(0,1),(1,1)]:=jE zeroValue36 underlying36 (λw=>by kernel_rfl)
theorem ahn:dz prog 36 0 0:=⟨λa w=>by kernel_rfl⟩
theorem aho:dz prog 36 1 1:=⟨λa w=>by kernel_rfl⟩
theorem ahp:ct prog 36 0 0 1 false:=cQ underlying36 (by kernel_rfl) ty3 (by decide)
theorem ahq:ct prog 36 1 1 1 false:=cQ underlying36 (by kernel_rfl) ad9 (by decide)
theorem ty37:TyS prog 37 1 false:=⟨sizeOf37,isAgg37⟩
theorem ty46:TyS prog 46 1 false:=⟨sizeOf46,isAgg46⟩
theorem sl46:SlS prog 46 52 3:=⟨underlying46,sizeOf52⟩
theorem amU:fV prog 46 52 3 40:=⟨underlying46,(by obtain⟨i,h1,h2,h3,h4⟩:=info_parts (by kernel_rfl:(prog.info? 52).map (λi=>(i.zero,i.size,i.bytes))=some (some (.agg #[zI0,zS0,zI0]),3,40));exact⟨i,_,h1,h2,h3,h4,rfl⟩),by decide⟩
theorem amV:gU prog 46 52 3 [zI0,zS0,zI0]:=⟨underlying46,sizeOf52,ai0,rfl⟩
theorem ty48:TyS prog 48 1 false:=⟨sizeOf48,isAgg48⟩
theorem sl48:SlS prog 48 36 2:=⟨underlying48,sizeOf36⟩
theorem afO:fV prog 48 36 2 32:=⟨underlying48,(by obtain⟨i,h1,h2,h3,h4⟩:=info_parts (by kernel_rfl:(prog.info? 36).map (λi=>(i.zero,i.size,i.bytes))=some (some (.agg #[zI0,zS0]),2,32));exact⟨i,_,h1,h2,h3,h4,rfl⟩),by decide⟩
theorem afP:gU prog 48 36 2 [zI0,zS0]:=⟨underlying48,sizeOf36,aiZ,rfl⟩
theorem ty52:TyS prog 52 3 true:=⟨sizeOf52,isAgg52⟩
theorem amW:gy prog 52 [zI0,zS0,zI0] [(0,1),(1,1),(2,1)]:=jE zeroValue52 underlying52 (λw=>by kernel_rfl)
theorem ahr:dz prog 52 0 0:=⟨λa w=>by kernel_rfl⟩
theorem ahs:dz prog 52 1 1:=⟨λa w=>by kernel_rfl⟩
theorem aht:dz prog 52 2 2:=⟨λa w=>by kernel_rfl⟩
theorem ahu:ct prog 52 0 0 1 false:=cQ underlying52 (by kernel_rfl) ty3 (by decide)
theorem ahv:ct prog 52 1 1 1 false:=cQ underlying52 (by kernel_rfl) ad6 (by decide)
theorem ahw:ct prog 52 2 2 1 false:=cQ underlying52 (by kernel_rfl) ty3 (by decide)
theorem ty53:TyS prog 53 1 false:=⟨sizeOf53,isAgg53⟩
theorem sl53:SlS prog 53 60 3:=⟨underlying53,sizeOf60⟩
theorem amX:fV prog 53 60 3 24:=⟨underlying53,(by obtain⟨i,h1,h2,h3,h4⟩:=info_parts (by kernel_rfl:(prog.info? 60).map (λi=>(i.zero,i.size,i.bytes))=some (some (.agg #[zI0,zI0,zI0]),3,24));exact⟨i,_,h1,h2,h3,h4,rfl⟩),by decide⟩
theorem amY:gU prog 53 60 3 [zI0,zI0,zI0]:=⟨underlying53,sizeOf60,ai1,rfl⟩
theorem ty60:TyS prog 60 3 true:=⟨sizeOf60,isAgg60⟩
theorem amZ:gy prog 60 [zI0,zI0,zI0] [(0,1),(1,1),(2,1)]:=jE zeroValue60 underlying60 (λw=>by kernel_rfl)
theorem ahx:dz prog 60 0 0:=⟨λa w=>by kernel_rfl⟩
theorem ahy:dz prog 60 1 1:=⟨λa w=>by kernel_rfl⟩
theorem ahz:dz prog 60 2 2:=⟨λa w=>by kernel_rfl⟩
theorem ahA:ct prog 60 0 0 1 false:=cQ underlying60 (by kernel_rfl) ty3 (by decide)
theorem ahB:ct prog 60 1 1 1 false:=cQ underlying60 (by kernel_rfl) ty3 (by decide)
theorem ahC:ct prog 60 2 2 1 false:=cQ underlying60 (by kernel_rfl) ty3 (by decide)
theorem ty62:TyS prog 62 5 true:=⟨sizeOf62,isAgg62⟩
theorem am0:gy prog 62 [zI0,zI0,zI0,zI0,zI0] [(0,1),(1,1),(2,1),(3,1),(4,1)]:=jE zeroValue62 underlying62 (λw=>by kernel_rfl)
theorem ahD:dz prog 62 0 0:=⟨λa w=>by kernel_rfl⟩
theorem ahE:dz prog 62 1 1:=⟨λa w=>by kernel_rfl⟩
theorem ahF:dz prog 62 2 2:=⟨λa w=>by kernel_rfl⟩
theorem ahG:dz prog 62 3 3:=⟨λa w=>by kernel_rfl⟩
theorem ahH:dz prog 62 4 4:=⟨λa w=>by kernel_rfl⟩
theorem ahI:ct prog 62 0 0 1 false:=cQ underlying62 (by kernel_rfl) ty3 (by decide)
theorem ahJ:ct prog 62 1 1 1 false:=cQ underlying62 (by kernel_rfl) ty3 (by decide)
theorem ahK:ct prog 62 2 2 1 false:=cQ underlying62 (by kernel_rfl) ty3 (by decide)
theorem ahL:ct prog 62 3 3 1 false:=cQ underlying62 (by kernel_rfl) ty3 (by decide)
theorem ahM:ct prog 62 4 4 1 false:=cQ underlying62 (by kernel_rfl) ty3 (by decide)
theorem ajk:TyS prog 84 2 true:=⟨sizeOf84,isAgg84⟩
theorem am1:gy prog 84 [zI0,zI0] [(0,1),(1,1)]:=jE zeroValue84 underlying84 (λw=>by kernel_rfl)
theorem ahN:dz prog 84 0 0:=⟨λa w=>by kernel_rfl⟩
theorem ahO:dz prog 84 1 1:=⟨λa w=>by kernel_rfl⟩
theorem ahP:ct prog 84 0 0 1 false:=cQ underlying84 (by kernel_rfl) ty3 (by decide)
theorem ahQ:ct prog 84 1 1 1 false:=cQ underlying84 (by kernel_rfl) ty3 (by decide)
theorem yW(a0 b0:Int)(a1 b1:Int)(w:World):(Op.eqFields 9999 #[.int .i64 a0,.int .i64 a1] #[.int .i64 b0,.int .i64 b1] (prog.fieldsOf 84).toList).run prog w=.ok (decide (a0=b0)&&(decide (a1=b1)&&true)) w:=by
 have hf:(prog.fieldsOf 84).toList.map (λf=>(f.name== "_",f.type,f.offset))=[(false,3,0),(false,3,1)]:=by kernel_rfl
 have q:(Op.eqFields 9999 #[.int .i64 a0,.int .i64 a1] #[.int .i64 b0,.int .i64 b1] (prog.fieldsOf 84).toList).run prog w=.ok (decide (a0=b0)&&(decide (a1=b1)&&true)) w:=by
  obtain⟨f0,t0,e0,h0,hf⟩:=vh hf
  obtain⟨f1,t1,e1,h1,hf⟩:=vh hf
  rw[e0,e1,abx hf]
  exact aaZ h0 isAgg3 underlying3 rfl rfl (aaZ h1 isAgg3 underlying3 rfl rfl (agM))
 exact q
theorem am2:TyS prog 103 2 true:=⟨sizeOf103,isAgg103⟩
theorem ajl:gy prog 103 [zS0,zI0] [(0,1),(1,1)]:=jE zeroValue103 underlying103 (λw=>by kernel_rfl)
theorem aea:dz prog 103 0 0:=⟨λa w=>by kernel_rfl⟩
theorem aeb:dz prog 103 1 1:=⟨λa w=>by kernel_rfl⟩
theorem aec:ct prog 103 0 0 1 false:=cQ underlying103 (by kernel_rfl) ad6 (by decide)
theorem aed:ct prog 103 1 1 1 false:=cQ underlying103 (by kernel_rfl) ty3 (by decide)
theorem am3:TyS prog 105 1 false:=⟨sizeOf105,isAgg105⟩
theorem qg:SlS prog 105 106 1:=⟨underlying105,sizeOf106⟩
theorem acO:fV prog 105 106 1 24:=⟨underlying105,(by obtain⟨i,h1,h2,h3,h4⟩:=info_parts (by kernel_rfl:(prog.info? 106).map (λi=>(i.zero,i.size,i.bytes))=some (some (zS0),1,24));exact⟨i,_,h1,h2,h3,h4,rfl⟩),by decide⟩
theorem acP:gU prog 105 106 1 [zS0]:=⟨underlying105,sizeOf106,afJ,rfl⟩
theorem wK:TyS prog 106 1 false:=⟨sizeOf106,isAgg106⟩
theorem am4:SlS prog 106 4 1:=⟨underlying106,sizeOf4⟩
theorem acQ:fV prog 106 4 1 1:=⟨underlying106,(by obtain⟨i,h1,h2,h3,h4⟩:=info_parts (by kernel_rfl:(prog.info? 4).map (λi=>(i.zero,i.size,i.bytes))=some (some (.bool false),1,1));exact⟨i,_,h1,h2,h3,h4,rfl⟩),by decide⟩
theorem acR:gU prog 106 4 1 [.bool false]:=⟨underlying106,sizeOf4,ze4,rfl⟩
theorem afQ:TyS prog 111 1 false:=⟨sizeOf111,isAgg111⟩
theorem abA:SlS prog 111 175 3:=⟨underlying111,sizeOf175⟩
theorem ajm:fV prog 111 175 3 24:=⟨underlying111,(by obtain⟨i,h1,h2,h3,h4⟩:=info_parts (by kernel_rfl:(prog.info? 175).map (λi=>(i.zero,i.size,i.bytes))=some (some (.agg #[zI0,zI0,zI0]),3,24));exact⟨i,_,h1,h2,h3,h4,rfl⟩),by decide⟩
theorem ajn:gU prog 111 175 3 [zI0,zI0,zI0]:=⟨underlying111,sizeOf175,afM,rfl⟩
theorem am5:TyS prog 125 1 false:=⟨sizeOf125,isAgg125⟩
theorem am6:TyS prog 126 1 false:=⟨sizeOf126,isAgg126⟩
theorem wL:TyS prog 144 1 false:=⟨sizeOf144,isAgg144⟩
theorem wM:iF prog 144 3 3 .i64:=⟨underlying144,underlying3⟩
theorem am7:TyS prog 158 1 false:=⟨sizeOf158,isAgg158⟩
theorem am8:TyS prog 161 1 false:=⟨sizeOf161,isAgg161⟩
theorem afR:TyS prog 162 1 false:=⟨sizeOf162,isAgg162⟩
theorem wN:SlS prog 162 144 1:=⟨underlying162,sizeOf144⟩
theorem acS:fV prog 162 144 1 8:=⟨underlying162,(by obtain⟨i,h1,h2,h3,h4⟩:=info_parts (by kernel_rfl:(prog.info? 144).map (λi=>(i.zero,i.size,i.bytes))=some (some (.map none),1,8));exact⟨i,_,h1,h2,h3,h4,rfl⟩),by decide⟩
theorem ajo:gU prog 162 144 1 [.map none]:=⟨underlying162,sizeOf144,afK,rfl⟩
theorem afS:TyS prog 163 1 false:=⟨sizeOf163,isAgg163⟩
theorem afT:SlS prog 163 166 1:=⟨underlying163,sizeOf166⟩
theorem acT:fV prog 163 166 1 8:=⟨underlying163,(by obtain⟨i,h1,h2,h3,h4⟩:=info_parts (by kernel_rfl:(prog.info? 166).map (λi=>(i.zero,i.size,i.bytes))=some (some (.map none),1,8));exact⟨i,_,h1,h2,h3,h4,rfl⟩),by decide⟩
theorem ajp:gU prog 163 166 1 [.map none]:=⟨underlying163,sizeOf166,afL,rfl⟩
theorem am9:TyS prog 165 3 true:=⟨sizeOf165,isAgg165⟩
theorem ajq:gy prog 165 [zS0,zS0,zS0] [(0,1),(1,1),(2,1)]:=jE zeroValue165 underlying165 (λw=>by kernel_rfl)
theorem aee:dz prog 165 0 0:=⟨λa w=>by kernel_rfl⟩
theorem aef:dz prog 165 1 1:=⟨λa w=>by kernel_rfl⟩
theorem aeg:dz prog 165 2 2:=⟨λa w=>by kernel_rfl⟩
theorem aeh:ct prog 165 0 0 1 false:=cQ underlying165 (by kernel_rfl) afQ (by decide)
theorem aei:ct prog 165 1 1 1 false:=cQ underlying165 (by kernel_rfl) afR (by decide)
theorem aej:ct prog 165 2 2 1 false:=cQ underlying165 (by kernel_rfl) afS (by decide)
theorem afU:TyS prog 166 1 false:=⟨sizeOf166,isAgg166⟩
theorem tH:iF prog 166 3 169 .i64:=⟨underlying166,underlying3⟩
theorem ana:TyS prog 169 2 true:=⟨sizeOf169,isAgg169⟩
theorem ajr:gy prog 169 [zI0,zI0] [(0,1),(1,1)]:=jE zeroValue169 underlying169 (λw=>by kernel_rfl)
theorem aek:dz prog 169 0 0:=⟨λa w=>by kernel_rfl⟩
theorem ael:dz prog 169 1 1:=⟨λa w=>by kernel_rfl⟩
theorem aem:ct prog 169 0 0 1 false:=cQ underlying169 (by kernel_rfl) ty3 (by decide)
theorem aen:ct prog 169 1 1 1 false:=cQ underlying169 (by kernel_rfl) ty3 (by decide)
theorem anb:TyS prog 172 1 false:=⟨sizeOf172,isAgg172⟩
theorem anc:TyS prog 175 3 true:=⟨sizeOf175,isAgg175⟩
theorem ajs:gy prog 175 [zI0,zI0,zI0] [(0,2),(2,1)]:=jE zeroValue175 underlying175 (λw=>by kernel_rfl)
theorem aeo:dz prog 175 0 0:=⟨λa w=>by kernel_rfl⟩
theorem aep:dz prog 175 1 2:=⟨λa w=>by kernel_rfl⟩
theorem aeq:ct prog 175 0 0 2 true:=cQ underlying175 (by kernel_rfl) ajk (by decide)
theorem aer:ct prog 175 1 2 1 false:=cQ underlying175 (by kernel_rfl) ty3 (by decide)
theorem ane:TyS prog 177 1 false:=⟨sizeOf177,isAgg177⟩
theorem anf:TyS prog 178 1 false:=⟨sizeOf178,isAgg178⟩
theorem ang:TyS prog 182 1 false:=⟨sizeOf182,isAgg182⟩
theorem anh:TyS prog 185 1 false:=⟨sizeOf185,isAgg185⟩
theorem ani:TyS prog 187 1 false:=⟨sizeOf187,isAgg187⟩
theorem anj:TyS prog 188 1 false:=⟨sizeOf188,isAgg188⟩
theorem ank:TyS prog 190 1 false:=⟨sizeOf190,isAgg190⟩
theorem anl:TyS prog 191 1 false:=⟨sizeOf191,isAgg191⟩
theorem acU:iF prog 191 3 4 .i64:=⟨underlying191,underlying3⟩
theorem anm:TyS prog 198 1 false:=⟨sizeOf198,isAgg198⟩
theorem ann:TyS prog 245 1 false:=⟨sizeOf245,isAgg245⟩
theorem ano:TyS prog 252 1 false:=⟨sizeOf252,isAgg252⟩
theorem anp:TyS prog 254 1 false:=⟨sizeOf254,isAgg254⟩
end Go.Proofs.YtmnbolcmepihlaaGreat
