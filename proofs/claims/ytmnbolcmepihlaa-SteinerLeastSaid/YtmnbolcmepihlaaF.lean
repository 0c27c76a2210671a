/- The types of this translation, as the rules want u9. No condition. -/
import Derived.Test.YtmnbolcmepihlaaAB
import Derived.Test.YtmnbolcmepihlaaRows
import Derived.OwnWalk
namespace Go.Proofs.Ytmnbolcmepihlaa
set_option linter.all false
abbrev zI0:Value:=.int .i64 0
abbrev zS0:Value:=.slice none 0 0
open Go Go.Proofs.Try
set_option maxRecDepth 100000
abbrev Zr(i:Nat)(c:List Value):Prop:=∀w,∃z,(zeroValue i).run prog w=.ok z w∧z.cells=c.toArray
theorem hmix:prog.follows .mixedOrders=true:=by kernel_rfl
theorem ze2:Zr 2 [zI0]:=λw=>⟨_,zeroValue2 w,rfl⟩
theorem ze3:Zr 3 [zI0]:=λw=>⟨_,zeroValue3 w,rfl⟩
theorem ze4:Zr 4 [.bool false]:=λw=>⟨_,zeroValue4 w,rfl⟩
theorem ze5:Zr 5 [.int .u8 0]:=λw=>⟨_,zeroValue5 w,rfl⟩
theorem ze6:Zr 6 [.int .u8 0]:=λw=>⟨_,zeroValue6 w,rfl⟩
theorem ze7:Zr 7 [zI0,zI0,.bool false,.int .u8 0]:=λw=>⟨_,zeroValue7 w,rfl⟩
theorem ze8:Zr 8 [zI0,zI0,.bool false,.int .u8 0]:=λw=>⟨_,zeroValue8 w,rfl⟩
theorem ze9:Zr 9 [.string ⟨#[]⟩]:=λw=>⟨_,zeroValue9 w,rfl⟩
theorem ze10:Zr 10 [.string ⟨#[]⟩]:=λw=>⟨_,zeroValue10 w,rfl⟩
theorem ze11:Zr 11 [.string ⟨#[]⟩]:=λw=>⟨_,zeroValue11 w,rfl⟩
theorem ze12:Zr 12 [.int .u64 0]:=λw=>⟨_,zeroValue12 w,rfl⟩
theorem ze13:Zr 13 [.string ⟨#[]⟩,.int .u64 0]:=λw=>⟨_,zeroValue13 w,rfl⟩
theorem ze14:Zr 14 [.string ⟨#[]⟩,.int .u64 0]:=λw=>⟨_,zeroValue14 w,rfl⟩
theorem ze15:Zr 15 [.pointer none]:=λw=>⟨_,zeroValue15 w,rfl⟩
theorem ze16:Zr 16 [.pointer none]:=λw=>⟨_,zeroValue16 w,rfl⟩
theorem ze17:Zr 17 [.pointer none]:=λw=>⟨_,zeroValue17 w,rfl⟩
theorem ze18:Zr 18 [.pointer none]:=λw=>⟨_,zeroValue18 w,rfl⟩
theorem ze19:Zr 19 [.pointer none]:=λw=>⟨_,zeroValue19 w,rfl⟩
theorem ze21:Zr 21 [.int .i32 0]:=λw=>⟨_,zeroValue21 w,rfl⟩
theorem ze22:Zr 22 [zS0]:=λw=>⟨_,zeroValue22 w,rfl⟩
theorem ze23:Zr 23 [.pointer none]:=λw=>⟨_,zeroValue23 w,rfl⟩
theorem ze25:Zr 25 [zS0]:=λw=>⟨_,zeroValue25 w,rfl⟩
theorem ze26:Zr 26 [zS0]:=λw=>⟨_,zeroValue26 w,rfl⟩
theorem ze27:Zr 27 [zS0,zS0]:=λw=>⟨_,zeroValue27 w,rfl⟩
theorem ze28:Zr 28 [zS0,zS0]:=λw=>⟨_,zeroValue28 w,rfl⟩
theorem ze30:Zr 30 [zI0,.bool false]:=λw=>⟨_,zeroValue30 w,rfl⟩
theorem ads:Zr 31 [zI0,.bool false]:=λw=>⟨_,zeroValue31 w,rfl⟩
theorem ze34:Zr 34 [zS0]:=λw=>⟨_,zeroValue34 w,rfl⟩
theorem ze35:Zr 35 [zI0,zS0]:=λw=>⟨_,zeroValue35 w,rfl⟩
theorem ze36:Zr 36 [zI0,zS0]:=λw=>⟨_,zeroValue36 w,rfl⟩
theorem ze37:Zr 37 [zI0]:=λw=>⟨_,zeroValue37 w,rfl⟩
theorem ze40:Zr 40 [.int .u64 0]:=λw=>⟨_,zeroValue40 w,rfl⟩
theorem ze41:Zr 41 [zI0,zI0,zI0,zI0,zI0]:=λw=>⟨_,zeroValue41 w,rfl⟩
theorem adt:Zr 42 [zI0,zI0,zI0,zI0,zI0]:=λw=>⟨_,zeroValue42 w,rfl⟩
theorem ze48:Zr 48 [zS0,zI0]:=λw=>⟨_,zeroValue48 w,rfl⟩
theorem ze51:Zr 51 [zS0]:=λw=>⟨_,zeroValue51 w,rfl⟩
theorem adu:Zr 52 [zS0]:=λw=>⟨_,zeroValue52 w,rfl⟩
theorem ze57:Zr 57 [zS0]:=λw=>⟨_,zeroValue57 w,rfl⟩
theorem adv:Zr 63 [zS0,zI0]:=λw=>⟨_,zeroValue63 w,rfl⟩
theorem ze64:Zr 64 [zS0]:=λw=>⟨_,zeroValue64 w,rfl⟩
theorem ze67:Zr 67 [.pointer none]:=λw=>⟨_,zeroValue67 w,rfl⟩
theorem ze68:Zr 68 [zS0]:=λw=>⟨_,zeroValue68 w,rfl⟩
theorem ze69:Zr 69 [zS0]:=λw=>⟨_,zeroValue69 w,rfl⟩
theorem ze71:Zr 71 [zS0,zS0,zS0]:=λw=>⟨_,zeroValue71 w,rfl⟩
theorem adw:Zr 72 [.map none]:=λw=>⟨_,zeroValue72 w,rfl⟩
theorem adx:Zr 73 [.map none]:=λw=>⟨_,zeroValue73 w,rfl⟩
theorem ze76:Zr 76 [zI0,zI0]:=λw=>⟨_,zeroValue76 w,rfl⟩
theorem ady:Zr 80 [zI0,zI0]:=λw=>⟨_,zeroValue80 w,rfl⟩
theorem ze81:Zr 81 [.nilFunc]:=λw=>⟨_,zeroValue81 w,rfl⟩
theorem ze83:Zr 83 [.nilFunc]:=λw=>⟨_,zeroValue83 w,rfl⟩
theorem adz:Zr 85 [zI0,zI0,zI0]:=λw=>⟨_,zeroValue85 w,rfl⟩
theorem ze87:Zr 87 [.nilFunc]:=λw=>⟨_,zeroValue87 w,rfl⟩
theorem rJ:Zr 88 [zI0,zI0,zI0]:=λw=>⟨_,zeroValue88 w,rfl⟩
theorem ze89:Zr 89 [zS0]:=λw=>⟨_,zeroValue89 w,rfl⟩
theorem ze93:Zr 93 [.nilFunc]:=λw=>⟨_,zeroValue93 w,rfl⟩
theorem ze96:Zr 96 [.nilFunc]:=λw=>⟨_,zeroValue96 w,rfl⟩
theorem ze97:Zr 97 [.nilFunc]:=λw=>⟨_,zeroValue97 w,rfl⟩
theorem ze99:Zr 99 [.nilFunc]:=λw=>⟨_,zeroValue99 w,rfl⟩
theorem ty2:TyS prog 2 1 false:=⟨sizeOf2,isAgg2⟩
theorem ty3:TyS prog 3 1 false:=⟨sizeOf3,isAgg3⟩
theorem ty4:TyS prog 4 1 false:=⟨sizeOf4,isAgg4⟩
theorem ty5:TyS prog 5 1 false:=⟨sizeOf5,isAgg5⟩
theorem ty6:TyS prog 6 1 false:=⟨sizeOf6,isAgg6⟩
theorem ty7:TyS prog 7 4 true:=⟨sizeOf7,isAgg7⟩
theorem str7:eY prog 7 [zI0,zI0,.bool false,.int .u8 0] [(0,1),(1,1),(2,1),(3,1)]:=gV zeroValue7 underlying7 (λw=>by kernel_rfl)
theorem adA:cu prog 7 0 0:=⟨λa w=>by kernel_rfl⟩
theorem adB:cu prog 7 1 1:=⟨λa w=>by kernel_rfl⟩
theorem adC:cu prog 7 2 2:=⟨λa w=>by kernel_rfl⟩
theorem adD:cu prog 7 3 3:=⟨λa w=>by kernel_rfl⟩
theorem adE:bJ prog 7 0 0 1 false:=bQ underlying7 (by kernel_rfl) ty2 (by decide)
theorem adF:bJ prog 7 1 1 1 false:=bQ underlying7 (by kernel_rfl) ty3 (by decide)
theorem adG:bJ prog 7 2 2 1 false:=bQ underlying7 (by kernel_rfl) ty4 (by decide)
theorem adH:bJ prog 7 3 3 1 false:=bQ underlying7 (by kernel_rfl) ty6 (by decide)
theorem ty8:TyS prog 8 4 true:=⟨sizeOf8,isAgg8⟩
theorem str8:eY prog 8 [zI0,zI0,.bool false,.int .u8 0] [(0,1),(1,1),(2,1),(3,1)]:=gV zeroValue8 underlying8 (λw=>by kernel_rfl)
theorem adI:cu prog 8 0 0:=⟨λa w=>by kernel_rfl⟩
theorem adJ:cu prog 8 1 1:=⟨λa w=>by kernel_rfl⟩
theorem adK:cu prog 8 2 2:=⟨λa w=>by kernel_rfl⟩
theorem adL:cu prog 8 3 3:=⟨λa w=>by kernel_rfl⟩
theorem adM:bJ prog 8 0 0 1 false:=bQ underlying8 (by kernel_rfl) ty2 (by decide)
theorem adN:bJ prog 8 1 1 1 false:=bQ underlying8 (by kernel_rfl) ty3 (by decide)
theorem adO:bJ prog 8 2 2 1 false:=bQ underlying8 (by kernel_rfl) ty4 (by decide)
theorem adP:bJ prog 8 3 3 1 false:=bQ underlying8 (by kernel_rfl) ty6 (by decide)
theorem ty9:TyS prog 9 1 false:=⟨sizeOf9,isAgg9⟩
theorem ty10:TyS prog 10 1 false:=⟨sizeOf10,isAgg10⟩
theorem ty11:TyS prog 11 1 false:=⟨sizeOf11,isAgg11⟩
theorem zw:TyS prog 12 1 false:=⟨sizeOf12,isAgg12⟩
theorem ty13:TyS prog 13 2 true:=⟨sizeOf13,isAgg13⟩
theorem agR:eY prog 13 [.string ⟨#[]⟩,.int .u64 0] [(0,1),(1,1)]:=gV zeroValue13 underlying13 (λw=>by kernel_rfl)
theorem aa3:cu prog 13 0 0:=⟨λa w=>by kernel_rfl⟩
theorem aa4:cu prog 13 1 1:=⟨λa w=>by kernel_rfl⟩
theorem aa5:bJ prog 13 0 0 1 false:=bQ underlying13 (by kernel_rfl) ty9 (by decide)
theorem aa6:bJ prog 13 1 1 1 false:=bQ underlying13 (by kernel_rfl) zw (by decide)
theorem ty14:TyS prog 14 2 true:=⟨sizeOf14,isAgg14⟩
theorem agS:eY prog 14 [.string ⟨#[]⟩,.int .u64 0] [(0,1),(1,1)]:=gV zeroValue14 underlying14 (λw=>by kernel_rfl)
theorem aa7:cu prog 14 0 0:=⟨λa w=>by kernel_rfl⟩
theorem aa8:cu prog 14 1 1:=⟨λa w=>by kernel_rfl⟩
theorem aa9:bJ prog 14 0 0 1 false:=bQ underlying14 (by kernel_rfl) ty9 (by decide)
theorem aba:bJ prog 14 1 1 1 false:=bQ underlying14 (by kernel_rfl) zw (by decide)
theorem ty15:TyS prog 15 1 false:=⟨sizeOf15,isAgg15⟩
theorem ty16:TyS prog 16 1 false:=⟨sizeOf16,isAgg16⟩
theorem zx:TyS prog 17 1 false:=⟨sizeOf17,isAgg17⟩
theorem ty18:TyS prog 18 1 true:=⟨sizeOf18,isAgg18⟩
theorem agT:eY prog 18 [.pointer none] [(0,1)]:=gV zeroValue18 underlying18 (λw=>by kernel_rfl)
theorem abb:cu prog 18 0 0:=⟨λa w=>by kernel_rfl⟩
theorem abc:bJ prog 18 0 0 1 false:=bQ underlying18 (by kernel_rfl) zx (by decide)
theorem ty19:TyS prog 19 1 true:=⟨sizeOf19,isAgg19⟩
theorem agU:eY prog 19 [.pointer none] [(0,1)]:=gV zeroValue19 underlying19 (λw=>by kernel_rfl)
theorem abd:cu prog 19 0 0:=⟨λa w=>by kernel_rfl⟩
theorem abe:bJ prog 19 0 0 1 false:=bQ underlying19 (by kernel_rfl) zx (by decide)
theorem ty21:TyS prog 21 1 false:=⟨sizeOf21,isAgg21⟩
theorem zy:TyS prog 22 1 false:=⟨sizeOf22,isAgg22⟩
theorem sl22:SlS prog 22 3 1:=⟨underlying22,sizeOf3⟩
theorem aaD:fM prog 22 3 1 8:=⟨underlying22,(by obtain⟨i,h1,h2,h3,h4⟩:=info_parts (by kernel_rfl:(prog.info? 3).map (λi=>(i.zero,i.size,i.bytes))=some (some (zI0),1,8));exact⟨i,_,h1,h2,h3,h4,rfl⟩),by decide⟩
theorem agV:gC prog 22 3 1 [zI0]:=⟨underlying22,sizeOf3,ze3,rfl⟩
theorem ty23:TyS prog 23 1 false:=⟨sizeOf23,isAgg23⟩
theorem zz:TyS prog 25 1 false:=⟨sizeOf25,isAgg25⟩
theorem sl25:SlS prog 25 31 2:=⟨underlying25,sizeOf31⟩
theorem agW:fM prog 25 31 2 16:=⟨underlying25,(by obtain⟨i,h1,h2,h3,h4⟩:=info_parts (by kernel_rfl:(prog.info? 31).map (λi=>(i.zero,i.size,i.bytes))=some (some (.agg #[zI0,.bool false]),2,16));exact⟨i,_,h1,h2,h3,h4,rfl⟩),by decide⟩
theorem agX:gC prog 25 31 2 [zI0,.bool false]:=⟨underlying25,sizeOf31,ads,rfl⟩
theorem zA:TyS prog 26 1 false:=⟨sizeOf26,isAgg26⟩
theorem sl26:SlS prog 26 42 5:=⟨underlying26,sizeOf42⟩
theorem agY:fM prog 26 42 5 40:=⟨underlying26,(by obtain⟨i,h1,h2,h3,h4⟩:=info_parts (by kernel_rfl:(prog.info? 42).map (λi=>(i.zero,i.size,i.bytes))=some (some (.agg #[zI0,zI0,zI0,zI0,zI0]),5,40));exact⟨i,_,h1,h2,h3,h4,rfl⟩),by decide⟩
theorem agZ:gC prog 26 42 5 [zI0,zI0,zI0,zI0,zI0]:=⟨underlying26,sizeOf42,adt,rfl⟩
theorem ty27:TyS prog 27 2 true:=⟨sizeOf27,isAgg27⟩
theorem ag0:eY prog 27 [zS0,zS0] [(0,1),(1,1)]:=gV zeroValue27 underlying27 (λw=>by kernel_rfl)
theorem abf:cu prog 27 0 0:=⟨λa w=>by kernel_rfl⟩
theorem abg:cu prog 27 1 1:=⟨λa w=>by kernel_rfl⟩
theorem abh:bJ prog 27 0 0 1 false:=bQ underlying27 (by kernel_rfl) zz (by decide)
theorem abi:bJ prog 27 1 1 1 false:=bQ underlying27 (by kernel_rfl) zA (by decide)
theorem ty28:TyS prog 28 2 true:=⟨sizeOf28,isAgg28⟩
theorem ag1:eY prog 28 [zS0,zS0] [(0,1),(1,1)]:=gV zeroValue28 underlying28 (λw=>by kernel_rfl)
theorem abj:cu prog 28 0 0:=⟨λa w=>by kernel_rfl⟩
theorem abk:cu prog 28 1 1:=⟨λa w=>by kernel_rfl⟩
theorem abl:bJ prog 28 0 0 1 false:=bQ underlying28 (by kernel_rfl) zz (by decide)
theorem abm:bJ prog 28 1 1 1 false:=bQ underlying28 (by kernel_rfl) zA (by decide)
theorem ty30:TyS prog 30 2 true:=⟨sizeOf30,isAgg30⟩
theorem ag3:eY prog 30 [zI0,.bool false] [(0,1),(1,1)]:=gV zeroValue30 underlying30 (λw=>by kernel_rfl)
theorem abn:cu prog 30 0 0:=⟨λa w=>by kernel_rfl⟩
theorem abo:cu prog 30 1 1:=⟨λa w=>by kernel_rfl⟩
theorem abp:bJ prog 30 0 0 1 false:=bQ underlying30 (by kernel_rfl) ty3 (by decide)
theorem abq:bJ prog 30 1 1 1 false:=bQ underlying30 (by kernel_rfl) ty4 (by decide)
theorem ty31:TyS prog 31 2 true:=⟨sizeOf31,isAgg31⟩
theorem ag4:eY prog 31 [zI0,.bool false] [(0,1),(1,1)]:=gV zeroValue31 underlying31 (λw=>by kernel_rfl)
theorem abr:cu prog 31 0 0:=⟨λa w=>by kernel_rfl⟩
theorem abt:cu prog 31 1 1:=⟨λa w=>by kernel_rfl⟩
theorem abu:bJ prog 31 0 0 1 false:=bQ underlying31 (by kernel_rfl) ty3 (by decide)
theorem abv:bJ prog 31 1 1 1 false:=bQ underlying31 (by kernel_rfl) ty4 (by decide)
theorem zB:TyS prog 34 1 false:=⟨sizeOf34,isAgg34⟩
theorem sl34:SlS prog 34 80 2:=⟨underlying34,sizeOf80⟩
theorem ag5:fM prog 34 80 2 16:=⟨underlying34,(by obtain⟨i,h1,h2,h3,h4⟩:=info_parts (by kernel_rfl:(prog.info? 80).map (λi=>(i.zero,i.size,i.bytes))=some (some (.agg #[zI0,zI0]),2,16));exact⟨i,_,h1,h2,h3,h4,rfl⟩),by decide⟩
theorem ag6:gC prog 34 80 2 [zI0,zI0]:=⟨underlying34,sizeOf80,ady,rfl⟩
theorem ty35:TyS prog 35 2 true:=⟨sizeOf35,isAgg35⟩
theorem ag7:eY prog 35 [zI0,zS0] [(0,1),(1,1)]:=gV zeroValue35 underlying35 (λw=>by kernel_rfl)
theorem abw:cu prog 35 0 0:=⟨λa w=>by kernel_rfl⟩
theorem abx:cu prog 35 1 1:=⟨λa w=>by kernel_rfl⟩
theorem aby:bJ prog 35 0 0 1 false:=bQ underlying35 (by kernel_rfl) ty3 (by decide)
theorem abz:bJ prog 35 1 1 1 false:=bQ underlying35 (by kernel_rfl) zB (by decide)
theorem ty36:TyS prog 36 2 true:=⟨sizeOf36,isAgg36⟩
theorem ag8:eY prog 36 [zI0,zS0] [(0,1),(1,1)]:=gV zeroValue36 underlying36 (λw=>by kernel_rfl)
theorem abA:cu prog 36 0 0:=⟨λa w=>by kernel_rfl⟩
theorem abB:cu prog 36 1 1:=⟨λa w=>by kernel_rfl⟩
theorem abC:bJ prog 36 0 0 1 false:=bQ underlying36 (by kernel_rfl) ty3 (by decide)
theorem abD:bJ prog 36 1 1 1 false:=bQ underlying36 (by kernel_rfl) zB (by decide)
theorem ty37:TyS prog 37 1 false:=⟨sizeOf37,isAgg37⟩
theorem ty40:TyS prog 40 1 false:=⟨sizeOf40,isAgg40⟩
theorem ty41:TyS prog 41 5 true:=⟨sizeOf41,isAgg41⟩
theorem ag9:eY prog 41 [zI0,zI0,zI0,zI0,zI0] [(0,1),(1,1),(2,1),(3,1),(4,1)]:=gV zeroValue41 underlying41 (λw=>by kernel_rfl)
theorem abE:cu prog 41 0 0:=⟨λa w=>by kernel_rfl⟩
theorem abF:cu prog 41 1 1:=⟨λa w=>by kernel_rfl⟩
theorem abG:cu prog 41 2 2:=⟨λa w=>by kernel_rfl⟩
theorem abH:cu prog 41 3 3:=⟨λa w=>by kernel_rfl⟩
theorem abI:cu prog 41 4 4:=⟨λa w=>by kernel_rfl⟩
theorem abJ:bJ prog 41 0 0 1 false:=bQ underlying41 (by kernel_rfl) ty3 (by decide)
theorem abK:bJ prog 41 1 1 1 false:=bQ underlying41 (by kernel_rfl) ty3 (by decide)
theorem abL:bJ prog 41 2 2 1 false:=bQ underlying41 (by kernel_rfl) ty3 (by decide)
theorem abM:bJ prog 41 3 3 1 false:=bQ underlying41 (by kernel_rfl) ty3 (by decide)
theorem abN:bJ prog 41 4 4 1 false:=bQ underlying41 (by kernel_rfl) ty3 (by decide)
theorem ty42:TyS prog 42 5 true:=⟨sizeOf42,isAgg42⟩
theorem aha:eY prog 42 [zI0,zI0,zI0,zI0,zI0] [(0,1),(1,1),(2,1),(3,1),(4,1)]:=gV zeroValue42 underlying42 (λw=>by kernel_rfl)
theorem abO:cu prog 42 0 0:=⟨λa w=>by kernel_rfl⟩
theorem abP:cu prog 42 1 1:=⟨λa w=>by kernel_rfl⟩
theorem abQ:cu prog 42 2 2:=⟨λa w=>by kernel_rfl⟩
theorem abR:cu prog 42 3 3:=⟨λa w=>by kernel_rfl⟩
theorem abS:cu prog 42 4 4:=⟨λa w=>by kernel_rfl⟩
theorem abT:bJ prog 42 0 0 1 false:=bQ underlying42 (by kernel_rfl) ty3 (by decide)
theorem abU:bJ prog 42 1 1 1 false:=bQ underlying42 (by kernel_rfl) ty3 (by decide)
theorem abV:bJ prog 42 2 2 1 false:=bQ underlying42 (by kernel_rfl) ty3 (by decide)
theorem abW:bJ prog 42 3 3 1 false:=bQ underlying42 (by kernel_rfl) ty3 (by decide)
theorem abX:bJ prog 42 4 4 1 false:=bQ underlying42 (by kernel_rfl) ty3 (by decide)
theorem ty48:TyS prog 48 2 true:=⟨sizeOf48,isAgg48⟩
theorem ahb:eY prog 48 [zS0,zI0] [(0,1),(1,1)]:=gV zeroValue48 underlying48 (λw=>by kernel_rfl)
theorem abY:cu prog 48 0 0:=⟨λa w=>by kernel_rfl⟩
theorem abZ:cu prog 48 1 1:=⟨λa w=>by kernel_rfl⟩
theorem ab0:bJ prog 48 0 0 1 false:=bQ underlying48 (by kernel_rfl) zy (by decide)
theorem ab1:bJ prog 48 1 1 1 false:=bQ underlying48 (by kernel_rfl) ty3 (by decide)
theorem ty51:TyS prog 51 1 false:=⟨sizeOf51,isAgg51⟩
theorem pK:SlS prog 51 52 1:=⟨underlying51,sizeOf52⟩
theorem aaE:fM prog 51 52 1 24:=⟨underlying51,(by obtain⟨i,h1,h2,h3,h4⟩:=info_parts (by kernel_rfl:(prog.info? 52).map (λi=>(i.zero,i.size,i.bytes))=some (some (zS0),1,24));exact⟨i,_,h1,h2,h3,h4,rfl⟩),by decide⟩
theorem aaF:gC prog 51 52 1 [zS0]:=⟨underlying51,sizeOf52,adu,rfl⟩
theorem vo:TyS prog 52 1 false:=⟨sizeOf52,isAgg52⟩
theorem sl52:SlS prog 52 4 1:=⟨underlying52,sizeOf4⟩
theorem aaG:fM prog 52 4 1 1:=⟨underlying52,(by obtain⟨i,h1,h2,h3,h4⟩:=info_parts (by kernel_rfl:(prog.info? 4).map (λi=>(i.zero,i.size,i.bytes))=some (some (.bool false),1,1));exact⟨i,_,h1,h2,h3,h4,rfl⟩),by decide⟩
theorem aaH:gC prog 52 4 1 [.bool false]:=⟨underlying52,sizeOf4,ze4,rfl⟩
theorem adQ:TyS prog 57 1 false:=⟨sizeOf57,isAgg57⟩
theorem sl57:SlS prog 57 85 3:=⟨underlying57,sizeOf85⟩
theorem ahc:fM prog 57 85 3 24:=⟨underlying57,(by obtain⟨i,h1,h2,h3,h4⟩:=info_parts (by kernel_rfl:(prog.info? 85).map (λi=>(i.zero,i.size,i.bytes))=some (some (.agg #[zI0,zI0,zI0]),3,24));exact⟨i,_,h1,h2,h3,h4,rfl⟩),by decide⟩
theorem ahd:gC prog 57 85 3 [zI0,zI0,zI0]:=⟨underlying57,sizeOf85,adz,rfl⟩
theorem ty63:TyS prog 63 2 true:=⟨sizeOf63,isAgg63⟩
theorem ahe:eY prog 63 [zS0,zI0] [(0,1),(1,1)]:=gV zeroValue63 underlying63 (λw=>by kernel_rfl)
theorem ab2:cu prog 63 0 0:=⟨λa w=>by kernel_rfl⟩
theorem ab3:cu prog 63 1 1:=⟨λa w=>by kernel_rfl⟩
theorem ab4:bJ prog 63 0 0 1 false:=bQ underlying63 (by kernel_rfl) zy (by decide)
theorem ab5:bJ prog 63 1 1 1 false:=bQ underlying63 (by kernel_rfl) ty3 (by decide)
theorem ty64:TyS prog 64 1 false:=⟨sizeOf64,isAgg64⟩
theorem sl64:SlS prog 64 63 2:=⟨underlying64,sizeOf63⟩
theorem ahf:fM prog 64 63 2 32:=⟨underlying64,(by obtain⟨i,h1,h2,h3,h4⟩:=info_parts (by kernel_rfl:(prog.info? 63).map (λi=>(i.zero,i.size,i.bytes))=some (some (.agg #[zS0,zI0]),2,32));exact⟨i,_,h1,h2,h3,h4,rfl⟩),by decide⟩
theorem ahg:gC prog 64 63 2 [zS0,zI0]:=⟨underlying64,sizeOf63,adv,rfl⟩
theorem ty67:TyS prog 67 1 false:=⟨sizeOf67,isAgg67⟩
theorem adR:TyS prog 68 1 false:=⟨sizeOf68,isAgg68⟩
theorem vp:SlS prog 68 72 1:=⟨underlying68,sizeOf72⟩
theorem aaI:fM prog 68 72 1 8:=⟨underlying68,(by obtain⟨i,h1,h2,h3,h4⟩:=info_parts (by kernel_rfl:(prog.info? 72).map (λi=>(i.zero,i.size,i.bytes))=some (some (.map none),1,8));exact⟨i,_,h1,h2,h3,h4,rfl⟩),by decide⟩
theorem ahh:gC prog 68 72 1 [.map none]:=⟨underlying68,sizeOf72,adw,rfl⟩
theorem adS:TyS prog 69 1 false:=⟨sizeOf69,isAgg69⟩
theorem adT:SlS prog 69 73 1:=⟨underlying69,sizeOf73⟩
theorem aaJ:fM prog 69 73 1 8:=⟨underlying69,(by obtain⟨i,h1,h2,h3,h4⟩:=info_parts (by kernel_rfl:(prog.info? 73).map (λi=>(i.zero,i.size,i.bytes))=some (some (.map none),1,8));exact⟨i,_,h1,h2,h3,h4,rfl⟩),by decide⟩
theorem ahi:gC prog 69 73 1 [.map none]:=⟨underlying69,sizeOf73,adx,rfl⟩
theorem ty71:TyS prog 71 3 true:=⟨sizeOf71,isAgg71⟩
theorem ahj:eY prog 71 [zS0,zS0,zS0] [(0,1),(1,1),(2,1)]:=gV zeroValue71 underlying71 (λw=>by kernel_rfl)
theorem ab6:cu prog 71 0 0:=⟨λa w=>by kernel_rfl⟩
theorem ab7:cu prog 71 1 1:=⟨λa w=>by kernel_rfl⟩
theorem ab8:cu prog 71 2 2:=⟨λa w=>by kernel_rfl⟩
theorem ab9:bJ prog 71 0 0 1 false:=bQ underlying71 (by kernel_rfl) adQ (by decide)
theorem acd:bJ prog 71 1 1 1 false:=bQ underlying71 (by kernel_rfl) adR (by decide)
theorem ace:bJ prog 71 2 2 1 false:=bQ underlying71 (by kernel_rfl) adS (by decide)
theorem vq:TyS prog 72 1 false:=⟨sizeOf72,isAgg72⟩
theorem uW:gX prog 72 3 3 .i64:=⟨underlying72,underlying3⟩
theorem adU:TyS prog 73 1 false:=⟨sizeOf73,isAgg73⟩
theorem sJ:gX prog 73 3 76 .i64:=⟨underlying73,underlying3⟩
theorem ty76:TyS prog 76 2 true:=⟨sizeOf76,isAgg76⟩
theorem ahk:eY prog 76 [zI0,zI0] [(0,1),(1,1)]:=gV zeroValue76 underlying76 (λw=>by kernel_rfl)
theorem acf:cu prog 76 0 0:=⟨λa w=>by kernel_rfl⟩
theorem acg:cu prog 76 1 1:=⟨λa w=>by kernel_rfl⟩
theorem ach:bJ prog 76 0 0 1 false:=bQ underlying76 (by kernel_rfl) ty3 (by decide)
theorem aci:bJ prog 76 1 1 1 false:=bQ underlying76 (by kernel_rfl) ty3 (by decide)
theorem adV:TyS prog 80 2 true:=⟨sizeOf80,isAgg80⟩
theorem ahl:eY prog 80 [zI0,zI0] [(0,1),(1,1)]:=gV zeroValue80 underlying80 (λw=>by kernel_rfl)
theorem acj:cu prog 80 0 0:=⟨λa w=>by kernel_rfl⟩
theorem ack:cu prog 80 1 1:=⟨λa w=>by kernel_rfl⟩
theorem acm:bJ prog 80 0 0 1 false:=bQ underlying80 (by kernel_rfl) ty3 (by decide)
theorem acn:bJ prog 80 1 1 1 false:=bQ underlying80 (by kernel_rfl) ty3 (by decide)
theorem ty81:TyS prog 81 1 false:=⟨sizeOf81,isAgg81⟩
theorem ty83:TyS prog 83 1 false:=⟨sizeOf83,isAgg83⟩
theorem ty85:TyS prog 85 3 true:=⟨sizeOf85,isAgg85⟩
theorem ahm:eY prog 85 [zI0,zI0,zI0] [(0,2),(2,1)]:=gV zeroValue85 underlying85 (λw=>by kernel_rfl)
theorem aco:cu prog 85 0 0:=⟨λa w=>by kernel_rfl⟩
theorem acp:cu prog 85 1 2:=⟨λa w=>by kernel_rfl⟩
theorem acq:bJ prog 85 0 0 2 true:=bQ underlying85 (by kernel_rfl) adV (by decide)
theorem acr:bJ prog 85 1 2 1 false:=bQ underlying85 (by kernel_rfl) ty3 (by decide)
theorem ty87:TyS prog 87 1 false:=⟨sizeOf87,isAgg87⟩
theorem ty88:TyS prog 88 3 true:=⟨sizeOf88,isAgg88⟩
theorem ty89:TyS prog 89 1 false:=⟨sizeOf89,isAgg89⟩
theorem sl89:SlS prog 89 88 3:=⟨underlying89,sizeOf88⟩
theorem ahn:fM prog 89 88 3 24:=⟨underlying89,(by obtain⟨i,h1,h2,h3,h4⟩:=info_parts (by kernel_rfl:(prog.info? 88).map (λi=>(i.zero,i.size,i.bytes))=some (some (.agg #[zI0,zI0,zI0]),3,24));exact⟨i,_,h1,h2,h3,h4,rfl⟩),by decide⟩
theorem aho:gC prog 89 88 3 [zI0,zI0,zI0]:=⟨underlying89,sizeOf88,rJ,rfl⟩
theorem ty93:TyS prog 93 1 false:=⟨sizeOf93,isAgg93⟩
theorem ty96:TyS prog 96 1 false:=⟨sizeOf96,isAgg96⟩
theorem ty97:TyS prog 97 1 false:=⟨sizeOf97,isAgg97⟩
theorem ty99:TyS prog 99 1 false:=⟨sizeOf99,isAgg99⟩
end Go.Proofs.Ytmnbolcmepihlaa
