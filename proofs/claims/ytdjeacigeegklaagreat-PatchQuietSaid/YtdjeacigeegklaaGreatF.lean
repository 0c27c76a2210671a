/- The types of this translation, as the rules want afp. No condition. -/
import Derived.Test.YtdjeacigeegklaaGreatAB
import Derived.Test.YtdjeacigeegklaaGreatRows
import Derived.OwnWalk
namespace Go.Proofs.YtdjeacigeegklaaGreat
set_option linter.all false
abbrev zI0:Value:=.int .i64 0
abbrev zS0:Value:=.slice none 0 0
open Go Go.Proofs.Tryz
set_option maxRecDepth 100000
abbrev Zr(i:Nat)(c:List Value):Prop:=∀w,∃z,(zeroValue i).run prog w=.ok z w∧z.cells=c.toArray
theorem hmix:prog.follows .mixedOrders=true:=by kernel_rfl
theorem ze2:Zr 2 [zI0]:=λw=>⟨_,zeroValue2 w,rfl⟩
theorem ze3:Zr 3 [zI0]:=λw=>⟨_,zeroValue3 w,rfl⟩
theorem ze4:Zr 4 [.bool false]:=λw=>⟨_,zeroValue4 w,rfl⟩
theorem ze5:Zr 5 [.int .u8 0]:=λw=>⟨_,zeroValue5 w,rfl⟩
theorem ze6:Zr 6 [.int .u8 0]:=λw=>⟨_,zeroValue6 w,rfl⟩
theorem ze7:Zr 7 [zI0,zI0,.bool false,.int .u8 0]:=λw=>⟨_,zeroValue7 w,rfl⟩
theorem ze8:Zr 8 [zI0,zI0,.bool false,.int .u8 0]:=λw=>⟨_,zeroValue8 w,rfl⟩
theorem ze9:Zr 9 [.string ⟨#[]⟩]:=λw=>⟨_,zeroValue9 w,rfl⟩
theorem ze10:Zr 10 [.string ⟨#[]⟩]:=λw=>⟨_,zeroValue10 w,rfl⟩
theorem ze11:Zr 11 [.string ⟨#[]⟩]:=λw=>⟨_,zeroValue11 w,rfl⟩
theorem ze12:Zr 12 [.int .u64 0]:=λw=>⟨_,zeroValue12 w,rfl⟩
theorem ze13:Zr 13 [.string ⟨#[]⟩,.int .u64 0]:=λw=>⟨_,zeroValue13 w,rfl⟩
theorem ze14:Zr 14 [.string ⟨#[]⟩,.int .u64 0]:=λw=>⟨_,zeroValue14 w,rfl⟩
theorem ze15:Zr 15 [.pointer none]:=λw=>⟨_,zeroValue15 w,rfl⟩
theorem ze16:Zr 16 [.pointer none]:=λw=>⟨_,zeroValue16 w,rfl⟩
theorem ze17:Zr 17 [.pointer none]:=λw=>⟨_,zeroValue17 w,rfl⟩
theorem ze18:Zr 18 [.pointer none]:=λw=>⟨_,zeroValue18 w,rfl⟩
theorem ze19:Zr 19 [.pointer none]:=λw=>⟨_,zeroValue19 w,rfl⟩
theorem ze21:Zr 21 [.int .i32 0]:=λw=>⟨_,zeroValue21 w,rfl⟩
theorem ze22:Zr 22 [zS0]:=λw=>⟨_,zeroValue22 w,rfl⟩
theorem ze23:Zr 23 [.pointer none]:=λw=>⟨_,zeroValue23 w,rfl⟩
theorem ze25:Zr 25 [zS0]:=λw=>⟨_,zeroValue25 w,rfl⟩
theorem ze26:Zr 26 [zS0]:=λw=>⟨_,zeroValue26 w,rfl⟩
theorem ze27:Zr 27 [zS0,zS0]:=λw=>⟨_,zeroValue27 w,rfl⟩
theorem ze28:Zr 28 [zS0,zS0]:=λw=>⟨_,zeroValue28 w,rfl⟩
theorem ze30:Zr 30 [zS0]:=λw=>⟨_,zeroValue30 w,rfl⟩
theorem ze31:Zr 31 [zI0,zS0]:=λw=>⟨_,zeroValue31 w,rfl⟩
theorem ze32:Zr 32 [zI0,zS0]:=λw=>⟨_,zeroValue32 w,rfl⟩
theorem ze34:Zr 34 [.int .u64 0]:=λw=>⟨_,zeroValue34 w,rfl⟩
theorem ze35:Zr 35 [zI0,zI0,zI0,zI0,zI0,zI0,zI0,zI0,.int .u64 0,.string ⟨#[]⟩]:=λw=>⟨_,zeroValue35 w,rfl⟩
theorem ze36:Zr 36 [zI0,zI0,zI0,zI0,zI0,zI0,zI0,zI0,.int .u64 0,.string ⟨#[]⟩]:=λw=>⟨_,zeroValue36 w,rfl⟩
theorem ze37:Zr 37 [zI0,zI0,zI0,zI0]:=λw=>⟨_,zeroValue37 w,rfl⟩
theorem arj:Zr 38 [zI0,zI0,zI0,zI0]:=λw=>⟨_,zeroValue38 w,rfl⟩
theorem ze40:Zr 40 [.int .u64 0]:=λw=>⟨_,zeroValue40 w,rfl⟩
theorem ze41:Zr 41 [zI0,.bool false]:=λw=>⟨_,zeroValue41 w,rfl⟩
theorem ark:Zr 42 [zI0,.bool false]:=λw=>⟨_,zeroValue42 w,rfl⟩
theorem ze44:Zr 44 [zS0]:=λw=>⟨_,zeroValue44 w,rfl⟩
theorem ze45:Zr 45 [.int .u64 0,.int .u64 0,zS0]:=λw=>⟨_,zeroValue45 w,rfl⟩
theorem ze46:Zr 46 [.int .u64 0,.int .u64 0,zS0]:=λw=>⟨_,zeroValue46 w,rfl⟩
theorem ze47:Zr 47 [zI0]:=λw=>⟨_,zeroValue47 w,rfl⟩
theorem ze52:Zr 52 [zS0,zI0,zI0,zI0,zI0,zI0,zI0,zI0,zI0,.int .u64 0,.string ⟨#[]⟩]:=λw=>⟨_,zeroValue52 w,rfl⟩
theorem arl:Zr 54 [zI0,zS0,zI0,zI0,zI0,zI0,zI0,zI0,zI0,zI0,.int .u64 0,.string ⟨#[]⟩]:=λw=>⟨_,zeroValue54 w,rfl⟩
theorem ze61:Zr 61 [zS0]:=λw=>⟨_,zeroValue61 w,rfl⟩
theorem arn:Zr 63 [zI0,zS0]:=λw=>⟨_,zeroValue63 w,rfl⟩
theorem aro:Zr 67 [zI0,zI0]:=λw=>⟨_,zeroValue67 w,rfl⟩
theorem ze70:Zr 70 [zS0]:=λw=>⟨_,zeroValue70 w,rfl⟩
theorem ze71:Zr 71 [zS0]:=λw=>⟨_,zeroValue71 w,rfl⟩
theorem ze72:Zr 72 [zS0]:=λw=>⟨_,zeroValue72 w,rfl⟩
theorem ze74:Zr 74 [zS0,zS0,zS0]:=λw=>⟨_,zeroValue74 w,rfl⟩
theorem arp:Zr 78 [zI0,zI0,zI0,zI0,zI0,zI0,zI0,zI0,zI0,.int .u64 0,.string ⟨#[]⟩]:=λw=>⟨_,zeroValue78 w,rfl⟩
theorem arq:Zr 81 [zI0,zI0,.int .u64 0]:=λw=>⟨_,zeroValue81 w,rfl⟩
theorem ars:Zr 89 [zI0,zI0,zI0,zI0,zI0]:=λw=>⟨_,zeroValue89 w,rfl⟩
theorem ze96:Zr 96 [zS0]:=λw=>⟨_,zeroValue96 w,rfl⟩
theorem auV:Zr 100 [zS0,zS0]:=λw=>⟨_,zeroValue100 w,rfl⟩
theorem auW:Zr 115 [zS0,zI0]:=λw=>⟨_,zeroValue115 w,rfl⟩
theorem auX:Zr 117 [zS0]:=λw=>⟨_,zeroValue117 w,rfl⟩
theorem amx:Zr 118 [zS0]:=λw=>⟨_,zeroValue118 w,rfl⟩
theorem auZ:Zr 130 [.nilFunc]:=λw=>⟨_,zeroValue130 w,rfl⟩
theorem au0:Zr 136 [zS0]:=λw=>⟨_,zeroValue136 w,rfl⟩
theorem amy:Zr 141 [zI0,.int .u64 0]:=λw=>⟨_,zeroValue141 w,rfl⟩
theorem amz:Zr 143 [zI0,zI0,zI0,zI0,zI0,zS0,zI0,zI0,zI0,zI0,zI0,zI0,zI0,zI0,.int .u64 0,.string ⟨#[]⟩]:=λw=>⟨_,zeroValue143 w,rfl⟩
theorem amA:Zr 146 [zI0,zI0,zI0,zI0,zI0,zI0,zI0,zI0,zI0,.int .u64 0,.string ⟨#[]⟩]:=λw=>⟨_,zeroValue146 w,rfl⟩
theorem au1:Zr 147 [zS0]:=λw=>⟨_,zeroValue147 w,rfl⟩
theorem au2:Zr 152 [.nilFunc]:=λw=>⟨_,zeroValue152 w,rfl⟩
theorem amB:Zr 154 [zI0,zS0,zI0,zI0,zI0,zI0,zI0,zI0,zI0,zI0,.int .u64 0,.string ⟨#[]⟩]:=λw=>⟨_,zeroValue154 w,rfl⟩
theorem au3:Zr 155 [zS0]:=λw=>⟨_,zeroValue155 w,rfl⟩
theorem au4:Zr 157 [zI0,zS0,zS0,zS0,zS0,zS0,zS0,zS0,zS0,zS0,zS0,zS0]:=λw=>⟨_,zeroValue157 w,rfl⟩
theorem au5:Zr 159 [zI0,zS0,zI0,zI0,zI0,zI0,zI0,zI0,zI0,zI0,.int .u64 0,.string ⟨#[]⟩]:=λw=>⟨_,zeroValue159 w,rfl⟩
theorem au6:Zr 168 [.nilFunc]:=λw=>⟨_,zeroValue168 w,rfl⟩
theorem au7:Zr 170 [.nilFunc]:=λw=>⟨_,zeroValue170 w,rfl⟩
theorem au8:Zr 172 [.nilFunc]:=λw=>⟨_,zeroValue172 w,rfl⟩
theorem au9:Zr 173 [.nilFunc]:=λw=>⟨_,zeroValue173 w,rfl⟩
theorem aaR:Zr 177 [zI0,zI0]:=λw=>⟨_,zeroValue177 w,rfl⟩
theorem ava:Zr 178 [zS0]:=λw=>⟨_,zeroValue178 w,rfl⟩
theorem avb:Zr 184 [zI0,zI0,zI0]:=λw=>⟨_,zeroValue184 w,rfl⟩
theorem avc:Zr 193 [.pointer none]:=λw=>⟨_,zeroValue193 w,rfl⟩
theorem avd:Zr 200 [.map none]:=λw=>⟨_,zeroValue200 w,rfl⟩
theorem ave:Zr 202 [.map none,.map none]:=λw=>⟨_,zeroValue202 w,rfl⟩
theorem avf:Zr 204 [.map none]:=λw=>⟨_,zeroValue204 w,rfl⟩
theorem avg:Zr 215 [.nilFunc]:=λw=>⟨_,zeroValue215 w,rfl⟩
theorem avh:Zr 216 [zS0]:=λw=>⟨_,zeroValue216 w,rfl⟩
theorem amC:Zr 218 [zI0,zI0]:=λw=>⟨_,zeroValue218 w,rfl⟩
theorem avj:Zr 220 [.nilFunc]:=λw=>⟨_,zeroValue220 w,rfl⟩
theorem avk:Zr 228 [zI0]:=λw=>⟨_,zeroValue228 w,rfl⟩
theorem avl:Zr 235 [.int .u32 0]:=λw=>⟨_,zeroValue235 w,rfl⟩
theorem ty2:TyS prog 2 1 false:=⟨sizeOf2,isAgg2⟩
theorem ty3:TyS prog 3 1 false:=⟨sizeOf3,isAgg3⟩
theorem ty4:TyS prog 4 1 false:=⟨sizeOf4,isAgg4⟩
theorem ty5:TyS prog 5 1 false:=⟨sizeOf5,isAgg5⟩
theorem ty6:TyS prog 6 1 false:=⟨sizeOf6,isAgg6⟩
theorem ty7:TyS prog 7 4 true:=⟨sizeOf7,isAgg7⟩
theorem str7:fR prog 7 [zI0,zI0,.bool false,.int .u8 0] [(0,1),(1,1),(2,1),(3,1)]:=gM zeroValue7 underlying7 (λw=>by kernel_rfl)
theorem art:ck prog 7 0 0:=⟨λa w=>by kernel_rfl⟩
theorem aru:ck prog 7 1 1:=⟨λa w=>by kernel_rfl⟩
theorem arv:ck prog 7 2 2:=⟨λa w=>by kernel_rfl⟩
theorem arw:ck prog 7 3 3:=⟨λa w=>by kernel_rfl⟩
theorem arx:bI prog 7 0 0 1 false:=bM underlying7 (by kernel_rfl) ty2 (by decide)
theorem ary:bI prog 7 1 1 1 false:=bM underlying7 (by kernel_rfl) ty3 (by decide)
theorem arz:bI prog 7 2 2 1 false:=bM underlying7 (by kernel_rfl) ty4 (by decide)
theorem arA:bI prog 7 3 3 1 false:=bM underlying7 (by kernel_rfl) ty6 (by decide)
theorem ty8:TyS prog 8 4 true:=⟨sizeOf8,isAgg8⟩
theorem str8:fR prog 8 [zI0,zI0,.bool false,.int .u8 0] [(0,1),(1,1),(2,1),(3,1)]:=gM zeroValue8 underlying8 (λw=>by kernel_rfl)
theorem arB:ck prog 8 0 0:=⟨λa w=>by kernel_rfl⟩
theorem arC:ck prog 8 1 1:=⟨λa w=>by kernel_rfl⟩
theorem arD:ck prog 8 2 2:=⟨λa w=>by kernel_rfl⟩
theorem arE:ck prog 8 3 3:=⟨λa w=>by kernel_rfl⟩
theorem arF:bI prog 8 0 0 1 false:=bM underlying8 (by kernel_rfl) ty2 (by decide)
theorem arG:bI prog 8 1 1 1 false:=bM underlying8 (by kernel_rfl) ty3 (by decide)
theorem arH:bI prog 8 2 2 1 false:=bM underlying8 (by kernel_rfl) ty4 (by decide)
theorem arI:bI prog 8 3 3 1 false:=bM underlying8 (by kernel_rfl) ty6 (by decide)
theorem ty9:TyS prog 9 1 false:=⟨sizeOf9,isAgg9⟩
theorem ty10:TyS prog 10 1 false:=⟨sizeOf10,isAgg10⟩
theorem ty11:TyS prog 11 1 false:=⟨sizeOf11,isAgg11⟩
theorem aj7:TyS prog 12 1 false:=⟨sizeOf12,isAgg12⟩
theorem ty13:TyS prog 13 2 true:=⟨sizeOf13,isAgg13⟩
theorem avm:fR prog 13 [.string ⟨#[]⟩,.int .u64 0] [(0,1),(1,1)]:=gM zeroValue13 underlying13 (λw=>by kernel_rfl)
theorem anT:ck prog 13 0 0:=⟨λa w=>by kernel_rfl⟩
theorem anU:ck prog 13 1 1:=⟨λa w=>by kernel_rfl⟩
theorem anV:bI prog 13 0 0 1 false:=bM underlying13 (by kernel_rfl) ty9 (by decide)
theorem anW:bI prog 13 1 1 1 false:=bM underlying13 (by kernel_rfl) aj7 (by decide)
theorem ty14:TyS prog 14 2 true:=⟨sizeOf14,isAgg14⟩
theorem avn:fR prog 14 [.string ⟨#[]⟩,.int .u64 0] [(0,1),(1,1)]:=gM zeroValue14 underlying14 (λw=>by kernel_rfl)
theorem anX:ck prog 14 0 0:=⟨λa w=>by kernel_rfl⟩
theorem anY:ck prog 14 1 1:=⟨λa w=>by kernel_rfl⟩
theorem anZ:bI prog 14 0 0 1 false:=bM underlying14 (by kernel_rfl) ty9 (by decide)
theorem an0:bI prog 14 1 1 1 false:=bM underlying14 (by kernel_rfl) aj7 (by decide)
theorem ty15:TyS prog 15 1 false:=⟨sizeOf15,isAgg15⟩
theorem ty16:TyS prog 16 1 false:=⟨sizeOf16,isAgg16⟩
theorem aj8:TyS prog 17 1 false:=⟨sizeOf17,isAgg17⟩
theorem ty18:TyS prog 18 1 true:=⟨sizeOf18,isAgg18⟩
theorem avo:fR prog 18 [.pointer none] [(0,1)]:=gM zeroValue18 underlying18 (λw=>by kernel_rfl)
theorem an1:ck prog 18 0 0:=⟨λa w=>by kernel_rfl⟩
theorem an2:bI prog 18 0 0 1 false:=bM underlying18 (by kernel_rfl) aj8 (by decide)
theorem ty19:TyS prog 19 1 true:=⟨sizeOf19,isAgg19⟩
theorem avp:fR prog 19 [.pointer none] [(0,1)]:=gM zeroValue19 underlying19 (λw=>by kernel_rfl)
theorem an3:ck prog 19 0 0:=⟨λa w=>by kernel_rfl⟩
theorem an4:bI prog 19 0 0 1 false:=bM underlying19 (by kernel_rfl) aj8 (by decide)
theorem ty21:TyS prog 21 1 false:=⟨sizeOf21,isAgg21⟩
theorem ahR:TyS prog 22 1 false:=⟨sizeOf22,isAgg22⟩
theorem sl22:SlS prog 22 3 1:=⟨underlying22,sizeOf3⟩
theorem ahS:j9 prog 22 3 1 8:=⟨underlying22,(by obtain⟨i,h1,h2,h3,h4⟩:=info_parts (by kernel_rfl:(prog.info? 3).map (λi=>(i.zero,i.size,i.bytes))=some (some (zI0),1,8));exact⟨i,_,h1,h2,h3,h4,rfl⟩),by decide⟩
theorem amD:lp prog 22 3 1 [zI0]:=⟨underlying22,sizeOf3,ze3,rfl⟩
theorem ty23:TyS prog 23 1 false:=⟨sizeOf23,isAgg23⟩
theorem aj9:TyS prog 25 1 false:=⟨sizeOf25,isAgg25⟩
theorem sl25:SlS prog 25 42 2:=⟨underlying25,sizeOf42⟩
theorem avq:j9 prog 25 42 2 16:=⟨underlying25,(by obtain⟨i,h1,h2,h3,h4⟩:=info_parts (by kernel_rfl:(prog.info? 42).map (λi=>(i.zero,i.size,i.bytes))=some (some (.agg #[zI0,.bool false]),2,16));exact⟨i,_,h1,h2,h3,h4,rfl⟩),by decide⟩
theorem avr:lp prog 25 42 2 [zI0,.bool false]:=⟨underlying25,sizeOf42,ark,rfl⟩
theorem aka:TyS prog 26 1 false:=⟨sizeOf26,isAgg26⟩
theorem sl26:SlS prog 26 89 5:=⟨underlying26,sizeOf89⟩
theorem avt:j9 prog 26 89 5 40:=⟨underlying26,(by obtain⟨i,h1,h2,h3,h4⟩:=info_parts (by kernel_rfl:(prog.info? 89).map (λi=>(i.zero,i.size,i.bytes))=some (some (.agg #[zI0,zI0,zI0,zI0,zI0]),5,40));exact⟨i,_,h1,h2,h3,h4,rfl⟩),by decide⟩
theorem avu:lp prog 26 89 5 [zI0,zI0,zI0,zI0,zI0]:=⟨underlying26,sizeOf89,ars,rfl⟩
theorem ty27:TyS prog 27 2 true:=⟨sizeOf27,isAgg27⟩
theorem avv:fR prog 27 [zS0,zS0] [(0,1),(1,1)]:=gM zeroValue27 underlying27 (λw=>by kernel_rfl)
theorem an5:ck prog 27 0 0:=⟨λa w=>by kernel_rfl⟩
theorem an6:ck prog 27 1 1:=⟨λa w=>by kernel_rfl⟩
theorem an7:bI prog 27 0 0 1 false:=bM underlying27 (by kernel_rfl) aj9 (by decide)
theorem an8:bI prog 27 1 1 1 false:=bM underlying27 (by kernel_rfl) aka (by decide)
theorem akb:TyS prog 28 2 true:=⟨sizeOf28,isAgg28⟩
theorem avw:fR prog 28 [zS0,zS0] [(0,1),(1,1)]:=gM zeroValue28 underlying28 (λw=>by kernel_rfl)
theorem an9:ck prog 28 0 0:=⟨λa w=>by kernel_rfl⟩
theorem aoa:ck prog 28 1 1:=⟨λa w=>by kernel_rfl⟩
theorem aob:bI prog 28 0 0 1 false:=bM underlying28 (by kernel_rfl) aj9 (by decide)
theorem aoc:bI prog 28 1 1 1 false:=bM underlying28 (by kernel_rfl) aka (by decide)
theorem akc:TyS prog 30 1 false:=⟨sizeOf30,isAgg30⟩
theorem sl30:SlS prog 30 38 4:=⟨underlying30,sizeOf38⟩
theorem avx:j9 prog 30 38 4 32:=⟨underlying30,(by obtain⟨i,h1,h2,h3,h4⟩:=info_parts (by kernel_rfl:(prog.info? 38).map (λi=>(i.zero,i.size,i.bytes))=some (some (.agg #[zI0,zI0,zI0,zI0]),4,32));exact⟨i,_,h1,h2,h3,h4,rfl⟩),by decide⟩
theorem avy:lp prog 30 38 4 [zI0,zI0,zI0,zI0]:=⟨underlying30,sizeOf38,arj,rfl⟩
theorem ty31:TyS prog 31 2 true:=⟨sizeOf31,isAgg31⟩
theorem avz:fR prog 31 [zI0,zS0] [(0,1),(1,1)]:=gM zeroValue31 underlying31 (λw=>by kernel_rfl)
theorem aod:ck prog 31 0 0:=⟨λa w=>by kernel_rfl⟩
theorem aoe:ck prog 31 1 1:=⟨λa w=>by kernel_rfl⟩
theorem aof:bI prog 31 0 0 1 false:=bM underlying31 (by kernel_rfl) ty3 (by decide)
theorem aog:bI prog 31 1 1 1 false:=bM underlying31 (by kernel_rfl) akc (by decide)
theorem arJ:TyS prog 32 2 true:=⟨sizeOf32,isAgg32⟩
theorem avA:fR prog 32 [zI0,zS0] [(0,1),(1,1)]:=gM zeroValue32 underlying32 (λw=>by kernel_rfl)
theorem aoh:ck prog 32 0 0:=⟨λa w=>by kernel_rfl⟩
theorem aoi:ck prog 32 1 1:=⟨λa w=>by kernel_rfl⟩
theorem aoj:bI prog 32 0 0 1 false:=bM underlying32 (by kernel_rfl) ty3 (by decide)
theorem aok:bI prog 32 1 1 1 false:=bM underlying32 (by kernel_rfl) akc (by decide)
theorem yH:TyS prog 34 1 false:=⟨sizeOf34,isAgg34⟩
theorem ty35:TyS prog 35 10 true:=⟨sizeOf35,isAgg35⟩
theorem avB:fR prog 35 [zI0,zI0,zI0,zI0,zI0,zI0,zI0,zI0,.int .u64 0,.string ⟨#[]⟩] [(0,1),(1,1),(2,1),(3,1),(4,1),(5,1),(6,1),(7,1),(8,1),(9,1)]:=gM zeroValue35 underlying35 (λw=>by kernel_rfl)
theorem aol:ck prog 35 0 0:=⟨λa w=>by kernel_rfl⟩
theorem aom:ck prog 35 1 1:=⟨λa w=>by kernel_rfl⟩
theorem aon:ck prog 35 2 2:=⟨λa w=>by kernel_rfl⟩
theorem aoo:ck prog 35 3 3:=⟨λa w=>by kernel_rfl⟩
theorem aop:ck prog 35 4 4:=⟨λa w=>by kernel_rfl⟩
theorem aoq:ck prog 35 5 5:=⟨λa w=>by kernel_rfl⟩
theorem aor:ck prog 35 6 6:=⟨λa w=>by kernel_rfl⟩
theorem aos:ck prog 35 7 7:=⟨λa w=>by kernel_rfl⟩
theorem aot:ck prog 35 8 8:=⟨λa w=>by kernel_rfl⟩
theorem aou:ck prog 35 9 9:=⟨λa w=>by kernel_rfl⟩
theorem aov:bI prog 35 0 0 1 false:=bM underlying35 (by kernel_rfl) ty3 (by decide)
theorem aow:bI prog 35 1 1 1 false:=bM underlying35 (by kernel_rfl) ty3 (by decide)
theorem aox:bI prog 35 2 2 1 false:=bM underlying35 (by kernel_rfl) ty3 (by decide)
theorem aoy:bI prog 35 3 3 1 false:=bM underlying35 (by kernel_rfl) ty3 (by decide)
theorem aoz:bI prog 35 4 4 1 false:=bM underlying35 (by kernel_rfl) ty3 (by decide)
theorem aoA:bI prog 35 5 5 1 false:=bM underlying35 (by kernel_rfl) ty3 (by decide)
theorem aoB:bI prog 35 6 6 1 false:=bM underlying35 (by kernel_rfl) ty3 (by decide)
theorem aoC:bI prog 35 7 7 1 false:=bM underlying35 (by kernel_rfl) ty3 (by decide)
theorem aoD:bI prog 35 8 8 1 false:=bM underlying35 (by kernel_rfl) yH (by decide)
theorem aoE:bI prog 35 9 9 1 false:=bM underlying35 (by kernel_rfl) ty9 (by decide)
theorem ahT:TyS prog 36 10 true:=⟨sizeOf36,isAgg36⟩
theorem avC:fR prog 36 [zI0,zI0,zI0,zI0,zI0,zI0,zI0,zI0,.int .u64 0,.string ⟨#[]⟩] [(0,1),(1,1),(2,1),(3,1),(4,1),(5,1),(6,1),(7,1),(8,1),(9,1)]:=gM zeroValue36 underlying36 (λw=>by kernel_rfl)
theorem aoF:ck prog 36 0 0:=⟨λa w=>by kernel_rfl⟩
theorem aoG:ck prog 36 1 1:=⟨λa w=>by kernel_rfl⟩
theorem aoH:ck prog 36 2 2:=⟨λa w=>by kernel_rfl⟩
theorem aoI:ck prog 36 3 3:=⟨λa w=>by kernel_rfl⟩
theorem aoJ:ck prog 36 4 4:=⟨λa w=>by kernel_rfl⟩
theorem aoK:ck prog 36 5 5:=⟨λa w=>by kernel_rfl⟩
theorem aoL:ck prog 36 6 6:=⟨λa w=>by kernel_rfl⟩
theorem aoM:ck prog 36 7 7:=⟨λa w=>by kernel_rfl⟩
theorem aoN:ck prog 36 8 8:=⟨λa w=>by kernel_rfl⟩
theorem aoO:ck prog 36 9 9:=⟨λa w=>by kernel_rfl⟩
theorem aoP:bI prog 36 0 0 1 false:=bM underlying36 (by kernel_rfl) ty3 (by decide)
theorem aoQ:bI prog 36 1 1 1 false:=bM underlying36 (by kernel_rfl) ty3 (by decide)
theorem aoR:bI prog 36 2 2 1 false:=bM underlying36 (by kernel_rfl) ty3 (by decide)
theorem aoS:bI prog 36 3 3 1 false:=bM underlying36 (by kernel_rfl) ty3 (by decide)
theorem aoT:bI prog 36 4 4 1 false:=bM underlying36 (by kernel_rfl) ty3 (by decide)
theorem aoU:bI prog 36 5 5 1 false:=bM underlying36 (by kernel_rfl) ty3 (by decide)
theorem aoV:bI prog 36 6 6 1 false:=bM underlying36 (by kernel_rfl) ty3 (by decide)
theorem aoW:bI prog 36 7 7 1 false:=bM underlying36 (by kernel_rfl) ty3 (by decide)
theorem aoX:bI prog 36 8 8 1 false:=bM underlying36 (by kernel_rfl) yH (by decide)
theorem aoY:bI prog 36 9 9 1 false:=bM underlying36 (by kernel_rfl) ty9 (by decide)
theorem ty37:TyS prog 37 4 true:=⟨sizeOf37,isAgg37⟩
theorem avD:fR prog 37 [zI0,zI0,zI0,zI0] [(0,1),(1,1),(2,1),(3,1)]:=gM zeroValue37 underlying37 (λw=>by kernel_rfl)
theorem aoZ:ck prog 37 0 0:=⟨λa w=>by kernel_rfl⟩
theorem ao0:ck prog 37 1 1:=⟨λa w=>by kernel_rfl⟩
theorem ao1:ck prog 37 2 2:=⟨λa w=>by kernel_rfl⟩
theorem ao2:ck prog 37 3 3:=⟨λa w=>by kernel_rfl⟩
theorem ao3:bI prog 37 0 0 1 false:=bM underlying37 (by kernel_rfl) ty3 (by decide)
theorem ao4:bI prog 37 1 1 1 false:=bM underlying37 (by kernel_rfl) ty3 (by decide)
theorem ao5:bI prog 37 2 2 1 false:=bM underlying37 (by kernel_rfl) ty3 (by decide)
theorem ao6:bI prog 37 3 3 1 false:=bM underlying37 (by kernel_rfl) ty3 (by decide)
theorem arK:TyS prog 38 4 true:=⟨sizeOf38,isAgg38⟩
theorem avE:fR prog 38 [zI0,zI0,zI0,zI0] [(0,1),(1,1),(2,1),(3,1)]:=gM zeroValue38 underlying38 (λw=>by kernel_rfl)
theorem ao7:ck prog 38 0 0:=⟨λa w=>by kernel_rfl⟩
theorem ao8:ck prog 38 1 1:=⟨λa w=>by kernel_rfl⟩
theorem ao9:ck prog 38 2 2:=⟨λa w=>by kernel_rfl⟩
theorem apa:ck prog 38 3 3:=⟨λa w=>by kernel_rfl⟩
theorem apb:bI prog 38 0 0 1 false:=bM underlying38 (by kernel_rfl) ty3 (by decide)
theorem apc:bI prog 38 1 1 1 false:=bM underlying38 (by kernel_rfl) ty3 (by decide)
theorem apd:bI prog 38 2 2 1 false:=bM underlying38 (by kernel_rfl) ty3 (by decide)
theorem ape:bI prog 38 3 3 1 false:=bM underlying38 (by kernel_rfl) ty3 (by decide)
theorem ty40:TyS prog 40 1 false:=⟨sizeOf40,isAgg40⟩
theorem ty41:TyS prog 41 2 true:=⟨sizeOf41,isAgg41⟩
theorem avF:fR prog 41 [zI0,.bool false] [(0,1),(1,1)]:=gM zeroValue41 underlying41 (λw=>by kernel_rfl)
theorem apf:ck prog 41 0 0:=⟨λa w=>by kernel_rfl⟩
theorem apg:ck prog 41 1 1:=⟨λa w=>by kernel_rfl⟩
theorem aph:bI prog 41 0 0 1 false:=bM underlying41 (by kernel_rfl) ty3 (by decide)
theorem api:bI prog 41 1 1 1 false:=bM underlying41 (by kernel_rfl) ty4 (by decide)
theorem ty42:TyS prog 42 2 true:=⟨sizeOf42,isAgg42⟩
theorem avG:fR prog 42 [zI0,.bool false] [(0,1),(1,1)]:=gM zeroValue42 underlying42 (λw=>by kernel_rfl)
theorem apj:ck prog 42 0 0:=⟨λa w=>by kernel_rfl⟩
theorem apk:ck prog 42 1 1:=⟨λa w=>by kernel_rfl⟩
theorem apl:bI prog 42 0 0 1 false:=bM underlying42 (by kernel_rfl) ty3 (by decide)
theorem apm:bI prog 42 1 1 1 false:=bM underlying42 (by kernel_rfl) ty4 (by decide)
theorem akd:TyS prog 44 1 false:=⟨sizeOf44,isAgg44⟩
theorem sl44:SlS prog 44 54 12:=⟨underlying44,sizeOf54⟩
theorem avH:j9 prog 44 54 12 120:=⟨underlying44,(by obtain⟨i,h1,h2,h3,h4⟩:=info_parts (by kernel_rfl:(prog.info? 54).map (λi=>(i.zero,i.size,i.bytes))=some (some (.agg #[zI0,zS0,zI0,zI0,zI0,zI0,zI0,zI0,zI0,zI0,.int .u64 0,.string ⟨#[]⟩]),12,120));exact⟨i,_,h1,h2,h3,h4,rfl⟩),by decide⟩
theorem avI:lp prog 44 54 12 [zI0,zS0,zI0,zI0,zI0,zI0,zI0,zI0,zI0,zI0,.int .u64 0,.string ⟨#[]⟩]:=⟨underlying44,sizeOf54,arl,rfl⟩
theorem ty45:TyS prog 45 3 true:=⟨sizeOf45,isAgg45⟩
theorem avJ:fR prog 45 [.int .u64 0,.int .u64 0,zS0] [(0,1),(1,1),(2,1)]:=gM zeroValue45 underlying45 (λw=>by kernel_rfl)
theorem apn:ck prog 45 0 0:=⟨λa w=>by kernel_rfl⟩
theorem apo:ck prog 45 1 1:=⟨λa w=>by kernel_rfl⟩
theorem apq:ck prog 45 2 2:=⟨λa w=>by kernel_rfl⟩
theorem apr:bI prog 45 0 0 1 false:=bM underlying45 (by kernel_rfl) yH (by decide)
theorem aps:bI prog 45 1 1 1 false:=bM underlying45 (by kernel_rfl) yH (by decide)
theorem apt:bI prog 45 2 2 1 false:=bM underlying45 (by kernel_rfl) akd (by decide)
theorem ty46:TyS prog 46 3 true:=⟨sizeOf46,isAgg46⟩
theorem avK:fR prog 46 [.int .u64 0,.int .u64 0,zS0] [(0,1),(1,1),(2,1)]:=gM zeroValue46 underlying46 (λw=>by kernel_rfl)
theorem apu:ck prog 46 0 0:=⟨λa w=>by kernel_rfl⟩
theorem apv:ck prog 46 1 1:=⟨λa w=>by kernel_rfl⟩
theorem apw:ck prog 46 2 2:=⟨λa w=>by kernel_rfl⟩
theorem apx:bI prog 46 0 0 1 false:=bM underlying46 (by kernel_rfl) yH (by decide)
theorem apy:bI prog 46 1 1 1 false:=bM underlying46 (by kernel_rfl) yH (by decide)
theorem apz:bI prog 46 2 2 1 false:=bM underlying46 (by kernel_rfl) akd (by decide)
theorem ty47:TyS prog 47 1 false:=⟨sizeOf47,isAgg47⟩
theorem ahU:TyS prog 52 11 true:=⟨sizeOf52,isAgg52⟩
theorem avL:fR prog 52 [zS0,zI0,zI0,zI0,zI0,zI0,zI0,zI0,zI0,.int .u64 0,.string ⟨#[]⟩] [(0,1),(1,10)]:=gM zeroValue52 underlying52 (λw=>by kernel_rfl)
theorem apA:ck prog 52 0 0:=⟨λa w=>by kernel_rfl⟩
theorem apB:ck prog 52 1 1:=⟨λa w=>by kernel_rfl⟩
theorem apC:bI prog 52 0 0 1 false:=bM underlying52 (by kernel_rfl) ahR (by decide)
theorem apD:bI prog 52 1 1 10 true:=bM underlying52 (by kernel_rfl) ahT (by decide)
theorem arL:TyS prog 54 12 true:=⟨sizeOf54,isAgg54⟩
theorem avM:fR prog 54 [zI0,zS0,zI0,zI0,zI0,zI0,zI0,zI0,zI0,zI0,.int .u64 0,.string ⟨#[]⟩] [(0,1),(1,11)]:=gM zeroValue54 underlying54 (λw=>by kernel_rfl)
theorem apF:ck prog 54 0 0:=⟨λa w=>by kernel_rfl⟩
theorem apG:ck prog 54 1 1:=⟨λa w=>by kernel_rfl⟩
theorem apH:bI prog 54 0 0 1 false:=bM underlying54 (by kernel_rfl) ty3 (by decide)
theorem apI:bI prog 54 1 1 11 true:=bM underlying54 (by kernel_rfl) ahU (by decide)
theorem ake:TyS prog 61 1 false:=⟨sizeOf61,isAgg61⟩
theorem sl61:SlS prog 61 67 2:=⟨underlying61,sizeOf67⟩
theorem amE:j9 prog 61 67 2 16:=⟨underlying61,(by obtain⟨i,h1,h2,h3,h4⟩:=info_parts (by kernel_rfl:(prog.info? 67).map (λi=>(i.zero,i.size,i.bytes))=some (some (.agg #[zI0,zI0]),2,16));exact⟨i,_,h1,h2,h3,h4,rfl⟩),by decide⟩
theorem avN:lp prog 61 67 2 [zI0,zI0]:=⟨underlying61,sizeOf67,aro,rfl⟩
theorem ty63:TyS prog 63 2 true:=⟨sizeOf63,isAgg63⟩
theorem avO:fR prog 63 [zI0,zS0] [(0,1),(1,1)]:=gM zeroValue63 underlying63 (λw=>by kernel_rfl)
theorem apJ:ck prog 63 0 0:=⟨λa w=>by kernel_rfl⟩
theorem apK:ck prog 63 1 1:=⟨λa w=>by kernel_rfl⟩
theorem apL:bI prog 63 0 0 1 false:=bM underlying63 (by kernel_rfl) ty3 (by decide)
theorem apM:bI prog 63 1 1 1 false:=bM underlying63 (by kernel_rfl) ake (by decide)
theorem ty67:TyS prog 67 2 true:=⟨sizeOf67,isAgg67⟩
theorem avP:fR prog 67 [zI0,zI0] [(0,1),(1,1)]:=gM zeroValue67 underlying67 (λw=>by kernel_rfl)
theorem apN:ck prog 67 0 0:=⟨λa w=>by kernel_rfl⟩
theorem apO:ck prog 67 1 1:=⟨λa w=>by kernel_rfl⟩
theorem apP:bI prog 67 0 0 1 false:=bM underlying67 (by kernel_rfl) ty3 (by decide)
theorem apQ:bI prog 67 1 1 1 false:=bM underlying67 (by kernel_rfl) ty3 (by decide)
theorem avQ(a0 b0:Int)(a1 b1:Int)(w:World):(Op.eqFields 9999 #[.int .i64 a0,.int .i64 a1] #[.int .i64 b0,.int .i64 b1] (prog.fieldsOf 67).toList).run prog w=.ok (decide (a0=b0)&&(decide (a1=b1)&&true)) w:=by
 have hf:(prog.fieldsOf 67).toList.map (λf=>(f.name== "_",f.type,f.offset))=[(false,3,0),(false,3,1)]:=by kernel_rfl
 have q:(Op.eqFields 9999 #[.int .i64 a0,.int .i64 a1] #[.int .i64 b0,.int .i64 b1] (prog.fieldsOf 67).toList).run prog w=.ok (decide (a0=b0)&&(decide (a1=b1)&&true)) w:=by
  obtain⟨f0,t0,e0,h0,hf⟩:=er hf
  obtain⟨f1,t1,e1,h1,hf⟩:=er hf
  rw[e0,e1,qp hf]
  exact gX h0 isAgg3 underlying3 rfl rfl (gX h1 isAgg3 underlying3 rfl rfl (vo))
 exact q
theorem akf(x y:Operand)(a0 b0:Int)(a1 b1:Int)(w:World):(do eqGuard .eql 67 x y (.agg #[.int .i64 a0,.int .i64 a1]) (.agg #[.int .i64 b0,.int .i64 b1]);binOp .eql 67 (.agg #[.int .i64 a0,.int .i64 a1]) (.agg #[.int .i64 b0,.int .i64 b1]):Sem Value).run prog w=.ok (.bool (decide (a0=b0)&&(decide (a1=b1)&&true))) w:=anP _ _ _ x y (by kernel_rfl) (by kernel_rfl) (by kernel_rfl) (avQ a0 b0 a1 b1 w)
theorem arM:TyS prog 70 1 false:=⟨sizeOf70,isAgg70⟩
theorem sl70:SlS prog 70 78 11:=⟨underlying70,sizeOf78⟩
theorem avR:j9 prog 70 78 11 96:=⟨underlying70,(by obtain⟨i,h1,h2,h3,h4⟩:=info_parts (by kernel_rfl:(prog.info? 78).map (λi=>(i.zero,i.size,i.bytes))=some (some (.agg #[zI0,zI0,zI0,zI0,zI0,zI0,zI0,zI0,zI0,.int .u64 0,.string ⟨#[]⟩]),11,96));exact⟨i,_,h1,h2,h3,h4,rfl⟩),by decide⟩
theorem avS:lp prog 70 78 11 [zI0,zI0,zI0,zI0,zI0,zI0,zI0,zI0,zI0,.int .u64 0,.string ⟨#[]⟩]:=⟨underlying70,sizeOf78,arp,rfl⟩
theorem arN:TyS prog 71 1 false:=⟨sizeOf71,isAgg71⟩
theorem sl71:SlS prog 71 81 3:=⟨underlying71,sizeOf81⟩
theorem avT:j9 prog 71 81 3 24:=⟨underlying71,(by obtain⟨i,h1,h2,h3,h4⟩:=info_parts (by kernel_rfl:(prog.info? 81).map (λi=>(i.zero,i.size,i.bytes))=some (some (.agg #[zI0,zI0,.int .u64 0]),3,24));exact⟨i,_,h1,h2,h3,h4,rfl⟩),by decide⟩
theorem avU:lp prog 71 81 3 [zI0,zI0,.int .u64 0]:=⟨underlying71,sizeOf81,arq,rfl⟩
theorem arO:TyS prog 72 1 false:=⟨sizeOf72,isAgg72⟩
theorem sl72:SlS prog 72 141 2:=⟨underlying72,sizeOf141⟩
theorem avV:j9 prog 72 141 2 16:=⟨underlying72,(by obtain⟨i,h1,h2,h3,h4⟩:=info_parts (by kernel_rfl:(prog.info? 141).map (λi=>(i.zero,i.size,i.bytes))=some (some (.agg #[zI0,.int .u64 0]),2,16));exact⟨i,_,h1,h2,h3,h4,rfl⟩),by decide⟩
theorem avW:lp prog 72 141 2 [zI0,.int .u64 0]:=⟨underlying72,sizeOf141,amy,rfl⟩
theorem arP:TyS prog 74 3 true:=⟨sizeOf74,isAgg74⟩
theorem avX:fR prog 74 [zS0,zS0,zS0] [(0,1),(1,1),(2,1)]:=gM zeroValue74 underlying74 (λw=>by kernel_rfl)
theorem apR:ck prog 74 0 0:=⟨λa w=>by kernel_rfl⟩
theorem apS:ck prog 74 1 1:=⟨λa w=>by kernel_rfl⟩
theorem apT:ck prog 74 2 2:=⟨λa w=>by kernel_rfl⟩
theorem apU:bI prog 74 0 0 1 false:=bM underlying74 (by kernel_rfl) arM (by decide)
theorem apV:bI prog 74 1 1 1 false:=bM underlying74 (by kernel_rfl) arN (by decide)
theorem apW:bI prog 74 2 2 1 false:=bM underlying74 (by kernel_rfl) arO (by decide)
theorem ty78:TyS prog 78 11 true:=⟨sizeOf78,isAgg78⟩
theorem avY:fR prog 78 [zI0,zI0,zI0,zI0,zI0,zI0,zI0,zI0,zI0,.int .u64 0,.string ⟨#[]⟩] [(0,1),(1,10)]:=gM zeroValue78 underlying78 (λw=>by kernel_rfl)
theorem apX:ck prog 78 0 0:=⟨λa w=>by kernel_rfl⟩
theorem apY:ck prog 78 1 1:=⟨λa w=>by kernel_rfl⟩
theorem apZ:bI prog 78 0 0 1 false:=bM underlying78 (by kernel_rfl) ty3 (by decide)
theorem ap0:bI prog 78 1 1 10 true:=bM underlying78 (by kernel_rfl) ahT (by decide)
theorem avZ(a0 b0:Int)(a1 b1:Int)(a2 b2:Int)(a3 b3:Int)(a4 b4:Int)(a5 b5:Int)(a6 b6:Int)(a7 b7:Int)(a8 b8:Int)(a9 b9:Int)(a10 b10:ByteArray)(w:World):(Op.eqFields 9999 #[.int .i64 a0,.int .i64 a1,.int .i64 a2,.int .i64 a3,.int .i64 a4,.int .i64 a5,.int .i64 a6,.int .i64 a7,.int .i64 a8,.int .u64 a9,.string a10] #[.int .i64 b0,.int .i64 b1,.int .i64 b2,.int .i64 b3,.int .i64 b4,.int .i64 b5,.int .i64 b6,.int .i64 b7,.int .i64 b8,.int .u64 b9,.string b10] (prog.fieldsOf 78).toList).run prog w=.ok (decide (a0=b0)&&((decide (a1=b1)&&(decide (a2=b2)&&(decide (a3=b3)&&(decide (a4=b4)&&(decide (a5=b5)&&(decide (a6=b6)&&(decide (a7=b7)&&(decide (a8=b8)&&(decide (a9=b9)&&((a10.toList==b10.toList)&&true))))))))))&&true)) w:=by
 have nN:(prog.fieldsOf 36).toList.map (λf=>(f.name== "_",f.type,f.offset))=[(false,3,0),(false,3,1),(false,3,2),(false,3,3),(false,3,4),(false,3,5),(false,3,6),(false,3,7),(false,34,8),(false,9,9)]:=by kernel_rfl
 have q_1:(Op.eqFields 9998 #[.int .i64 a1,.int .i64 a2,.int .i64 a3,.int .i64 a4,.int .i64 a5,.int .i64 a6,.int .i64 a7,.int .i64 a8,.int .u64 a9,.string a10] #[.int .i64 b1,.int .i64 b2,.int .i64 b3,.int .i64 b4,.int .i64 b5,.int .i64 b6,.int .i64 b7,.int .i64 b8,.int .u64 b9,.string b10] (prog.fieldsOf 36).toList).run prog w=.ok (decide (a1=b1)&&(decide (a2=b2)&&(decide (a3=b3)&&(decide (a4=b4)&&(decide (a5=b5)&&(decide (a6=b6)&&(decide (a7=b7)&&(decide (a8=b8)&&(decide (a9=b9)&&((a10.toList==b10.toList)&&true)))))))))) w:=by
  obtain⟨f0,t0,e0,h0,nN⟩:=er nN
  obtain⟨f1,t1,e1,h1,nN⟩:=er nN
  obtain⟨f2,t2,e2,h2,nN⟩:=er nN
  obtain⟨f3,t3,e3,h3,nN⟩:=er nN
  obtain⟨f4,t4,e4,h4,nN⟩:=er nN
  obtain⟨f5,t5,e5,h5,nN⟩:=er nN
  obtain⟨f6,t6,e6,h6,nN⟩:=er nN
  obtain⟨f7,t7,e7,h7,nN⟩:=er nN
  obtain⟨f8,t8,e8,h8,nN⟩:=er nN
  obtain⟨f9,t9,e9,h9,nN⟩:=er nN
  rw[e0,e1,e2,e3,e4,e5,e6,e7,e8,e9,qp nN]
  exact gX h0 isAgg3 underlying3 rfl rfl (gX h1 isAgg3 underlying3 rfl rfl (gX h2 isAgg3 underlying3 rfl rfl (gX h3 isAgg3 underlying3 rfl rfl (gX h4 isAgg3 underlying3 rfl rfl (gX h5 isAgg3 underlying3 rfl rfl (gX h6 isAgg3 underlying3 rfl rfl (gX h7 isAgg3 underlying3 rfl rfl (gX h8 isAgg34 underlying34 rfl rfl (ahO h9 isAgg9 underlying9 rfl rfl (vo))))))))))
 have hf:(prog.fieldsOf 78).toList.map (λf=>(f.name== "_",f.type,f.offset))=[(false,3,0),(false,36,1)]:=by kernel_rfl
 have q:(Op.eqFields 9999 #[.int .i64 a0,.int .i64 a1,.int .i64 a2,.int .i64 a3,.int .i64 a4,.int .i64 a5,.int .i64 a6,.int .i64 a7,.int .i64 a8,.int .u64 a9,.string a10] #[.int .i64 b0,.int .i64 b1,.int .i64 b2,.int .i64 b3,.int .i64 b4,.int .i64 b5,.int .i64 b6,.int .i64 b7,.int .i64 b8,.int .u64 b9,.string b10] (prog.fieldsOf 78).toList).run prog w=.ok (decide (a0=b0)&&((decide (a1=b1)&&(decide (a2=b2)&&(decide (a3=b3)&&(decide (a4=b4)&&(decide (a5=b5)&&(decide (a6=b6)&&(decide (a7=b7)&&(decide (a8=b8)&&(decide (a9=b9)&&((a10.toList==b10.toList)&&true))))))))))&&true)) w:=by
  obtain⟨f0,t0,e0,h0,hf⟩:=er hf
  obtain⟨f1,t1,e1,h1,hf⟩:=er hf
  rw[e0,e1,qp hf]
  exact gX h0 isAgg3 underlying3 rfl rfl (ahP h1 isAgg36 sizeOf36 underlying36 (by kernel_rfl) rfl rfl q_1 (vo))
 exact q
theorem akg(x y:Operand)(a0 b0:Int)(a1 b1:Int)(a2 b2:Int)(a3 b3:Int)(a4 b4:Int)(a5 b5:Int)(a6 b6:Int)(a7 b7:Int)(a8 b8:Int)(a9 b9:Int)(a10 b10:ByteArray)(w:World):(do eqGuard .neq 78 x y (.agg #[.int .i64 a0,.int .i64 a1,.int .i64 a2,.int .i64 a3,.int .i64 a4,.int .i64 a5,.int .i64 a6,.int .i64 a7,.int .i64 a8,.int .u64 a9,.string a10]) (.agg #[.int .i64 b0,.int .i64 b1,.int .i64 b2,.int .i64 b3,.int .i64 b4,.int .i64 b5,.int .i64 b6,.int .i64 b7,.int .i64 b8,.int .u64 b9,.string b10]);binOp .neq 78 (.agg #[.int .i64 a0,.int .i64 a1,.int .i64 a2,.int .i64 a3,.int .i64 a4,.int .i64 a5,.int .i64 a6,.int .i64 a7,.int .i64 a8,.int .u64 a9,.string a10]) (.agg #[.int .i64 b0,.int .i64 b1,.int .i64 b2,.int .i64 b3,.int .i64 b4,.int .i64 b5,.int .i64 b6,.int .i64 b7,.int .i64 b8,.int .u64 b9,.string b10]):Sem Value).run prog w=.ok (.bool (!(decide (a0=b0)&&((decide (a1=b1)&&(decide (a2=b2)&&(decide (a3=b3)&&(decide (a4=b4)&&(decide (a5=b5)&&(decide (a6=b6)&&(decide (a7=b7)&&(decide (a8=b8)&&(decide (a9=b9)&&((a10.toList==b10.toList)&&true))))))))))&&true)))) w:=adB _ _ _ x y (by kernel_rfl) (by kernel_rfl) (by kernel_rfl) (avZ a0 b0 a1 b1 a2 b2 a3 b3 a4 b4 a5 b5 a6 b6 a7 b7 a8 b8 a9 b9 a10 b10 w)
theorem ty81:TyS prog 81 3 true:=⟨sizeOf81,isAgg81⟩
theorem av0:fR prog 81 [zI0,zI0,.int .u64 0] [(0,1),(1,1),(2,1)]:=gM zeroValue81 underlying81 (λw=>by kernel_rfl)
theorem ap1:ck prog 81 0 0:=⟨λa w=>by kernel_rfl⟩
theorem ap2:ck prog 81 1 1:=⟨λa w=>by kernel_rfl⟩
theorem ap3:ck prog 81 2 2:=⟨λa w=>by kernel_rfl⟩
theorem ap4:bI prog 81 0 0 1 false:=bM underlying81 (by kernel_rfl) ty3 (by decide)
theorem ap5:bI prog 81 1 1 1 false:=bM underlying81 (by kernel_rfl) ty3 (by decide)
theorem ap6:bI prog 81 2 2 1 false:=bM underlying81 (by kernel_rfl) yH (by decide)
theorem av2(a0 b0:Int)(a1 b1:Int)(a2 b2:Int)(w:World):(Op.eqFields 9999 #[.int .i64 a0,.int .i64 a1,.int .u64 a2] #[.int .i64 b0,.int .i64 b1,.int .u64 b2] (prog.fieldsOf 81).toList).run prog w=.ok (decide (a0=b0)&&(decide (a1=b1)&&(decide (a2=b2)&&true))) w:=by
 have hf:(prog.fieldsOf 81).toList.map (λf=>(f.name== "_",f.type,f.offset))=[(false,3,0),(false,3,1),(false,34,2)]:=by kernel_rfl
 have q:(Op.eqFields 9999 #[.int .i64 a0,.int .i64 a1,.int .u64 a2] #[.int .i64 b0,.int .i64 b1,.int .u64 b2] (prog.fieldsOf 81).toList).run prog w=.ok (decide (a0=b0)&&(decide (a1=b1)&&(decide (a2=b2)&&true))) w:=by
  obtain⟨f0,t0,e0,h0,hf⟩:=er hf
  obtain⟨f1,t1,e1,h1,hf⟩:=er hf
  obtain⟨f2,t2,e2,h2,hf⟩:=er hf
  rw[e0,e1,e2,qp hf]
  exact gX h0 isAgg3 underlying3 rfl rfl (gX h1 isAgg3 underlying3 rfl rfl (gX h2 isAgg34 underlying34 rfl rfl (vo)))
 exact q
theorem akh(x y:Operand)(a0 b0:Int)(a1 b1:Int)(a2 b2:Int)(w:World):(do eqGuard .neq 81 x y (.agg #[.int .i64 a0,.int .i64 a1,.int .u64 a2]) (.agg #[.int .i64 b0,.int .i64 b1,.int .u64 b2]);binOp .neq 81 (.agg #[.int .i64 a0,.int .i64 a1,.int .u64 a2]) (.agg #[.int .i64 b0,.int .i64 b1,.int .u64 b2]):Sem Value).run prog w=.ok (.bool (!(decide (a0=b0)&&(decide (a1=b1)&&(decide (a2=b2)&&true))))) w:=adB _ _ _ x y (by kernel_rfl) (by kernel_rfl) (by kernel_rfl) (av2 a0 b0 a1 b1 a2 b2 w)
theorem ty89:TyS prog 89 5 true:=⟨sizeOf89,isAgg89⟩
theorem av3:fR prog 89 [zI0,zI0,zI0,zI0,zI0] [(0,1),(1,1),(2,1),(3,1),(4,1)]:=gM zeroValue89 underlying89 (λw=>by kernel_rfl)
theorem ap7:ck prog 89 0 0:=⟨λa w=>by kernel_rfl⟩
theorem ap8:ck prog 89 1 1:=⟨λa w=>by kernel_rfl⟩
theorem ap9:ck prog 89 2 2:=⟨λa w=>by kernel_rfl⟩
theorem aqa:ck prog 89 3 3:=⟨λa w=>by kernel_rfl⟩
theorem aqb:ck prog 89 4 4:=⟨λa w=>by kernel_rfl⟩
theorem aqc:bI prog 89 0 0 1 false:=bM underlying89 (by kernel_rfl) ty3 (by decide)
theorem aqd:bI prog 89 1 1 1 false:=bM underlying89 (by kernel_rfl) ty3 (by decide)
theorem aqe:bI prog 89 2 2 1 false:=bM underlying89 (by kernel_rfl) ty3 (by decide)
theorem aqf:bI prog 89 3 3 1 false:=bM underlying89 (by kernel_rfl) ty3 (by decide)
theorem aqg:bI prog 89 4 4 1 false:=bM underlying89 (by kernel_rfl) ty3 (by decide)
theorem ty96:TyS prog 96 1 false:=⟨sizeOf96,isAgg96⟩
theorem sl96:SlS prog 96 63 2:=⟨underlying96,sizeOf63⟩
theorem av4:j9 prog 96 63 2 32:=⟨underlying96,(by obtain⟨i,h1,h2,h3,h4⟩:=info_parts (by kernel_rfl:(prog.info? 63).map (λi=>(i.zero,i.size,i.bytes))=some (some (.agg #[zI0,zS0]),2,32));exact⟨i,_,h1,h2,h3,h4,rfl⟩),by decide⟩
theorem av5:lp prog 96 63 2 [zI0,zS0]:=⟨underlying96,sizeOf63,arn,rfl⟩
theorem amF:TyS prog 100 2 true:=⟨sizeOf100,isAgg100⟩
theorem arQ:fR prog 100 [zS0,zS0] [(0,1),(1,1)]:=gM zeroValue100 underlying100 (λw=>by kernel_rfl)
theorem aki:ck prog 100 0 0:=⟨λa w=>by kernel_rfl⟩
theorem akj:ck prog 100 1 1:=⟨λa w=>by kernel_rfl⟩
theorem akk:bI prog 100 0 0 1 false:=bM underlying100 (by kernel_rfl) ake (by decide)
theorem akl:bI prog 100 1 1 1 false:=bM underlying100 (by kernel_rfl) ahR (by decide)
theorem av6:TyS prog 115 2 true:=⟨sizeOf115,isAgg115⟩
theorem arR:fR prog 115 [zS0,zI0] [(0,1),(1,1)]:=gM zeroValue115 underlying115 (λw=>by kernel_rfl)
theorem akm:ck prog 115 0 0:=⟨λa w=>by kernel_rfl⟩
theorem akn:ck prog 115 1 1:=⟨λa w=>by kernel_rfl⟩
theorem ako:bI prog 115 0 0 1 false:=bM underlying115 (by kernel_rfl) ahR (by decide)
theorem akp:bI prog 115 1 1 1 false:=bM underlying115 (by kernel_rfl) ty3 (by decide)
theorem av7:TyS prog 117 1 false:=⟨sizeOf117,isAgg117⟩
theorem wT:SlS prog 117 118 1:=⟨underlying117,sizeOf118⟩
theorem aiY:j9 prog 117 118 1 24:=⟨underlying117,(by obtain⟨i,h1,h2,h3,h4⟩:=info_parts (by kernel_rfl:(prog.info? 118).map (λi=>(i.zero,i.size,i.bytes))=some (some (zS0),1,24));exact⟨i,_,h1,h2,h3,h4,rfl⟩),by decide⟩
theorem aiZ:lp prog 117 118 1 [zS0]:=⟨underlying117,sizeOf118,amx,rfl⟩
theorem acN:TyS prog 118 1 false:=⟨sizeOf118,isAgg118⟩
theorem av8:SlS prog 118 4 1:=⟨underlying118,sizeOf4⟩
theorem ai0:j9 prog 118 4 1 1:=⟨underlying118,(by obtain⟨i,h1,h2,h3,h4⟩:=info_parts (by kernel_rfl:(prog.info? 4).map (λi=>(i.zero,i.size,i.bytes))=some (some (.bool false),1,1));exact⟨i,_,h1,h2,h3,h4,rfl⟩),by decide⟩
theorem ai1:lp prog 118 4 1 [.bool false]:=⟨underlying118,sizeOf4,ze4,rfl⟩
theorem av9:TyS prog 130 1 false:=⟨sizeOf130,isAgg130⟩
theorem awa:TyS prog 136 1 false:=⟨sizeOf136,isAgg136⟩
theorem awb:SlS prog 136 143 16:=⟨underlying136,sizeOf143⟩
theorem arS:j9 prog 136 143 16 152:=⟨underlying136,(by obtain⟨i,h1,h2,h3,h4⟩:=info_parts (by kernel_rfl:(prog.info? 143).map (λi=>(i.zero,i.size,i.bytes))=some (some (.agg #[zI0,zI0,zI0,zI0,zI0,zS0,zI0,zI0,zI0,zI0,zI0,zI0,zI0,zI0,.int .u64 0,.string ⟨#[]⟩]),16,152));exact⟨i,_,h1,h2,h3,h4,rfl⟩),by decide⟩
theorem arT:lp prog 136 143 16 [zI0,zI0,zI0,zI0,zI0,zS0,zI0,zI0,zI0,zI0,zI0,zI0,zI0,zI0,.int .u64 0,.string ⟨#[]⟩]:=⟨underlying136,sizeOf143,amz,rfl⟩
theorem awc:TyS prog 141 2 true:=⟨sizeOf141,isAgg141⟩
theorem arU:fR prog 141 [zI0,.int .u64 0] [(0,1),(1,1)]:=gM zeroValue141 underlying141 (λw=>by kernel_rfl)
theorem akq:ck prog 141 0 0:=⟨λa w=>by kernel_rfl⟩
theorem akr:ck prog 141 1 1:=⟨λa w=>by kernel_rfl⟩
theorem aks:bI prog 141 0 0 1 false:=bM underlying141 (by kernel_rfl) ty3 (by decide)
theorem akt:bI prog 141 1 1 1 false:=bM underlying141 (by kernel_rfl) yH (by decide)
theorem arV(a0 b0:Int)(a1 b1:Int)(w:World):(Op.eqFields 9999 #[.int .i64 a0,.int .u64 a1] #[.int .i64 b0,.int .u64 b1] (prog.fieldsOf 141).toList).run prog w=.ok (decide (a0=b0)&&(decide (a1=b1)&&true)) w:=by
 have hf:(prog.fieldsOf 141).toList.map (λf=>(f.name== "_",f.type,f.offset))=[(false,3,0),(false,34,1)]:=by kernel_rfl
 have q:(Op.eqFields 9999 #[.int .i64 a0,.int .u64 a1] #[.int .i64 b0,.int .u64 b1] (prog.fieldsOf 141).toList).run prog w=.ok (decide (a0=b0)&&(decide (a1=b1)&&true)) w:=by
  obtain⟨f0,t0,e0,h0,hf⟩:=er hf
  obtain⟨f1,t1,e1,h1,hf⟩:=er hf
  rw[e0,e1,qp hf]
  exact gX h0 isAgg3 underlying3 rfl rfl (gX h1 isAgg34 underlying34 rfl rfl (vo))
 exact q
theorem ai2(x y:Operand)(a0 b0:Int)(a1 b1:Int)(w:World):(do eqGuard .neq 141 x y (.agg #[.int .i64 a0,.int .u64 a1]) (.agg #[.int .i64 b0,.int .u64 b1]);binOp .neq 141 (.agg #[.int .i64 a0,.int .u64 a1]) (.agg #[.int .i64 b0,.int .u64 b1]):Sem Value).run prog w=.ok (.bool (!(decide (a0=b0)&&(decide (a1=b1)&&true)))) w:=adB _ _ _ x y (by kernel_rfl) (by kernel_rfl) (by kernel_rfl) (arV a0 b0 a1 b1 w)
theorem awd:TyS prog 143 16 true:=⟨sizeOf143,isAgg143⟩
theorem arW:fR prog 143 [zI0,zI0,zI0,zI0,zI0,zS0,zI0,zI0,zI0,zI0,zI0,zI0,zI0,zI0,.int .u64 0,.string ⟨#[]⟩] [(0,4),(4,12)]:=gM zeroValue143 underlying143 (λw=>by kernel_rfl)
theorem aku:ck prog 143 0 0:=⟨λa w=>by kernel_rfl⟩
theorem akv:ck prog 143 1 4:=⟨λa w=>by kernel_rfl⟩
theorem akw:bI prog 143 0 0 4 true:=bM underlying143 (by kernel_rfl) arK (by decide)
theorem akx:bI prog 143 1 4 12 true:=bM underlying143 (by kernel_rfl) arL (by decide)
theorem awe:TyS prog 146 11 true:=⟨sizeOf146,isAgg146⟩
theorem arX:fR prog 146 [zI0,zI0,zI0,zI0,zI0,zI0,zI0,zI0,zI0,.int .u64 0,.string ⟨#[]⟩] [(0,1),(1,10)]:=gM zeroValue146 underlying146 (λw=>by kernel_rfl)
theorem aky:ck prog 146 0 0:=⟨λa w=>by kernel_rfl⟩
theorem akz:ck prog 146 1 1:=⟨λa w=>by kernel_rfl⟩
theorem akA:bI prog 146 0 0 1 false:=bM underlying146 (by kernel_rfl) ty3 (by decide)
theorem akB:bI prog 146 1 1 10 true:=bM underlying146 (by kernel_rfl) ahT (by decide)
theorem awf:TyS prog 147 1 false:=⟨sizeOf147,isAgg147⟩
theorem awg:SlS prog 147 146 11:=⟨underlying147,sizeOf146⟩
theorem arY:j9 prog 147 146 11 96:=⟨underlying147,(by obtain⟨i,h1,h2,h3,h4⟩:=info_parts (by kernel_rfl:(prog.info? 146).map (λi=>(i.zero,i.size,i.bytes))=some (some (.agg #[zI0,zI0,zI0,zI0,zI0,zI0,zI0,zI0,zI0,.int .u64 0,.string ⟨#[]⟩]),11,96));exact⟨i,_,h1,h2,h3,h4,rfl⟩),by decide⟩
theorem arZ:lp prog 147 146 11 [zI0,zI0,zI0,zI0,zI0,zI0,zI0,zI0,zI0,.int .u64 0,.string ⟨#[]⟩]:=⟨underlying147,sizeOf146,amA,rfl⟩
theorem awh:TyS prog 152 1 false:=⟨sizeOf152,isAgg152⟩
theorem awi:TyS prog 154 12 true:=⟨sizeOf154,isAgg154⟩
theorem ar0:fR prog 154 [zI0,zS0,zI0,zI0,zI0,zI0,zI0,zI0,zI0,zI0,.int .u64 0,.string ⟨#[]⟩] [(0,1),(1,11)]:=gM zeroValue154 underlying154 (λw=>by kernel_rfl)
theorem akC:ck prog 154 0 0:=⟨λa w=>by kernel_rfl⟩
theorem akD:ck prog 154 1 1:=⟨λa w=>by kernel_rfl⟩
theorem akE:bI prog 154 0 0 1 false:=bM underlying154 (by kernel_rfl) ty3 (by decide)
theorem akF:bI prog 154 1 1 11 true:=bM underlying154 (by kernel_rfl) ahU (by decide)
theorem amG:TyS prog 155 1 false:=⟨sizeOf155,isAgg155⟩
theorem awj:SlS prog 155 154 12:=⟨underlying155,sizeOf154⟩
theorem ar1:j9 prog 155 154 12 120:=⟨underlying155,(by obtain⟨i,h1,h2,h3,h4⟩:=info_parts (by kernel_rfl:(prog.info? 154).map (λi=>(i.zero,i.size,i.bytes))=some (some (.agg #[zI0,zS0,zI0,zI0,zI0,zI0,zI0,zI0,zI0,zI0,.int .u64 0,.string ⟨#[]⟩]),12,120));exact⟨i,_,h1,h2,h3,h4,rfl⟩),by decide⟩
theorem ar2:lp prog 155 154 12 [zI0,zS0,zI0,zI0,zI0,zI0,zI0,zI0,zI0,zI0,.int .u64 0,.string ⟨#[]⟩]:=⟨underlying155,sizeOf154,amB,rfl⟩
theorem awk:TyS prog 157 12 true:=⟨sizeOf157,isAgg157⟩
theorem ar3:fR prog 157 [zI0,zS0,zS0,zS0,zS0,zS0,zS0,zS0,zS0,zS0,zS0,zS0] [(0,2),(2,2),(4,2),(6,2),(8,3),(11,1)]:=gM zeroValue157 underlying157 (λw=>by kernel_rfl)
theorem akG:ck prog 157 0 0:=⟨λa w=>by kernel_rfl⟩
theorem akH:ck prog 157 1 2:=⟨λa w=>by kernel_rfl⟩
theorem akI:ck prog 157 2 4:=⟨λa w=>by kernel_rfl⟩
theorem akJ:ck prog 157 3 6:=⟨λa w=>by kernel_rfl⟩
theorem akK:ck prog 157 4 8:=⟨λa w=>by kernel_rfl⟩
theorem akL:ck prog 157 5 11:=⟨λa w=>by kernel_rfl⟩
theorem akM:bI prog 157 0 0 2 true:=bM underlying157 (by kernel_rfl) arJ (by decide)
theorem akN:bI prog 157 1 2 2 true:=bM underlying157 (by kernel_rfl) akb (by decide)
theorem akO:bI prog 157 2 4 2 true:=bM underlying157 (by kernel_rfl) akb (by decide)
theorem akP:bI prog 157 3 6 2 true:=bM underlying157 (by kernel_rfl) amF (by decide)
theorem akQ:bI prog 157 4 8 3 true:=bM underlying157 (by kernel_rfl) arP (by decide)
theorem akR:bI prog 157 5 11 1 false:=bM underlying157 (by kernel_rfl) amG (by decide)
theorem awl:TyS prog 159 12 true:=⟨sizeOf159,isAgg159⟩
theorem ar4:fR prog 159 [zI0,zS0,zI0,zI0,zI0,zI0,zI0,zI0,zI0,zI0,.int .u64 0,.string ⟨#[]⟩] [(0,1),(1,11)]:=gM zeroValue159 underlying159 (λw=>by kernel_rfl)
theorem akS:ck prog 159 0 0:=⟨λa w=>by kernel_rfl⟩
theorem akT:ck prog 159 1 1:=⟨λa w=>by kernel_rfl⟩
theorem akU:bI prog 159 0 0 1 false:=bM underlying159 (by kernel_rfl) ty3 (by decide)
theorem akV:bI prog 159 1 1 11 true:=bM underlying159 (by kernel_rfl) ahU (by decide)
theorem awm:TyS prog 168 1 false:=⟨sizeOf168,isAgg168⟩
theorem awn:TyS prog 170 1 false:=⟨sizeOf170,isAgg170⟩
theorem awo:TyS prog 172 1 false:=⟨sizeOf172,isAgg172⟩
theorem awp:TyS prog 173 1 false:=⟨sizeOf173,isAgg173⟩
theorem awq:TyS prog 177 2 true:=⟨sizeOf177,isAgg177⟩
theorem awr:TyS prog 178 1 false:=⟨sizeOf178,isAgg178⟩
theorem aws:SlS prog 178 177 2:=⟨underlying178,sizeOf177⟩
theorem ar5:j9 prog 178 177 2 16:=⟨underlying178,(by obtain⟨i,h1,h2,h3,h4⟩:=info_parts (by kernel_rfl:(prog.info? 177).map (λi=>(i.zero,i.size,i.bytes))=some (some (.agg #[zI0,zI0]),2,16));exact⟨i,_,h1,h2,h3,h4,rfl⟩),by decide⟩
theorem ar6:lp prog 178 177 2 [zI0,zI0]:=⟨underlying178,sizeOf177,aaR,rfl⟩
theorem awt:TyS prog 184 3 true:=⟨sizeOf184,isAgg184⟩
theorem ar7:fR prog 184 [zI0,zI0,zI0] [(0,1),(1,1),(2,1)]:=gM zeroValue184 underlying184 (λw=>by kernel_rfl)
theorem akW:ck prog 184 0 0:=⟨λa w=>by kernel_rfl⟩
theorem akX:ck prog 184 1 1:=⟨λa w=>by kernel_rfl⟩
theorem akY:ck prog 184 2 2:=⟨λa w=>by kernel_rfl⟩
theorem akZ:bI prog 184 0 0 1 false:=bM underlying184 (by kernel_rfl) ty3 (by decide)
theorem ak0:bI prog 184 1 1 1 false:=bM underlying184 (by kernel_rfl) ty3 (by decide)
theorem ak1:bI prog 184 2 2 1 false:=bM underlying184 (by kernel_rfl) ty3 (by decide)
theorem ar8(a0 b0:Int)(a1 b1:Int)(a2 b2:Int)(w:World):(Op.eqFields 9999 #[.int .i64 a0,.int .i64 a1,.int .i64 a2] #[.int .i64 b0,.int .i64 b1,.int .i64 b2] (prog.fieldsOf 184).toList).run prog w=.ok (decide (a0=b0)&&(decide (a1=b1)&&(decide (a2=b2)&&true))) w:=by
 have hf:(prog.fieldsOf 184).toList.map (λf=>(f.name== "_",f.type,f.offset))=[(false,3,0),(false,3,1),(false,3,2)]:=by kernel_rfl
 have q:(Op.eqFields 9999 #[.int .i64 a0,.int .i64 a1,.int .i64 a2] #[.int .i64 b0,.int .i64 b1,.int .i64 b2] (prog.fieldsOf 184).toList).run prog w=.ok (decide (a0=b0)&&(decide (a1=b1)&&(decide (a2=b2)&&true))) w:=by
  obtain⟨f0,t0,e0,h0,hf⟩:=er hf
  obtain⟨f1,t1,e1,h1,hf⟩:=er hf
  obtain⟨f2,t2,e2,h2,hf⟩:=er hf
  rw[e0,e1,e2,qp hf]
  exact gX h0 isAgg3 underlying3 rfl rfl (gX h1 isAgg3 underlying3 rfl rfl (gX h2 isAgg3 underlying3 rfl rfl (vo)))
 exact q
theorem awu:TyS prog 193 1 false:=⟨sizeOf193,isAgg193⟩
theorem ahV:TyS prog 200 1 false:=⟨sizeOf200,isAgg200⟩
theorem lq:lY prog 200 3 216 .i64:=⟨underlying200,underlying3⟩
theorem awv:TyS prog 202 2 true:=⟨sizeOf202,isAgg202⟩
theorem ar9:fR prog 202 [.map none,.map none] [(0,1),(1,1)]:=gM zeroValue202 underlying202 (λw=>by kernel_rfl)
theorem ak2:ck prog 202 0 0:=⟨λa w=>by kernel_rfl⟩
theorem ak3:ck prog 202 1 1:=⟨λa w=>by kernel_rfl⟩
theorem ak4:bI prog 202 0 0 1 false:=bM underlying202 (by kernel_rfl) ahV (by decide)
theorem ak5:bI prog 202 1 1 1 false:=bM underlying202 (by kernel_rfl) ahV (by decide)
theorem aww:TyS prog 204 1 false:=⟨sizeOf204,isAgg204⟩
theorem qQ:lY prog 204 3 3 .i64:=⟨underlying204,underlying3⟩
theorem awx:TyS prog 215 1 false:=⟨sizeOf215,isAgg215⟩
theorem awy:TyS prog 216 1 false:=⟨sizeOf216,isAgg216⟩
theorem awz:SlS prog 216 218 2:=⟨underlying216,sizeOf218⟩
theorem asa:j9 prog 216 218 2 16:=⟨underlying216,(by obtain⟨i,h1,h2,h3,h4⟩:=info_parts (by kernel_rfl:(prog.info? 218).map (λi=>(i.zero,i.size,i.bytes))=some (some (.agg #[zI0,zI0]),2,16));exact⟨i,_,h1,h2,h3,h4,rfl⟩),by decide⟩
theorem asb:lp prog 216 218 2 [zI0,zI0]:=⟨underlying216,sizeOf218,amC,rfl⟩
theorem awA:TyS prog 218 2 true:=⟨sizeOf218,isAgg218⟩
theorem asd:fR prog 218 [zI0,zI0] [(0,1),(1,1)]:=gM zeroValue218 underlying218 (λw=>by kernel_rfl)
theorem ak6:ck prog 218 0 0:=⟨λa w=>by kernel_rfl⟩
theorem ak7:ck prog 218 1 1:=⟨λa w=>by kernel_rfl⟩
theorem ak8:bI prog 218 0 0 1 false:=bM underlying218 (by kernel_rfl) ty3 (by decide)
theorem ak9:bI prog 218 1 1 1 false:=bM underlying218 (by kernel_rfl) ty3 (by decide)
theorem awB:TyS prog 220 1 false:=⟨sizeOf220,isAgg220⟩
theorem awC:TyS prog 228 1 false:=⟨sizeOf228,isAgg228⟩
theorem awD:TyS prog 235 1 false:=⟨sizeOf235,isAgg235⟩
end Go.Proofs.YtdjeacigeegklaaGreat
