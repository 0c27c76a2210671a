/- The types of this translation, as the rules want afB. No condition. -/
import Derived.Test.YtdjeacigeegklaaGreatAB
import Derived.Test.YtdjeacigeegklaaGreatRows
import Derived.OwnWalk
namespace Go.Proofs.YtdjeacigeegklaaGreat
set_option linter.all false
abbrev zI0:Value:=.int .i64 0
abbrev zS0:Value:=.slice none 0 0
open Go Go.Proofs.Tryz
set_option maxRecDepth 100000
abbrev Zr(i:Nat)(c:List Value):Prop:=∀w,∃z,(zeroValue i).run prog w=.ok z w∧z.cells=c.toArray
theorem hmix:prog.follows .mixedOrders=true:=by kernel_rfl
theorem ze2:Zr 2 [zI0]:=λw=>⟨_,zeroValue2 w,rfl⟩
theorem ze3:Zr 3 [zI0]:=λw=>⟨_,zeroValue3 w,rfl⟩
theorem ze4:Zr 4 [.bool false]:=λw=>⟨_,zeroValue4 w,rfl⟩
theorem ze5:Zr 5 [.int .u8 0]:=λw=>⟨_,zeroValue5 w,rfl⟩
theorem ze6:Zr 6 [.int .u8 0]:=λw=>⟨_,zeroValue6 w,rfl⟩
theorem ze7:Zr 7 [zI0,zI0,.bool false,.int .u8 0]:=λw=>⟨_,zeroValue7 w,rfl⟩
theorem ze8:Zr 8 [zI0,zI0,.bool false,.int .u8 0]:=λw=>⟨_,zeroValue8 w,rfl⟩
theorem ze9:Zr 9 [.string ⟨#[]⟩]:=λw=>⟨_,zeroValue9 w,rfl⟩
theorem ze10:Zr 10 [.string ⟨#[]⟩]:=λw=>⟨_,zeroValue10 w,rfl⟩
theorem ze11:Zr 11 [.string ⟨#[]⟩]:=λw=>⟨_,zeroValue11 w,rfl⟩
theorem ze12:Zr 12 [.int .u64 0]:=λw=>⟨_,zeroValue12 w,rfl⟩
theorem ze13:Zr 13 [.string ⟨#[]⟩,.int .u64 0]:=λw=>⟨_,zeroValue13 w,rfl⟩
theorem ze14:Zr 14 [.string ⟨#[]⟩,.int .u64 0]:=λw=>⟨_,zeroValue14 w,rfl⟩
theorem ze15:Zr 15 [.pointer none]:=λw=>⟨_,zeroValue15 w,rfl⟩
theorem ze16:Zr 16 [.pointer none]:=λw=>⟨_,zeroValue16 w,rfl⟩
theorem ze17:Zr 17 [.pointer none]:=λw=>⟨_,zeroValue17 w,rfl⟩
theorem ze18:Zr 18 [.pointer none]:=λw=>⟨_,zeroValue18 w,rfl⟩
theorem ze19:Zr 19 [.pointer none]:=λw=>⟨_,zeroValue19 w,rfl⟩
theorem ze21:Zr 21 [.int .i32 0]:=λw=>⟨_,zeroValue21 w,rfl⟩
theorem ze22:Zr 22 [zS0]:=λw=>⟨_,zeroValue22 w,rfl⟩
theorem ze23:Zr 23 [.pointer none]:=λw=>⟨_,zeroValue23 w,rfl⟩
theorem ze25:Zr 25 [zS0]:=λw=>⟨_,zeroValue25 w,rfl⟩
theorem ze26:Zr 26 [zS0]:=λw=>⟨_,zeroValue26 w,rfl⟩
theorem ze27:Zr 27 [zS0,zS0]:=λw=>⟨_,zeroValue27 w,rfl⟩
theorem ze28:Zr 28 [zS0,zS0]:=λw=>⟨_,zeroValue28 w,rfl⟩
theorem ze30:Zr 30 [zS0]:=λw=>⟨_,zeroValue30 w,rfl⟩
theorem ze31:Zr 31 [zI0,zS0]:=λw=>⟨_,zeroValue31 w,rfl⟩
theorem ze32:Zr 32 [zI0,zS0]:=λw=>⟨_,zeroValue32 w,rfl⟩
theorem ze34:Zr 34 [.int .u64 0]:=λw=>⟨_,zeroValue34 w,rfl⟩
theorem ze35:Zr 35 [zI0,zI0,zI0,zI0,zI0,zI0,zI0,zI0,.int .u64 0,.string ⟨#[]⟩]:=λw=>⟨_,zeroValue35 w,rfl⟩
theorem ze36:Zr 36 [zI0,zI0,zI0,zI0,zI0,zI0,zI0,zI0,.int .u64 0,.string ⟨#[]⟩]:=λw=>⟨_,zeroValue36 w,rfl⟩
theorem ze37:Zr 37 [zI0,zI0,zI0,zI0]:=λw=>⟨_,zeroValue37 w,rfl⟩
theorem ars:Zr 38 [zI0,zI0,zI0,zI0]:=λw=>⟨_,zeroValue38 w,rfl⟩
theorem ze40:Zr 40 [.int .u64 0]:=λw=>⟨_,zeroValue40 w,rfl⟩
theorem ze41:Zr 41 [zI0,.bool false]:=λw=>⟨_,zeroValue41 w,rfl⟩
theorem art:Zr 42 [zI0,.bool false]:=λw=>⟨_,zeroValue42 w,rfl⟩
theorem ze44:Zr 44 [zS0]:=λw=>⟨_,zeroValue44 w,rfl⟩
theorem ze45:Zr 45 [.int .u64 0,.int .u64 0,zS0]:=λw=>⟨_,zeroValue45 w,rfl⟩
theorem ze46:Zr 46 [.int .u64 0,.int .u64 0,zS0]:=λw=>⟨_,zeroValue46 w,rfl⟩
theorem ze47:Zr 47 [zI0]:=λw=>⟨_,zeroValue47 w,rfl⟩
theorem ze52:Zr 52 [zS0,zI0,zI0,zI0,zI0,zI0,zI0,zI0,zI0,.int .u64 0,.string ⟨#[]⟩]:=λw=>⟨_,zeroValue52 w,rfl⟩
theorem aru:Zr 54 [zI0,zS0,zI0,zI0,zI0,zI0,zI0,zI0,zI0,zI0,.int .u64 0,.string ⟨#[]⟩]:=λw=>⟨_,zeroValue54 w,rfl⟩
theorem ze61:Zr 61 [zS0]:=λw=>⟨_,zeroValue61 w,rfl⟩
theorem arv:Zr 63 [zI0,zS0]:=λw=>⟨_,zeroValue63 w,rfl⟩
theorem arw:Zr 67 [zI0,zI0]:=λw=>⟨_,zeroValue67 w,rfl⟩
theorem ze70:Zr 70 [zS0]:=λw=>⟨_,zeroValue70 w,rfl⟩
theorem ze71:Zr 71 [zS0]:=λw=>⟨_,zeroValue71 w,rfl⟩
theorem ze72:Zr 72 [zS0]:=λw=>⟨_,zeroValue72 w,rfl⟩
theorem ze74:Zr 74 [zS0,zS0,zS0]:=λw=>⟨_,zeroValue74 w,rfl⟩
theorem arx:Zr 78 [zI0,zI0,zI0,zI0,zI0,zI0,zI0,zI0,zI0,.int .u64 0,.string ⟨#[]⟩]:=λw=>⟨_,zeroValue78 w,rfl⟩
theorem ary:Zr 81 [zI0,zI0,.int .u64 0]:=λw=>⟨_,zeroValue81 w,rfl⟩
theorem arz:Zr 89 [zI0,zI0,zI0,zI0,zI0]:=λw=>⟨_,zeroValue89 w,rfl⟩
theorem ze96:Zr 96 [zS0]:=λw=>⟨_,zeroValue96 w,rfl⟩
theorem au4:Zr 100 [zS0,zS0]:=λw=>⟨_,zeroValue100 w,rfl⟩
theorem au5:Zr 115 [zS0,zI0]:=λw=>⟨_,zeroValue115 w,rfl⟩
theorem au6:Zr 117 [zS0]:=λw=>⟨_,zeroValue117 w,rfl⟩
theorem amJ:Zr 118 [zS0]:=λw=>⟨_,zeroValue118 w,rfl⟩
theorem au7:Zr 130 [.nilFunc]:=λw=>⟨_,zeroValue130 w,rfl⟩
theorem au8:Zr 136 [zS0]:=λw=>⟨_,zeroValue136 w,rfl⟩
theorem amK:Zr 141 [zI0,.int .u64 0]:=λw=>⟨_,zeroValue141 w,rfl⟩
theorem amL:Zr 143 [zI0,zI0,zI0,zI0,zI0,zS0,zI0,zI0,zI0,zI0,zI0,zI0,zI0,zI0,.int .u64 0,.string ⟨#[]⟩]:=λw=>⟨_,zeroValue143 w,rfl⟩
theorem au9:Zr 152 [.nilFunc]:=λw=>⟨_,zeroValue152 w,rfl⟩
theorem amM:Zr 154 [zI0,zS0,zI0,zI0,zI0,zI0,zI0,zI0,zI0,zI0,.int .u64 0,.string ⟨#[]⟩]:=λw=>⟨_,zeroValue154 w,rfl⟩
theorem ava:Zr 155 [zS0]:=λw=>⟨_,zeroValue155 w,rfl⟩
theorem avb:Zr 157 [zI0,zS0,zS0,zS0,zS0,zS0,zS0,zS0,zS0,zS0,zS0,zS0]:=λw=>⟨_,zeroValue157 w,rfl⟩
theorem avc:Zr 159 [zI0,zS0,zI0,zI0,zI0,zI0,zI0,zI0,zI0,zI0,.int .u64 0,.string ⟨#[]⟩]:=λw=>⟨_,zeroValue159 w,rfl⟩
theorem avd:Zr 168 [.nilFunc]:=λw=>⟨_,zeroValue168 w,rfl⟩
theorem ave:Zr 170 [.nilFunc]:=λw=>⟨_,zeroValue170 w,rfl⟩
theorem avf:Zr 172 [.nilFunc]:=λw=>⟨_,zeroValue172 w,rfl⟩
theorem avg:Zr 173 [.nilFunc]:=λw=>⟨_,zeroValue173 w,rfl⟩
theorem aaR:Zr 177 [zI0,zI0]:=λw=>⟨_,zeroValue177 w,rfl⟩
theorem avh:Zr 178 [zS0]:=λw=>⟨_,zeroValue178 w,rfl⟩
theorem avj:Zr 184 [zI0,zI0,zI0]:=λw=>⟨_,zeroValue184 w,rfl⟩
theorem avk:Zr 193 [.pointer none]:=λw=>⟨_,zeroValue193 w,rfl⟩
theorem avl:Zr 200 [.map none]:=λw=>⟨_,zeroValue200 w,rfl⟩
theorem avm:Zr 202 [.map none,.map none]:=λw=>⟨_,zeroValue202 w,rfl⟩
theorem avn:Zr 204 [.map none]:=λw=>⟨_,zeroValue204 w,rfl⟩
theorem avo:Zr 215 [.nilFunc]:=λw=>⟨_,zeroValue215 w,rfl⟩
theorem avp:Zr 216 [zS0]:=λw=>⟨_,zeroValue216 w,rfl⟩
theorem amN:Zr 218 [zI0,zI0]:=λw=>⟨_,zeroValue218 w,rfl⟩
theorem avq:Zr 220 [.nilFunc]:=λw=>⟨_,zeroValue220 w,rfl⟩
theorem avr:Zr 228 [zI0]:=λw=>⟨_,zeroValue228 w,rfl⟩
theorem avt:Zr 235 [.int .u32 0]:=λw=>⟨_,zeroValue235 w,rfl⟩
theorem ty2:TyS prog 2 1 false:=⟨sizeOf2,isAgg2⟩
theorem ty3:TyS prog 3 1 false:=⟨sizeOf3,isAgg3⟩
theorem ty4:TyS prog 4 1 false:=⟨sizeOf4,isAgg4⟩
theorem ty5:TyS prog 5 1 false:=⟨sizeOf5,isAgg5⟩
theorem ty6:TyS prog 6 1 false:=⟨sizeOf6,isAgg6⟩
theorem ty7:TyS prog 7 4 true:=⟨sizeOf7,isAgg7⟩
theorem str7:fS prog 7 [zI0,zI0,.bool false,.int .u8 0] [(0,1),(1,1),(2,1),(3,1)]:=gR zeroValue7 underlying7 (λw=>by kernel_rfl)
theorem arA:cm prog 7 0 0:=⟨λa w=>by kernel_rfl⟩
theorem arB:cm prog 7 1 1:=⟨λa w=>by kernel_rfl⟩
theorem arC:cm prog 7 2 2:=⟨λa w=>by kernel_rfl⟩
theorem arD:cm prog 7 3 3:=⟨λa w=>by kernel_rfl⟩
theorem arE:bK prog 7 0 0 1 false:=bP underlying7 (by kernel_rfl) ty2 (by decide)
theorem arF:bK prog 7 1 1 1 false:=bP underlying7 (by kernel_rfl) ty3 (by decide)
theorem arG:bK prog 7 2 2 1 false:=bP underlying7 (by kernel_rfl) ty4 (by decide)
theorem arH:bK prog 7 3 3 1 false:=bP underlying7 (by kernel_rfl) ty6 (by decide)
theorem ty8:TyS prog 8 4 true:=⟨sizeOf8,isAgg8⟩
theorem str8:fS prog 8 [zI0,zI0,.bool false,.int .u8 0] [(0,1),(1,1),(2,1),(3,1)]:=gR zeroValue8 underlying8 (λw=>by kernel_rfl)
theorem arI:cm prog 8 0 0:=⟨λa w=>by kernel_rfl⟩
theorem arJ:cm prog 8 1 1:=⟨λa w=>by kernel_rfl⟩
theorem arK:cm prog 8 2 2:=⟨λa w=>by kernel_rfl⟩
theorem arL:cm prog 8 3 3:=⟨λa w=>by kernel_rfl⟩
theorem arM:bK prog 8 0 0 1 false:=bP underlying8 (by kernel_rfl) ty2 (by decide)
theorem arN:bK prog 8 1 1 1 false:=bP underlying8 (by kernel_rfl) ty3 (by decide)
theorem arO:bK prog 8 2 2 1 false:=bP underlying8 (by kernel_rfl) ty4 (by decide)
theorem arP:bK prog 8 3 3 1 false:=bP underlying8 (by kernel_rfl) ty6 (by decide)
theorem ty9:TyS prog 9 1 false:=⟨sizeOf9,isAgg9⟩
theorem ty10:TyS prog 10 1 false:=⟨sizeOf10,isAgg10⟩
theorem ty11:TyS prog 11 1 false:=⟨sizeOf11,isAgg11⟩
theorem akn:TyS prog 12 1 false:=⟨sizeOf12,isAgg12⟩
theorem ty13:TyS prog 13 2 true:=⟨sizeOf13,isAgg13⟩
theorem avu:fS prog 13 [.string ⟨#[]⟩,.int .u64 0] [(0,1),(1,1)]:=gR zeroValue13 underlying13 (λw=>by kernel_rfl)
theorem an1:cm prog 13 0 0:=⟨λa w=>by kernel_rfl⟩
theorem an2:cm prog 13 1 1:=⟨λa w=>by kernel_rfl⟩
theorem an3:bK prog 13 0 0 1 false:=bP underlying13 (by kernel_rfl) ty9 (by decide)
theorem an4:bK prog 13 1 1 1 false:=bP underlying13 (by kernel_rfl) akn (by decide)
theorem ty14:TyS prog 14 2 true:=⟨sizeOf14,isAgg14⟩
theorem avv:fS prog 14 [.string ⟨#[]⟩,.int .u64 0] [(0,1),(1,1)]:=gR zeroValue14 underlying14 (λw=>by kernel_rfl)
theorem an5:cm prog 14 0 0:=⟨λa w=>by kernel_rfl⟩
theorem an6:cm prog 14 1 1:=⟨λa w=>by kernel_rfl⟩
theorem an7:bK prog 14 0 0 1 false:=bP underlying14 (by kernel_rfl) ty9 (by decide)
theorem an8:bK prog 14 1 1 1 false:=bP underlying14 (by kernel_rfl) akn (by decide)
theorem ty15:TyS prog 15 1 false:=⟨sizeOf15,isAgg15⟩
theorem ty16:TyS prog 16 1 false:=⟨sizeOf16,isAgg16⟩
theorem ako:TyS prog 17 1 false:=⟨sizeOf17,isAgg17⟩
theorem ty18:TyS prog 18 1 true:=⟨sizeOf18,isAgg18⟩
theorem avw:fS prog 18 [.pointer none] [(0,1)]:=gR zeroValue18 underlying18 (λw=>by kernel_rfl)
theorem an9:cm prog 18 0 0:=⟨λa w=>by kernel_rfl⟩
theorem aoa:bK prog 18 0 0 1 false:=bP underlying18 (by kernel_rfl) ako (by decide)
theorem ty19:TyS prog 19 1 true:=⟨sizeOf19,isAgg19⟩
theorem avx:fS prog 19 [.pointer none] [(0,1)]:=gR zeroValue19 underlying19 (λw=>by kernel_rfl)
theorem aob:cm prog 19 0 0:=⟨λa w=>by kernel_rfl⟩
theorem aoc:bK prog 19 0 0 1 false:=bP underlying19 (by kernel_rfl) ako (by decide)
theorem ty21:TyS prog 21 1 false:=⟨sizeOf21,isAgg21⟩
theorem aie:TyS prog 22 1 false:=⟨sizeOf22,isAgg22⟩
theorem sl22:SlS prog 22 3 1:=⟨underlying22,sizeOf3⟩
theorem amO:kI prog 22 3 1 8:=⟨underlying22,(by obtain⟨i,h1,h2,h3,h4⟩:=info_parts (by kernel_rfl:(prog.info? 3).map (λi=>(i.zero,i.size,i.bytes))=some (some (zI0),1,8));exact⟨i,_,h1,h2,h3,h4,rfl⟩),by decide⟩
theorem avy:lU prog 22 3 1 [zI0]:=⟨underlying22,sizeOf3,ze3,rfl⟩
theorem ty23:TyS prog 23 1 false:=⟨sizeOf23,isAgg23⟩
theorem akp:TyS prog 25 1 false:=⟨sizeOf25,isAgg25⟩
theorem sl25:SlS prog 25 42 2:=⟨underlying25,sizeOf42⟩
theorem avz:kI prog 25 42 2 16:=⟨underlying25,(by obtain⟨i,h1,h2,h3,h4⟩:=info_parts (by kernel_rfl:(prog.info? 42).map (λi=>(i.zero,i.size,i.bytes))=some (some (.agg #[zI0,.bool false]),2,16));exact⟨i,_,h1,h2,h3,h4,rfl⟩),by decide⟩
theorem avA:lU prog 25 42 2 [zI0,.bool false]:=⟨underlying25,sizeOf42,art,rfl⟩
theorem akq:TyS prog 26 1 false:=⟨sizeOf26,isAgg26⟩
theorem sl26:SlS prog 26 89 5:=⟨underlying26,sizeOf89⟩
theorem avB:kI prog 26 89 5 40:=⟨underlying26,(by obtain⟨i,h1,h2,h3,h4⟩:=info_parts (by kernel_rfl:(prog.info? 89).map (λi=>(i.zero,i.size,i.bytes))=some (some (.agg #[zI0,zI0,zI0,zI0,zI0]),5,40));exact⟨i,_,h1,h2,h3,h4,rfl⟩),by decide⟩
theorem avC:lU prog 26 89 5 [zI0,zI0,zI0,zI0,zI0]:=⟨underlying26,sizeOf89,arz,rfl⟩
theorem ty27:TyS prog 27 2 true:=⟨sizeOf27,isAgg27⟩
theorem avD:fS prog 27 [zS0,zS0] [(0,1),(1,1)]:=gR zeroValue27 underlying27 (λw=>by kernel_rfl)
theorem aod:cm prog 27 0 0:=⟨λa w=>by kernel_rfl⟩
theorem aoe:cm prog 27 1 1:=⟨λa w=>by kernel_rfl⟩
theorem aof:bK prog 27 0 0 1 false:=bP underlying27 (by kernel_rfl) akp (by decide)
theorem aog:bK prog 27 1 1 1 false:=bP underlying27 (by kernel_rfl) akq (by decide)
theorem akr:TyS prog 28 2 true:=⟨sizeOf28,isAgg28⟩
theorem avE:fS prog 28 [zS0,zS0] [(0,1),(1,1)]:=gR zeroValue28 underlying28 (λw=>by kernel_rfl)
theorem aoh:cm prog 28 0 0:=⟨λa w=>by kernel_rfl⟩
theorem aoi:cm prog 28 1 1:=⟨λa w=>by kernel_rfl⟩
theorem aoj:bK prog 28 0 0 1 false:=bP underlying28 (by kernel_rfl) akp (by decide)
theorem aok:bK prog 28 1 1 1 false:=bP underlying28 (by kernel_rfl) akq (by decide)
theorem aks:TyS prog 30 1 false:=⟨sizeOf30,isAgg30⟩
theorem sl30:SlS prog 30 38 4:=⟨underlying30,sizeOf38⟩
theorem avF:kI prog 30 38 4 32:=⟨underlying30,(by obtain⟨i,h1,h2,h3,h4⟩:=info_parts (by kernel_rfl:(prog.info? 38).map (λi=>(i.zero,i.size,i.bytes))=some (some (.agg #[zI0,zI0,zI0,zI0]),4,32));exact⟨i,_,h1,h2,h3,h4,rfl⟩),by decide⟩
theorem avG:lU prog 30 38 4 [zI0,zI0,zI0,zI0]:=⟨underlying30,sizeOf38,ars,rfl⟩
theorem ty31:TyS prog 31 2 true:=⟨sizeOf31,isAgg31⟩
theorem avH:fS prog 31 [zI0,zS0] [(0,1),(1,1)]:=gR zeroValue31 underlying31 (λw=>by kernel_rfl)
theorem aol:cm prog 31 0 0:=⟨λa w=>by kernel_rfl⟩
theorem aom:cm prog 31 1 1:=⟨λa w=>by kernel_rfl⟩
theorem aon:bK prog 31 0 0 1 false:=bP underlying31 (by kernel_rfl) ty3 (by decide)
theorem aoo:bK prog 31 1 1 1 false:=bP underlying31 (by kernel_rfl) aks (by decide)
theorem arQ:TyS prog 32 2 true:=⟨sizeOf32,isAgg32⟩
theorem avI:fS prog 32 [zI0,zS0] [(0,1),(1,1)]:=gR zeroValue32 underlying32 (λw=>by kernel_rfl)
theorem aop:cm prog 32 0 0:=⟨λa w=>by kernel_rfl⟩
theorem aoq:cm prog 32 1 1:=⟨λa w=>by kernel_rfl⟩
theorem aor:bK prog 32 0 0 1 false:=bP underlying32 (by kernel_rfl) ty3 (by decide)
theorem aos:bK prog 32 1 1 1 false:=bP underlying32 (by kernel_rfl) aks (by decide)
theorem yD:TyS prog 34 1 false:=⟨sizeOf34,isAgg34⟩
theorem ty35:TyS prog 35 10 true:=⟨sizeOf35,isAgg35⟩
theorem avJ:fS prog 35 [zI0,zI0,zI0,zI0,zI0,zI0,zI0,zI0,.int .u64 0,.string ⟨#[]⟩] [(0,1),(1,1),(2,1),(3,1),(4,1),(5,1),(6,1),(7,1),(8,1),(9,1)]:=gR zeroValue35 underlying35 (λw=>by kernel_rfl)
theorem aot:cm prog 35 0 0:=⟨λa w=>by kernel_rfl⟩
theorem aou:cm prog 35 1 1:=⟨λa w=>by kernel_rfl⟩
theorem aov:cm prog 35 2 2:=⟨λa w=>by kernel_rfl⟩
theorem aow:cm prog 35 3 3:=⟨λa w=>by kernel_rfl⟩
theorem aox:cm prog 35 4 4:=⟨λa w=>by kernel_rfl⟩
theorem aoy:cm prog 35 5 5:=⟨λa w=>by kernel_rfl⟩
theorem aoz:cm prog 35 6 6:=⟨λa w=>by kernel_rfl⟩
theorem aoA:cm prog 35 7 7:=⟨λa w=>by kernel_rfl⟩
theorem aoB:cm prog 35 8 8:=⟨λa w=>by kernel_rfl⟩
theorem aoC:cm prog 35 9 9:=⟨λa w=>by kernel_rfl⟩
theorem aoD:bK prog 35 0 0 1 false:=bP underlying35 (by kernel_rfl) ty3 (by decide)
theorem aoE:bK prog 35 1 1 1 false:=bP underlying35 (by kernel_rfl) ty3 (by decide)
theorem aoF:bK prog 35 2 2 1 false:=bP underlying35 (by kernel_rfl) ty3 (by decide)
theorem aoG:bK prog 35 3 3 1 false:=bP underlying35 (by kernel_rfl) ty3 (by decide)
theorem aoH:bK prog 35 4 4 1 false:=bP underlying35 (by kernel_rfl) ty3 (by decide)
theorem aoI:bK prog 35 5 5 1 false:=bP underlying35 (by kernel_rfl) ty3 (by decide)
theorem aoJ:bK prog 35 6 6 1 false:=bP underlying35 (by kernel_rfl) ty3 (by decide)
theorem aoK:bK prog 35 7 7 1 false:=bP underlying35 (by kernel_rfl) ty3 (by decide)
theorem aoL:bK prog 35 8 8 1 false:=bP underlying35 (by kernel_rfl) yD (by decide)
theorem aoM:bK prog 35 9 9 1 false:=bP underlying35 (by kernel_rfl) ty9 (by decide)
theorem akt:TyS prog 36 10 true:=⟨sizeOf36,isAgg36⟩
theorem avK:fS prog 36 [zI0,zI0,zI0,zI0,zI0,zI0,zI0,zI0,.int .u64 0,.string ⟨#[]⟩] [(0,1),(1,1),(2,1),(3,1),(4,1),(5,1),(6,1),(7,1),(8,1),(9,1)]:=gR zeroValue36 underlying36 (λw=>by kernel_rfl)
theorem aoN:cm prog 36 0 0:=⟨λa w=>by kernel_rfl⟩
theorem aoO:cm prog 36 1 1:=⟨λa w=>by kernel_rfl⟩
theorem aoP:cm prog 36 2 2:=⟨λa w=>by kernel_rfl⟩
theorem aoQ:cm prog 36 3 3:=⟨λa w=>by kernel_rfl⟩
theorem aoR:cm prog 36 4 4:=⟨λa w=>by kernel_rfl⟩
theorem aoS:cm prog 36 5 5:=⟨λa w=>by kernel_rfl⟩
theorem aoT:cm prog 36 6 6:=⟨λa w=>by kernel_rfl⟩
theorem aoU:cm prog 36 7 7:=⟨λa w=>by kernel_rfl⟩
theorem aoV:cm prog 36 8 8:=⟨λa w=>by kernel_rfl⟩
theorem aoW:cm prog 36 9 9:=⟨λa w=>by kernel_rfl⟩
theorem aoX:bK prog 36 0 0 1 false:=bP underlying36 (by kernel_rfl) ty3 (by decide)
theorem aoY:bK prog 36 1 1 1 false:=bP underlying36 (by kernel_rfl) ty3 (by decide)
theorem aoZ:bK prog 36 2 2 1 false:=bP underlying36 (by kernel_rfl) ty3 (by decide)
theorem ao0:bK prog 36 3 3 1 false:=bP underlying36 (by kernel_rfl) ty3 (by decide)
theorem ao1:bK prog 36 4 4 1 false:=bP underlying36 (by kernel_rfl) ty3 (by decide)
theorem ao2:bK prog 36 5 5 1 false:=bP underlying36 (by kernel_rfl) ty3 (by decide)
theorem ao3:bK prog 36 6 6 1 false:=bP underlying36 (by kernel_rfl) ty3 (by decide)
theorem ao4:bK prog 36 7 7 1 false:=bP underlying36 (by kernel_rfl) ty3 (by decide)
theorem ao5:bK prog 36 8 8 1 false:=bP underlying36 (by kernel_rfl) yD (by decide)
theorem ao6:bK prog 36 9 9 1 false:=bP underlying36 (by kernel_rfl) ty9 (by decide)
theorem ty37:TyS prog 37 4 true:=⟨sizeOf37,isAgg37⟩
theorem avL:fS prog 37 [zI0,zI0,zI0,zI0] [(0,1),(1,1),(2,1),(3,1)]:=gR zeroValue37 underlying37 (λw=>by kernel_rfl)
theorem ao7:cm prog 37 0 0:=⟨λa w=>by kernel_rfl⟩
theorem ao8:cm prog 37 1 1:=⟨λa w=>by kernel_rfl⟩
theorem ao9:cm prog 37 2 2:=⟨λa w=>by kernel_rfl⟩
theorem apa:cm prog 37 3 3:=⟨λa w=>by kernel_rfl⟩
theorem apb:bK prog 37 0 0 1 false:=bP underlying37 (by kernel_rfl) ty3 (by decide)
theorem apc:bK prog 37 1 1 1 false:=bP underlying37 (by kernel_rfl) ty3 (by decide)
theorem apd:bK prog 37 2 2 1 false:=bP underlying37 (by kernel_rfl) ty3 (by decide)
theorem ape:bK prog 37 3 3 1 false:=bP underlying37 (by kernel_rfl) ty3 (by decide)
theorem arR:TyS prog 38 4 true:=⟨sizeOf38,isAgg38⟩
theorem avM:fS prog 38 [zI0,zI0,zI0,zI0] [(0,1),(1,1),(2,1),(3,1)]:=gR zeroValue38 underlying38 (λw=>by kernel_rfl)
theorem apf:cm prog 38 0 0:=⟨λa w=>by kernel_rfl⟩
theorem apg:cm prog 38 1 1:=⟨λa w=>by kernel_rfl⟩
theorem aph:cm prog 38 2 2:=⟨λa w=>by kernel_rfl⟩
theorem api:cm prog 38 3 3:=⟨λa w=>by kernel_rfl⟩
theorem apj:bK prog 38 0 0 1 false:=bP underlying38 (by kernel_rfl) ty3 (by decide)
theorem apk:bK prog 38 1 1 1 false:=bP underlying38 (by kernel_rfl) ty3 (by decide)
theorem apl:bK prog 38 2 2 1 false:=bP underlying38 (by kernel_rfl) ty3 (by decide)
theorem apm:bK prog 38 3 3 1 false:=bP underlying38 (by kernel_rfl) ty3 (by decide)
theorem ty40:TyS prog 40 1 false:=⟨sizeOf40,isAgg40⟩
theorem ty41:TyS prog 41 2 true:=⟨sizeOf41,isAgg41⟩
theorem avN:fS prog 41 [zI0,.bool false] [(0,1),(1,1)]:=gR zeroValue41 underlying41 (λw=>by kernel_rfl)
theorem apn:cm prog 41 0 0:=⟨λa w=>by kernel_rfl⟩
theorem apo:cm prog 41 1 1:=⟨λa w=>by kernel_rfl⟩
theorem apq:bK prog 41 0 0 1 false:=bP underlying41 (by kernel_rfl) ty3 (by decide)
theorem apr:bK prog 41 1 1 1 false:=bP underlying41 (by kernel_rfl) ty4 (by decide)
theorem ty42:TyS prog 42 2 true:=⟨sizeOf42,isAgg42⟩
theorem avO:fS prog 42 [zI0,.bool false] [(0,1),(1,1)]:=gR zeroValue42 underlying42 (λw=>by kernel_rfl)
theorem aps:cm prog 42 0 0:=⟨λa w=>by kernel_rfl⟩
theorem apt:cm prog 42 1 1:=⟨λa w=>by kernel_rfl⟩
theorem apu:bK prog 42 0 0 1 false:=bP underlying42 (by kernel_rfl) ty3 (by decide)
theorem apv:bK prog 42 1 1 1 false:=bP underlying42 (by kernel_rfl) ty4 (by decide)
theorem aku:TyS prog 44 1 false:=⟨sizeOf44,isAgg44⟩
theorem sl44:SlS prog 44 54 12:=⟨underlying44,sizeOf54⟩
theorem avP:kI prog 44 54 12 120:=⟨underlying44,(by obtain⟨i,h1,h2,h3,h4⟩:=info_parts (by kernel_rfl:(prog.info? 54).map (λi=>(i.zero,i.size,i.bytes))=some (some (.agg #[zI0,zS0,zI0,zI0,zI0,zI0,zI0,zI0,zI0,zI0,.int .u64 0,.string ⟨#[]⟩]),12,120));exact⟨i,_,h1,h2,h3,h4,rfl⟩),by decide⟩
theorem avQ:lU prog 44 54 12 [zI0,zS0,zI0,zI0,zI0,zI0,zI0,zI0,zI0,zI0,.int .u64 0,.string ⟨#[]⟩]:=⟨underlying44,sizeOf54,aru,rfl⟩
theorem ty45:TyS prog 45 3 true:=⟨sizeOf45,isAgg45⟩
theorem avR:fS prog 45 [.int .u64 0,.int .u64 0,zS0] [(0,1),(1,1),(2,1)]:=gR zeroValue45 underlying45 (λw=>by kernel_rfl)
theorem apw:cm prog 45 0 0:=⟨λa w=>by kernel_rfl⟩
theorem apx:cm prog 45 1 1:=⟨λa w=>by kernel_rfl⟩
theorem apy:cm prog 45 2 2:=⟨λa w=>by kernel_rfl⟩
theorem apz:bK prog 45 0 0 1 false:=bP underlying45 (by kernel_rfl) yD (by decide)
theorem apA:bK prog 45 1 1 1 false:=bP underlying45 (by kernel_rfl) yD (by decide)
theorem apB:bK prog 45 2 2 1 false:=bP underlying45 (by kernel_rfl) aku (by decide)
theorem ty46:TyS prog 46 3 true:=⟨sizeOf46,isAgg46⟩
theorem avS:fS prog 46 [.int .u64 0,.int .u64 0,zS0] [(0,1),(1,1),(2,1)]:=gR zeroValue46 underlying46 (λw=>by kernel_rfl)
theorem apC:cm prog 46 0 0:=⟨λa w=>by kernel_rfl⟩
theorem apD:cm prog 46 1 1:=⟨λa w=>by kernel_rfl⟩
theorem apF:cm prog 46 2 2:=⟨λa w=>by kernel_rfl⟩
theorem apG:bK prog 46 0 0 1 false:=bP underlying46 (by kernel_rfl) yD (by decide)
theorem apH:bK prog 46 1 1 1 false:=bP underlying46 (by kernel_rfl) yD (by decide)
theorem apI:bK prog 46 2 2 1 false:=bP underlying46 (by kernel_rfl) aku (by decide)
theorem ty47:TyS prog 47 1 false:=⟨sizeOf47,isAgg47⟩
theorem aif:TyS prog 52 11 true:=⟨sizeOf52,isAgg52⟩
theorem avT:fS prog 52 [zS0,zI0,zI0,zI0,zI0,zI0,zI0,zI0,zI0,.int .u64 0,.string ⟨#[]⟩] [(0,1),(1,10)]:=gR zeroValue52 underlying52 (λw=>by kernel_rfl)
theorem apJ:cm prog 52 0 0:=⟨λa w=>by kernel_rfl⟩
theorem apK:cm prog 52 1 1:=⟨λa w=>by kernel_rfl⟩
theorem apL:bK prog 52 0 0 1 false:=bP underlying52 (by kernel_rfl) aie (by decide)
theorem apM:bK prog 52 1 1 10 true:=bP underlying52 (by kernel_rfl) akt (by decide)
theorem arS:TyS prog 54 12 true:=⟨sizeOf54,isAgg54⟩
theorem avU:fS prog 54 [zI0,zS0,zI0,zI0,zI0,zI0,zI0,zI0,zI0,zI0,.int .u64 0,.string ⟨#[]⟩] [(0,1),(1,11)]:=gR zeroValue54 underlying54 (λw=>by kernel_rfl)
theorem apN:cm prog 54 0 0:=⟨λa w=>by kernel_rfl⟩
theorem apO:cm prog 54 1 1:=⟨λa w=>by kernel_rfl⟩
theorem apP:bK prog 54 0 0 1 false:=bP underlying54 (by kernel_rfl) ty3 (by decide)
theorem apQ:bK prog 54 1 1 11 true:=bP underlying54 (by kernel_rfl) aif (by decide)
theorem akv:TyS prog 61 1 false:=⟨sizeOf61,isAgg61⟩
theorem sl61:SlS prog 61 67 2:=⟨underlying61,sizeOf67⟩
theorem amP:kI prog 61 67 2 16:=⟨underlying61,(by obtain⟨i,h1,h2,h3,h4⟩:=info_parts (by kernel_rfl:(prog.info? 67).map (λi=>(i.zero,i.size,i.bytes))=some (some (.agg #[zI0,zI0]),2,16));exact⟨i,_,h1,h2,h3,h4,rfl⟩),by decide⟩
theorem avV:lU prog 61 67 2 [zI0,zI0]:=⟨underlying61,sizeOf67,arw,rfl⟩
theorem ty63:TyS prog 63 2 true:=⟨sizeOf63,isAgg63⟩
theorem avW:fS prog 63 [zI0,zS0] [(0,1),(1,1)]:=gR zeroValue63 underlying63 (λw=>by kernel_rfl)
theorem apR:cm prog 63 0 0:=⟨λa w=>by kernel_rfl⟩
theorem apS:cm prog 63 1 1:=⟨λa w=>by kernel_rfl⟩
theorem apT:bK prog 63 0 0 1 false:=bP underlying63 (by kernel_rfl) ty3 (by decide)
theorem apU:bK prog 63 1 1 1 false:=bP underlying63 (by kernel_rfl) akv (by decide)
theorem ty67:TyS prog 67 2 true:=⟨sizeOf67,isAgg67⟩
theorem avX:fS prog 67 [zI0,zI0] [(0,1),(1,1)]:=gR zeroValue67 underlying67 (λw=>by kernel_rfl)
theorem apV:cm prog 67 0 0:=⟨λa w=>by kernel_rfl⟩
theorem apW:cm prog 67 1 1:=⟨λa w=>by kernel_rfl⟩
theorem apX:bK prog 67 0 0 1 false:=bP underlying67 (by kernel_rfl) ty3 (by decide)
theorem apY:bK prog 67 1 1 1 false:=bP underlying67 (by kernel_rfl) ty3 (by decide)
theorem avY(a0 b0:Int)(a1 b1:Int)(w:World):(Op.eqFields 9999 #[.int .i64 a0,.int .i64 a1] #[.int .i64 b0,.int .i64 b1] (prog.fieldsOf 67).toList).run prog w=.ok (decide (a0=b0)&&(decide (a1=b1)&&true)) w:=by
 have hf:(prog.fieldsOf 67).toList.map (λf=>(f.name== "_",f.type,f.offset))=[(false,3,0),(false,3,1)]:=by kernel_rfl
 have q:(Op.eqFields 9999 #[.int .i64 a0,.int .i64 a1] #[.int .i64 b0,.int .i64 b1] (prog.fieldsOf 67).toList).run prog w=.ok (decide (a0=b0)&&(decide (a1=b1)&&true)) w:=by
  obtain⟨f0,t0,e0,h0,hf⟩:=qO hf
  obtain⟨f1,t1,e1,h1,hf⟩:=qO hf
  rw[e0,e1,acQ hf]
  exact xT h0 isAgg3 underlying3 rfl rfl (xT h1 isAgg3 underlying3 rfl rfl (ahp))
 exact q
theorem akw(x y:Operand)(a0 b0:Int)(a1 b1:Int)(w:World):(do eqGuard .eql 67 x y (.agg #[.int .i64 a0,.int .i64 a1]) (.agg #[.int .i64 b0,.int .i64 b1]);binOp .eql 67 (.agg #[.int .i64 a0,.int .i64 a1]) (.agg #[.int .i64 b0,.int .i64 b1]):Sem Value).run prog w=.ok (.bool (decide (a0=b0)&&(decide (a1=b1)&&true))) w:=anX _ _ _ x y (by kernel_rfl) (by kernel_rfl) (by kernel_rfl) (avY a0 b0 a1 b1 w)
theorem arT:TyS prog 70 1 false:=⟨sizeOf70,isAgg70⟩
theorem sl70:SlS prog 70 78 11:=⟨underlying70,sizeOf78⟩
theorem avZ:kI prog 70 78 11 96:=⟨underlying70,(by obtain⟨i,h1,h2,h3,h4⟩:=info_parts (by kernel_rfl:(prog.info? 78).map (λi=>(i.zero,i.size,i.bytes))=some (some (.agg #[zI0,zI0,zI0,zI0,zI0,zI0,zI0,zI0,zI0,.int .u64 0,.string ⟨#[]⟩]),11,96));exact⟨i,_,h1,h2,h3,h4,rfl⟩),by decide⟩
theorem av0:lU prog 70 78 11 [zI0,zI0,zI0,zI0,zI0,zI0,zI0,zI0,zI0,.int .u64 0,.string ⟨#[]⟩]:=⟨underlying70,sizeOf78,arx,rfl⟩
theorem arU:TyS prog 71 1 false:=⟨sizeOf71,isAgg71⟩
theorem sl71:SlS prog 71 81 3:=⟨underlying71,sizeOf81⟩
theorem av2:kI prog 71 81 3 24:=⟨underlying71,(by obtain⟨i,h1,h2,h3,h4⟩:=info_parts (by kernel_rfl:(prog.info? 81).map (λi=>(i.zero,i.size,i.bytes))=some (some (.agg #[zI0,zI0,.int .u64 0]),3,24));exact⟨i,_,h1,h2,h3,h4,rfl⟩),by decide⟩
theorem av3:lU prog 71 81 3 [zI0,zI0,.int .u64 0]:=⟨underlying71,sizeOf81,ary,rfl⟩
theorem arV:TyS prog 72 1 false:=⟨sizeOf72,isAgg72⟩
theorem sl72:SlS prog 72 141 2:=⟨underlying72,sizeOf141⟩
theorem av4:kI prog 72 141 2 16:=⟨underlying72,(by obtain⟨i,h1,h2,h3,h4⟩:=info_parts (by kernel_rfl:(prog.info? 141).map (λi=>(i.zero,i.size,i.bytes))=some (some (.agg #[zI0,.int .u64 0]),2,16));exact⟨i,_,h1,h2,h3,h4,rfl⟩),by decide⟩
theorem av5:lU prog 72 141 2 [zI0,.int .u64 0]:=⟨underlying72,sizeOf141,amK,rfl⟩
theorem arW:TyS prog 74 3 true:=⟨sizeOf74,isAgg74⟩
theorem av6:fS prog 74 [zS0,zS0,zS0] [(0,1),(1,1),(2,1)]:=gR zeroValue74 underlying74 (λw=>by kernel_rfl)
theorem apZ:cm prog 74 0 0:=⟨λa w=>by kernel_rfl⟩
theorem ap0:cm prog 74 1 1:=⟨λa w=>by kernel_rfl⟩
theorem ap1:cm prog 74 2 2:=⟨λa w=>by kernel_rfl⟩
theorem ap2:bK prog 74 0 0 1 false:=bP underlying74 (by kernel_rfl) arT (by decide)
theorem ap3:bK prog 74 1 1 1 false:=bP underlying74 (by kernel_rfl) arU (by decide)
theorem ap4:bK prog 74 2 2 1 false:=bP underlying74 (by kernel_rfl) arV (by decide)
theorem ty78:TyS prog 78 11 true:=⟨sizeOf78,isAgg78⟩
theorem av7:fS prog 78 [zI0,zI0,zI0,zI0,zI0,zI0,zI0,zI0,zI0,.int .u64 0,.string ⟨#[]⟩] [(0,1),(1,10)]:=gR zeroValue78 underlying78 (λw=>by kernel_rfl)
theorem ap5:cm prog 78 0 0:=⟨λa w=>by kernel_rfl⟩
theorem ap6:cm prog 78 1 1:=⟨λa w=>by kernel_rfl⟩
theorem ap7:bK prog 78 0 0 1 false:=bP underlying78 (by kernel_rfl) ty3 (by decide)
theorem ap8:bK prog 78 1 1 10 true:=bP underlying78 (by kernel_rfl) akt (by decide)
theorem ty81:TyS prog 81 3 true:=⟨sizeOf81,isAgg81⟩
theorem av8:fS prog 81 [zI0,zI0,.int .u64 0] [(0,1),(1,1),(2,1)]:=gR zeroValue81 underlying81 (λw=>by kernel_rfl)
theorem ap9:cm prog 81 0 0:=⟨λa w=>by kernel_rfl⟩
theorem aqa:cm prog 81 1 1:=⟨λa w=>by kernel_rfl⟩
theorem aqb:cm prog 81 2 2:=⟨λa w=>by kernel_rfl⟩
theorem aqc:bK prog 81 0 0 1 false:=bP underlying81 (by kernel_rfl) ty3 (by decide)
theorem aqd:bK prog 81 1 1 1 false:=bP underlying81 (by kernel_rfl) ty3 (by decide)
theorem aqe:bK prog 81 2 2 1 false:=bP underlying81 (by kernel_rfl) yD (by decide)
theorem ty89:TyS prog 89 5 true:=⟨sizeOf89,isAgg89⟩
theorem av9:fS prog 89 [zI0,zI0,zI0,zI0,zI0] [(0,1),(1,1),(2,1),(3,1),(4,1)]:=gR zeroValue89 underlying89 (λw=>by kernel_rfl)
theorem aqf:cm prog 89 0 0:=⟨λa w=>by kernel_rfl⟩
theorem aqg:cm prog 89 1 1:=⟨λa w=>by kernel_rfl⟩
theorem aqh:cm prog 89 2 2:=⟨λa w=>by kernel_rfl⟩
theorem aqi:cm prog 89 3 3:=⟨λa w=>by kernel_rfl⟩
theorem aqj:cm prog 89 4 4:=⟨λa w=>by kernel_rfl⟩
theorem aqk:bK prog 89 0 0 1 false:=bP underlying89 (by kernel_rfl) ty3 (by decide)
theorem aql:bK prog 89 1 1 1 false:=bP underlying89 (by kernel_rfl) ty3 (by decide)
theorem aqm:bK prog 89 2 2 1 false:=bP underlying89 (by kernel_rfl) ty3 (by decide)
theorem aqn:bK prog 89 3 3 1 false:=bP underlying89 (by kernel_rfl) ty3 (by decide)
theorem aqo:bK prog 89 4 4 1 false:=bP underlying89 (by kernel_rfl) ty3 (by decide)
theorem ty96:TyS prog 96 1 false:=⟨sizeOf96,isAgg96⟩
theorem sl96:SlS prog 96 63 2:=⟨underlying96,sizeOf63⟩
theorem awa:kI prog 96 63 2 32:=⟨underlying96,(by obtain⟨i,h1,h2,h3,h4⟩:=info_parts (by kernel_rfl:(prog.info? 63).map (λi=>(i.zero,i.size,i.bytes))=some (some (.agg #[zI0,zS0]),2,32));exact⟨i,_,h1,h2,h3,h4,rfl⟩),by decide⟩
theorem awb:lU prog 96 63 2 [zI0,zS0]:=⟨underlying96,sizeOf63,arv,rfl⟩
theorem amQ:TyS prog 100 2 true:=⟨sizeOf100,isAgg100⟩
theorem arX:fS prog 100 [zS0,zS0] [(0,1),(1,1)]:=gR zeroValue100 underlying100 (λw=>by kernel_rfl)
theorem akx:cm prog 100 0 0:=⟨λa w=>by kernel_rfl⟩
theorem aky:cm prog 100 1 1:=⟨λa w=>by kernel_rfl⟩
theorem akz:bK prog 100 0 0 1 false:=bP underlying100 (by kernel_rfl) akv (by decide)
theorem akA:bK prog 100 1 1 1 false:=bP underlying100 (by kernel_rfl) aie (by decide)
theorem awc:TyS prog 115 2 true:=⟨sizeOf115,isAgg115⟩
theorem arY:fS prog 115 [zS0,zI0] [(0,1),(1,1)]:=gR zeroValue115 underlying115 (λw=>by kernel_rfl)
theorem akB:cm prog 115 0 0:=⟨λa w=>by kernel_rfl⟩
theorem akC:cm prog 115 1 1:=⟨λa w=>by kernel_rfl⟩
theorem akD:bK prog 115 0 0 1 false:=bP underlying115 (by kernel_rfl) aie (by decide)
theorem akE:bK prog 115 1 1 1 false:=bP underlying115 (by kernel_rfl) ty3 (by decide)
theorem awd:TyS prog 117 1 false:=⟨sizeOf117,isAgg117⟩
theorem wQ:SlS prog 117 118 1:=⟨underlying117,sizeOf118⟩
theorem ajh:kI prog 117 118 1 24:=⟨underlying117,(by obtain⟨i,h1,h2,h3,h4⟩:=info_parts (by kernel_rfl:(prog.info? 118).map (λi=>(i.zero,i.size,i.bytes))=some (some (zS0),1,24));exact⟨i,_,h1,h2,h3,h4,rfl⟩),by decide⟩
theorem aji:lU prog 117 118 1 [zS0]:=⟨underlying117,sizeOf118,amJ,rfl⟩
theorem acR:TyS prog 118 1 false:=⟨sizeOf118,isAgg118⟩
theorem awe:SlS prog 118 4 1:=⟨underlying118,sizeOf4⟩
theorem ajj:kI prog 118 4 1 1:=⟨underlying118,(by obtain⟨i,h1,h2,h3,h4⟩:=info_parts (by kernel_rfl:(prog.info? 4).map (λi=>(i.zero,i.size,i.bytes))=some (some (.bool false),1,1));exact⟨i,_,h1,h2,h3,h4,rfl⟩),by decide⟩
theorem ajk:lU prog 118 4 1 [.bool false]:=⟨underlying118,sizeOf4,ze4,rfl⟩
theorem awf:TyS prog 130 1 false:=⟨sizeOf130,isAgg130⟩
theorem awg:TyS prog 136 1 false:=⟨sizeOf136,isAgg136⟩
theorem awh:SlS prog 136 143 16:=⟨underlying136,sizeOf143⟩
theorem arZ:kI prog 136 143 16 152:=⟨underlying136,(by obtain⟨i,h1,h2,h3,h4⟩:=info_parts (by kernel_rfl:(prog.info? 143).map (λi=>(i.zero,i.size,i.bytes))=some (some (.agg #[zI0,zI0,zI0,zI0,zI0,zS0,zI0,zI0,zI0,zI0,zI0,zI0,zI0,zI0,.int .u64 0,.string ⟨#[]⟩]),16,152));exact⟨i,_,h1,h2,h3,h4,rfl⟩),by decide⟩
theorem ar0:lU prog 136 143 16 [zI0,zI0,zI0,zI0,zI0,zS0,zI0,zI0,zI0,zI0,zI0,zI0,zI0,zI0,.int .u64 0,.string ⟨#[]⟩]:=⟨underlying136,sizeOf143,amL,rfl⟩
theorem awi:TyS prog 141 2 true:=⟨sizeOf141,isAgg141⟩
theorem ar1:fS prog 141 [zI0,.int .u64 0] [(0,1),(1,1)]:=gR zeroValue141 underlying141 (λw=>by kernel_rfl)
theorem akF:cm prog 141 0 0:=⟨λa w=>by kernel_rfl⟩
theorem akG:cm prog 141 1 1:=⟨λa w=>by kernel_rfl⟩
theorem akH:bK prog 141 0 0 1 false:=bP underlying141 (by kernel_rfl) ty3 (by decide)
theorem akI:bK prog 141 1 1 1 false:=bP underlying141 (by kernel_rfl) yD (by decide)
theorem awj:TyS prog 143 16 true:=⟨sizeOf143,isAgg143⟩
theorem ar2:fS prog 143 [zI0,zI0,zI0,zI0,zI0,zS0,zI0,zI0,zI0,zI0,zI0,zI0,zI0,zI0,.int .u64 0,.string ⟨#[]⟩] [(0,4),(4,12)]:=gR zeroValue143 underlying143 (λw=>by kernel_rfl)
theorem akJ:cm prog 143 0 0:=⟨λa w=>by kernel_rfl⟩
theorem akK:cm prog 143 1 4:=⟨λa w=>by kernel_rfl⟩
theorem akL:bK prog 143 0 0 4 true:=bP underlying143 (by kernel_rfl) arR (by decide)
theorem akM:bK prog 143 1 4 12 true:=bP underlying143 (by kernel_rfl) arS (by decide)
theorem awk:TyS prog 152 1 false:=⟨sizeOf152,isAgg152⟩
theorem awl:TyS prog 154 12 true:=⟨sizeOf154,isAgg154⟩
theorem ar3:fS prog 154 [zI0,zS0,zI0,zI0,zI0,zI0,zI0,zI0,zI0,zI0,.int .u64 0,.string ⟨#[]⟩] [(0,1),(1,11)]:=gR zeroValue154 underlying154 (λw=>by kernel_rfl)
theorem akN:cm prog 154 0 0:=⟨λa w=>by kernel_rfl⟩
theorem akO:cm prog 154 1 1:=⟨λa w=>by kernel_rfl⟩
theorem akP:bK prog 154 0 0 1 false:=bP underlying154 (by kernel_rfl) ty3 (by decide)
theorem akQ:bK prog 154 1 1 11 true:=bP underlying154 (by kernel_rfl) aif (by decide)
theorem amR:TyS prog 155 1 false:=⟨sizeOf155,isAgg155⟩
theorem awm:SlS prog 155 154 12:=⟨underlying155,sizeOf154⟩
theorem ar4:kI prog 155 154 12 120:=⟨underlying155,(by obtain⟨i,h1,h2,h3,h4⟩:=info_parts (by kernel_rfl:(prog.info? 154).map (λi=>(i.zero,i.size,i.bytes))=some (some (.agg #[zI0,zS0,zI0,zI0,zI0,zI0,zI0,zI0,zI0,zI0,.int .u64 0,.string ⟨#[]⟩]),12,120));exact⟨i,_,h1,h2,h3,h4,rfl⟩),by decide⟩
theorem ar5:lU prog 155 154 12 [zI0,zS0,zI0,zI0,zI0,zI0,zI0,zI0,zI0,zI0,.int .u64 0,.string ⟨#[]⟩]:=⟨underlying155,sizeOf154,amM,rfl⟩
theorem awn:TyS prog 157 12 true:=⟨sizeOf157,isAgg157⟩
theorem ar6:fS prog 157 [zI0,zS0,zS0,zS0,zS0,zS0,zS0,zS0,zS0,zS0,zS0,zS0] [(0,2),(2,2),(4,2),(6,2),(8,3),(11,1)]:=gR zeroValue157 underlying157 (λw=>by kernel_rfl)
theorem akR:cm prog 157 0 0:=⟨λa w=>by kernel_rfl⟩
theorem akS:cm prog 157 1 2:=⟨λa w=>by kernel_rfl⟩
theorem akT:cm prog 157 2 4:=⟨λa w=>by kernel_rfl⟩
theorem akU:cm prog 157 3 6:=⟨λa w=>by kernel_rfl⟩
theorem akV:cm prog 157 4 8:=⟨λa w=>by kernel_rfl⟩
theorem akW:cm prog 157 5 11:=⟨λa w=>by kernel_rfl⟩
theorem akX:bK prog 157 0 0 2 true:=bP underlying157 (by kernel_rfl) arQ (by decide)
theorem akY:bK prog 157 1 2 2 true:=bP underlying157 (by kernel_rfl) akr (by decide)
theorem akZ:bK prog 157 2 4 2 true:=bP underlying157 (by kernel_rfl) akr (by decide)
theorem ak0:bK prog 157 3 6 2 true:=bP underlying157 (by kernel_rfl) amQ (by decide)
theorem ak1:bK prog 157 4 8 3 true:=bP underlying157 (by kernel_rfl) arW (by decide)
theorem ak2:bK prog 157 5 11 1 false:=bP underlying157 (by kernel_rfl) amR (by decide)
theorem awo:TyS prog 159 12 true:=⟨sizeOf159,isAgg159⟩
theorem ar7:fS prog 159 [zI0,zS0,zI0,zI0,zI0,zI0,zI0,zI0,zI0,zI0,.int .u64 0,.string ⟨#[]⟩] [(0,1),(1,11)]:=gR zeroValue159 underlying159 (λw=>by kernel_rfl)
theorem ak3:cm prog 159 0 0:=⟨λa w=>by kernel_rfl⟩
theorem ak4:cm prog 159 1 1:=⟨λa w=>by kernel_rfl⟩
theorem ak5:bK prog 159 0 0 1 false:=bP underlying159 (by kernel_rfl) ty3 (by decide)
theorem ak6:bK prog 159 1 1 11 true:=bP underlying159 (by kernel_rfl) aif (by decide)
theorem awp:TyS prog 168 1 false:=⟨sizeOf168,isAgg168⟩
theorem awq:TyS prog 170 1 false:=⟨sizeOf170,isAgg170⟩
theorem awr:TyS prog 172 1 false:=⟨sizeOf172,isAgg172⟩
theorem aws:TyS prog 173 1 false:=⟨sizeOf173,isAgg173⟩
theorem awt:TyS prog 177 2 true:=⟨sizeOf177,isAgg177⟩
theorem awu:TyS prog 178 1 false:=⟨sizeOf178,isAgg178⟩
theorem awv:SlS prog 178 177 2:=⟨underlying178,sizeOf177⟩
theorem ar8:kI prog 178 177 2 16:=⟨underlying178,(by obtain⟨i,h1,h2,h3,h4⟩:=info_parts (by kernel_rfl:(prog.info? 177).map (λi=>(i.zero,i.size,i.bytes))=some (some (.agg #[zI0,zI0]),2,16));exact⟨i,_,h1,h2,h3,h4,rfl⟩),by decide⟩
theorem ar9:lU prog 178 177 2 [zI0,zI0]:=⟨underlying178,sizeOf177,aaR,rfl⟩
theorem aww:TyS prog 184 3 true:=⟨sizeOf184,isAgg184⟩
theorem asa:fS prog 184 [zI0,zI0,zI0] [(0,1),(1,1),(2,1)]:=gR zeroValue184 underlying184 (λw=>by kernel_rfl)
theorem ak7:cm prog 184 0 0:=⟨λa w=>by kernel_rfl⟩
theorem ak8:cm prog 184 1 1:=⟨λa w=>by kernel_rfl⟩
theorem ak9:cm prog 184 2 2:=⟨λa w=>by kernel_rfl⟩
theorem ala:bK prog 184 0 0 1 false:=bP underlying184 (by kernel_rfl) ty3 (by decide)
theorem alb:bK prog 184 1 1 1 false:=bP underlying184 (by kernel_rfl) ty3 (by decide)
theorem alc:bK prog 184 2 2 1 false:=bP underlying184 (by kernel_rfl) ty3 (by decide)
theorem asb(a0 b0:Int)(a1 b1:Int)(a2 b2:Int)(w:World):(Op.eqFields 9999 #[.int .i64 a0,.int .i64 a1,.int .i64 a2] #[.int .i64 b0,.int .i64 b1,.int .i64 b2] (prog.fieldsOf 184).toList).run prog w=.ok (decide (a0=b0)&&(decide (a1=b1)&&(decide (a2=b2)&&true))) w:=by
 have hf:(prog.fieldsOf 184).toList.map (λf=>(f.name== "_",f.type,f.offset))=[(false,3,0),(false,3,1),(false,3,2)]:=by kernel_rfl
 have q:(Op.eqFields 9999 #[.int .i64 a0,.int .i64 a1,.int .i64 a2] #[.int .i64 b0,.int .i64 b1,.int .i64 b2] (prog.fieldsOf 184).toList).run prog w=.ok (decide (a0=b0)&&(decide (a1=b1)&&(decide (a2=b2)&&true))) w:=by
  obtain⟨f0,t0,e0,h0,hf⟩:=qO hf
  obtain⟨f1,t1,e1,h1,hf⟩:=qO hf
  obtain⟨f2,t2,e2,h2,hf⟩:=qO hf
  rw[e0,e1,e2,acQ hf]
  exact xT h0 isAgg3 underlying3 rfl rfl (xT h1 isAgg3 underlying3 rfl rfl (xT h2 isAgg3 underlying3 rfl rfl (ahp)))
 exact q
theorem awx:TyS prog 193 1 false:=⟨sizeOf193,isAgg193⟩
theorem aih:TyS prog 200 1 false:=⟨sizeOf200,isAgg200⟩
theorem lg:lV prog 200 3 216 .i64:=⟨underlying200,underlying3⟩
theorem awy:TyS prog 202 2 true:=⟨sizeOf202,isAgg202⟩
theorem asd:fS prog 202 [.map none,.map none] [(0,1),(1,1)]:=gR zeroValue202 underlying202 (λw=>by kernel_rfl)
theorem ald:cm prog 202 0 0:=⟨λa w=>by kernel_rfl⟩
theorem ale:cm prog 202 1 1:=⟨λa w=>by kernel_rfl⟩
theorem alf:bK prog 202 0 0 1 false:=bP underlying202 (by kernel_rfl) aih (by decide)
theorem alg:bK prog 202 1 1 1 false:=bP underlying202 (by kernel_rfl) aih (by decide)
theorem awz:TyS prog 204 1 false:=⟨sizeOf204,isAgg204⟩
theorem qP:lV prog 204 3 3 .i64:=⟨underlying204,underlying3⟩
theorem awA:TyS prog 215 1 false:=⟨sizeOf215,isAgg215⟩
theorem awB:TyS prog 216 1 false:=⟨sizeOf216,isAgg216⟩
theorem awC:SlS prog 216 218 2:=⟨underlying216,sizeOf218⟩
theorem ase:kI prog 216 218 2 16:=⟨underlying216,(by obtain⟨i,h1,h2,h3,h4⟩:=info_parts (by kernel_rfl:(prog.info? 218).map (λi=>(i.zero,i.size,i.bytes))=some (some (.agg #[zI0,zI0]),2,16));exact⟨i,_,h1,h2,h3,h4,rfl⟩),by decide⟩
theorem asf:lU prog 216 218 2 [zI0,zI0]:=⟨underlying216,sizeOf218,amN,rfl⟩
theorem awD:TyS prog 218 2 true:=⟨sizeOf218,isAgg218⟩
theorem asg:fS prog 218 [zI0,zI0] [(0,1),(1,1)]:=gR zeroValue218 underlying218 (λw=>by kernel_rfl)
theorem alh:cm prog 218 0 0:=⟨λa w=>by kernel_rfl⟩
theorem ali:cm prog 218 1 1:=⟨λa w=>by kernel_rfl⟩
theorem alj:bK prog 218 0 0 1 false:=bP underlying218 (by kernel_rfl) ty3 (by decide)
theorem alk:bK prog 218 1 1 1 false:=bP underlying218 (by kernel_rfl) ty3 (by decide)
theorem awE:TyS prog 220 1 false:=⟨sizeOf220,isAgg220⟩
theorem awF:TyS prog 228 1 false:=⟨sizeOf228,isAgg228⟩
theorem awG:TyS prog 235 1 false:=⟨sizeOf235,isAgg235⟩
end Go.Proofs.YtdjeacigeegklaaGreat
