/- The types of this translation, as the rules want aa6. No condition. -/
import Derived.Test.YtdjeacigeegklaaGreatAB
import Derived.Test.YtdjeacigeegklaaGreatRows
import Derived.OwnWalk
namespace Go.Proofs.YtdjeacigeegklaaGreat
set_option linter.all false
abbrev zI0:Value:=.int .i64 0
abbrev zS0:Value:=.slice none 0 0
open Go Go.Proofs.Tryz
set_option maxRecDepth 100000
abbrev Zr(i:Nat)(c:List Value):Prop:=∀w,∃z,(zeroValue i).run prog w=.ok z w∧z.cells=c.toArray
theorem hmix:prog.follows .mixedOrders=true:=by kernel_rfl
theorem ze2:Zr 2 [zI0]:=λw=>⟨_,zeroValue2 w,rfl⟩
theorem ze3:Zr 3 [zI0]:=λw=>⟨_,zeroValue3 w,rfl⟩
theorem ze4:Zr 4 [.bool false]:=λw=>⟨_,zeroValue4 w,rfl⟩
theorem ze5:Zr 5 [.int .u8 0]:=λw=>⟨_,zeroValue5 w,rfl⟩
theorem ze6:Zr 6 [.int .u8 0]:=λw=>⟨_,zeroValue6 w,rfl⟩
theorem ze7:Zr 7 [zI0,zI0,.bool false,.int .u8 0]:=λw=>⟨_,zeroValue7 w,rfl⟩
theorem ze8:Zr 8 [zI0,zI0,.bool false,.int .u8 0]:=λw=>⟨_,zeroValue8 w,rfl⟩
theorem ze9:Zr 9 [.string ⟨#[]⟩]:=λw=>⟨_,zeroValue9 w,rfl⟩
theorem ze10:Zr 10 [.string ⟨#[]⟩]:=λw=>⟨_,zeroValue10 w,rfl⟩
theorem ze11:Zr 11 [.string ⟨#[]⟩]:=λw=>⟨_,zeroValue11 w,rfl⟩
theorem ze12:Zr 12 [.int .u64 0]:=λw=>⟨_,zeroValue12 w,rfl⟩
theorem ze13:Zr 13 [.string ⟨#[]⟩,.int .u64 0]:=λw=>⟨_,zeroValue13 w,rfl⟩
theorem ze14:Zr 14 [.string ⟨#[]⟩,.int .u64 0]:=λw=>⟨_,zeroValue14 w,rfl⟩
theorem ze15:Zr 15 [.pointer none]:=λw=>⟨_,zeroValue15 w,rfl⟩
theorem ze16:Zr 16 [.pointer none]:=λw=>⟨_,zeroValue16 w,rfl⟩
theorem ze17:Zr 17 [.pointer none]:=λw=>⟨_,zeroValue17 w,rfl⟩
theorem ze18:Zr 18 [.pointer none]:=λw=>⟨_,zeroValue18 w,rfl⟩
theorem ze19:Zr 19 [.pointer none]:=λw=>⟨_,zeroValue19 w,rfl⟩
theorem ze21:Zr 21 [.int .i32 0]:=λw=>⟨_,zeroValue21 w,rfl⟩
theorem ze22:Zr 22 [zS0]:=λw=>⟨_,zeroValue22 w,rfl⟩
theorem ze23:Zr 23 [.pointer none]:=λw=>⟨_,zeroValue23 w,rfl⟩
theorem ze25:Zr 25 [zS0]:=λw=>⟨_,zeroValue25 w,rfl⟩
theorem ze26:Zr 26 [zS0]:=λw=>⟨_,zeroValue26 w,rfl⟩
theorem ze27:Zr 27 [zS0,zS0]:=λw=>⟨_,zeroValue27 w,rfl⟩
theorem ze28:Zr 28 [zS0,zS0]:=λw=>⟨_,zeroValue28 w,rfl⟩
theorem ze30:Zr 30 [zS0]:=λw=>⟨_,zeroValue30 w,rfl⟩
theorem ze31:Zr 31 [zI0,zS0]:=λw=>⟨_,zeroValue31 w,rfl⟩
theorem ze32:Zr 32 [zI0,zS0]:=λw=>⟨_,zeroValue32 w,rfl⟩
theorem ze34:Zr 34 [.int .u64 0]:=λw=>⟨_,zeroValue34 w,rfl⟩
theorem ze35:Zr 35 [zI0,zI0,zI0,zI0,zI0,zI0,zI0,zI0,.int .u64 0,.string ⟨#[]⟩]:=λw=>⟨_,zeroValue35 w,rfl⟩
theorem ze36:Zr 36 [zI0,zI0,zI0,zI0,zI0,zI0,zI0,zI0,.int .u64 0,.string ⟨#[]⟩]:=λw=>⟨_,zeroValue36 w,rfl⟩
theorem ze37:Zr 37 [zI0,zI0,zI0,zI0]:=λw=>⟨_,zeroValue37 w,rfl⟩
theorem alG:Zr 38 [zI0,zI0,zI0,zI0]:=λw=>⟨_,zeroValue38 w,rfl⟩
theorem ze40:Zr 40 [.int .u64 0]:=λw=>⟨_,zeroValue40 w,rfl⟩
theorem ze41:Zr 41 [zI0,.bool false]:=λw=>⟨_,zeroValue41 w,rfl⟩
theorem alH:Zr 42 [zI0,.bool false]:=λw=>⟨_,zeroValue42 w,rfl⟩
theorem ze44:Zr 44 [zS0]:=λw=>⟨_,zeroValue44 w,rfl⟩
theorem ze45:Zr 45 [.int .u64 0,.int .u64 0,zS0]:=λw=>⟨_,zeroValue45 w,rfl⟩
theorem ze46:Zr 46 [.int .u64 0,.int .u64 0,zS0]:=λw=>⟨_,zeroValue46 w,rfl⟩
theorem alI:Zr 47 [zI0]:=λw=>⟨_,zeroValue47 w,rfl⟩
theorem ze52:Zr 52 [zS0,zI0,zI0,zI0,zI0,zI0,zI0,zI0,zI0,.int .u64 0,.string ⟨#[]⟩]:=λw=>⟨_,zeroValue52 w,rfl⟩
theorem alJ:Zr 54 [zI0,zS0,zI0,zI0,zI0,zI0,zI0,zI0,zI0,zI0,.int .u64 0,.string ⟨#[]⟩]:=λw=>⟨_,zeroValue54 w,rfl⟩
theorem ze61:Zr 61 [zS0]:=λw=>⟨_,zeroValue61 w,rfl⟩
theorem alK:Zr 63 [zI0,zS0]:=λw=>⟨_,zeroValue63 w,rfl⟩
theorem alL:Zr 67 [zI0,zI0]:=λw=>⟨_,zeroValue67 w,rfl⟩
theorem ze70:Zr 70 [zS0]:=λw=>⟨_,zeroValue70 w,rfl⟩
theorem ze71:Zr 71 [zS0]:=λw=>⟨_,zeroValue71 w,rfl⟩
theorem ze72:Zr 72 [zS0]:=λw=>⟨_,zeroValue72 w,rfl⟩
theorem ze74:Zr 74 [zS0,zS0,zS0]:=λw=>⟨_,zeroValue74 w,rfl⟩
theorem alM:Zr 78 [zI0,zI0,zI0,zI0,zI0,zI0,zI0,zI0,zI0,.int .u64 0,.string ⟨#[]⟩]:=λw=>⟨_,zeroValue78 w,rfl⟩
theorem alN:Zr 81 [zI0,zI0,.int .u64 0]:=λw=>⟨_,zeroValue81 w,rfl⟩
theorem alO:Zr 89 [zI0,zI0,zI0,zI0,zI0]:=λw=>⟨_,zeroValue89 w,rfl⟩
theorem ze96:Zr 96 [zS0]:=λw=>⟨_,zeroValue96 w,rfl⟩
theorem ao6:Zr 115 [zS0,zI0]:=λw=>⟨_,zeroValue115 w,rfl⟩
theorem ao7:Zr 117 [zS0]:=λw=>⟨_,zeroValue117 w,rfl⟩
theorem ahf:Zr 118 [zS0]:=λw=>⟨_,zeroValue118 w,rfl⟩
theorem ao8:Zr 130 [.nilFunc]:=λw=>⟨_,zeroValue130 w,rfl⟩
theorem ahg:Zr 134 [zI0,zI0,zI0,zI0,zI0,zI0,zI0,zI0,zI0,.int .u64 0,.string ⟨#[]⟩]:=λw=>⟨_,zeroValue134 w,rfl⟩
theorem ao9:Zr 135 [zS0]:=λw=>⟨_,zeroValue135 w,rfl⟩
theorem apa:Zr 136 [zS0]:=λw=>⟨_,zeroValue136 w,rfl⟩
theorem ahh:Zr 141 [zI0,.int .u64 0]:=λw=>⟨_,zeroValue141 w,rfl⟩
theorem ahi:Zr 143 [zI0,zI0,zI0,zI0,zI0,zS0,zI0,zI0,zI0,zI0,zI0,zI0,zI0,zI0,.int .u64 0,.string ⟨#[]⟩]:=λw=>⟨_,zeroValue143 w,rfl⟩
theorem apb:Zr 152 [.nilFunc]:=λw=>⟨_,zeroValue152 w,rfl⟩
theorem apc:Zr 168 [.nilFunc]:=λw=>⟨_,zeroValue168 w,rfl⟩
theorem apd:Zr 170 [.nilFunc]:=λw=>⟨_,zeroValue170 w,rfl⟩
theorem ape:Zr 172 [.nilFunc]:=λw=>⟨_,zeroValue172 w,rfl⟩
theorem apf:Zr 173 [.nilFunc]:=λw=>⟨_,zeroValue173 w,rfl⟩
theorem apg:Zr 181 [zS0]:=λw=>⟨_,zeroValue181 w,rfl⟩
theorem ahj:Zr 184 [zI0,zI0,zI0]:=λw=>⟨_,zeroValue184 w,rfl⟩
theorem aph:Zr 200 [.map none]:=λw=>⟨_,zeroValue200 w,rfl⟩
theorem api:Zr 202 [.map none,.map none]:=λw=>⟨_,zeroValue202 w,rfl⟩
theorem apj:Zr 204 [.map none]:=λw=>⟨_,zeroValue204 w,rfl⟩
theorem apk:Zr 207 [zS0]:=λw=>⟨_,zeroValue207 w,rfl⟩
theorem apl:Zr 208 [.map none]:=λw=>⟨_,zeroValue208 w,rfl⟩
theorem apm:Zr 216 [zS0]:=λw=>⟨_,zeroValue216 w,rfl⟩
theorem ahk:Zr 218 [zI0,zI0]:=λw=>⟨_,zeroValue218 w,rfl⟩
theorem apn:Zr 220 [.nilFunc]:=λw=>⟨_,zeroValue220 w,rfl⟩
theorem apo:Zr 228 [zI0]:=λw=>⟨_,zeroValue228 w,rfl⟩
theorem apq:Zr 235 [.int .u32 0]:=λw=>⟨_,zeroValue235 w,rfl⟩
theorem ty2:TyS prog 2 1 false:=⟨sizeOf2,isAgg2⟩
theorem ty3:TyS prog 3 1 false:=⟨sizeOf3,isAgg3⟩
theorem ty4:TyS prog 4 1 false:=⟨sizeOf4,isAgg4⟩
theorem ty5:TyS prog 5 1 false:=⟨sizeOf5,isAgg5⟩
theorem ty6:TyS prog 6 1 false:=⟨sizeOf6,isAgg6⟩
theorem ty7:TyS prog 7 4 true:=⟨sizeOf7,isAgg7⟩
theorem str7:fN prog 7 [zI0,zI0,.bool false,.int .u8 0] [(0,1),(1,1),(2,1),(3,1)]:=gm zeroValue7 underlying7 (λw=>by kernel_rfl)
theorem alP:bQ prog 7 0 0:=⟨λa w=>by kernel_rfl⟩
theorem alQ:bQ prog 7 1 1:=⟨λa w=>by kernel_rfl⟩
theorem alR:bQ prog 7 2 2:=⟨λa w=>by kernel_rfl⟩
theorem alS:bQ prog 7 3 3:=⟨λa w=>by kernel_rfl⟩
theorem alT:bz prog 7 0 0 1 false:=bB underlying7 (by kernel_rfl) ty2 (by decide)
theorem alU:bz prog 7 1 1 1 false:=bB underlying7 (by kernel_rfl) ty3 (by decide)
theorem alV:bz prog 7 2 2 1 false:=bB underlying7 (by kernel_rfl) ty4 (by decide)
theorem alW:bz prog 7 3 3 1 false:=bB underlying7 (by kernel_rfl) ty6 (by decide)
theorem ty8:TyS prog 8 4 true:=⟨sizeOf8,isAgg8⟩
theorem str8:fN prog 8 [zI0,zI0,.bool false,.int .u8 0] [(0,1),(1,1),(2,1),(3,1)]:=gm zeroValue8 underlying8 (λw=>by kernel_rfl)
theorem alX:bQ prog 8 0 0:=⟨λa w=>by kernel_rfl⟩
theorem alY:bQ prog 8 1 1:=⟨λa w=>by kernel_rfl⟩
theorem alZ:bQ prog 8 2 2:=⟨λa w=>by kernel_rfl⟩
theorem al0:bQ prog 8 3 3:=⟨λa w=>by kernel_rfl⟩
theorem al1:bz prog 8 0 0 1 false:=bB underlying8 (by kernel_rfl) ty2 (by decide)
theorem al2:bz prog 8 1 1 1 false:=bB underlying8 (by kernel_rfl) ty3 (by decide)
theorem al3:bz prog 8 2 2 1 false:=bB underlying8 (by kernel_rfl) ty4 (by decide)
theorem al4:bz prog 8 3 3 1 false:=bB underlying8 (by kernel_rfl) ty6 (by decide)
theorem ty9:TyS prog 9 1 false:=⟨sizeOf9,isAgg9⟩
theorem ty10:TyS prog 10 1 false:=⟨sizeOf10,isAgg10⟩
theorem ty11:TyS prog 11 1 false:=⟨sizeOf11,isAgg11⟩
theorem afp:TyS prog 12 1 false:=⟨sizeOf12,isAgg12⟩
theorem ty13:TyS prog 13 2 true:=⟨sizeOf13,isAgg13⟩
theorem apr:fN prog 13 [.string ⟨#[]⟩,.int .u64 0] [(0,1),(1,1)]:=gm zeroValue13 underlying13 (λw=>by kernel_rfl)
theorem aij:bQ prog 13 0 0:=⟨λa w=>by kernel_rfl⟩
theorem aik:bQ prog 13 1 1:=⟨λa w=>by kernel_rfl⟩
theorem ail:bz prog 13 0 0 1 false:=bB underlying13 (by kernel_rfl) ty9 (by decide)
theorem aim:bz prog 13 1 1 1 false:=bB underlying13 (by kernel_rfl) afp (by decide)
theorem ty14:TyS prog 14 2 true:=⟨sizeOf14,isAgg14⟩
theorem aps:fN prog 14 [.string ⟨#[]⟩,.int .u64 0] [(0,1),(1,1)]:=gm zeroValue14 underlying14 (λw=>by kernel_rfl)
theorem ain:bQ prog 14 0 0:=⟨λa w=>by kernel_rfl⟩
theorem aio:bQ prog 14 1 1:=⟨λa w=>by kernel_rfl⟩
theorem aip:bz prog 14 0 0 1 false:=bB underlying14 (by kernel_rfl) ty9 (by decide)
theorem aiq:bz prog 14 1 1 1 false:=bB underlying14 (by kernel_rfl) afp (by decide)
theorem ty15:TyS prog 15 1 false:=⟨sizeOf15,isAgg15⟩
theorem ty16:TyS prog 16 1 false:=⟨sizeOf16,isAgg16⟩
theorem afq:TyS prog 17 1 false:=⟨sizeOf17,isAgg17⟩
theorem ty18:TyS prog 18 1 true:=⟨sizeOf18,isAgg18⟩
theorem apt:fN prog 18 [.pointer none] [(0,1)]:=gm zeroValue18 underlying18 (λw=>by kernel_rfl)
theorem air:bQ prog 18 0 0:=⟨λa w=>by kernel_rfl⟩
theorem ais:bz prog 18 0 0 1 false:=bB underlying18 (by kernel_rfl) afq (by decide)
theorem ty19:TyS prog 19 1 true:=⟨sizeOf19,isAgg19⟩
theorem apu:fN prog 19 [.pointer none] [(0,1)]:=gm zeroValue19 underlying19 (λw=>by kernel_rfl)
theorem ait:bQ prog 19 0 0:=⟨λa w=>by kernel_rfl⟩
theorem aiu:bz prog 19 0 0 1 false:=bB underlying19 (by kernel_rfl) afq (by decide)
theorem ty21:TyS prog 21 1 false:=⟨sizeOf21,isAgg21⟩
theorem afr:TyS prog 22 1 false:=⟨sizeOf22,isAgg22⟩
theorem sl22:SlS prog 22 3 1:=⟨underlying22,sizeOf3⟩
theorem ahl:ig prog 22 3 1 8:=⟨underlying22,(by obtain⟨i,h1,h2,h3,h4⟩:=info_parts (by kernel_rfl:(prog.info? 3).map (λi=>(i.zero,i.size,i.bytes))=some (some (zI0),1,8));exact⟨i,_,h1,h2,h3,h4,rfl⟩),by decide⟩
theorem apv:iR prog 22 3 1 [zI0]:=⟨underlying22,sizeOf3,ze3,rfl⟩
theorem ty23:TyS prog 23 1 false:=⟨sizeOf23,isAgg23⟩
theorem afs:TyS prog 25 1 false:=⟨sizeOf25,isAgg25⟩
theorem sl25:SlS prog 25 42 2:=⟨underlying25,sizeOf42⟩
theorem apw:ig prog 25 42 2 16:=⟨underlying25,(by obtain⟨i,h1,h2,h3,h4⟩:=info_parts (by kernel_rfl:(prog.info? 42).map (λi=>(i.zero,i.size,i.bytes))=some (some (.agg #[zI0,.bool false]),2,16));exact⟨i,_,h1,h2,h3,h4,rfl⟩),by decide⟩
theorem apx:iR prog 25 42 2 [zI0,.bool false]:=⟨underlying25,sizeOf42,alH,rfl⟩
theorem aft:TyS prog 26 1 false:=⟨sizeOf26,isAgg26⟩
theorem sl26:SlS prog 26 89 5:=⟨underlying26,sizeOf89⟩
theorem apy:ig prog 26 89 5 40:=⟨underlying26,(by obtain⟨i,h1,h2,h3,h4⟩:=info_parts (by kernel_rfl:(prog.info? 89).map (λi=>(i.zero,i.size,i.bytes))=some (some (.agg #[zI0,zI0,zI0,zI0,zI0]),5,40));exact⟨i,_,h1,h2,h3,h4,rfl⟩),by decide⟩
theorem apz:iR prog 26 89 5 [zI0,zI0,zI0,zI0,zI0]:=⟨underlying26,sizeOf89,alO,rfl⟩
theorem ty27:TyS prog 27 2 true:=⟨sizeOf27,isAgg27⟩
theorem apA:fN prog 27 [zS0,zS0] [(0,1),(1,1)]:=gm zeroValue27 underlying27 (λw=>by kernel_rfl)
theorem aiv:bQ prog 27 0 0:=⟨λa w=>by kernel_rfl⟩
theorem aiw:bQ prog 27 1 1:=⟨λa w=>by kernel_rfl⟩
theorem aix:bz prog 27 0 0 1 false:=bB underlying27 (by kernel_rfl) afs (by decide)
theorem aiy:bz prog 27 1 1 1 false:=bB underlying27 (by kernel_rfl) aft (by decide)
theorem ty28:TyS prog 28 2 true:=⟨sizeOf28,isAgg28⟩
theorem apB:fN prog 28 [zS0,zS0] [(0,1),(1,1)]:=gm zeroValue28 underlying28 (λw=>by kernel_rfl)
theorem aiz:bQ prog 28 0 0:=⟨λa w=>by kernel_rfl⟩
theorem aiA:bQ prog 28 1 1:=⟨λa w=>by kernel_rfl⟩
theorem aiB:bz prog 28 0 0 1 false:=bB underlying28 (by kernel_rfl) afs (by decide)
theorem aiC:bz prog 28 1 1 1 false:=bB underlying28 (by kernel_rfl) aft (by decide)
theorem afu:TyS prog 30 1 false:=⟨sizeOf30,isAgg30⟩
theorem sl30:SlS prog 30 38 4:=⟨underlying30,sizeOf38⟩
theorem apC:ig prog 30 38 4 32:=⟨underlying30,(by obtain⟨i,h1,h2,h3,h4⟩:=info_parts (by kernel_rfl:(prog.info? 38).map (λi=>(i.zero,i.size,i.bytes))=some (some (.agg #[zI0,zI0,zI0,zI0]),4,32));exact⟨i,_,h1,h2,h3,h4,rfl⟩),by decide⟩
theorem apD:iR prog 30 38 4 [zI0,zI0,zI0,zI0]:=⟨underlying30,sizeOf38,alG,rfl⟩
theorem ty31:TyS prog 31 2 true:=⟨sizeOf31,isAgg31⟩
theorem apF:fN prog 31 [zI0,zS0] [(0,1),(1,1)]:=gm zeroValue31 underlying31 (λw=>by kernel_rfl)
theorem aiD:bQ prog 31 0 0:=⟨λa w=>by kernel_rfl⟩
theorem aiE:bQ prog 31 1 1:=⟨λa w=>by kernel_rfl⟩
theorem aiF:bz prog 31 0 0 1 false:=bB underlying31 (by kernel_rfl) ty3 (by decide)
theorem aiG:bz prog 31 1 1 1 false:=bB underlying31 (by kernel_rfl) afu (by decide)
theorem ty32:TyS prog 32 2 true:=⟨sizeOf32,isAgg32⟩
theorem apG:fN prog 32 [zI0,zS0] [(0,1),(1,1)]:=gm zeroValue32 underlying32 (λw=>by kernel_rfl)
theorem aiH:bQ prog 32 0 0:=⟨λa w=>by kernel_rfl⟩
theorem aiI:bQ prog 32 1 1:=⟨λa w=>by kernel_rfl⟩
theorem aiJ:bz prog 32 0 0 1 false:=bB underlying32 (by kernel_rfl) ty3 (by decide)
theorem aiK:bz prog 32 1 1 1 false:=bB underlying32 (by kernel_rfl) afu (by decide)
theorem uu:TyS prog 34 1 false:=⟨sizeOf34,isAgg34⟩
theorem ty35:TyS prog 35 10 true:=⟨sizeOf35,isAgg35⟩
theorem apH:fN prog 35 [zI0,zI0,zI0,zI0,zI0,zI0,zI0,zI0,.int .u64 0,.string ⟨#[]⟩] [(0,1),(1,1),(2,1),(3,1),(4,1),(5,1),(6,1),(7,1),(8,1),(9,1)]:=gm zeroValue35 underlying35 (λw=>by kernel_rfl)
theorem aiL:bQ prog 35 0 0:=⟨λa w=>by kernel_rfl⟩
theorem aiM:bQ prog 35 1 1:=⟨λa w=>by kernel_rfl⟩
theorem aiN:bQ prog 35 2 2:=⟨λa w=>by kernel_rfl⟩
theorem aiO:bQ prog 35 3 3:=⟨λa w=>by kernel_rfl⟩
theorem aiP:bQ prog 35 4 4:=⟨λa w=>by kernel_rfl⟩
theorem aiQ:bQ prog 35 5 5:=⟨λa w=>by kernel_rfl⟩
theorem aiR:bQ prog 35 6 6:=⟨λa w=>by kernel_rfl⟩
theorem aiS:bQ prog 35 7 7:=⟨λa w=>by kernel_rfl⟩
theorem aiT:bQ prog 35 8 8:=⟨λa w=>by kernel_rfl⟩
theorem aiU:bQ prog 35 9 9:=⟨λa w=>by kernel_rfl⟩
theorem aiV:bz prog 35 0 0 1 false:=bB underlying35 (by kernel_rfl) ty3 (by decide)
theorem aiW:bz prog 35 1 1 1 false:=bB underlying35 (by kernel_rfl) ty3 (by decide)
theorem aiX:bz prog 35 2 2 1 false:=bB underlying35 (by kernel_rfl) ty3 (by decide)
theorem aiY:bz prog 35 3 3 1 false:=bB underlying35 (by kernel_rfl) ty3 (by decide)
theorem aiZ:bz prog 35 4 4 1 false:=bB underlying35 (by kernel_rfl) ty3 (by decide)
theorem ai0:bz prog 35 5 5 1 false:=bB underlying35 (by kernel_rfl) ty3 (by decide)
theorem ai1:bz prog 35 6 6 1 false:=bB underlying35 (by kernel_rfl) ty3 (by decide)
theorem ai2:bz prog 35 7 7 1 false:=bB underlying35 (by kernel_rfl) ty3 (by decide)
theorem ai3:bz prog 35 8 8 1 false:=bB underlying35 (by kernel_rfl) uu (by decide)
theorem ai4:bz prog 35 9 9 1 false:=bB underlying35 (by kernel_rfl) ty9 (by decide)
theorem adl:TyS prog 36 10 true:=⟨sizeOf36,isAgg36⟩
theorem apI:fN prog 36 [zI0,zI0,zI0,zI0,zI0,zI0,zI0,zI0,.int .u64 0,.string ⟨#[]⟩] [(0,1),(1,1),(2,1),(3,1),(4,1),(5,1),(6,1),(7,1),(8,1),(9,1)]:=gm zeroValue36 underlying36 (λw=>by kernel_rfl)
theorem ai5:bQ prog 36 0 0:=⟨λa w=>by kernel_rfl⟩
theorem ai6:bQ prog 36 1 1:=⟨λa w=>by kernel_rfl⟩
theorem ai7:bQ prog 36 2 2:=⟨λa w=>by kernel_rfl⟩
theorem ai8:bQ prog 36 3 3:=⟨λa w=>by kernel_rfl⟩
theorem ai9:bQ prog 36 4 4:=⟨λa w=>by kernel_rfl⟩
theorem aja:bQ prog 36 5 5:=⟨λa w=>by kernel_rfl⟩
theorem ajb:bQ prog 36 6 6:=⟨λa w=>by kernel_rfl⟩
theorem ajc:bQ prog 36 7 7:=⟨λa w=>by kernel_rfl⟩
theorem ajd:bQ prog 36 8 8:=⟨λa w=>by kernel_rfl⟩
theorem aje:bQ prog 36 9 9:=⟨λa w=>by kernel_rfl⟩
theorem ajf:bz prog 36 0 0 1 false:=bB underlying36 (by kernel_rfl) ty3 (by decide)
theorem ajg:bz prog 36 1 1 1 false:=bB underlying36 (by kernel_rfl) ty3 (by decide)
theorem ajh:bz prog 36 2 2 1 false:=bB underlying36 (by kernel_rfl) ty3 (by decide)
theorem aji:bz prog 36 3 3 1 false:=bB underlying36 (by kernel_rfl) ty3 (by decide)
theorem ajj:bz prog 36 4 4 1 false:=bB underlying36 (by kernel_rfl) ty3 (by decide)
theorem ajk:bz prog 36 5 5 1 false:=bB underlying36 (by kernel_rfl) ty3 (by decide)
theorem ajl:bz prog 36 6 6 1 false:=bB underlying36 (by kernel_rfl) ty3 (by decide)
theorem ajm:bz prog 36 7 7 1 false:=bB underlying36 (by kernel_rfl) ty3 (by decide)
theorem ajn:bz prog 36 8 8 1 false:=bB underlying36 (by kernel_rfl) uu (by decide)
theorem ajo:bz prog 36 9 9 1 false:=bB underlying36 (by kernel_rfl) ty9 (by decide)
theorem ty37:TyS prog 37 4 true:=⟨sizeOf37,isAgg37⟩
theorem apJ:fN prog 37 [zI0,zI0,zI0,zI0] [(0,1),(1,1),(2,1),(3,1)]:=gm zeroValue37 underlying37 (λw=>by kernel_rfl)
theorem ajp:bQ prog 37 0 0:=⟨λa w=>by kernel_rfl⟩
theorem ajq:bQ prog 37 1 1:=⟨λa w=>by kernel_rfl⟩
theorem ajr:bQ prog 37 2 2:=⟨λa w=>by kernel_rfl⟩
theorem ajs:bQ prog 37 3 3:=⟨λa w=>by kernel_rfl⟩
theorem ajt:bz prog 37 0 0 1 false:=bB underlying37 (by kernel_rfl) ty3 (by decide)
theorem aju:bz prog 37 1 1 1 false:=bB underlying37 (by kernel_rfl) ty3 (by decide)
theorem ajv:bz prog 37 2 2 1 false:=bB underlying37 (by kernel_rfl) ty3 (by decide)
theorem ajw:bz prog 37 3 3 1 false:=bB underlying37 (by kernel_rfl) ty3 (by decide)
theorem al5:TyS prog 38 4 true:=⟨sizeOf38,isAgg38⟩
theorem apK:fN prog 38 [zI0,zI0,zI0,zI0] [(0,1),(1,1),(2,1),(3,1)]:=gm zeroValue38 underlying38 (λw=>by kernel_rfl)
theorem ajx:bQ prog 38 0 0:=⟨λa w=>by kernel_rfl⟩
theorem ajy:bQ prog 38 1 1:=⟨λa w=>by kernel_rfl⟩
theorem ajz:bQ prog 38 2 2:=⟨λa w=>by kernel_rfl⟩
theorem ajA:bQ prog 38 3 3:=⟨λa w=>by kernel_rfl⟩
theorem ajB:bz prog 38 0 0 1 false:=bB underlying38 (by kernel_rfl) ty3 (by decide)
theorem ajC:bz prog 38 1 1 1 false:=bB underlying38 (by kernel_rfl) ty3 (by decide)
theorem ajD:bz prog 38 2 2 1 false:=bB underlying38 (by kernel_rfl) ty3 (by decide)
theorem ajE:bz prog 38 3 3 1 false:=bB underlying38 (by kernel_rfl) ty3 (by decide)
theorem ty40:TyS prog 40 1 false:=⟨sizeOf40,isAgg40⟩
theorem ty41:TyS prog 41 2 true:=⟨sizeOf41,isAgg41⟩
theorem apL:fN prog 41 [zI0,.bool false] [(0,1),(1,1)]:=gm zeroValue41 underlying41 (λw=>by kernel_rfl)
theorem ajF:bQ prog 41 0 0:=⟨λa w=>by kernel_rfl⟩
theorem ajG:bQ prog 41 1 1:=⟨λa w=>by kernel_rfl⟩
theorem ajH:bz prog 41 0 0 1 false:=bB underlying41 (by kernel_rfl) ty3 (by decide)
theorem ajI:bz prog 41 1 1 1 false:=bB underlying41 (by kernel_rfl) ty4 (by decide)
theorem ty42:TyS prog 42 2 true:=⟨sizeOf42,isAgg42⟩
theorem apM:fN prog 42 [zI0,.bool false] [(0,1),(1,1)]:=gm zeroValue42 underlying42 (λw=>by kernel_rfl)
theorem ajJ:bQ prog 42 0 0:=⟨λa w=>by kernel_rfl⟩
theorem ajK:bQ prog 42 1 1:=⟨λa w=>by kernel_rfl⟩
theorem ajL:bz prog 42 0 0 1 false:=bB underlying42 (by kernel_rfl) ty3 (by decide)
theorem ajM:bz prog 42 1 1 1 false:=bB underlying42 (by kernel_rfl) ty4 (by decide)
theorem afv:TyS prog 44 1 false:=⟨sizeOf44,isAgg44⟩
theorem sl44:SlS prog 44 54 12:=⟨underlying44,sizeOf54⟩
theorem apN:ig prog 44 54 12 120:=⟨underlying44,(by obtain⟨i,h1,h2,h3,h4⟩:=info_parts (by kernel_rfl:(prog.info? 54).map (λi=>(i.zero,i.size,i.bytes))=some (some (.agg #[zI0,zS0,zI0,zI0,zI0,zI0,zI0,zI0,zI0,zI0,.int .u64 0,.string ⟨#[]⟩]),12,120));exact⟨i,_,h1,h2,h3,h4,rfl⟩),by decide⟩
theorem apO:iR prog 44 54 12 [zI0,zS0,zI0,zI0,zI0,zI0,zI0,zI0,zI0,zI0,.int .u64 0,.string ⟨#[]⟩]:=⟨underlying44,sizeOf54,alJ,rfl⟩
theorem ty45:TyS prog 45 3 true:=⟨sizeOf45,isAgg45⟩
theorem apP:fN prog 45 [.int .u64 0,.int .u64 0,zS0] [(0,1),(1,1),(2,1)]:=gm zeroValue45 underlying45 (λw=>by kernel_rfl)
theorem ajN:bQ prog 45 0 0:=⟨λa w=>by kernel_rfl⟩
theorem ajO:bQ prog 45 1 1:=⟨λa w=>by kernel_rfl⟩
theorem ajP:bQ prog 45 2 2:=⟨λa w=>by kernel_rfl⟩
theorem ajQ:bz prog 45 0 0 1 false:=bB underlying45 (by kernel_rfl) uu (by decide)
theorem ajR:bz prog 45 1 1 1 false:=bB underlying45 (by kernel_rfl) uu (by decide)
theorem ajS:bz prog 45 2 2 1 false:=bB underlying45 (by kernel_rfl) afv (by decide)
theorem ty46:TyS prog 46 3 true:=⟨sizeOf46,isAgg46⟩
theorem apQ:fN prog 46 [.int .u64 0,.int .u64 0,zS0] [(0,1),(1,1),(2,1)]:=gm zeroValue46 underlying46 (λw=>by kernel_rfl)
theorem ajT:bQ prog 46 0 0:=⟨λa w=>by kernel_rfl⟩
theorem ajU:bQ prog 46 1 1:=⟨λa w=>by kernel_rfl⟩
theorem ajV:bQ prog 46 2 2:=⟨λa w=>by kernel_rfl⟩
theorem ajW:bz prog 46 0 0 1 false:=bB underlying46 (by kernel_rfl) uu (by decide)
theorem ajX:bz prog 46 1 1 1 false:=bB underlying46 (by kernel_rfl) uu (by decide)
theorem ajY:bz prog 46 2 2 1 false:=bB underlying46 (by kernel_rfl) afv (by decide)
theorem ty47:TyS prog 47 1 false:=⟨sizeOf47,isAgg47⟩
theorem al6:TyS prog 52 11 true:=⟨sizeOf52,isAgg52⟩
theorem apR:fN prog 52 [zS0,zI0,zI0,zI0,zI0,zI0,zI0,zI0,zI0,.int .u64 0,.string ⟨#[]⟩] [(0,1),(1,10)]:=gm zeroValue52 underlying52 (λw=>by kernel_rfl)
theorem ajZ:bQ prog 52 0 0:=⟨λa w=>by kernel_rfl⟩
theorem aj0:bQ prog 52 1 1:=⟨λa w=>by kernel_rfl⟩
theorem aj1:bz prog 52 0 0 1 false:=bB underlying52 (by kernel_rfl) afr (by decide)
theorem aj2:bz prog 52 1 1 10 true:=bB underlying52 (by kernel_rfl) adl (by decide)
theorem al7:TyS prog 54 12 true:=⟨sizeOf54,isAgg54⟩
theorem apS:fN prog 54 [zI0,zS0,zI0,zI0,zI0,zI0,zI0,zI0,zI0,zI0,.int .u64 0,.string ⟨#[]⟩] [(0,1),(1,11)]:=gm zeroValue54 underlying54 (λw=>by kernel_rfl)
theorem aj3:bQ prog 54 0 0:=⟨λa w=>by kernel_rfl⟩
theorem aj4:bQ prog 54 1 1:=⟨λa w=>by kernel_rfl⟩
theorem aj5:bz prog 54 0 0 1 false:=bB underlying54 (by kernel_rfl) ty3 (by decide)
theorem aj6:bz prog 54 1 1 11 true:=bB underlying54 (by kernel_rfl) al6 (by decide)
theorem al8:TyS prog 61 1 false:=⟨sizeOf61,isAgg61⟩
theorem sl61:SlS prog 61 67 2:=⟨underlying61,sizeOf67⟩
theorem ahm:ig prog 61 67 2 16:=⟨underlying61,(by obtain⟨i,h1,h2,h3,h4⟩:=info_parts (by kernel_rfl:(prog.info? 67).map (λi=>(i.zero,i.size,i.bytes))=some (some (.agg #[zI0,zI0]),2,16));exact⟨i,_,h1,h2,h3,h4,rfl⟩),by decide⟩
theorem apT:iR prog 61 67 2 [zI0,zI0]:=⟨underlying61,sizeOf67,alL,rfl⟩
theorem ty63:TyS prog 63 2 true:=⟨sizeOf63,isAgg63⟩
theorem apU:fN prog 63 [zI0,zS0] [(0,1),(1,1)]:=gm zeroValue63 underlying63 (λw=>by kernel_rfl)
theorem aj7:bQ prog 63 0 0:=⟨λa w=>by kernel_rfl⟩
theorem aj8:bQ prog 63 1 1:=⟨λa w=>by kernel_rfl⟩
theorem aj9:bz prog 63 0 0 1 false:=bB underlying63 (by kernel_rfl) ty3 (by decide)
theorem aka:bz prog 63 1 1 1 false:=bB underlying63 (by kernel_rfl) al8 (by decide)
theorem ty67:TyS prog 67 2 true:=⟨sizeOf67,isAgg67⟩
theorem apV:fN prog 67 [zI0,zI0] [(0,1),(1,1)]:=gm zeroValue67 underlying67 (λw=>by kernel_rfl)
theorem akb:bQ prog 67 0 0:=⟨λa w=>by kernel_rfl⟩
theorem akc:bQ prog 67 1 1:=⟨λa w=>by kernel_rfl⟩
theorem akd:bz prog 67 0 0 1 false:=bB underlying67 (by kernel_rfl) ty3 (by decide)
theorem ake:bz prog 67 1 1 1 false:=bB underlying67 (by kernel_rfl) ty3 (by decide)
theorem apW(a0 b0:Int)(a1 b1:Int)(w:World):(Op.eqFields 9999 #[.int .i64 a0,.int .i64 a1] #[.int .i64 b0,.int .i64 b1] (prog.fieldsOf 67).toList).run prog w=.ok (decide (a0=b0)&&(decide (a1=b1)&&true)) w:=by
 have hf:(prog.fieldsOf 67).toList.map (λf=>(f.name== "_",f.type,f.offset))=[(false,3,0),(false,3,1)]:=by kernel_rfl
 have q:(Op.eqFields 9999 #[.int .i64 a0,.int .i64 a1] #[.int .i64 b0,.int .i64 b1] (prog.fieldsOf 67).toList).run prog w=.ok (decide (a0=b0)&&(decide (a1=b1)&&true)) w:=by
  obtain⟨f0,t0,e0,h0,hf⟩:=nP hf
  obtain⟨f1,t1,e1,h1,hf⟩:=nP hf
  rw[e0,e1,yI hf]
  exact tN h0 isAgg3 underlying3 rfl rfl (tN h1 isAgg3 underlying3 rfl rfl (acK))
 exact q
theorem afw(x y:Operand)(a0 b0:Int)(a1 b1:Int)(w:World):(do eqGuard .neq 67 x y (.agg #[.int .i64 a0,.int .i64 a1]) (.agg #[.int .i64 b0,.int .i64 b1]);binOp .neq 67 (.agg #[.int .i64 a0,.int .i64 a1]) (.agg #[.int .i64 b0,.int .i64 b1]):Sem Value).run prog w=.ok (.bool (!(decide (a0=b0)&&(decide (a1=b1)&&true)))) w:=aie _ _ _ x y (by kernel_rfl) (by kernel_rfl) (by kernel_rfl) (apW a0 b0 a1 b1 w)
theorem al9:TyS prog 70 1 false:=⟨sizeOf70,isAgg70⟩
theorem sl70:SlS prog 70 78 11:=⟨underlying70,sizeOf78⟩
theorem apX:ig prog 70 78 11 96:=⟨underlying70,(by obtain⟨i,h1,h2,h3,h4⟩:=info_parts (by kernel_rfl:(prog.info? 78).map (λi=>(i.zero,i.size,i.bytes))=some (some (.agg #[zI0,zI0,zI0,zI0,zI0,zI0,zI0,zI0,zI0,.int .u64 0,.string ⟨#[]⟩]),11,96));exact⟨i,_,h1,h2,h3,h4,rfl⟩),by decide⟩
theorem apY:iR prog 70 78 11 [zI0,zI0,zI0,zI0,zI0,zI0,zI0,zI0,zI0,.int .u64 0,.string ⟨#[]⟩]:=⟨underlying70,sizeOf78,alM,rfl⟩
theorem ama:TyS prog 71 1 false:=⟨sizeOf71,isAgg71⟩
theorem sl71:SlS prog 71 81 3:=⟨underlying71,sizeOf81⟩
theorem apZ:ig prog 71 81 3 24:=⟨underlying71,(by obtain⟨i,h1,h2,h3,h4⟩:=info_parts (by kernel_rfl:(prog.info? 81).map (λi=>(i.zero,i.size,i.bytes))=some (some (.agg #[zI0,zI0,.int .u64 0]),3,24));exact⟨i,_,h1,h2,h3,h4,rfl⟩),by decide⟩
theorem ap0:iR prog 71 81 3 [zI0,zI0,.int .u64 0]:=⟨underlying71,sizeOf81,alN,rfl⟩
theorem amb:TyS prog 72 1 false:=⟨sizeOf72,isAgg72⟩
theorem sl72:SlS prog 72 141 2:=⟨underlying72,sizeOf141⟩
theorem ap1:ig prog 72 141 2 16:=⟨underlying72,(by obtain⟨i,h1,h2,h3,h4⟩:=info_parts (by kernel_rfl:(prog.info? 141).map (λi=>(i.zero,i.size,i.bytes))=some (some (.agg #[zI0,.int .u64 0]),2,16));exact⟨i,_,h1,h2,h3,h4,rfl⟩),by decide⟩
theorem ap2:iR prog 72 141 2 [zI0,.int .u64 0]:=⟨underlying72,sizeOf141,ahh,rfl⟩
theorem ty74:TyS prog 74 3 true:=⟨sizeOf74,isAgg74⟩
theorem ap3:fN prog 74 [zS0,zS0,zS0] [(0,1),(1,1),(2,1)]:=gm zeroValue74 underlying74 (λw=>by kernel_rfl)
theorem akf:bQ prog 74 0 0:=⟨λa w=>by kernel_rfl⟩
theorem akg:bQ prog 74 1 1:=⟨λa w=>by kernel_rfl⟩
theorem akh:bQ prog 74 2 2:=⟨λa w=>by kernel_rfl⟩
theorem aki:bz prog 74 0 0 1 false:=bB underlying74 (by kernel_rfl) al9 (by decide)
theorem akj:bz prog 74 1 1 1 false:=bB underlying74 (by kernel_rfl) ama (by decide)
theorem akk:bz prog 74 2 2 1 false:=bB underlying74 (by kernel_rfl) amb (by decide)
theorem ty78:TyS prog 78 11 true:=⟨sizeOf78,isAgg78⟩
theorem ap4:fN prog 78 [zI0,zI0,zI0,zI0,zI0,zI0,zI0,zI0,zI0,.int .u64 0,.string ⟨#[]⟩] [(0,1),(1,10)]:=gm zeroValue78 underlying78 (λw=>by kernel_rfl)
theorem akl:bQ prog 78 0 0:=⟨λa w=>by kernel_rfl⟩
theorem akm:bQ prog 78 1 1:=⟨λa w=>by kernel_rfl⟩
theorem akn:bz prog 78 0 0 1 false:=bB underlying78 (by kernel_rfl) ty3 (by decide)
theorem ako:bz prog 78 1 1 10 true:=bB underlying78 (by kernel_rfl) adl (by decide)
theorem ty81:TyS prog 81 3 true:=⟨sizeOf81,isAgg81⟩
theorem ap5:fN prog 81 [zI0,zI0,.int .u64 0] [(0,1),(1,1),(2,1)]:=gm zeroValue81 underlying81 (λw=>by kernel_rfl)
theorem akp:bQ prog 81 0 0:=⟨λa w=>by kernel_rfl⟩
theorem akq:bQ prog 81 1 1:=⟨λa w=>by kernel_rfl⟩
theorem akr:bQ prog 81 2 2:=⟨λa w=>by kernel_rfl⟩
theorem aks:bz prog 81 0 0 1 false:=bB underlying81 (by kernel_rfl) ty3 (by decide)
theorem akt:bz prog 81 1 1 1 false:=bB underlying81 (by kernel_rfl) ty3 (by decide)
theorem aku:bz prog 81 2 2 1 false:=bB underlying81 (by kernel_rfl) uu (by decide)
theorem ty89:TyS prog 89 5 true:=⟨sizeOf89,isAgg89⟩
theorem ap6:fN prog 89 [zI0,zI0,zI0,zI0,zI0] [(0,1),(1,1),(2,1),(3,1),(4,1)]:=gm zeroValue89 underlying89 (λw=>by kernel_rfl)
theorem akv:bQ prog 89 0 0:=⟨λa w=>by kernel_rfl⟩
theorem akw:bQ prog 89 1 1:=⟨λa w=>by kernel_rfl⟩
theorem akx:bQ prog 89 2 2:=⟨λa w=>by kernel_rfl⟩
theorem aky:bQ prog 89 3 3:=⟨λa w=>by kernel_rfl⟩
theorem akz:bQ prog 89 4 4:=⟨λa w=>by kernel_rfl⟩
theorem akA:bz prog 89 0 0 1 false:=bB underlying89 (by kernel_rfl) ty3 (by decide)
theorem akB:bz prog 89 1 1 1 false:=bB underlying89 (by kernel_rfl) ty3 (by decide)
theorem akC:bz prog 89 2 2 1 false:=bB underlying89 (by kernel_rfl) ty3 (by decide)
theorem akD:bz prog 89 3 3 1 false:=bB underlying89 (by kernel_rfl) ty3 (by decide)
theorem akE:bz prog 89 4 4 1 false:=bB underlying89 (by kernel_rfl) ty3 (by decide)
theorem ty96:TyS prog 96 1 false:=⟨sizeOf96,isAgg96⟩
theorem sl96:SlS prog 96 63 2:=⟨underlying96,sizeOf63⟩
theorem ap7:ig prog 96 63 2 32:=⟨underlying96,(by obtain⟨i,h1,h2,h3,h4⟩:=info_parts (by kernel_rfl:(prog.info? 63).map (λi=>(i.zero,i.size,i.bytes))=some (some (.agg #[zI0,zS0]),2,32));exact⟨i,_,h1,h2,h3,h4,rfl⟩),by decide⟩
theorem ap8:iR prog 96 63 2 [zI0,zS0]:=⟨underlying96,sizeOf63,alK,rfl⟩
theorem ap9:TyS prog 115 2 true:=⟨sizeOf115,isAgg115⟩
theorem amc:fN prog 115 [zS0,zI0] [(0,1),(1,1)]:=gm zeroValue115 underlying115 (λw=>by kernel_rfl)
theorem afx:bQ prog 115 0 0:=⟨λa w=>by kernel_rfl⟩
theorem afy:bQ prog 115 1 1:=⟨λa w=>by kernel_rfl⟩
theorem afz:bz prog 115 0 0 1 false:=bB underlying115 (by kernel_rfl) afr (by decide)
theorem afA:bz prog 115 1 1 1 false:=bB underlying115 (by kernel_rfl) ty3 (by decide)
theorem aqa:TyS prog 117 1 false:=⟨sizeOf117,isAgg117⟩
theorem sM:SlS prog 117 118 1:=⟨underlying117,sizeOf118⟩
theorem ael:ig prog 117 118 1 24:=⟨underlying117,(by obtain⟨i,h1,h2,h3,h4⟩:=info_parts (by kernel_rfl:(prog.info? 118).map (λi=>(i.zero,i.size,i.bytes))=some (some (zS0),1,24));exact⟨i,_,h1,h2,h3,h4,rfl⟩),by decide⟩
theorem aem:iR prog 117 118 1 [zS0]:=⟨underlying117,sizeOf118,ahf,rfl⟩
theorem yJ:TyS prog 118 1 false:=⟨sizeOf118,isAgg118⟩
theorem aqb:SlS prog 118 4 1:=⟨underlying118,sizeOf4⟩
theorem aen:ig prog 118 4 1 1:=⟨underlying118,(by obtain⟨i,h1,h2,h3,h4⟩:=info_parts (by kernel_rfl:(prog.info? 4).map (λi=>(i.zero,i.size,i.bytes))=some (some (.bool false),1,1));exact⟨i,_,h1,h2,h3,h4,rfl⟩),by decide⟩
theorem aeo:iR prog 118 4 1 [.bool false]:=⟨underlying118,sizeOf4,ze4,rfl⟩
theorem aqc:TyS prog 130 1 false:=⟨sizeOf130,isAgg130⟩
theorem aqd:TyS prog 134 11 true:=⟨sizeOf134,isAgg134⟩
theorem amd:fN prog 134 [zI0,zI0,zI0,zI0,zI0,zI0,zI0,zI0,zI0,.int .u64 0,.string ⟨#[]⟩] [(0,1),(1,10)]:=gm zeroValue134 underlying134 (λw=>by kernel_rfl)
theorem afB:bQ prog 134 0 0:=⟨λa w=>by kernel_rfl⟩
theorem afC:bQ prog 134 1 1:=⟨λa w=>by kernel_rfl⟩
theorem afD:bz prog 134 0 0 1 false:=bB underlying134 (by kernel_rfl) ty3 (by decide)
theorem afE:bz prog 134 1 1 10 true:=bB underlying134 (by kernel_rfl) adl (by decide)
theorem aqe:TyS prog 135 1 false:=⟨sizeOf135,isAgg135⟩
theorem aqf:SlS prog 135 134 11:=⟨underlying135,sizeOf134⟩
theorem ame:ig prog 135 134 11 96:=⟨underlying135,(by obtain⟨i,h1,h2,h3,h4⟩:=info_parts (by kernel_rfl:(prog.info? 134).map (λi=>(i.zero,i.size,i.bytes))=some (some (.agg #[zI0,zI0,zI0,zI0,zI0,zI0,zI0,zI0,zI0,.int .u64 0,.string ⟨#[]⟩]),11,96));exact⟨i,_,h1,h2,h3,h4,rfl⟩),by decide⟩
theorem amf:iR prog 135 134 11 [zI0,zI0,zI0,zI0,zI0,zI0,zI0,zI0,zI0,.int .u64 0,.string ⟨#[]⟩]:=⟨underlying135,sizeOf134,ahg,rfl⟩
theorem aqg:TyS prog 136 1 false:=⟨sizeOf136,isAgg136⟩
theorem aqh:SlS prog 136 143 16:=⟨underlying136,sizeOf143⟩
theorem amg:ig prog 136 143 16 152:=⟨underlying136,(by obtain⟨i,h1,h2,h3,h4⟩:=info_parts (by kernel_rfl:(prog.info? 143).map (λi=>(i.zero,i.size,i.bytes))=some (some (.agg #[zI0,zI0,zI0,zI0,zI0,zS0,zI0,zI0,zI0,zI0,zI0,zI0,zI0,zI0,.int .u64 0,.string ⟨#[]⟩]),16,152));exact⟨i,_,h1,h2,h3,h4,rfl⟩),by decide⟩
theorem amh:iR prog 136 143 16 [zI0,zI0,zI0,zI0,zI0,zS0,zI0,zI0,zI0,zI0,zI0,zI0,zI0,zI0,.int .u64 0,.string ⟨#[]⟩]:=⟨underlying136,sizeOf143,ahi,rfl⟩
theorem aqi:TyS prog 141 2 true:=⟨sizeOf141,isAgg141⟩
theorem ami:fN prog 141 [zI0,.int .u64 0] [(0,1),(1,1)]:=gm zeroValue141 underlying141 (λw=>by kernel_rfl)
theorem afF:bQ prog 141 0 0:=⟨λa w=>by kernel_rfl⟩
theorem afG:bQ prog 141 1 1:=⟨λa w=>by kernel_rfl⟩
theorem afH:bz prog 141 0 0 1 false:=bB underlying141 (by kernel_rfl) ty3 (by decide)
theorem afI:bz prog 141 1 1 1 false:=bB underlying141 (by kernel_rfl) uu (by decide)
theorem aqj:TyS prog 143 16 true:=⟨sizeOf143,isAgg143⟩
theorem amj:fN prog 143 [zI0,zI0,zI0,zI0,zI0,zS0,zI0,zI0,zI0,zI0,zI0,zI0,zI0,zI0,.int .u64 0,.string ⟨#[]⟩] [(0,4),(4,12)]:=gm zeroValue143 underlying143 (λw=>by kernel_rfl)
theorem afJ:bQ prog 143 0 0:=⟨λa w=>by kernel_rfl⟩
theorem afK:bQ prog 143 1 4:=⟨λa w=>by kernel_rfl⟩
theorem afL:bz prog 143 0 0 4 true:=bB underlying143 (by kernel_rfl) al5 (by decide)
theorem afM:bz prog 143 1 4 12 true:=bB underlying143 (by kernel_rfl) al7 (by decide)
theorem aqk:TyS prog 152 1 false:=⟨sizeOf152,isAgg152⟩
theorem aql:TyS prog 168 1 false:=⟨sizeOf168,isAgg168⟩
theorem aqm:TyS prog 170 1 false:=⟨sizeOf170,isAgg170⟩
theorem aqn:TyS prog 172 1 false:=⟨sizeOf172,isAgg172⟩
theorem aqo:TyS prog 173 1 false:=⟨sizeOf173,isAgg173⟩
theorem aqp:TyS prog 181 1 false:=⟨sizeOf181,isAgg181⟩
theorem aqq:SlS prog 181 184 3:=⟨underlying181,sizeOf184⟩
theorem amk:ig prog 181 184 3 24:=⟨underlying181,(by obtain⟨i,h1,h2,h3,h4⟩:=info_parts (by kernel_rfl:(prog.info? 184).map (λi=>(i.zero,i.size,i.bytes))=some (some (.agg #[zI0,zI0,zI0]),3,24));exact⟨i,_,h1,h2,h3,h4,rfl⟩),by decide⟩
theorem aml:iR prog 181 184 3 [zI0,zI0,zI0]:=⟨underlying181,sizeOf184,ahj,rfl⟩
theorem aqr:TyS prog 184 3 true:=⟨sizeOf184,isAgg184⟩
theorem amm:fN prog 184 [zI0,zI0,zI0] [(0,1),(1,1),(2,1)]:=gm zeroValue184 underlying184 (λw=>by kernel_rfl)
theorem afN:bQ prog 184 0 0:=⟨λa w=>by kernel_rfl⟩
theorem afO:bQ prog 184 1 1:=⟨λa w=>by kernel_rfl⟩
theorem afP:bQ prog 184 2 2:=⟨λa w=>by kernel_rfl⟩
theorem afQ:bz prog 184 0 0 1 false:=bB underlying184 (by kernel_rfl) ty3 (by decide)
theorem afR:bz prog 184 1 1 1 false:=bB underlying184 (by kernel_rfl) ty3 (by decide)
theorem afS:bz prog 184 2 2 1 false:=bB underlying184 (by kernel_rfl) ty3 (by decide)
theorem aep(a0 b0:Int)(a1 b1:Int)(a2 b2:Int)(w:World):(Op.eqFields 9999 #[.int .i64 a0,.int .i64 a1,.int .i64 a2] #[.int .i64 b0,.int .i64 b1,.int .i64 b2] (prog.fieldsOf 184).toList).run prog w=.ok (decide (a0=b0)&&(decide (a1=b1)&&(decide (a2=b2)&&true))) w:=by
 have hf:(prog.fieldsOf 184).toList.map (λf=>(f.name== "_",f.type,f.offset))=[(false,3,0),(false,3,1),(false,3,2)]:=by kernel_rfl
 have q:(Op.eqFields 9999 #[.int .i64 a0,.int .i64 a1,.int .i64 a2] #[.int .i64 b0,.int .i64 b1,.int .i64 b2] (prog.fieldsOf 184).toList).run prog w=.ok (decide (a0=b0)&&(decide (a1=b1)&&(decide (a2=b2)&&true))) w:=by
  obtain⟨f0,t0,e0,h0,hf⟩:=nP hf
  obtain⟨f1,t1,e1,h1,hf⟩:=nP hf
  obtain⟨f2,t2,e2,h2,hf⟩:=nP hf
  rw[e0,e1,e2,yI hf]
  exact tN h0 isAgg3 underlying3 rfl rfl (tN h1 isAgg3 underlying3 rfl rfl (tN h2 isAgg3 underlying3 rfl rfl (acK)))
 exact q
theorem aeq(x y:Operand)(a0 b0:Int)(a1 b1:Int)(a2 b2:Int)(w:World):(do eqGuard .eql 184 x y (.agg #[.int .i64 a0,.int .i64 a1,.int .i64 a2]) (.agg #[.int .i64 b0,.int .i64 b1,.int .i64 b2]);binOp .eql 184 (.agg #[.int .i64 a0,.int .i64 a1,.int .i64 a2]) (.agg #[.int .i64 b0,.int .i64 b1,.int .i64 b2]):Sem Value).run prog w=.ok (.bool (decide (a0=b0)&&(decide (a1=b1)&&(decide (a2=b2)&&true)))) w:=aid _ _ _ x y (by kernel_rfl) (by kernel_rfl) (by kernel_rfl) (aep a0 b0 a1 b1 a2 b2 w)
theorem adm:TyS prog 200 1 false:=⟨sizeOf200,isAgg200⟩
theorem iT:iS prog 200 3 216 .i64:=⟨underlying200,underlying3⟩
theorem aqs:TyS prog 202 2 true:=⟨sizeOf202,isAgg202⟩
theorem amn:fN prog 202 [.map none,.map none] [(0,1),(1,1)]:=gm zeroValue202 underlying202 (λw=>by kernel_rfl)
theorem afT:bQ prog 202 0 0:=⟨λa w=>by kernel_rfl⟩
theorem afU:bQ prog 202 1 1:=⟨λa w=>by kernel_rfl⟩
theorem afV:bz prog 202 0 0 1 false:=bB underlying202 (by kernel_rfl) adm (by decide)
theorem afW:bz prog 202 1 1 1 false:=bB underlying202 (by kernel_rfl) adm (by decide)
theorem aqt:TyS prog 204 1 false:=⟨sizeOf204,isAgg204⟩
theorem nQ:iS prog 204 3 3 .i64:=⟨underlying204,underlying3⟩
theorem aqu:TyS prog 207 1 false:=⟨sizeOf207,isAgg207⟩
theorem aqv:SlS prog 207 47 1:=⟨underlying207,sizeOf47⟩
theorem amo:ig prog 207 47 1 8:=⟨underlying207,(by obtain⟨i,h1,h2,h3,h4⟩:=info_parts (by kernel_rfl:(prog.info? 47).map (λi=>(i.zero,i.size,i.bytes))=some (some (zI0),1,8));exact⟨i,_,h1,h2,h3,h4,rfl⟩),by decide⟩
theorem amp:iR prog 207 47 1 [zI0]:=⟨underlying207,sizeOf47,alI,rfl⟩
theorem aqw:TyS prog 208 1 false:=⟨sizeOf208,isAgg208⟩
theorem aer:iS prog 208 3 4 .i64:=⟨underlying208,underlying3⟩
theorem aqx:TyS prog 216 1 false:=⟨sizeOf216,isAgg216⟩
theorem aqy:SlS prog 216 218 2:=⟨underlying216,sizeOf218⟩
theorem amq:ig prog 216 218 2 16:=⟨underlying216,(by obtain⟨i,h1,h2,h3,h4⟩:=info_parts (by kernel_rfl:(prog.info? 218).map (λi=>(i.zero,i.size,i.bytes))=some (some (.agg #[zI0,zI0]),2,16));exact⟨i,_,h1,h2,h3,h4,rfl⟩),by decide⟩
theorem amr:iR prog 216 218 2 [zI0,zI0]:=⟨underlying216,sizeOf218,ahk,rfl⟩
theorem aqz:TyS prog 218 2 true:=⟨sizeOf218,isAgg218⟩
theorem ams:fN prog 218 [zI0,zI0] [(0,1),(1,1)]:=gm zeroValue218 underlying218 (λw=>by kernel_rfl)
theorem afX:bQ prog 218 0 0:=⟨λa w=>by kernel_rfl⟩
theorem afY:bQ prog 218 1 1:=⟨λa w=>by kernel_rfl⟩
theorem afZ:bz prog 218 0 0 1 false:=bB underlying218 (by kernel_rfl) ty3 (by decide)
theorem af0:bz prog 218 1 1 1 false:=bB underlying218 (by kernel_rfl) ty3 (by decide)
theorem aqA:TyS prog 220 1 false:=⟨sizeOf220,isAgg220⟩
theorem aqB:TyS prog 228 1 false:=⟨sizeOf228,isAgg228⟩
theorem aqC:TyS prog 235 1 false:=⟨sizeOf235,isAgg235⟩
end Go.Proofs.YtdjeacigeegklaaGreat
