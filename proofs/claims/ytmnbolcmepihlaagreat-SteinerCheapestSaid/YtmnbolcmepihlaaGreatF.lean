/- The types of this translation, as the rules want xL. No condition. -/
import Derived.Test.YtmnbolcmepihlaaGreatAB
import Derived.Test.YtmnbolcmepihlaaGreatRows
import Derived.OwnWalk
namespace Go.Proofs.YtmnbolcmepihlaaGreat
set_option linter.all false
abbrev zI0:Value:=.int .i64 0
abbrev zS0:Value:=.slice none 0 0
open Go Go.Proofs.Tryz
set_option maxRecDepth 100000
abbrev Zr(i:Nat)(c:List Value):Prop:=∀w,∃z,(zeroValue i).run prog w=.ok z w∧z.cells=c.toArray
theorem hmix:prog.follows .mixedOrders=true:=by kernel_rfl
theorem ze2:Zr 2 [zI0]:=λw=>⟨_,zeroValue2 w,rfl⟩
theorem ze3:Zr 3 [zI0]:=λw=>⟨_,zeroValue3 w,rfl⟩
theorem ze4:Zr 4 [.bool false]:=λw=>⟨_,zeroValue4 w,rfl⟩
theorem ze5:Zr 5 [.int .u8 0]:=λw=>⟨_,zeroValue5 w,rfl⟩
theorem ze6:Zr 6 [.int .u8 0]:=λw=>⟨_,zeroValue6 w,rfl⟩
theorem ze7:Zr 7 [zI0,zI0,.bool false,.int .u8 0]:=λw=>⟨_,zeroValue7 w,rfl⟩
theorem ze8:Zr 8 [zI0,zI0,.bool false,.int .u8 0]:=λw=>⟨_,zeroValue8 w,rfl⟩
theorem ze9:Zr 9 [.string ⟨#[]⟩]:=λw=>⟨_,zeroValue9 w,rfl⟩
theorem ze10:Zr 10 [.string ⟨#[]⟩]:=λw=>⟨_,zeroValue10 w,rfl⟩
theorem ze11:Zr 11 [.string ⟨#[]⟩]:=λw=>⟨_,zeroValue11 w,rfl⟩
theorem ze12:Zr 12 [.int .u64 0]:=λw=>⟨_,zeroValue12 w,rfl⟩
theorem ze13:Zr 13 [.string ⟨#[]⟩,.int .u64 0]:=λw=>⟨_,zeroValue13 w,rfl⟩
theorem ze14:Zr 14 [.string ⟨#[]⟩,.int .u64 0]:=λw=>⟨_,zeroValue14 w,rfl⟩
theorem ze15:Zr 15 [.pointer none]:=λw=>⟨_,zeroValue15 w,rfl⟩
theorem ze16:Zr 16 [.pointer none]:=λw=>⟨_,zeroValue16 w,rfl⟩
theorem ze17:Zr 17 [.pointer none]:=λw=>⟨_,zeroValue17 w,rfl⟩
theorem ze18:Zr 18 [.pointer none]:=λw=>⟨_,zeroValue18 w,rfl⟩
theorem ze19:Zr 19 [.pointer none]:=λw=>⟨_,zeroValue19 w,rfl⟩
theorem ze21:Zr 21 [.int .i32 0]:=λw=>⟨_,zeroValue21 w,rfl⟩
theorem aiX:Zr 22 [zS0]:=λw=>⟨_,zeroValue22 w,rfl⟩
theorem ze23:Zr 23 [.pointer none]:=λw=>⟨_,zeroValue23 w,rfl⟩
theorem ze25:Zr 25 [zS0]:=λw=>⟨_,zeroValue25 w,rfl⟩
theorem ze26:Zr 26 [zS0]:=λw=>⟨_,zeroValue26 w,rfl⟩
theorem ze27:Zr 27 [zS0,zS0]:=λw=>⟨_,zeroValue27 w,rfl⟩
theorem ze28:Zr 28 [zS0,zS0]:=λw=>⟨_,zeroValue28 w,rfl⟩
theorem ze30:Zr 30 [zI0,.bool false]:=λw=>⟨_,zeroValue30 w,rfl⟩
theorem aiY:Zr 31 [zI0,.bool false]:=λw=>⟨_,zeroValue31 w,rfl⟩
theorem ze34:Zr 34 [zS0]:=λw=>⟨_,zeroValue34 w,rfl⟩
theorem ze35:Zr 35 [zI0,zS0]:=λw=>⟨_,zeroValue35 w,rfl⟩
theorem ze36:Zr 36 [zI0,zS0]:=λw=>⟨_,zeroValue36 w,rfl⟩
theorem ze37:Zr 37 [zI0]:=λw=>⟨_,zeroValue37 w,rfl⟩
theorem aiZ:Zr 62 [zI0,zI0,zI0,zI0,zI0]:=λw=>⟨_,zeroValue62 w,rfl⟩
theorem ze76:Zr 76 [zS0]:=λw=>⟨_,zeroValue76 w,rfl⟩
theorem ai0:Zr 84 [zI0,zI0]:=λw=>⟨_,zeroValue84 w,rfl⟩
theorem ze85:Zr 85 [zS0]:=λw=>⟨_,zeroValue85 w,rfl⟩
theorem amm:Zr 103 [zS0,zI0]:=λw=>⟨_,zeroValue103 w,rfl⟩
theorem amn:Zr 105 [zS0]:=λw=>⟨_,zeroValue105 w,rfl⟩
theorem afZ:Zr 106 [zS0]:=λw=>⟨_,zeroValue106 w,rfl⟩
theorem amo:Zr 111 [zS0]:=λw=>⟨_,zeroValue111 w,rfl⟩
theorem zy:Zr 114 [zI0,zI0,zI0,zI0,zI0,zI0,zI0,zI0,zI0,zI0,zI0,zI0,zI0,zI0,zI0,zI0,zI0,zI0,zI0,zI0,zI0,zI0,zI0,zI0,zI0,zI0,zI0,zI0,zI0,zI0,zI0,zI0,zI0,zI0,zI0,zI0,zI0,zI0,zI0,zI0,zI0,zI0,zI0,zI0,zI0,zI0,zI0,zI0,zI0,zI0,zI0,zI0,zI0,zI0,zI0,zI0,zI0,zI0,zI0,zI0,zI0,zI0,zI0,zI0,zI0,zI0,zI0,zI0,zI0,zI0,zI0,zI0,zI0,zI0,zI0,zI0,zI0,zI0,zI0,zI0,zI0,zI0,zI0,zI0,zI0,zI0,zI0,zI0,zI0,zI0,zI0,zI0,zI0,zI0,zI0,zI0,zI0,zI0,zI0,zI0]:=λw=>⟨_,zeroValue114 w,rfl⟩
theorem af0:Zr 120 [zS0,zI0]:=λw=>⟨_,zeroValue120 w,rfl⟩
theorem af1:Zr 144 [.map none]:=λw=>⟨_,zeroValue144 w,rfl⟩
theorem amp:Zr 158 [.nilFunc]:=λw=>⟨_,zeroValue158 w,rfl⟩
theorem amq:Zr 161 [.pointer none]:=λw=>⟨_,zeroValue161 w,rfl⟩
theorem amr:Zr 162 [zS0]:=λw=>⟨_,zeroValue162 w,rfl⟩
theorem ams:Zr 163 [zS0]:=λw=>⟨_,zeroValue163 w,rfl⟩
theorem amt:Zr 165 [zS0,zS0,zS0]:=λw=>⟨_,zeroValue165 w,rfl⟩
theorem af2:Zr 166 [.map none]:=λw=>⟨_,zeroValue166 w,rfl⟩
theorem amu:Zr 169 [zI0,zI0]:=λw=>⟨_,zeroValue169 w,rfl⟩
theorem amv:Zr 172 [.nilFunc]:=λw=>⟨_,zeroValue172 w,rfl⟩
theorem af3:Zr 175 [zI0,zI0,zI0]:=λw=>⟨_,zeroValue175 w,rfl⟩
theorem amw:Zr 177 [.nilFunc]:=λw=>⟨_,zeroValue177 w,rfl⟩
theorem amx:Zr 178 [.int .u64 0]:=λw=>⟨_,zeroValue178 w,rfl⟩
theorem sD:Zr 179 [zI0,zI0,zI0]:=λw=>⟨_,zeroValue179 w,rfl⟩
theorem amy:Zr 180 [zS0]:=λw=>⟨_,zeroValue180 w,rfl⟩
theorem amz:Zr 182 [.nilFunc]:=λw=>⟨_,zeroValue182 w,rfl⟩
theorem amA:Zr 185 [.nilFunc]:=λw=>⟨_,zeroValue185 w,rfl⟩
theorem amB:Zr 187 [.nilFunc]:=λw=>⟨_,zeroValue187 w,rfl⟩
theorem amC:Zr 188 [.nilFunc]:=λw=>⟨_,zeroValue188 w,rfl⟩
theorem amD:Zr 190 [.nilFunc]:=λw=>⟨_,zeroValue190 w,rfl⟩
theorem amE:Zr 191 [.map none]:=λw=>⟨_,zeroValue191 w,rfl⟩
theorem amF:Zr 245 [zI0]:=λw=>⟨_,zeroValue245 w,rfl⟩
theorem amG:Zr 252 [.int .u32 0]:=λw=>⟨_,zeroValue252 w,rfl⟩
theorem amH:Zr 254 [.int .u64 0]:=λw=>⟨_,zeroValue254 w,rfl⟩
theorem ty2:TyS prog 2 1 false:=⟨sizeOf2,isAgg2⟩
theorem ty3:TyS prog 3 1 false:=⟨sizeOf3,isAgg3⟩
theorem ty4:TyS prog 4 1 false:=⟨sizeOf4,isAgg4⟩
theorem ty5:TyS prog 5 1 false:=⟨sizeOf5,isAgg5⟩
theorem ty6:TyS prog 6 1 false:=⟨sizeOf6,isAgg6⟩
theorem ty7:TyS prog 7 4 true:=⟨sizeOf7,isAgg7⟩
theorem str7:gC prog 7 [zI0,zI0,.bool false,.int .u8 0] [(0,1),(1,1),(2,1),(3,1)]:=jY zeroValue7 underlying7 (λw=>by kernel_rfl)
theorem ai1:dx prog 7 0 0:=⟨λa w=>by kernel_rfl⟩
theorem ai2:dx prog 7 1 1:=⟨λa w=>by kernel_rfl⟩
theorem ai3:dx prog 7 2 2:=⟨λa w=>by kernel_rfl⟩
theorem ai4:dx prog 7 3 3:=⟨λa w=>by kernel_rfl⟩
theorem ai5:cw prog 7 0 0 1 false:=cN underlying7 (by kernel_rfl) ty2 (by decide)
theorem ai6:cw prog 7 1 1 1 false:=cN underlying7 (by kernel_rfl) ty3 (by decide)
theorem ai7:cw prog 7 2 2 1 false:=cN underlying7 (by kernel_rfl) ty4 (by decide)
theorem ai8:cw prog 7 3 3 1 false:=cN underlying7 (by kernel_rfl) ty6 (by decide)
theorem ty8:TyS prog 8 4 true:=⟨sizeOf8,isAgg8⟩
theorem str8:gC prog 8 [zI0,zI0,.bool false,.int .u8 0] [(0,1),(1,1),(2,1),(3,1)]:=jY zeroValue8 underlying8 (λw=>by kernel_rfl)
theorem ai9:dx prog 8 0 0:=⟨λa w=>by kernel_rfl⟩
theorem aja:dx prog 8 1 1:=⟨λa w=>by kernel_rfl⟩
theorem ajb:dx prog 8 2 2:=⟨λa w=>by kernel_rfl⟩
theorem ajc:dx prog 8 3 3:=⟨λa w=>by kernel_rfl⟩
theorem ajd:cw prog 8 0 0 1 false:=cN underlying8 (by kernel_rfl) ty2 (by decide)
theorem aje:cw prog 8 1 1 1 false:=cN underlying8 (by kernel_rfl) ty3 (by decide)
theorem ajf:cw prog 8 2 2 1 false:=cN underlying8 (by kernel_rfl) ty4 (by decide)
theorem ajg:cw prog 8 3 3 1 false:=cN underlying8 (by kernel_rfl) ty6 (by decide)
theorem ty9:TyS prog 9 1 false:=⟨sizeOf9,isAgg9⟩
theorem ty10:TyS prog 10 1 false:=⟨sizeOf10,isAgg10⟩
theorem ty11:TyS prog 11 1 false:=⟨sizeOf11,isAgg11⟩
theorem aeb:TyS prog 12 1 false:=⟨sizeOf12,isAgg12⟩
theorem ty13:TyS prog 13 2 true:=⟨sizeOf13,isAgg13⟩
theorem amI:gC prog 13 [.string ⟨#[]⟩,.int .u64 0] [(0,1),(1,1)]:=jY zeroValue13 underlying13 (λw=>by kernel_rfl)
theorem ahb:dx prog 13 0 0:=⟨λa w=>by kernel_rfl⟩
theorem ahc:dx prog 13 1 1:=⟨λa w=>by kernel_rfl⟩
theorem ahd:cw prog 13 0 0 1 false:=cN underlying13 (by kernel_rfl) ty9 (by decide)
theorem ahe:cw prog 13 1 1 1 false:=cN underlying13 (by kernel_rfl) aeb (by decide)
theorem ty14:TyS prog 14 2 true:=⟨sizeOf14,isAgg14⟩
theorem amJ:gC prog 14 [.string ⟨#[]⟩,.int .u64 0] [(0,1),(1,1)]:=jY zeroValue14 underlying14 (λw=>by kernel_rfl)
theorem ahf:dx prog 14 0 0:=⟨λa w=>by kernel_rfl⟩
theorem ahg:dx prog 14 1 1:=⟨λa w=>by kernel_rfl⟩
theorem ahh:cw prog 14 0 0 1 false:=cN underlying14 (by kernel_rfl) ty9 (by decide)
theorem ahi:cw prog 14 1 1 1 false:=cN underlying14 (by kernel_rfl) aeb (by decide)
theorem ty15:TyS prog 15 1 false:=⟨sizeOf15,isAgg15⟩
theorem ty16:TyS prog 16 1 false:=⟨sizeOf16,isAgg16⟩
theorem aec:TyS prog 17 1 false:=⟨sizeOf17,isAgg17⟩
theorem ty18:TyS prog 18 1 true:=⟨sizeOf18,isAgg18⟩
theorem amK:gC prog 18 [.pointer none] [(0,1)]:=jY zeroValue18 underlying18 (λw=>by kernel_rfl)
theorem ahj:dx prog 18 0 0:=⟨λa w=>by kernel_rfl⟩
theorem ahk:cw prog 18 0 0 1 false:=cN underlying18 (by kernel_rfl) aec (by decide)
theorem ty19:TyS prog 19 1 true:=⟨sizeOf19,isAgg19⟩
theorem amL:gC prog 19 [.pointer none] [(0,1)]:=jY zeroValue19 underlying19 (λw=>by kernel_rfl)
theorem ahl:dx prog 19 0 0:=⟨λa w=>by kernel_rfl⟩
theorem ahm:cw prog 19 0 0 1 false:=cN underlying19 (by kernel_rfl) aec (by decide)
theorem ty21:TyS prog 21 1 false:=⟨sizeOf21,isAgg21⟩
theorem kj:TyS prog 22 1 false:=⟨sizeOf22,isAgg22⟩
theorem mK:SlS prog 22 3 1:=⟨underlying22,sizeOf3⟩
theorem w6:gO prog 22 3 1 8:=⟨underlying22,(by obtain⟨i,h1,h2,h3,h4⟩:=info_parts (by kernel_rfl:(prog.info? 3).map (λi=>(i.zero,i.size,i.bytes))=some (some (zI0),1,8));exact⟨i,_,h1,h2,h3,h4,rfl⟩),by decide⟩
theorem zz:iT prog 22 3 1 [zI0]:=⟨underlying22,sizeOf3,ze3,rfl⟩
theorem ty23:TyS prog 23 1 false:=⟨sizeOf23,isAgg23⟩
theorem aed:TyS prog 25 1 false:=⟨sizeOf25,isAgg25⟩
theorem sl25:SlS prog 25 31 2:=⟨underlying25,sizeOf31⟩
theorem amM:gO prog 25 31 2 16:=⟨underlying25,(by obtain⟨i,h1,h2,h3,h4⟩:=info_parts (by kernel_rfl:(prog.info? 31).map (λi=>(i.zero,i.size,i.bytes))=some (some (.agg #[zI0,.bool false]),2,16));exact⟨i,_,h1,h2,h3,h4,rfl⟩),by decide⟩
theorem amN:iT prog 25 31 2 [zI0,.bool false]:=⟨underlying25,sizeOf31,aiY,rfl⟩
theorem aee:TyS prog 26 1 false:=⟨sizeOf26,isAgg26⟩
theorem sl26:SlS prog 26 62 5:=⟨underlying26,sizeOf62⟩
theorem amO:gO prog 26 62 5 40:=⟨underlying26,(by obtain⟨i,h1,h2,h3,h4⟩:=info_parts (by kernel_rfl:(prog.info? 62).map (λi=>(i.zero,i.size,i.bytes))=some (some (.agg #[zI0,zI0,zI0,zI0,zI0]),5,40));exact⟨i,_,h1,h2,h3,h4,rfl⟩),by decide⟩
theorem amP:iT prog 26 62 5 [zI0,zI0,zI0,zI0,zI0]:=⟨underlying26,sizeOf62,aiZ,rfl⟩
theorem ty27:TyS prog 27 2 true:=⟨sizeOf27,isAgg27⟩
theorem amQ:gC prog 27 [zS0,zS0] [(0,1),(1,1)]:=jY zeroValue27 underlying27 (λw=>by kernel_rfl)
theorem ahn:dx prog 27 0 0:=⟨λa w=>by kernel_rfl⟩
theorem aho:dx prog 27 1 1:=⟨λa w=>by kernel_rfl⟩
theorem ahp:cw prog 27 0 0 1 false:=cN underlying27 (by kernel_rfl) aed (by decide)
theorem ahq:cw prog 27 1 1 1 false:=cN underlying27 (by kernel_rfl) aee (by decide)
theorem ty28:TyS prog 28 2 true:=⟨sizeOf28,isAgg28⟩
theorem amR:gC prog 28 [zS0,zS0] [(0,1),(1,1)]:=jY zeroValue28 underlying28 (λw=>by kernel_rfl)
theorem ahr:dx prog 28 0 0:=⟨λa w=>by kernel_rfl⟩
theorem ahs:dx prog 28 1 1:=⟨λa w=>by kernel_rfl⟩
theorem aht:cw prog 28 0 0 1 false:=cN underlying28 (by kernel_rfl) aed (by decide)
theorem ahu:cw prog 28 1 1 1 false:=cN underlying28 (by kernel_rfl) aee (by decide)
theorem ty30:TyS prog 30 2 true:=⟨sizeOf30,isAgg30⟩
theorem amS:gC prog 30 [zI0,.bool false] [(0,1),(1,1)]:=jY zeroValue30 underlying30 (λw=>by kernel_rfl)
theorem ahv:dx prog 30 0 0:=⟨λa w=>by kernel_rfl⟩
theorem ahw:dx prog 30 1 1:=⟨λa w=>by kernel_rfl⟩
theorem ahx:cw prog 30 0 0 1 false:=cN underlying30 (by kernel_rfl) ty3 (by decide)
theorem ahy:cw prog 30 1 1 1 false:=cN underlying30 (by kernel_rfl) ty4 (by decide)
theorem ty31:TyS prog 31 2 true:=⟨sizeOf31,isAgg31⟩
theorem amT:gC prog 31 [zI0,.bool false] [(0,1),(1,1)]:=jY zeroValue31 underlying31 (λw=>by kernel_rfl)
theorem ahz:dx prog 31 0 0:=⟨λa w=>by kernel_rfl⟩
theorem ahA:dx prog 31 1 1:=⟨λa w=>by kernel_rfl⟩
theorem ahB:cw prog 31 0 0 1 false:=cN underlying31 (by kernel_rfl) ty3 (by decide)
theorem ahC:cw prog 31 1 1 1 false:=cN underlying31 (by kernel_rfl) ty4 (by decide)
theorem aef:TyS prog 34 1 false:=⟨sizeOf34,isAgg34⟩
theorem sl34:SlS prog 34 84 2:=⟨underlying34,sizeOf84⟩
theorem amU:gO prog 34 84 2 16:=⟨underlying34,(by obtain⟨i,h1,h2,h3,h4⟩:=info_parts (by kernel_rfl:(prog.info? 84).map (λi=>(i.zero,i.size,i.bytes))=some (some (.agg #[zI0,zI0]),2,16));exact⟨i,_,h1,h2,h3,h4,rfl⟩),by decide⟩
theorem amV:iT prog 34 84 2 [zI0,zI0]:=⟨underlying34,sizeOf84,ai0,rfl⟩
theorem ty35:TyS prog 35 2 true:=⟨sizeOf35,isAgg35⟩
theorem amW:gC prog 35 [zI0,zS0] [(0,1),(1,1)]:=jY zeroValue35 underlying35 (λw=>by kernel_rfl)
theorem ahD:dx prog 35 0 0:=⟨λa w=>by kernel_rfl⟩
theorem ahE:dx prog 35 1 1:=⟨λa w=>by kernel_rfl⟩
theorem ahF:cw prog 35 0 0 1 false:=cN underlying35 (by kernel_rfl) ty3 (by decide)
theorem ahG:cw prog 35 1 1 1 false:=cN underlying35 (by kernel_rfl) aef (by decide)
theorem ty36:TyS prog 36 2 true:=⟨sizeOf36,isAgg36⟩
theorem amX:gC prog 36 [zI0,zS0] [(0,1),(1,1)]:=jY zeroValue36 underlying36 (λw=>by kernel_rfl)
theorem ahH:dx prog 36 0 0:=⟨λa w=>by kernel_rfl⟩
theorem ahI:dx prog 36 1 1:=⟨λa w=>by kernel_rfl⟩
theorem ahJ:cw prog 36 0 0 1 false:=cN underlying36 (by kernel_rfl) ty3 (by decide)
theorem ahK:cw prog 36 1 1 1 false:=cN underlying36 (by kernel_rfl) aef (by decide)
theorem ty37:TyS prog 37 1 false:=⟨sizeOf37,isAgg37⟩
theorem ty62:TyS prog 62 5 true:=⟨sizeOf62,isAgg62⟩
theorem amY:gC prog 62 [zI0,zI0,zI0,zI0,zI0] [(0,1),(1,1),(2,1),(3,1),(4,1)]:=jY zeroValue62 underlying62 (λw=>by kernel_rfl)
theorem ahL:dx prog 62 0 0:=⟨λa w=>by kernel_rfl⟩
theorem ahM:dx prog 62 1 1:=⟨λa w=>by kernel_rfl⟩
theorem ahN:dx prog 62 2 2:=⟨λa w=>by kernel_rfl⟩
theorem ahO:dx prog 62 3 3:=⟨λa w=>by kernel_rfl⟩
theorem ahP:dx prog 62 4 4:=⟨λa w=>by kernel_rfl⟩
theorem ahQ:cw prog 62 0 0 1 false:=cN underlying62 (by kernel_rfl) ty3 (by decide)
theorem ahR:cw prog 62 1 1 1 false:=cN underlying62 (by kernel_rfl) ty3 (by decide)
theorem ahS:cw prog 62 2 2 1 false:=cN underlying62 (by kernel_rfl) ty3 (by decide)
theorem ahT:cw prog 62 3 3 1 false:=cN underlying62 (by kernel_rfl) ty3 (by decide)
theorem ahU:cw prog 62 4 4 1 false:=cN underlying62 (by kernel_rfl) ty3 (by decide)
theorem ty76:TyS prog 76 1 false:=⟨sizeOf76,isAgg76⟩
theorem ko:SlS prog 76 22 1:=⟨underlying76,sizeOf22⟩
theorem abU:gO prog 76 22 1 24:=⟨underlying76,(by obtain⟨i,h1,h2,h3,h4⟩:=info_parts (by kernel_rfl:(prog.info? 22).map (λi=>(i.zero,i.size,i.bytes))=some (some (zS0),1,24));exact⟨i,_,h1,h2,h3,h4,rfl⟩),by decide⟩
theorem abV:iT prog 76 22 1 [zS0]:=⟨underlying76,sizeOf22,aiX,rfl⟩
theorem ajh:TyS prog 84 2 true:=⟨sizeOf84,isAgg84⟩
theorem amZ:gC prog 84 [zI0,zI0] [(0,1),(1,1)]:=jY zeroValue84 underlying84 (λw=>by kernel_rfl)
theorem ahV:dx prog 84 0 0:=⟨λa w=>by kernel_rfl⟩
theorem ahW:dx prog 84 1 1:=⟨λa w=>by kernel_rfl⟩
theorem ahX:cw prog 84 0 0 1 false:=cN underlying84 (by kernel_rfl) ty3 (by decide)
theorem ahY:cw prog 84 1 1 1 false:=cN underlying84 (by kernel_rfl) ty3 (by decide)
theorem ty85:TyS prog 85 1 false:=⟨sizeOf85,isAgg85⟩
theorem sl85:SlS prog 85 120 2:=⟨underlying85,sizeOf120⟩
theorem am0:gO prog 85 120 2 32:=⟨underlying85,(by obtain⟨i,h1,h2,h3,h4⟩:=info_parts (by kernel_rfl:(prog.info? 120).map (λi=>(i.zero,i.size,i.bytes))=some (some (.agg #[zS0,zI0]),2,32));exact⟨i,_,h1,h2,h3,h4,rfl⟩),by decide⟩
theorem am1:iT prog 85 120 2 [zS0,zI0]:=⟨underlying85,sizeOf120,af0,rfl⟩
theorem am2:TyS prog 103 2 true:=⟨sizeOf103,isAgg103⟩
theorem aji:gC prog 103 [zS0,zI0] [(0,1),(1,1)]:=jY zeroValue103 underlying103 (λw=>by kernel_rfl)
theorem aeg:dx prog 103 0 0:=⟨λa w=>by kernel_rfl⟩
theorem aeh:dx prog 103 1 1:=⟨λa w=>by kernel_rfl⟩
theorem aei:cw prog 103 0 0 1 false:=cN underlying103 (by kernel_rfl) kj (by decide)
theorem aej:cw prog 103 1 1 1 false:=cN underlying103 (by kernel_rfl) ty3 (by decide)
theorem am3:TyS prog 105 1 false:=⟨sizeOf105,isAgg105⟩
theorem qK:SlS prog 105 106 1:=⟨underlying105,sizeOf106⟩
theorem acX:gO prog 105 106 1 24:=⟨underlying105,(by obtain⟨i,h1,h2,h3,h4⟩:=info_parts (by kernel_rfl:(prog.info? 106).map (λi=>(i.zero,i.size,i.bytes))=some (some (zS0),1,24));exact⟨i,_,h1,h2,h3,h4,rfl⟩),by decide⟩
theorem acY:iT prog 105 106 1 [zS0]:=⟨underlying105,sizeOf106,afZ,rfl⟩
theorem w8:TyS prog 106 1 false:=⟨sizeOf106,isAgg106⟩
theorem am4:SlS prog 106 4 1:=⟨underlying106,sizeOf4⟩
theorem acZ:gO prog 106 4 1 1:=⟨underlying106,(by obtain⟨i,h1,h2,h3,h4⟩:=info_parts (by kernel_rfl:(prog.info? 4).map (λi=>(i.zero,i.size,i.bytes))=some (some (.bool false),1,1));exact⟨i,_,h1,h2,h3,h4,rfl⟩),by decide⟩
theorem ac0:iT prog 106 4 1 [.bool false]:=⟨underlying106,sizeOf4,ze4,rfl⟩
theorem af4:TyS prog 111 1 false:=⟨sizeOf111,isAgg111⟩
theorem am5:SlS prog 111 175 3:=⟨underlying111,sizeOf175⟩
theorem ajj:gO prog 111 175 3 24:=⟨underlying111,(by obtain⟨i,h1,h2,h3,h4⟩:=info_parts (by kernel_rfl:(prog.info? 175).map (λi=>(i.zero,i.size,i.bytes))=some (some (.agg #[zI0,zI0,zI0]),3,24));exact⟨i,_,h1,h2,h3,h4,rfl⟩),by decide⟩
theorem ajk:iT prog 111 175 3 [zI0,zI0,zI0]:=⟨underlying111,sizeOf175,af3,rfl⟩
theorem w9:TyS prog 114 100 true:=⟨sizeOf114,isAgg114⟩
theorem am6:TyS prog 120 2 true:=⟨sizeOf120,isAgg120⟩
theorem ajl:gC prog 120 [zS0,zI0] [(0,1),(1,1)]:=jY zeroValue120 underlying120 (λw=>by kernel_rfl)
theorem aek:dx prog 120 0 0:=⟨λa w=>by kernel_rfl⟩
theorem ael:dx prog 120 1 1:=⟨λa w=>by kernel_rfl⟩
theorem aem:cw prog 120 0 0 1 false:=cN underlying120 (by kernel_rfl) kj (by decide)
theorem aen:cw prog 120 1 1 1 false:=cN underlying120 (by kernel_rfl) ty3 (by decide)
theorem xb:TyS prog 144 1 false:=⟨sizeOf144,isAgg144⟩
theorem xd:jy prog 144 3 3 .i64:=⟨underlying144,underlying3⟩
theorem am7:TyS prog 158 1 false:=⟨sizeOf158,isAgg158⟩
theorem am8:TyS prog 161 1 false:=⟨sizeOf161,isAgg161⟩
theorem af5:TyS prog 162 1 false:=⟨sizeOf162,isAgg162⟩
theorem xe:SlS prog 162 144 1:=⟨underlying162,sizeOf144⟩
theorem ac1:gO prog 162 144 1 8:=⟨underlying162,(by obtain⟨i,h1,h2,h3,h4⟩:=info_parts (by kernel_rfl:(prog.info? 144).map (λi=>(i.zero,i.size,i.bytes))=some (some (.map none),1,8));exact⟨i,_,h1,h2,h3,h4,rfl⟩),by decide⟩
theorem ajm:iT prog 162 144 1 [.map none]:=⟨underlying162,sizeOf144,af1,rfl⟩
theorem af6:TyS prog 163 1 false:=⟨sizeOf163,isAgg163⟩
theorem af7:SlS prog 163 166 1:=⟨underlying163,sizeOf166⟩
theorem ac2:gO prog 163 166 1 8:=⟨underlying163,(by obtain⟨i,h1,h2,h3,h4⟩:=info_parts (by kernel_rfl:(prog.info? 166).map (λi=>(i.zero,i.size,i.bytes))=some (some (.map none),1,8));exact⟨i,_,h1,h2,h3,h4,rfl⟩),by decide⟩
theorem ajn:iT prog 163 166 1 [.map none]:=⟨underlying163,sizeOf166,af2,rfl⟩
theorem am9:TyS prog 165 3 true:=⟨sizeOf165,isAgg165⟩
theorem ajo:gC prog 165 [zS0,zS0,zS0] [(0,1),(1,1),(2,1)]:=jY zeroValue165 underlying165 (λw=>by kernel_rfl)
theorem aeo:dx prog 165 0 0:=⟨λa w=>by kernel_rfl⟩
theorem aep:dx prog 165 1 1:=⟨λa w=>by kernel_rfl⟩
theorem aeq:dx prog 165 2 2:=⟨λa w=>by kernel_rfl⟩
theorem aer:cw prog 165 0 0 1 false:=cN underlying165 (by kernel_rfl) af4 (by decide)
theorem aes:cw prog 165 1 1 1 false:=cN underlying165 (by kernel_rfl) af5 (by decide)
theorem aet:cw prog 165 2 2 1 false:=cN underlying165 (by kernel_rfl) af6 (by decide)
theorem af8:TyS prog 166 1 false:=⟨sizeOf166,isAgg166⟩
theorem uh:jy prog 166 3 169 .i64:=⟨underlying166,underlying3⟩
theorem ana:TyS prog 169 2 true:=⟨sizeOf169,isAgg169⟩
theorem ajp:gC prog 169 [zI0,zI0] [(0,1),(1,1)]:=jY zeroValue169 underlying169 (λw=>by kernel_rfl)
theorem aeu:dx prog 169 0 0:=⟨λa w=>by kernel_rfl⟩
theorem aev:dx prog 169 1 1:=⟨λa w=>by kernel_rfl⟩
theorem aew:cw prog 169 0 0 1 false:=cN underlying169 (by kernel_rfl) ty3 (by decide)
theorem aex:cw prog 169 1 1 1 false:=cN underlying169 (by kernel_rfl) ty3 (by decide)
theorem anb:TyS prog 172 1 false:=⟨sizeOf172,isAgg172⟩
theorem anc:TyS prog 175 3 true:=⟨sizeOf175,isAgg175⟩
theorem ajq:gC prog 175 [zI0,zI0,zI0] [(0,2),(2,1)]:=jY zeroValue175 underlying175 (λw=>by kernel_rfl)
theorem aey:dx prog 175 0 0:=⟨λa w=>by kernel_rfl⟩
theorem aez:dx prog 175 1 2:=⟨λa w=>by kernel_rfl⟩
theorem aeA:cw prog 175 0 0 2 true:=cN underlying175 (by kernel_rfl) ajh (by decide)
theorem aeB:cw prog 175 1 2 1 false:=cN underlying175 (by kernel_rfl) ty3 (by decide)
theorem ane:TyS prog 177 1 false:=⟨sizeOf177,isAgg177⟩
theorem anf:TyS prog 178 1 false:=⟨sizeOf178,isAgg178⟩
theorem ang:TyS prog 179 3 true:=⟨sizeOf179,isAgg179⟩
theorem anh:TyS prog 180 1 false:=⟨sizeOf180,isAgg180⟩
theorem ani:SlS prog 180 179 3:=⟨underlying180,sizeOf179⟩
theorem ajr:gO prog 180 179 3 24:=⟨underlying180,(by obtain⟨i,h1,h2,h3,h4⟩:=info_parts (by kernel_rfl:(prog.info? 179).map (λi=>(i.zero,i.size,i.bytes))=some (some (.agg #[zI0,zI0,zI0]),3,24));exact⟨i,_,h1,h2,h3,h4,rfl⟩),by decide⟩
theorem ajs:iT prog 180 179 3 [zI0,zI0,zI0]:=⟨underlying180,sizeOf179,sD,rfl⟩
theorem anj:TyS prog 182 1 false:=⟨sizeOf182,isAgg182⟩
theorem ank:TyS prog 185 1 false:=⟨sizeOf185,isAgg185⟩
theorem anl:TyS prog 187 1 false:=⟨sizeOf187,isAgg187⟩
theorem anm:TyS prog 188 1 false:=⟨sizeOf188,isAgg188⟩
theorem ann:TyS prog 190 1 false:=⟨sizeOf190,isAgg190⟩
theorem ano:TyS prog 191 1 false:=⟨sizeOf191,isAgg191⟩
theorem ac3:jy prog 191 3 4 .i64:=⟨underlying191,underlying3⟩
theorem anp:TyS prog 245 1 false:=⟨sizeOf245,isAgg245⟩
theorem anq:TyS prog 252 1 false:=⟨sizeOf252,isAgg252⟩
theorem anr:TyS prog 254 1 false:=⟨sizeOf254,isAgg254⟩
end Go.Proofs.YtmnbolcmepihlaaGreat
