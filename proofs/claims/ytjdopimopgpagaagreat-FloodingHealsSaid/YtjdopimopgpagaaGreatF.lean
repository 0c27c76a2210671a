/- The types of this translation, as the rules want adX. No condition. -/
import Derived.Test.YtjdopimopgpagaaGreatAB
import Derived.Test.YtjdopimopgpagaaGreatRows
import Derived.OwnWalk
namespace Go.Proofs.YtjdopimopgpagaaGreat
set_option linter.all false
abbrev zI0:Value:=.int .i64 0
abbrev zS0:Value:=.slice none 0 0
open Go Go.Proofs.Tryz
set_option maxRecDepth 100000
abbrev Zr(i:Nat)(c:List Value):Prop:=∀w,∃z,(zeroValue i).run prog w=.ok z w∧z.cells=c.toArray
theorem aaS:prog.follows .mixedOrders=true:=by kernel_rfl
theorem ze1:Zr 1 [.nilFunc]:=λw=>⟨_,zeroValue1 w,rfl⟩
theorem ze2:Zr 2 [zI0]:=λw=>⟨_,zeroValue2 w,rfl⟩
theorem ze3:Zr 3 [zI0]:=λw=>⟨_,zeroValue3 w,rfl⟩
theorem ze4:Zr 4 [.bool false]:=λw=>⟨_,zeroValue4 w,rfl⟩
theorem ze5:Zr 5 [.int .u8 0]:=λw=>⟨_,zeroValue5 w,rfl⟩
theorem ze6:Zr 6 [.int .u8 0]:=λw=>⟨_,zeroValue6 w,rfl⟩
theorem ze7:Zr 7 [zI0,zI0,.bool false,.int .u8 0]:=λw=>⟨_,zeroValue7 w,rfl⟩
theorem ze8:Zr 8 [zI0,zI0,.bool false,.int .u8 0]:=λw=>⟨_,zeroValue8 w,rfl⟩
theorem ze9:Zr 9 [.string ⟨#[]⟩]:=λw=>⟨_,zeroValue9 w,rfl⟩
theorem ze10:Zr 10 [.string ⟨#[]⟩]:=λw=>⟨_,zeroValue10 w,rfl⟩
theorem ze11:Zr 11 [.string ⟨#[]⟩]:=λw=>⟨_,zeroValue11 w,rfl⟩
theorem ze12:Zr 12 [.int .u64 0]:=λw=>⟨_,zeroValue12 w,rfl⟩
theorem ze13:Zr 13 [.string ⟨#[]⟩,.int .u64 0]:=λw=>⟨_,zeroValue13 w,rfl⟩
theorem ze14:Zr 14 [.string ⟨#[]⟩,.int .u64 0]:=λw=>⟨_,zeroValue14 w,rfl⟩
theorem ze15:Zr 15 [.pointer none]:=λw=>⟨_,zeroValue15 w,rfl⟩
theorem ze16:Zr 16 [.pointer none]:=λw=>⟨_,zeroValue16 w,rfl⟩
theorem ze17:Zr 17 [.pointer none]:=λw=>⟨_,zeroValue17 w,rfl⟩
theorem ze18:Zr 18 [.pointer none]:=λw=>⟨_,zeroValue18 w,rfl⟩
theorem ze19:Zr 19 [.pointer none]:=λw=>⟨_,zeroValue19 w,rfl⟩
theorem ze21:Zr 21 [.int .i32 0]:=λw=>⟨_,zeroValue21 w,rfl⟩
theorem ze22:Zr 22 [zS0]:=λw=>⟨_,zeroValue22 w,rfl⟩
theorem ze23:Zr 23 [zS0]:=λw=>⟨_,zeroValue23 w,rfl⟩
theorem ze24:Zr 24 [zS0]:=λw=>⟨_,zeroValue24 w,rfl⟩
theorem ze25:Zr 25 [zS0]:=λw=>⟨_,zeroValue25 w,rfl⟩
theorem ze26:Zr 26 [zS0,zS0,zS0]:=λw=>⟨_,zeroValue26 w,rfl⟩
theorem anC:Zr 27 [zS0,zS0,zS0]:=λw=>⟨_,zeroValue27 w,rfl⟩
theorem ze28:Zr 28 [.pointer none]:=λw=>⟨_,zeroValue28 w,rfl⟩
theorem ze32:Zr 32 [zS0]:=λw=>⟨_,zeroValue32 w,rfl⟩
theorem ze34:Zr 34 [zI0]:=λw=>⟨_,zeroValue34 w,rfl⟩
theorem ze43:Zr 43 [zS0]:=λw=>⟨_,zeroValue43 w,rfl⟩
theorem ze45:Zr 45 [zS0,zS0]:=λw=>⟨_,zeroValue45 w,rfl⟩
theorem ze48:Zr 48 [zS0]:=λw=>⟨_,zeroValue48 w,rfl⟩
theorem ze49:Zr 49 [zS0]:=λw=>⟨_,zeroValue49 w,rfl⟩
theorem ze51:Zr 51 [zS0]:=λw=>⟨_,zeroValue51 w,rfl⟩
theorem anD:Zr 53 [zI0,zI0,.bool false,zS0,zS0]:=λw=>⟨_,zeroValue53 w,rfl⟩
theorem ze58:Zr 58 [zS0]:=λw=>⟨_,zeroValue58 w,rfl⟩
theorem ze60:Zr 60 [zS0,zS0]:=λw=>⟨_,zeroValue60 w,rfl⟩
theorem ze64:Zr 64 [zS0]:=λw=>⟨_,zeroValue64 w,rfl⟩
theorem ze65:Zr 65 [zI0,zI0,.bool false,zS0,zS0]:=λw=>⟨_,zeroValue65 w,rfl⟩
theorem anE:Zr 66 [zI0,zI0,.bool false,zS0,zS0]:=λw=>⟨_,zeroValue66 w,rfl⟩
theorem ze69:Zr 69 [.nilFunc]:=λw=>⟨_,zeroValue69 w,rfl⟩
theorem anF:Zr 75 [zI0,zI0,zS0]:=λw=>⟨_,zeroValue75 w,rfl⟩
theorem ze83:Zr 83 [zS0,zI0]:=λw=>⟨_,zeroValue83 w,rfl⟩
theorem ze84:Zr 84 [.nilFunc]:=λw=>⟨_,zeroValue84 w,rfl⟩
theorem anG:Zr 86 [zI0,zI0,zI0,zI0,zI0]:=λw=>⟨_,zeroValue86 w,rfl⟩
theorem anH:Zr 91 [zI0,zI0,zI0]:=λw=>⟨_,zeroValue91 w,rfl⟩
theorem anI:Zr 93 [zI0,.bool false]:=λw=>⟨_,zeroValue93 w,rfl⟩
theorem ze94:Zr 94 [.pointer none]:=λw=>⟨_,zeroValue94 w,rfl⟩
theorem ze97:Zr 97 [zS0,zS0,zS0]:=λw=>⟨_,zeroValue97 w,rfl⟩
theorem ze98:Zr 98 [zS0]:=λw=>⟨_,zeroValue98 w,rfl⟩
theorem ajU:Zr 105 [zI0,zI0,zI0]:=λw=>⟨_,zeroValue105 w,rfl⟩
theorem aqF:Zr 113 [.nilFunc]:=λw=>⟨_,zeroValue113 w,rfl⟩
theorem aqG:Zr 121 [.nilFunc]:=λw=>⟨_,zeroValue121 w,rfl⟩
theorem ajV:Zr 129 [zI0,zI0]:=λw=>⟨_,zeroValue129 w,rfl⟩
theorem aqH:Zr 132 [.nilFunc]:=λw=>⟨_,zeroValue132 w,rfl⟩
theorem aqI:Zr 133 [.pointer none]:=λw=>⟨_,zeroValue133 w,rfl⟩
theorem aqJ:Zr 150 [.nilFunc]:=λw=>⟨_,zeroValue150 w,rfl⟩
theorem aqK:Zr 152 [.nilFunc]:=λw=>⟨_,zeroValue152 w,rfl⟩
theorem aqL:Zr 154 [.nilFunc]:=λw=>⟨_,zeroValue154 w,rfl⟩
theorem aqM:Zr 155 [.nilFunc]:=λw=>⟨_,zeroValue155 w,rfl⟩
theorem aqN:Zr 158 [.nilFunc]:=λw=>⟨_,zeroValue158 w,rfl⟩
theorem aqO:Zr 161 [zS0]:=λw=>⟨_,zeroValue161 w,rfl⟩
theorem ajW:Zr 164 [zI0,zI0,zI0,zI0]:=λw=>⟨_,zeroValue164 w,rfl⟩
theorem aqP:Zr 165 [.nilFunc]:=λw=>⟨_,zeroValue165 w,rfl⟩
theorem aqQ:Zr 178 [.int .u64 0]:=λw=>⟨_,zeroValue178 w,rfl⟩
theorem aqR:Zr 182 [.pointer none]:=λw=>⟨_,zeroValue182 w,rfl⟩
theorem aqS:Zr 187 [.nilFunc]:=λw=>⟨_,zeroValue187 w,rfl⟩
theorem aqT:Zr 189 [zS0]:=λw=>⟨_,zeroValue189 w,rfl⟩
theorem aqU:Zr 193 [zI0]:=λw=>⟨_,zeroValue193 w,rfl⟩
theorem aqV:Zr 201 [.int .u32 0]:=λw=>⟨_,zeroValue201 w,rfl⟩
theorem aqW:Zr 203 [.int .u64 0]:=λw=>⟨_,zeroValue203 w,rfl⟩
theorem aqX:Zr 208 [zS0,zI0]:=λw=>⟨_,zeroValue208 w,rfl⟩
theorem aqY:Zr 221 [zS0,zI0]:=λw=>⟨_,zeroValue221 w,rfl⟩
theorem aqZ:Zr 231 [.pointer none]:=λw=>⟨_,zeroValue231 w,rfl⟩
theorem aq0:Zr 235 [.pointer none]:=λw=>⟨_,zeroValue235 w,rfl⟩
theorem ty1:TyS prog 1 1 false:=⟨sizeOf1,isAgg1⟩
theorem ty2:TyS prog 2 1 false:=⟨sizeOf2,isAgg2⟩
theorem ty3:TyS prog 3 1 false:=⟨sizeOf3,isAgg3⟩
theorem ty4:TyS prog 4 1 false:=⟨sizeOf4,isAgg4⟩
theorem ty5:TyS prog 5 1 false:=⟨sizeOf5,isAgg5⟩
theorem ty6:TyS prog 6 1 false:=⟨sizeOf6,isAgg6⟩
theorem ty7:TyS prog 7 4 true:=⟨sizeOf7,isAgg7⟩
theorem str7:ja prog 7 [zI0,zI0,.bool false,.int .u8 0] [(0,1),(1,1),(2,1),(3,1)]:=kZ zeroValue7 underlying7 (λw=>by kernel_rfl)
theorem anJ:cZ prog 7 0 0:=⟨λa w=>by kernel_rfl⟩
theorem anK:cZ prog 7 1 1:=⟨λa w=>by kernel_rfl⟩
theorem anL:cZ prog 7 2 2:=⟨λa w=>by kernel_rfl⟩
theorem anM:cZ prog 7 3 3:=⟨λa w=>by kernel_rfl⟩
theorem anN:cr prog 7 0 0 1 false:=cB underlying7 (by kernel_rfl) ty2 (by decide)
theorem anO:cr prog 7 1 1 1 false:=cB underlying7 (by kernel_rfl) ty3 (by decide)
theorem anP:cr prog 7 2 2 1 false:=cB underlying7 (by kernel_rfl) ty4 (by decide)
theorem anQ:cr prog 7 3 3 1 false:=cB underlying7 (by kernel_rfl) ty6 (by decide)
theorem ty8:TyS prog 8 4 true:=⟨sizeOf8,isAgg8⟩
theorem str8:ja prog 8 [zI0,zI0,.bool false,.int .u8 0] [(0,1),(1,1),(2,1),(3,1)]:=kZ zeroValue8 underlying8 (λw=>by kernel_rfl)
theorem anR:cZ prog 8 0 0:=⟨λa w=>by kernel_rfl⟩
theorem anS:cZ prog 8 1 1:=⟨λa w=>by kernel_rfl⟩
theorem anT:cZ prog 8 2 2:=⟨λa w=>by kernel_rfl⟩
theorem anU:cZ prog 8 3 3:=⟨λa w=>by kernel_rfl⟩
theorem anV:cr prog 8 0 0 1 false:=cB underlying8 (by kernel_rfl) ty2 (by decide)
theorem anW:cr prog 8 1 1 1 false:=cB underlying8 (by kernel_rfl) ty3 (by decide)
theorem anX:cr prog 8 2 2 1 false:=cB underlying8 (by kernel_rfl) ty4 (by decide)
theorem anY:cr prog 8 3 3 1 false:=cB underlying8 (by kernel_rfl) ty6 (by decide)
theorem ty9:TyS prog 9 1 false:=⟨sizeOf9,isAgg9⟩
theorem ty10:TyS prog 10 1 false:=⟨sizeOf10,isAgg10⟩
theorem ty11:TyS prog 11 1 false:=⟨sizeOf11,isAgg11⟩
theorem air:TyS prog 12 1 false:=⟨sizeOf12,isAgg12⟩
theorem ty13:TyS prog 13 2 true:=⟨sizeOf13,isAgg13⟩
theorem aq1:ja prog 13 [.string ⟨#[]⟩,.int .u64 0] [(0,1),(1,1)]:=kZ zeroValue13 underlying13 (λw=>by kernel_rfl)
theorem ak8:cZ prog 13 0 0:=⟨λa w=>by kernel_rfl⟩
theorem ak9:cZ prog 13 1 1:=⟨λa w=>by kernel_rfl⟩
theorem ala:cr prog 13 0 0 1 false:=cB underlying13 (by kernel_rfl) ty9 (by decide)
theorem alb:cr prog 13 1 1 1 false:=cB underlying13 (by kernel_rfl) air (by decide)
theorem ty14:TyS prog 14 2 true:=⟨sizeOf14,isAgg14⟩
theorem aq2:ja prog 14 [.string ⟨#[]⟩,.int .u64 0] [(0,1),(1,1)]:=kZ zeroValue14 underlying14 (λw=>by kernel_rfl)
theorem alc:cZ prog 14 0 0:=⟨λa w=>by kernel_rfl⟩
theorem ald:cZ prog 14 1 1:=⟨λa w=>by kernel_rfl⟩
theorem ale:cr prog 14 0 0 1 false:=cB underlying14 (by kernel_rfl) ty9 (by decide)
theorem alf:cr prog 14 1 1 1 false:=cB underlying14 (by kernel_rfl) air (by decide)
theorem ty15:TyS prog 15 1 false:=⟨sizeOf15,isAgg15⟩
theorem ty16:TyS prog 16 1 false:=⟨sizeOf16,isAgg16⟩
theorem ais:TyS prog 17 1 false:=⟨sizeOf17,isAgg17⟩
theorem ty18:TyS prog 18 1 true:=⟨sizeOf18,isAgg18⟩
theorem aq3:ja prog 18 [.pointer none] [(0,1)]:=kZ zeroValue18 underlying18 (λw=>by kernel_rfl)
theorem alg:cZ prog 18 0 0:=⟨λa w=>by kernel_rfl⟩
theorem alh:cr prog 18 0 0 1 false:=cB underlying18 (by kernel_rfl) ais (by decide)
theorem ty19:TyS prog 19 1 true:=⟨sizeOf19,isAgg19⟩
theorem aq4:ja prog 19 [.pointer none] [(0,1)]:=kZ zeroValue19 underlying19 (λw=>by kernel_rfl)
theorem ali:cZ prog 19 0 0:=⟨λa w=>by kernel_rfl⟩
theorem alj:cr prog 19 0 0 1 false:=cB underlying19 (by kernel_rfl) ais (by decide)
theorem ty21:TyS prog 21 1 false:=⟨sizeOf21,isAgg21⟩
theorem ait:TyS prog 22 1 false:=⟨sizeOf22,isAgg22⟩
theorem sl22:SlS prog 22 3 1:=⟨underlying22,sizeOf3⟩
theorem aq5:qa prog 22 3 1 8:=⟨underlying22,(by obtain⟨i,h1,h2,h3,h4⟩:=info_parts (by kernel_rfl:(prog.info? 3).map (λi=>(i.zero,i.size,i.bytes))=some (some (zI0),1,8));exact⟨i,_,h1,h2,h3,h4,rfl⟩),by decide⟩
theorem aq6:pJ prog 22 3 1 [zI0]:=⟨underlying22,sizeOf3,ze3,rfl⟩
theorem agj:TyS prog 23 1 false:=⟨sizeOf23,isAgg23⟩
theorem sl23:SlS prog 23 86 5:=⟨underlying23,sizeOf86⟩
theorem aq7:qa prog 23 86 5 40:=⟨underlying23,(by obtain⟨i,h1,h2,h3,h4⟩:=info_parts (by kernel_rfl:(prog.info? 86).map (λi=>(i.zero,i.size,i.bytes))=some (some (.agg #[zI0,zI0,zI0,zI0,zI0]),5,40));exact⟨i,_,h1,h2,h3,h4,rfl⟩),by decide⟩
theorem aq8:pJ prog 23 86 5 [zI0,zI0,zI0,zI0,zI0]:=⟨underlying23,sizeOf86,anG,rfl⟩
theorem aiu:TyS prog 24 1 false:=⟨sizeOf24,isAgg24⟩
theorem sl24:SlS prog 24 53 5:=⟨underlying24,sizeOf53⟩
theorem aq9:qa prog 24 53 5 72:=⟨underlying24,(by obtain⟨i,h1,h2,h3,h4⟩:=info_parts (by kernel_rfl:(prog.info? 53).map (λi=>(i.zero,i.size,i.bytes))=some (some (.agg #[zI0,zI0,.bool false,zS0,zS0]),5,72));exact⟨i,_,h1,h2,h3,h4,rfl⟩),by decide⟩
theorem ara:pJ prog 24 53 5 [zI0,zI0,.bool false,zS0,zS0]:=⟨underlying24,sizeOf53,anD,rfl⟩
theorem aiv:TyS prog 25 1 false:=⟨sizeOf25,isAgg25⟩
theorem aiw:SlS prog 25 75 3:=⟨underlying25,sizeOf75⟩
theorem arb:qa prog 25 75 3 40:=⟨underlying25,(by obtain⟨i,h1,h2,h3,h4⟩:=info_parts (by kernel_rfl:(prog.info? 75).map (λi=>(i.zero,i.size,i.bytes))=some (some (.agg #[zI0,zI0,zS0]),3,40));exact⟨i,_,h1,h2,h3,h4,rfl⟩),by decide⟩
theorem arc:pJ prog 25 75 3 [zI0,zI0,zS0]:=⟨underlying25,sizeOf75,anF,rfl⟩
theorem ty26:TyS prog 26 3 true:=⟨sizeOf26,isAgg26⟩
theorem ard:ja prog 26 [zS0,zS0,zS0] [(0,1),(1,1),(2,1)]:=kZ zeroValue26 underlying26 (λw=>by kernel_rfl)
theorem alk:cZ prog 26 0 0:=⟨λa w=>by kernel_rfl⟩
theorem alm:cZ prog 26 1 1:=⟨λa w=>by kernel_rfl⟩
theorem aln:cZ prog 26 2 2:=⟨λa w=>by kernel_rfl⟩
theorem alo:cr prog 26 0 0 1 false:=cB underlying26 (by kernel_rfl) agj (by decide)
theorem alp:cr prog 26 1 1 1 false:=cB underlying26 (by kernel_rfl) aiu (by decide)
theorem alq:cr prog 26 2 2 1 false:=cB underlying26 (by kernel_rfl) aiv (by decide)
theorem anZ:TyS prog 27 3 true:=⟨sizeOf27,isAgg27⟩
theorem arf:ja prog 27 [zS0,zS0,zS0] [(0,1),(1,1),(2,1)]:=kZ zeroValue27 underlying27 (λw=>by kernel_rfl)
theorem alr:cZ prog 27 0 0:=⟨λa w=>by kernel_rfl⟩
theorem als:cZ prog 27 1 1:=⟨λa w=>by kernel_rfl⟩
theorem alu:cZ prog 27 2 2:=⟨λa w=>by kernel_rfl⟩
theorem alv:cr prog 27 0 0 1 false:=cB underlying27 (by kernel_rfl) agj (by decide)
theorem alw:cr prog 27 1 1 1 false:=cB underlying27 (by kernel_rfl) aiu (by decide)
theorem alx:cr prog 27 2 2 1 false:=cB underlying27 (by kernel_rfl) aiv (by decide)
theorem ty28:TyS prog 28 1 false:=⟨sizeOf28,isAgg28⟩
theorem ty32:TyS prog 32 1 false:=⟨sizeOf32,isAgg32⟩
theorem sl32:SlS prog 32 27 3:=⟨underlying32,sizeOf27⟩
theorem arh:qa prog 32 27 3 72:=⟨underlying32,(by obtain⟨i,h1,h2,h3,h4⟩:=info_parts (by kernel_rfl:(prog.info? 27).map (λi=>(i.zero,i.size,i.bytes))=some (some (.agg #[zS0,zS0,zS0]),3,72));exact⟨i,_,h1,h2,h3,h4,rfl⟩),by decide⟩
theorem ari:pJ prog 32 27 3 [zS0,zS0,zS0]:=⟨underlying32,sizeOf27,anC,rfl⟩
theorem ty34:TyS prog 34 1 false:=⟨sizeOf34,isAgg34⟩
theorem an0:TyS prog 43 1 false:=⟨sizeOf43,isAgg43⟩
theorem sl43:SlS prog 43 93 2:=⟨underlying43,sizeOf93⟩
theorem arj:qa prog 43 93 2 16:=⟨underlying43,(by obtain⟨i,h1,h2,h3,h4⟩:=info_parts (by kernel_rfl:(prog.info? 93).map (λi=>(i.zero,i.size,i.bytes))=some (some (.agg #[zI0,.bool false]),2,16));exact⟨i,_,h1,h2,h3,h4,rfl⟩),by decide⟩
theorem ark:pJ prog 43 93 2 [zI0,.bool false]:=⟨underlying43,sizeOf93,anI,rfl⟩
theorem ty45:TyS prog 45 2 true:=⟨sizeOf45,isAgg45⟩
theorem arl:ja prog 45 [zS0,zS0] [(0,1),(1,1)]:=kZ zeroValue45 underlying45 (λw=>by kernel_rfl)
theorem aly:cZ prog 45 0 0:=⟨λa w=>by kernel_rfl⟩
theorem alz:cZ prog 45 1 1:=⟨λa w=>by kernel_rfl⟩
theorem alA:cr prog 45 0 0 1 false:=cB underlying45 (by kernel_rfl) an0 (by decide)
theorem alB:cr prog 45 1 1 1 false:=cB underlying45 (by kernel_rfl) agj (by decide)
theorem agk:TyS prog 48 1 false:=⟨sizeOf48,isAgg48⟩
theorem sl48:SlS prog 48 91 3:=⟨underlying48,sizeOf91⟩
theorem arn:qa prog 48 91 3 24:=⟨underlying48,(by obtain⟨i,h1,h2,h3,h4⟩:=info_parts (by kernel_rfl:(prog.info? 91).map (λi=>(i.zero,i.size,i.bytes))=some (some (.agg #[zI0,zI0,zI0]),3,24));exact⟨i,_,h1,h2,h3,h4,rfl⟩),by decide⟩
theorem aro:pJ prog 48 91 3 [zI0,zI0,zI0]:=⟨underlying48,sizeOf91,anH,rfl⟩
theorem an1:TyS prog 49 1 false:=⟨sizeOf49,isAgg49⟩
theorem sl49:SlS prog 49 66 5:=⟨underlying49,sizeOf66⟩
theorem arp:qa prog 49 66 5 72:=⟨underlying49,(by obtain⟨i,h1,h2,h3,h4⟩:=info_parts (by kernel_rfl:(prog.info? 66).map (λi=>(i.zero,i.size,i.bytes))=some (some (.agg #[zI0,zI0,.bool false,zS0,zS0]),5,72));exact⟨i,_,h1,h2,h3,h4,rfl⟩),by decide⟩
theorem arq:pJ prog 49 66 5 [zI0,zI0,.bool false,zS0,zS0]:=⟨underlying49,sizeOf66,anE,rfl⟩
theorem aix:TyS prog 51 1 true:=⟨sizeOf51,isAgg51⟩
theorem ars:ja prog 51 [zS0] [(0,1)]:=kZ zeroValue51 underlying51 (λw=>by kernel_rfl)
theorem alC:cZ prog 51 0 0:=⟨λa w=>by kernel_rfl⟩
theorem alD:cr prog 51 0 0 1 false:=cB underlying51 (by kernel_rfl) an1 (by decide)
theorem ty53:TyS prog 53 5 true:=⟨sizeOf53,isAgg53⟩
theorem art:ja prog 53 [zI0,zI0,.bool false,zS0,zS0] [(0,1),(1,1),(2,1),(3,1),(4,1)]:=kZ zeroValue53 underlying53 (λw=>by kernel_rfl)
theorem alF:cZ prog 53 0 0:=⟨λa w=>by kernel_rfl⟩
theorem alG:cZ prog 53 1 1:=⟨λa w=>by kernel_rfl⟩
theorem alH:cZ prog 53 2 2:=⟨λa w=>by kernel_rfl⟩
theorem alI:cZ prog 53 3 3:=⟨λa w=>by kernel_rfl⟩
theorem alJ:cZ prog 53 4 4:=⟨λa w=>by kernel_rfl⟩
theorem alK:cr prog 53 0 0 1 false:=cB underlying53 (by kernel_rfl) ty3 (by decide)
theorem alL:cr prog 53 1 1 1 false:=cB underlying53 (by kernel_rfl) ty3 (by decide)
theorem alM:cr prog 53 2 2 1 false:=cB underlying53 (by kernel_rfl) ty4 (by decide)
theorem alN:cr prog 53 3 3 1 false:=cB underlying53 (by kernel_rfl) agk (by decide)
theorem alO:cr prog 53 4 4 1 true:=cB underlying53 (by kernel_rfl) aix (by decide)
theorem an2:TyS prog 58 1 false:=⟨sizeOf58,isAgg58⟩
theorem sl58:SlS prog 58 129 2:=⟨underlying58,sizeOf129⟩
theorem aru:qa prog 58 129 2 16:=⟨underlying58,(by obtain⟨i,h1,h2,h3,h4⟩:=info_parts (by kernel_rfl:(prog.info? 129).map (λi=>(i.zero,i.size,i.bytes))=some (some (.agg #[zI0,zI0]),2,16));exact⟨i,_,h1,h2,h3,h4,rfl⟩),by decide⟩
theorem arv:pJ prog 58 129 2 [zI0,zI0]:=⟨underlying58,sizeOf129,ajV,rfl⟩
theorem ty60:TyS prog 60 2 true:=⟨sizeOf60,isAgg60⟩
theorem arw:ja prog 60 [zS0,zS0] [(0,1),(1,1)]:=kZ zeroValue60 underlying60 (λw=>by kernel_rfl)
theorem alP:cZ prog 60 0 0:=⟨λa w=>by kernel_rfl⟩
theorem alQ:cZ prog 60 1 1:=⟨λa w=>by kernel_rfl⟩
theorem alR:cr prog 60 0 0 1 false:=cB underlying60 (by kernel_rfl) an2 (by decide)
theorem alS:cr prog 60 1 1 1 false:=cB underlying60 (by kernel_rfl) ait (by decide)
theorem aiy:TyS prog 64 1 false:=⟨sizeOf64,isAgg64⟩
theorem sl64:SlS prog 64 105 3:=⟨underlying64,sizeOf105⟩
theorem arx:qa prog 64 105 3 24:=⟨underlying64,(by obtain⟨i,h1,h2,h3,h4⟩:=info_parts (by kernel_rfl:(prog.info? 105).map (λi=>(i.zero,i.size,i.bytes))=some (some (.agg #[zI0,zI0,zI0]),3,24));exact⟨i,_,h1,h2,h3,h4,rfl⟩),by decide⟩
theorem ary:pJ prog 64 105 3 [zI0,zI0,zI0]:=⟨underlying64,sizeOf105,ajU,rfl⟩
theorem ty65:TyS prog 65 5 true:=⟨sizeOf65,isAgg65⟩
theorem arz:ja prog 65 [zI0,zI0,.bool false,zS0,zS0] [(0,1),(1,1),(2,1),(3,1),(4,1)]:=kZ zeroValue65 underlying65 (λw=>by kernel_rfl)
theorem alT:cZ prog 65 0 0:=⟨λa w=>by kernel_rfl⟩
theorem alU:cZ prog 65 1 1:=⟨λa w=>by kernel_rfl⟩
theorem alV:cZ prog 65 2 2:=⟨λa w=>by kernel_rfl⟩
theorem alW:cZ prog 65 3 3:=⟨λa w=>by kernel_rfl⟩
theorem alX:cZ prog 65 4 4:=⟨λa w=>by kernel_rfl⟩
theorem alY:cr prog 65 0 0 1 false:=cB underlying65 (by kernel_rfl) ty3 (by decide)
theorem alZ:cr prog 65 1 1 1 false:=cB underlying65 (by kernel_rfl) ty3 (by decide)
theorem al0:cr prog 65 2 2 1 false:=cB underlying65 (by kernel_rfl) ty4 (by decide)
theorem al1:cr prog 65 3 3 1 false:=cB underlying65 (by kernel_rfl) aiy (by decide)
theorem al2:cr prog 65 4 4 1 false:=cB underlying65 (by kernel_rfl) agk (by decide)
theorem ty66:TyS prog 66 5 true:=⟨sizeOf66,isAgg66⟩
theorem arA:ja prog 66 [zI0,zI0,.bool false,zS0,zS0] [(0,1),(1,1),(2,1),(3,1),(4,1)]:=kZ zeroValue66 underlying66 (λw=>by kernel_rfl)
theorem al3:cZ prog 66 0 0:=⟨λa w=>by kernel_rfl⟩
theorem al4:cZ prog 66 1 1:=⟨λa w=>by kernel_rfl⟩
theorem al5:cZ prog 66 2 2:=⟨λa w=>by kernel_rfl⟩
theorem al6:cZ prog 66 3 3:=⟨λa w=>by kernel_rfl⟩
theorem al7:cZ prog 66 4 4:=⟨λa w=>by kernel_rfl⟩
theorem al8:cr prog 66 0 0 1 false:=cB underlying66 (by kernel_rfl) ty3 (by decide)
theorem al9:cr prog 66 1 1 1 false:=cB underlying66 (by kernel_rfl) ty3 (by decide)
theorem ama:cr prog 66 2 2 1 false:=cB underlying66 (by kernel_rfl) ty4 (by decide)
theorem amb:cr prog 66 3 3 1 false:=cB underlying66 (by kernel_rfl) aiy (by decide)
theorem amc:cr prog 66 4 4 1 false:=cB underlying66 (by kernel_rfl) agk (by decide)
theorem ty69:TyS prog 69 1 false:=⟨sizeOf69,isAgg69⟩
theorem ty75:TyS prog 75 3 true:=⟨sizeOf75,isAgg75⟩
theorem arB:ja prog 75 [zI0,zI0,zS0] [(0,1),(1,1),(2,1)]:=kZ zeroValue75 underlying75 (λw=>by kernel_rfl)
theorem amd:cZ prog 75 0 0:=⟨λa w=>by kernel_rfl⟩
theorem ame:cZ prog 75 1 1:=⟨λa w=>by kernel_rfl⟩
theorem amf:cZ prog 75 2 2:=⟨λa w=>by kernel_rfl⟩
theorem amg:cr prog 75 0 0 1 false:=cB underlying75 (by kernel_rfl) ty3 (by decide)
theorem amh:cr prog 75 1 1 1 false:=cB underlying75 (by kernel_rfl) ty3 (by decide)
theorem ami:cr prog 75 2 2 1 true:=cB underlying75 (by kernel_rfl) aix (by decide)
theorem ty83:TyS prog 83 2 true:=⟨sizeOf83,isAgg83⟩
theorem arC:ja prog 83 [zS0,zI0] [(0,1),(1,1)]:=kZ zeroValue83 underlying83 (λw=>by kernel_rfl)
theorem amj:cZ prog 83 0 0:=⟨λa w=>by kernel_rfl⟩
theorem amk:cZ prog 83 1 1:=⟨λa w=>by kernel_rfl⟩
theorem aml:cr prog 83 0 0 1 false:=cB underlying83 (by kernel_rfl) ait (by decide)
theorem amm:cr prog 83 1 1 1 false:=cB underlying83 (by kernel_rfl) ty3 (by decide)
theorem ty84:TyS prog 84 1 false:=⟨sizeOf84,isAgg84⟩
theorem ty86:TyS prog 86 5 true:=⟨sizeOf86,isAgg86⟩
theorem arD:ja prog 86 [zI0,zI0,zI0,zI0,zI0] [(0,1),(1,1),(2,1),(3,1),(4,1)]:=kZ zeroValue86 underlying86 (λw=>by kernel_rfl)
theorem amn:cZ prog 86 0 0:=⟨λa w=>by kernel_rfl⟩
theorem amo:cZ prog 86 1 1:=⟨λa w=>by kernel_rfl⟩
theorem amp:cZ prog 86 2 2:=⟨λa w=>by kernel_rfl⟩
theorem amq:cZ prog 86 3 3:=⟨λa w=>by kernel_rfl⟩
theorem amr:cZ prog 86 4 4:=⟨λa w=>by kernel_rfl⟩
theorem ams:cr prog 86 0 0 1 false:=cB underlying86 (by kernel_rfl) ty3 (by decide)
theorem amt:cr prog 86 1 1 1 false:=cB underlying86 (by kernel_rfl) ty3 (by decide)
theorem amu:cr prog 86 2 2 1 false:=cB underlying86 (by kernel_rfl) ty3 (by decide)
theorem amv:cr prog 86 3 3 1 false:=cB underlying86 (by kernel_rfl) ty3 (by decide)
theorem amw:cr prog 86 4 4 1 false:=cB underlying86 (by kernel_rfl) ty3 (by decide)
theorem an3:TyS prog 91 3 true:=⟨sizeOf91,isAgg91⟩
theorem arE:ja prog 91 [zI0,zI0,zI0] [(0,1),(1,1),(2,1)]:=kZ zeroValue91 underlying91 (λw=>by kernel_rfl)
theorem amx:cZ prog 91 0 0:=⟨λa w=>by kernel_rfl⟩
theorem amy:cZ prog 91 1 1:=⟨λa w=>by kernel_rfl⟩
theorem amz:cZ prog 91 2 2:=⟨λa w=>by kernel_rfl⟩
theorem amA:cr prog 91 0 0 1 false:=cB underlying91 (by kernel_rfl) ty3 (by decide)
theorem amB:cr prog 91 1 1 1 false:=cB underlying91 (by kernel_rfl) ty3 (by decide)
theorem amC:cr prog 91 2 2 1 false:=cB underlying91 (by kernel_rfl) ty3 (by decide)
theorem arF(a0 b0:Int)(a1 b1:Int)(a2 b2:Int)(w:World):(Op.eqFields 9999 #[.int .i64 a0,.int .i64 a1,.int .i64 a2] #[.int .i64 b0,.int .i64 b1,.int .i64 b2] (prog.fieldsOf 91).toList).run prog w=.ok (decide (a0=b0)&&(decide (a1=b1)&&(decide (a2=b2)&&true))) w:=by
 have hf:(prog.fieldsOf 91).toList.map (λf=>(f.name== "_",f.type,f.offset))=[(false,3,0),(false,3,1),(false,3,2)]:=by kernel_rfl
 have q:(Op.eqFields 9999 #[.int .i64 a0,.int .i64 a1,.int .i64 a2] #[.int .i64 b0,.int .i64 b1,.int .i64 b2] (prog.fieldsOf 91).toList).run prog w=.ok (decide (a0=b0)&&(decide (a1=b1)&&(decide (a2=b2)&&true))) w:=by
  obtain⟨f0,t0,e0,h0,hf⟩:=pg hf
  obtain⟨f1,t1,e1,h1,hf⟩:=pg hf
  obtain⟨f2,t2,e2,h2,hf⟩:=pg hf
  rw[e0,e1,e2,abI hf]
  exact vg h0 isAgg3 underlying3 rfl rfl (vg h1 isAgg3 underlying3 rfl rfl (vg h2 isAgg3 underlying3 rfl rfl (afD)))
 exact q
theorem aiz(x y:Operand)(a0 b0:Int)(a1 b1:Int)(a2 b2:Int)(w:World):(do eqGuard .neq 91 x y (.agg #[.int .i64 a0,.int .i64 a1,.int .i64 a2]) (.agg #[.int .i64 b0,.int .i64 b1,.int .i64 b2]);binOp .neq 91 (.agg #[.int .i64 a0,.int .i64 a1,.int .i64 a2]) (.agg #[.int .i64 b0,.int .i64 b1,.int .i64 b2]):Sem Value).run prog w=.ok (.bool (!(decide (a0=b0)&&(decide (a1=b1)&&(decide (a2=b2)&&true))))) w:=afE _ _ _ x y (by kernel_rfl) (by kernel_rfl) (by kernel_rfl) (arF a0 b0 a1 b1 a2 b2 w)
theorem ty93:TyS prog 93 2 true:=⟨sizeOf93,isAgg93⟩
theorem arG:ja prog 93 [zI0,.bool false] [(0,1),(1,1)]:=kZ zeroValue93 underlying93 (λw=>by kernel_rfl)
theorem amD:cZ prog 93 0 0:=⟨λa w=>by kernel_rfl⟩
theorem amE:cZ prog 93 1 1:=⟨λa w=>by kernel_rfl⟩
theorem amF:cr prog 93 0 0 1 false:=cB underlying93 (by kernel_rfl) ty3 (by decide)
theorem amG:cr prog 93 1 1 1 false:=cB underlying93 (by kernel_rfl) ty4 (by decide)
theorem ty94:TyS prog 94 1 false:=⟨sizeOf94,isAgg94⟩
theorem ty97:TyS prog 97 3 true:=⟨sizeOf97,isAgg97⟩
theorem arH:ja prog 97 [zS0,zS0,zS0] [(0,3)]:=kZ zeroValue97 underlying97 (λw=>by kernel_rfl)
theorem amH:cZ prog 97 0 0:=⟨λa w=>by kernel_rfl⟩
theorem amI:cr prog 97 0 0 3 true:=cB underlying97 (by kernel_rfl) anZ (by decide)
theorem ty98:TyS prog 98 1 false:=⟨sizeOf98,isAgg98⟩
theorem sl98:SlS prog 98 1 1:=⟨underlying98,sizeOf1⟩
theorem arI:qa prog 98 1 1 8:=⟨underlying98,(by obtain⟨i,h1,h2,h3,h4⟩:=info_parts (by kernel_rfl:(prog.info? 1).map (λi=>(i.zero,i.size,i.bytes))=some (some (.nilFunc),1,8));exact⟨i,_,h1,h2,h3,h4,rfl⟩),by decide⟩
theorem arJ:pJ prog 98 1 1 [.nilFunc]:=⟨underlying98,sizeOf1,ze1,rfl⟩
theorem arK:TyS prog 105 3 true:=⟨sizeOf105,isAgg105⟩
theorem an4:ja prog 105 [zI0,zI0,zI0] [(0,1),(1,1),(2,1)]:=kZ zeroValue105 underlying105 (λw=>by kernel_rfl)
theorem aiA:cZ prog 105 0 0:=⟨λa w=>by kernel_rfl⟩
theorem aiB:cZ prog 105 1 1:=⟨λa w=>by kernel_rfl⟩
theorem aiC:cZ prog 105 2 2:=⟨λa w=>by kernel_rfl⟩
theorem aiD:cr prog 105 0 0 1 false:=cB underlying105 (by kernel_rfl) ty3 (by decide)
theorem aiE:cr prog 105 1 1 1 false:=cB underlying105 (by kernel_rfl) ty3 (by decide)
theorem aiF:cr prog 105 2 2 1 false:=cB underlying105 (by kernel_rfl) ty3 (by decide)
theorem an5(a0 b0:Int)(a1 b1:Int)(a2 b2:Int)(w:World):(Op.eqFields 9999 #[.int .i64 a0,.int .i64 a1,.int .i64 a2] #[.int .i64 b0,.int .i64 b1,.int .i64 b2] (prog.fieldsOf 105).toList).run prog w=.ok (decide (a0=b0)&&(decide (a1=b1)&&(decide (a2=b2)&&true))) w:=by
 have hf:(prog.fieldsOf 105).toList.map (λf=>(f.name== "_",f.type,f.offset))=[(false,3,0),(false,3,1),(false,3,2)]:=by kernel_rfl
 have q:(Op.eqFields 9999 #[.int .i64 a0,.int .i64 a1,.int .i64 a2] #[.int .i64 b0,.int .i64 b1,.int .i64 b2] (prog.fieldsOf 105).toList).run prog w=.ok (decide (a0=b0)&&(decide (a1=b1)&&(decide (a2=b2)&&true))) w:=by
  obtain⟨f0,t0,e0,h0,hf⟩:=pg hf
  obtain⟨f1,t1,e1,h1,hf⟩:=pg hf
  obtain⟨f2,t2,e2,h2,hf⟩:=pg hf
  rw[e0,e1,e2,abI hf]
  exact vg h0 isAgg3 underlying3 rfl rfl (vg h1 isAgg3 underlying3 rfl rfl (vg h2 isAgg3 underlying3 rfl rfl (afD)))
 exact q
theorem ahm(x y:Operand)(a0 b0:Int)(a1 b1:Int)(a2 b2:Int)(w:World):(do eqGuard .neq 105 x y (.agg #[.int .i64 a0,.int .i64 a1,.int .i64 a2]) (.agg #[.int .i64 b0,.int .i64 b1,.int .i64 b2]);binOp .neq 105 (.agg #[.int .i64 a0,.int .i64 a1,.int .i64 a2]) (.agg #[.int .i64 b0,.int .i64 b1,.int .i64 b2]):Sem Value).run prog w=.ok (.bool (!(decide (a0=b0)&&(decide (a1=b1)&&(decide (a2=b2)&&true))))) w:=afE _ _ _ x y (by kernel_rfl) (by kernel_rfl) (by kernel_rfl) (an5 a0 b0 a1 b1 a2 b2 w)
theorem arL:TyS prog 113 1 false:=⟨sizeOf113,isAgg113⟩
theorem arM:TyS prog 121 1 false:=⟨sizeOf121,isAgg121⟩
theorem arN:TyS prog 129 2 true:=⟨sizeOf129,isAgg129⟩
theorem an6:ja prog 129 [zI0,zI0] [(0,1),(1,1)]:=kZ zeroValue129 underlying129 (λw=>by kernel_rfl)
theorem aiG:cZ prog 129 0 0:=⟨λa w=>by kernel_rfl⟩
theorem aiH:cZ prog 129 1 1:=⟨λa w=>by kernel_rfl⟩
theorem aiI:cr prog 129 0 0 1 false:=cB underlying129 (by kernel_rfl) ty3 (by decide)
theorem aiJ:cr prog 129 1 1 1 false:=cB underlying129 (by kernel_rfl) ty3 (by decide)
theorem arO:TyS prog 132 1 false:=⟨sizeOf132,isAgg132⟩
theorem arP:TyS prog 133 1 false:=⟨sizeOf133,isAgg133⟩
theorem arQ:TyS prog 150 1 false:=⟨sizeOf150,isAgg150⟩
theorem arR:TyS prog 152 1 false:=⟨sizeOf152,isAgg152⟩
theorem arS:TyS prog 154 1 false:=⟨sizeOf154,isAgg154⟩
theorem arT:TyS prog 155 1 false:=⟨sizeOf155,isAgg155⟩
theorem arU:TyS prog 158 1 false:=⟨sizeOf158,isAgg158⟩
theorem arV:TyS prog 161 1 false:=⟨sizeOf161,isAgg161⟩
theorem arW:SlS prog 161 164 4:=⟨underlying161,sizeOf164⟩
theorem an7:qa prog 161 164 4 32:=⟨underlying161,(by obtain⟨i,h1,h2,h3,h4⟩:=info_parts (by kernel_rfl:(prog.info? 164).map (λi=>(i.zero,i.size,i.bytes))=some (some (.agg #[zI0,zI0,zI0,zI0]),4,32));exact⟨i,_,h1,h2,h3,h4,rfl⟩),by decide⟩
theorem an8:pJ prog 161 164 4 [zI0,zI0,zI0,zI0]:=⟨underlying161,sizeOf164,ajW,rfl⟩
theorem arX:TyS prog 164 4 true:=⟨sizeOf164,isAgg164⟩
theorem an9:ja prog 164 [zI0,zI0,zI0,zI0] [(0,1),(1,3)]:=kZ zeroValue164 underlying164 (λw=>by kernel_rfl)
theorem aiK:cZ prog 164 0 0:=⟨λa w=>by kernel_rfl⟩
theorem aiL:cZ prog 164 1 1:=⟨λa w=>by kernel_rfl⟩
theorem aiM:cr prog 164 0 0 1 false:=cB underlying164 (by kernel_rfl) ty3 (by decide)
theorem aiN:cr prog 164 1 1 3 true:=cB underlying164 (by kernel_rfl) an3 (by decide)
theorem arY:TyS prog 165 1 false:=⟨sizeOf165,isAgg165⟩
theorem arZ:TyS prog 178 1 false:=⟨sizeOf178,isAgg178⟩
theorem ar0:TyS prog 182 1 false:=⟨sizeOf182,isAgg182⟩
theorem ar1:TyS prog 187 1 false:=⟨sizeOf187,isAgg187⟩
theorem ajX:TyS prog 189 1 false:=⟨sizeOf189,isAgg189⟩
theorem ar2:SlS prog 189 5 1:=⟨underlying189,sizeOf5⟩
theorem aoa:qa prog 189 5 1 1:=⟨underlying189,(by obtain⟨i,h1,h2,h3,h4⟩:=info_parts (by kernel_rfl:(prog.info? 5).map (λi=>(i.zero,i.size,i.bytes))=some (some (.int .u8 0),1,1));exact⟨i,_,h1,h2,h3,h4,rfl⟩),by decide⟩
theorem aob:pJ prog 189 5 1 [.int .u8 0]:=⟨underlying189,sizeOf5,ze5,rfl⟩
theorem ar3:TyS prog 193 1 false:=⟨sizeOf193,isAgg193⟩
theorem ar4:TyS prog 201 1 false:=⟨sizeOf201,isAgg201⟩
theorem ar5:TyS prog 203 1 false:=⟨sizeOf203,isAgg203⟩
theorem ajY:TyS prog 208 2 true:=⟨sizeOf208,isAgg208⟩
theorem aoc:ja prog 208 [zS0,zI0] [(0,1),(1,1)]:=kZ zeroValue208 underlying208 (λw=>by kernel_rfl)
theorem aiO:cZ prog 208 0 0:=⟨λa w=>by kernel_rfl⟩
theorem aiP:cZ prog 208 1 1:=⟨λa w=>by kernel_rfl⟩
theorem aiQ:cr prog 208 0 0 1 false:=cB underlying208 (by kernel_rfl) ajX (by decide)
theorem aiR:cr prog 208 1 1 1 false:=cB underlying208 (by kernel_rfl) ty3 (by decide)
theorem ar6:TyS prog 221 2 true:=⟨sizeOf221,isAgg221⟩
theorem aod:ja prog 221 [zS0,zI0] [(0,2)]:=kZ zeroValue221 underlying221 (λw=>by kernel_rfl)
theorem aiS:cZ prog 221 0 0:=⟨λa w=>by kernel_rfl⟩
theorem aiT:cr prog 221 0 0 2 true:=cB underlying221 (by kernel_rfl) ajY (by decide)
theorem ar7:TyS prog 231 1 false:=⟨sizeOf231,isAgg231⟩
theorem ar8:TyS prog 235 1 false:=⟨sizeOf235,isAgg235⟩
end Go.Proofs.YtjdopimopgpagaaGreat
