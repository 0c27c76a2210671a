/- gw types of this apa, as aR rules want AL. bM bN. -/
import Derived.Test.YtmnbolcmepihlaaGreatAB
import Derived.Test.YtmnbolcmepihlaaGreatRows
import Derived.OwnWalk
namespace Go.Proofs.YtmnbolcmepihlaaGreat
set_option linter.all false
abbrev zI0:Value:=.int .i64 0
abbrev zS0:Value:=.slice none 0 0
open Go Go.Proofs.Tryz
set_option maxRecDepth 100000
abbrev fs(i:Nat)(c:List Value):Prop:=∀w,∃z,(zeroValue i).run prog w=.ok z w∧z.cells=c.toArray
theorem aho:prog.follows .mixedOrders=true:=by kernel_rfl
theorem alI:fs 2 [zI0]:=λw=>⟨_,zeroValue2 w,rfl⟩
theorem UG:fs 3 [zI0]:=λw=>⟨_,zeroValue3 w,rfl⟩
theorem UH:fs 4 [.bool false]:=λw=>⟨_,zeroValue4 w,rfl⟩
theorem alW:fs 5 [.int .u8 0]:=λw=>⟨_,zeroValue5 w,rfl⟩
theorem alY:fs 6 [.int .u8 0]:=λw=>⟨_,zeroValue6 w,rfl⟩
theorem alZ:fs 7 [zI0,zI0,.bool false,.int .u8 0]:=λw=>⟨_,zeroValue7 w,rfl⟩
theorem al0:fs 8 [zI0,zI0,.bool false,.int .u8 0]:=λw=>⟨_,zeroValue8 w,rfl⟩
theorem al1:fs 9 [.string ⟨#[]⟩]:=λw=>⟨_,zeroValue9 w,rfl⟩
theorem aly:fs 10 [.string ⟨#[]⟩]:=λw=>⟨_,zeroValue10 w,rfl⟩
theorem alz:fs 11 [.string ⟨#[]⟩]:=λw=>⟨_,zeroValue11 w,rfl⟩
theorem alA:fs 12 [.int .u64 0]:=λw=>⟨_,zeroValue12 w,rfl⟩
theorem alB:fs 13 [.string ⟨#[]⟩,.int .u64 0]:=λw=>⟨_,zeroValue13 w,rfl⟩
theorem alC:fs 14 [.string ⟨#[]⟩,.int .u64 0]:=λw=>⟨_,zeroValue14 w,rfl⟩
theorem alD:fs 15 [.pointer none]:=λw=>⟨_,zeroValue15 w,rfl⟩
theorem alE:fs 16 [.pointer none]:=λw=>⟨_,zeroValue16 w,rfl⟩
theorem alF:fs 17 [.pointer none]:=λw=>⟨_,zeroValue17 w,rfl⟩
theorem alG:fs 18 [.pointer none]:=λw=>⟨_,zeroValue18 w,rfl⟩
theorem alH:fs 19 [.pointer none]:=λw=>⟨_,zeroValue19 w,rfl⟩
theorem alJ:fs 21 [.int .i32 0]:=λw=>⟨_,zeroValue21 w,rfl⟩
theorem alK:fs 22 [zS0]:=λw=>⟨_,zeroValue22 w,rfl⟩
theorem alL:fs 23 [.pointer none]:=λw=>⟨_,zeroValue23 w,rfl⟩
theorem alM:fs 25 [zS0]:=λw=>⟨_,zeroValue25 w,rfl⟩
theorem alN:fs 26 [zS0]:=λw=>⟨_,zeroValue26 w,rfl⟩
theorem alO:fs 27 [zS0,zS0]:=λw=>⟨_,zeroValue27 w,rfl⟩
theorem alP:fs 28 [zS0,zS0]:=λw=>⟨_,zeroValue28 w,rfl⟩
theorem alQ:fs 30 [zI0,.bool false]:=λw=>⟨_,zeroValue30 w,rfl⟩
theorem Qc:fs 31 [zI0,.bool false]:=λw=>⟨_,zeroValue31 w,rfl⟩
theorem alR:fs 34 [zS0]:=λw=>⟨_,zeroValue34 w,rfl⟩
theorem alS:fs 35 [zI0,zS0]:=λw=>⟨_,zeroValue35 w,rfl⟩
theorem Qd:fs 36 [zI0,zS0]:=λw=>⟨_,zeroValue36 w,rfl⟩
theorem alT:fs 37 [zI0]:=λw=>⟨_,zeroValue37 w,rfl⟩
theorem alU:fs 46 [zS0]:=λw=>⟨_,zeroValue46 w,rfl⟩
theorem alV:fs 48 [zS0]:=λw=>⟨_,zeroValue48 w,rfl⟩
theorem Qe:fs 52 [zI0,zS0,zI0]:=λw=>⟨_,zeroValue52 w,rfl⟩
theorem alX:fs 53 [zS0]:=λw=>⟨_,zeroValue53 w,rfl⟩
theorem Qf:fs 60 [zI0,zI0,zI0]:=λw=>⟨_,zeroValue60 w,rfl⟩
theorem Qg:fs 62 [zI0,zI0,zI0,zI0,zI0]:=λw=>⟨_,zeroValue62 w,rfl⟩
theorem Qh:fs 84 [zI0,zI0]:=λw=>⟨_,zeroValue84 w,rfl⟩
theorem ab3:fs 103 [zS0,zI0]:=λw=>⟨_,zeroValue103 w,rfl⟩
theorem acS:fs 105 [zS0]:=λw=>⟨_,zeroValue105 w,rfl⟩
theorem Pg:fs 106 [zS0]:=λw=>⟨_,zeroValue106 w,rfl⟩
theorem acT:fs 111 [zS0]:=λw=>⟨_,zeroValue111 w,rfl⟩
theorem acU:fs 125 [.map none]:=λw=>⟨_,zeroValue125 w,rfl⟩
theorem acV:fs 126 [.map none]:=λw=>⟨_,zeroValue126 w,rfl⟩
theorem Ph:fs 144 [.map none]:=λw=>⟨_,zeroValue144 w,rfl⟩
theorem acW:fs 158 [.nilFunc]:=λw=>⟨_,zeroValue158 w,rfl⟩
theorem acX:fs 161 [.pointer none]:=λw=>⟨_,zeroValue161 w,rfl⟩
theorem acY:fs 162 [zS0]:=λw=>⟨_,zeroValue162 w,rfl⟩
theorem acZ:fs 163 [zS0]:=λw=>⟨_,zeroValue163 w,rfl⟩
theorem ac0:fs 165 [zS0,zS0,zS0]:=λw=>⟨_,zeroValue165 w,rfl⟩
theorem Pj:fs 166 [.map none]:=λw=>⟨_,zeroValue166 w,rfl⟩
theorem ac1:fs 169 [zI0,zI0]:=λw=>⟨_,zeroValue169 w,rfl⟩
theorem ac2:fs 172 [.nilFunc]:=λw=>⟨_,zeroValue172 w,rfl⟩
theorem Pk:fs 175 [zI0,zI0,zI0]:=λw=>⟨_,zeroValue175 w,rfl⟩
theorem ac3:fs 177 [.nilFunc]:=λw=>⟨_,zeroValue177 w,rfl⟩
theorem ac4:fs 178 [.int .u64 0]:=λw=>⟨_,zeroValue178 w,rfl⟩
theorem ac5:fs 182 [.nilFunc]:=λw=>⟨_,zeroValue182 w,rfl⟩
theorem ac6:fs 185 [.nilFunc]:=λw=>⟨_,zeroValue185 w,rfl⟩
theorem ac7:fs 187 [.nilFunc]:=λw=>⟨_,zeroValue187 w,rfl⟩
theorem ac8:fs 188 [.nilFunc]:=λw=>⟨_,zeroValue188 w,rfl⟩
theorem ac9:fs 190 [.nilFunc]:=λw=>⟨_,zeroValue190 w,rfl⟩
theorem ada:fs 191 [.map none]:=λw=>⟨_,zeroValue191 w,rfl⟩
theorem ade:fs 198 [.nilFunc]:=λw=>⟨_,zeroValue198 w,rfl⟩
theorem adf:fs 245 [zI0]:=λw=>⟨_,zeroValue245 w,rfl⟩
theorem adg:fs 252 [.int .u32 0]:=λw=>⟨_,zeroValue252 w,rfl⟩
theorem adh:fs 254 [.int .u64 0]:=λw=>⟨_,zeroValue254 w,rfl⟩
theorem Lw:dM prog 2 1 false:=⟨sizeOf2,isAgg2⟩
theorem ll:dM prog 3 1 false:=⟨sizeOf3,isAgg3⟩
theorem Dl:dM prog 4 1 false:=⟨sizeOf4,isAgg4⟩
theorem akH:dM prog 5 1 false:=⟨sizeOf5,isAgg5⟩
theorem Lx:dM prog 6 1 false:=⟨sizeOf6,isAgg6⟩
theorem akM:dM prog 7 4 true:=⟨sizeOf7,isAgg7⟩
theorem aju:j0 prog 7 [zI0,zI0,.bool false,.int .u8 0] [(0,1),(1,1),(2,1),(3,1)]:=mq zeroValue7 underlying7 (λw=>by kernel_rfl)
theorem ZZ:gM prog 7 0 0:=⟨λa w=>by kernel_rfl⟩
theorem Z0:gM prog 7 1 1:=⟨λa w=>by kernel_rfl⟩
theorem Z1:gM prog 7 2 2:=⟨λa w=>by kernel_rfl⟩
theorem ZD:gM prog 7 3 3:=⟨λa w=>by kernel_rfl⟩
theorem ZE:gE prog 7 0 0 1 false:=hd underlying7 (by kernel_rfl) Lw (by decide)
theorem ZF:gE prog 7 1 1 1 false:=hd underlying7 (by kernel_rfl) ll (by decide)
theorem ZG:gE prog 7 2 2 1 false:=hd underlying7 (by kernel_rfl) Dl (by decide)
theorem ZH:gE prog 7 3 3 1 false:=hd underlying7 (by kernel_rfl) Lx (by decide)
theorem akN:dM prog 8 4 true:=⟨sizeOf8,isAgg8⟩
theorem ajv:j0 prog 8 [zI0,zI0,.bool false,.int .u8 0] [(0,1),(1,1),(2,1),(3,1)]:=mq zeroValue8 underlying8 (λw=>by kernel_rfl)
theorem ZI:gM prog 8 0 0:=⟨λa w=>by kernel_rfl⟩
theorem ZJ:gM prog 8 1 1:=⟨λa w=>by kernel_rfl⟩
theorem ZK:gM prog 8 2 2:=⟨λa w=>by kernel_rfl⟩
theorem ZL:gM prog 8 3 3:=⟨λa w=>by kernel_rfl⟩
theorem ZM:gE prog 8 0 0 1 false:=hd underlying8 (by kernel_rfl) Lw (by decide)
theorem aaR:gE prog 8 1 1 1 false:=hd underlying8 (by kernel_rfl) ll (by decide)
theorem aaS:gE prog 8 2 2 1 false:=hd underlying8 (by kernel_rfl) Dl (by decide)
theorem aaT:gE prog 8 3 3 1 false:=hd underlying8 (by kernel_rfl) Lx (by decide)
theorem LA:dM prog 9 1 false:=⟨sizeOf9,isAgg9⟩
theorem ako:dM prog 10 1 false:=⟨sizeOf10,isAgg10⟩
theorem akp:dM prog 11 1 false:=⟨sizeOf11,isAgg11⟩
theorem Iz:dM prog 12 1 false:=⟨sizeOf12,isAgg12⟩
theorem akq:dM prog 13 2 true:=⟨sizeOf13,isAgg13⟩
theorem adi:j0 prog 13 [.string ⟨#[]⟩,.int .u64 0] [(0,1),(1,1)]:=mq zeroValue13 underlying13 (λw=>by kernel_rfl)
theorem Ym:gM prog 13 0 0:=⟨λa w=>by kernel_rfl⟩
theorem Yn:gM prog 13 1 1:=⟨λa w=>by kernel_rfl⟩
theorem Yo:gE prog 13 0 0 1 false:=hd underlying13 (by kernel_rfl) LA (by decide)
theorem Yp:gE prog 13 1 1 1 false:=hd underlying13 (by kernel_rfl) Iz (by decide)
theorem akr:dM prog 14 2 true:=⟨sizeOf14,isAgg14⟩
theorem acr:j0 prog 14 [.string ⟨#[]⟩,.int .u64 0] [(0,1),(1,1)]:=mq zeroValue14 underlying14 (λw=>by kernel_rfl)
theorem Yq:gM prog 14 0 0:=⟨λa w=>by kernel_rfl⟩
theorem Yr:gM prog 14 1 1:=⟨λa w=>by kernel_rfl⟩
theorem Ys:gE prog 14 0 0 1 false:=hd underlying14 (by kernel_rfl) LA (by decide)
theorem Yt:gE prog 14 1 1 1 false:=hd underlying14 (by kernel_rfl) Iz (by decide)
theorem aks:dM prog 15 1 false:=⟨sizeOf15,isAgg15⟩
theorem akt:dM prog 16 1 false:=⟨sizeOf16,isAgg16⟩
theorem IA:dM prog 17 1 false:=⟨sizeOf17,isAgg17⟩
theorem aku:dM prog 18 1 true:=⟨sizeOf18,isAgg18⟩
theorem acs:j0 prog 18 [.pointer none] [(0,1)]:=mq zeroValue18 underlying18 (λw=>by kernel_rfl)
theorem Yu:gM prog 18 0 0:=⟨λa w=>by kernel_rfl⟩
theorem Yv:gE prog 18 0 0 1 false:=hd underlying18 (by kernel_rfl) IA (by decide)
theorem akv:dM prog 19 1 true:=⟨sizeOf19,isAgg19⟩
theorem acu:j0 prog 19 [.pointer none] [(0,1)]:=mq zeroValue19 underlying19 (λw=>by kernel_rfl)
theorem Yw:gM prog 19 0 0:=⟨λa w=>by kernel_rfl⟩
theorem Yx:gE prog 19 0 0 1 false:=hd underlying19 (by kernel_rfl) IA (by decide)
theorem akw:dM prog 21 1 false:=⟨sizeOf21,isAgg21⟩
theorem IB:dM prog 22 1 false:=⟨sizeOf22,isAgg22⟩
theorem ajj:jh prog 22 3 1:=⟨underlying22,sizeOf3⟩
theorem Pl:jE prog 22 3 1 8:=⟨underlying22,(by obtain⟨i,h1,D,ak,bc⟩:=info_parts (by kernel_rfl:(prog.info? 3).map (λi=>(i.zero,i.size,i.bytes))=some (some (zI0),1,8));exact⟨i,_,h1,D,ak,bc,rfl⟩),by decide⟩
theorem acv:ku prog 22 3 1 [zI0]:=⟨underlying22,sizeOf3,UG,rfl⟩
theorem akx:dM prog 23 1 false:=⟨sizeOf23,isAgg23⟩
theorem IC:dM prog 25 1 false:=⟨sizeOf25,isAgg25⟩
theorem ajk:jh prog 25 31 2:=⟨underlying25,sizeOf31⟩
theorem acw:jE prog 25 31 2 16:=⟨underlying25,(by obtain⟨i,h1,D,ak,bc⟩:=info_parts (by kernel_rfl:(prog.info? 31).map (λi=>(i.zero,i.size,i.bytes))=some (some (.agg #[zI0,.bool false]),2,16));exact⟨i,_,h1,D,ak,bc,rfl⟩),by decide⟩
theorem acy:ku prog 25 31 2 [zI0,.bool false]:=⟨underlying25,sizeOf31,Qc,rfl⟩
theorem ID:dM prog 26 1 false:=⟨sizeOf26,isAgg26⟩
theorem ajl:jh prog 26 62 5:=⟨underlying26,sizeOf62⟩
theorem acz:jE prog 26 62 5 40:=⟨underlying26,(by obtain⟨i,h1,D,ak,bc⟩:=info_parts (by kernel_rfl:(prog.info? 62).map (λi=>(i.zero,i.size,i.bytes))=some (some (.agg #[zI0,zI0,zI0,zI0,zI0]),5,40));exact⟨i,_,h1,D,ak,bc,rfl⟩),by decide⟩
theorem acA:ku prog 26 62 5 [zI0,zI0,zI0,zI0,zI0]:=⟨underlying26,sizeOf62,Qg,rfl⟩
theorem aky:dM prog 27 2 true:=⟨sizeOf27,isAgg27⟩
theorem acB:j0 prog 27 [zS0,zS0] [(0,1),(1,1)]:=mq zeroValue27 underlying27 (λw=>by kernel_rfl)
theorem Yy:gM prog 27 0 0:=⟨λa w=>by kernel_rfl⟩
theorem Yz:gM prog 27 1 1:=⟨λa w=>by kernel_rfl⟩
theorem YA:gE prog 27 0 0 1 false:=hd underlying27 (by kernel_rfl) IC (by decide)
theorem X1:gE prog 27 1 1 1 false:=hd underlying27 (by kernel_rfl) ID (by decide)
theorem akz:dM prog 28 2 true:=⟨sizeOf28,isAgg28⟩
theorem acC:j0 prog 28 [zS0,zS0] [(0,1),(1,1)]:=mq zeroValue28 underlying28 (λw=>by kernel_rfl)
theorem X2:gM prog 28 0 0:=⟨λa w=>by kernel_rfl⟩
theorem X3:gM prog 28 1 1:=⟨λa w=>by kernel_rfl⟩
theorem X4:gE prog 28 0 0 1 false:=hd underlying28 (by kernel_rfl) IC (by decide)
theorem X5:gE prog 28 1 1 1 false:=hd underlying28 (by kernel_rfl) ID (by decide)
theorem akA:dM prog 30 2 true:=⟨sizeOf30,isAgg30⟩
theorem acD:j0 prog 30 [zI0,.bool false] [(0,1),(1,1)]:=mq zeroValue30 underlying30 (λw=>by kernel_rfl)
theorem X6:gM prog 30 0 0:=⟨λa w=>by kernel_rfl⟩
theorem X7:gM prog 30 1 1:=⟨λa w=>by kernel_rfl⟩
theorem X8:gE prog 30 0 0 1 false:=hd underlying30 (by kernel_rfl) ll (by decide)
theorem X9:gE prog 30 1 1 1 false:=hd underlying30 (by kernel_rfl) Dl (by decide)
theorem akB:dM prog 31 2 true:=⟨sizeOf31,isAgg31⟩
theorem acE:j0 prog 31 [zI0,.bool false] [(0,1),(1,1)]:=mq zeroValue31 underlying31 (λw=>by kernel_rfl)
theorem Ya:gM prog 31 0 0:=⟨λa w=>by kernel_rfl⟩
theorem Ze:gM prog 31 1 1:=⟨λa w=>by kernel_rfl⟩
theorem Zf:gE prog 31 0 0 1 false:=hd underlying31 (by kernel_rfl) ll (by decide)
theorem Zg:gE prog 31 1 1 1 false:=hd underlying31 (by kernel_rfl) Dl (by decide)
theorem IE:dM prog 34 1 false:=⟨sizeOf34,isAgg34⟩
theorem ajm:jh prog 34 84 2:=⟨underlying34,sizeOf84⟩
theorem acF:jE prog 34 84 2 16:=⟨underlying34,(by obtain⟨i,h1,D,ak,bc⟩:=info_parts (by kernel_rfl:(prog.info? 84).map (λi=>(i.zero,i.size,i.bytes))=some (some (.agg #[zI0,zI0]),2,16));exact⟨i,_,h1,D,ak,bc,rfl⟩),by decide⟩
theorem acG:ku prog 34 84 2 [zI0,zI0]:=⟨underlying34,sizeOf84,Qh,rfl⟩
theorem akC:dM prog 35 2 true:=⟨sizeOf35,isAgg35⟩
theorem acH:j0 prog 35 [zI0,zS0] [(0,1),(1,1)]:=mq zeroValue35 underlying35 (λw=>by kernel_rfl)
theorem Zh:gM prog 35 0 0:=⟨λa w=>by kernel_rfl⟩
theorem Zi:gM prog 35 1 1:=⟨λa w=>by kernel_rfl⟩
theorem Zj:gE prog 35 0 0 1 false:=hd underlying35 (by kernel_rfl) ll (by decide)
theorem Zk:gE prog 35 1 1 1 false:=hd underlying35 (by kernel_rfl) IE (by decide)
theorem akD:dM prog 36 2 true:=⟨sizeOf36,isAgg36⟩
theorem acI:j0 prog 36 [zI0,zS0] [(0,1),(1,1)]:=mq zeroValue36 underlying36 (λw=>by kernel_rfl)
theorem Zl:gM prog 36 0 0:=⟨λa w=>by kernel_rfl⟩
theorem Zm:gM prog 36 1 1:=⟨λa w=>by kernel_rfl⟩
theorem Zn:gE prog 36 0 0 1 false:=hd underlying36 (by kernel_rfl) ll (by decide)
theorem Zo:gE prog 36 1 1 1 false:=hd underlying36 (by kernel_rfl) IE (by decide)
theorem akE:dM prog 37 1 false:=⟨sizeOf37,isAgg37⟩
theorem akF:dM prog 46 1 false:=⟨sizeOf46,isAgg46⟩
theorem ajn:jh prog 46 52 3:=⟨underlying46,sizeOf52⟩
theorem acJ:jE prog 46 52 3 40:=⟨underlying46,(by obtain⟨i,h1,D,ak,bc⟩:=info_parts (by kernel_rfl:(prog.info? 52).map (λi=>(i.zero,i.size,i.bytes))=some (some (.agg #[zI0,zS0,zI0]),3,40));exact⟨i,_,h1,D,ak,bc,rfl⟩),by decide⟩
theorem acK:ku prog 46 52 3 [zI0,zS0,zI0]:=⟨underlying46,sizeOf52,Qe,rfl⟩
theorem akG:dM prog 48 1 false:=⟨sizeOf48,isAgg48⟩
theorem ajo:jh prog 48 36 2:=⟨underlying48,sizeOf36⟩
theorem Pm:jE prog 48 36 2 32:=⟨underlying48,(by obtain⟨i,h1,D,ak,bc⟩:=info_parts (by kernel_rfl:(prog.info? 36).map (λi=>(i.zero,i.size,i.bytes))=some (some (.agg #[zI0,zS0]),2,32));exact⟨i,_,h1,D,ak,bc,rfl⟩),by decide⟩
theorem Pn:ku prog 48 36 2 [zI0,zS0]:=⟨underlying48,sizeOf36,Qd,rfl⟩
theorem akI:dM prog 52 3 true:=⟨sizeOf52,isAgg52⟩
theorem acL:j0 prog 52 [zI0,zS0,zI0] [(0,1),(1,1),(2,1)]:=mq zeroValue52 underlying52 (λw=>by kernel_rfl)
theorem Zp:gM prog 52 0 0:=⟨λa w=>by kernel_rfl⟩
theorem Zq:gM prog 52 1 1:=⟨λa w=>by kernel_rfl⟩
theorem Zr:gM prog 52 2 2:=⟨λa w=>by kernel_rfl⟩
theorem Zs:gE prog 52 0 0 1 false:=hd underlying52 (by kernel_rfl) ll (by decide)
theorem Zt:gE prog 52 1 1 1 false:=hd underlying52 (by kernel_rfl) IB (by decide)
theorem Zu:gE prog 52 2 2 1 false:=hd underlying52 (by kernel_rfl) ll (by decide)
theorem akJ:dM prog 53 1 false:=⟨sizeOf53,isAgg53⟩
theorem ajp:jh prog 53 60 3:=⟨underlying53,sizeOf60⟩
theorem acM:jE prog 53 60 3 24:=⟨underlying53,(by obtain⟨i,h1,D,ak,bc⟩:=info_parts (by kernel_rfl:(prog.info? 60).map (λi=>(i.zero,i.size,i.bytes))=some (some (.agg #[zI0,zI0,zI0]),3,24));exact⟨i,_,h1,D,ak,bc,rfl⟩),by decide⟩
theorem acN:ku prog 53 60 3 [zI0,zI0,zI0]:=⟨underlying53,sizeOf60,Qf,rfl⟩
theorem akK:dM prog 60 3 true:=⟨sizeOf60,isAgg60⟩
theorem acO:j0 prog 60 [zI0,zI0,zI0] [(0,1),(1,1),(2,1)]:=mq zeroValue60 underlying60 (λw=>by kernel_rfl)
theorem Zv:gM prog 60 0 0:=⟨λa w=>by kernel_rfl⟩
theorem Zw:gM prog 60 1 1:=⟨λa w=>by kernel_rfl⟩
theorem Zx:gM prog 60 2 2:=⟨λa w=>by kernel_rfl⟩
theorem Zy:gE prog 60 0 0 1 false:=hd underlying60 (by kernel_rfl) ll (by decide)
theorem Zz:gE prog 60 1 1 1 false:=hd underlying60 (by kernel_rfl) ll (by decide)
theorem ZA:gE prog 60 2 2 1 false:=hd underlying60 (by kernel_rfl) ll (by decide)
theorem akL:dM prog 62 5 true:=⟨sizeOf62,isAgg62⟩
theorem acP:j0 prog 62 [zI0,zI0,zI0,zI0,zI0] [(0,1),(1,1),(2,1),(3,1),(4,1)]:=mq zeroValue62 underlying62 (λw=>by kernel_rfl)
theorem ZB:gM prog 62 0 0:=⟨λa w=>by kernel_rfl⟩
theorem ZC:gM prog 62 1 1:=⟨λa w=>by kernel_rfl⟩
theorem YO:gM prog 62 2 2:=⟨λa w=>by kernel_rfl⟩
theorem YP:gM prog 62 3 3:=⟨λa w=>by kernel_rfl⟩
theorem YQ:gM prog 62 4 4:=⟨λa w=>by kernel_rfl⟩
theorem YR:gE prog 62 0 0 1 false:=hd underlying62 (by kernel_rfl) ll (by decide)
theorem YS:gE prog 62 1 1 1 false:=hd underlying62 (by kernel_rfl) ll (by decide)
theorem YT:gE prog 62 2 2 1 false:=hd underlying62 (by kernel_rfl) ll (by decide)
theorem YU:gE prog 62 3 3 1 false:=hd underlying62 (by kernel_rfl) ll (by decide)
theorem YV:gE prog 62 4 4 1 false:=hd underlying62 (by kernel_rfl) ll (by decide)
theorem Qt:dM prog 84 2 true:=⟨sizeOf84,isAgg84⟩
theorem acQ:j0 prog 84 [zI0,zI0] [(0,1),(1,1)]:=mq zeroValue84 underlying84 (λw=>by kernel_rfl)
theorem YW:gM prog 84 0 0:=⟨λa w=>by kernel_rfl⟩
theorem YX:gM prog 84 1 1:=⟨λa w=>by kernel_rfl⟩
theorem YY:gE prog 84 0 0 1 false:=hd underlying84 (by kernel_rfl) ll (by decide)
theorem YZ:gE prog 84 1 1 1 false:=hd underlying84 (by kernel_rfl) ll (by decide)
theorem DG(a0 tW:Int)(jj dJ:Int)(w:World):(Op.eqFields 9999 #[.int .i64 a0,.int .i64 jj] #[.int .i64 tW,.int .i64 dJ] (prog.fieldsOf 84).toList).run prog w=.ok (decide (a0=tW)&&(decide (jj=dJ)&&true)) w:=by
 have be:(prog.fieldsOf 84).toList.map (λf=>(f.name== "_",f.type,f.offset))=[(false,3,0),(false,3,1)]:=by kernel_rfl
 have q:(Op.eqFields 9999 #[.int .i64 a0,.int .i64 jj] #[.int .i64 tW,.int .i64 dJ] (prog.fieldsOf 84).toList).run prog w=.ok (decide (a0=tW)&&(decide (jj=dJ)&&true)) w:=by
  obtain⟨f0,t0,e0,bJ,be⟩:=TJ be;obtain⟨f1,t1,aA,h1,be⟩:=TJ be;rw[e0,aA,VT be];exact NV bJ isAgg3 underlying3 rfl rfl (NV h1 isAgg3 underlying3 rfl rfl (Yi))
 exact q
theorem acR:dM prog 103 2 true:=⟨sizeOf103,isAgg103⟩
theorem aaU:j0 prog 103 [zS0,zI0] [(0,1),(1,1)]:=mq zeroValue103 underlying103 (λw=>by kernel_rfl)
theorem WN:gM prog 103 0 0:=⟨λa w=>by kernel_rfl⟩
theorem WO:gM prog 103 1 1:=⟨λa w=>by kernel_rfl⟩
theorem Ws:gE prog 103 0 0 1 false:=hd underlying103 (by kernel_rfl) IB (by decide)
theorem Wt:gE prog 103 1 1 1 false:=hd underlying103 (by kernel_rfl) ll (by decide)
theorem acg:dM prog 105 1 false:=⟨sizeOf105,isAgg105⟩
theorem wF:jh prog 105 106 1:=⟨underlying105,sizeOf106⟩
theorem OJ:jE prog 105 106 1 24:=⟨underlying105,(by obtain⟨i,h1,D,ak,bc⟩:=info_parts (by kernel_rfl:(prog.info? 106).map (λi=>(i.zero,i.size,i.bytes))=some (some (zS0),1,24));exact⟨i,_,h1,D,ak,bc,rfl⟩),by decide⟩
theorem Oo:ku prog 105 106 1 [zS0]:=⟨underlying105,sizeOf106,Pg,rfl⟩
theorem DH:dM prog 106 1 false:=⟨sizeOf106,isAgg106⟩
theorem ach:jh prog 106 4 1:=⟨underlying106,sizeOf4⟩
theorem Oq:jE prog 106 4 1 1:=⟨underlying106,(by obtain⟨i,h1,D,ak,bc⟩:=info_parts (by kernel_rfl:(prog.info? 4).map (λi=>(i.zero,i.size,i.bytes))=some (some (.bool false),1,1));exact⟨i,_,h1,D,ak,bc,rfl⟩),by decide⟩
theorem Ot:ku prog 106 4 1 [.bool false]:=⟨underlying106,sizeOf4,UH,rfl⟩
theorem Po:dM prog 111 1 false:=⟨sizeOf111,isAgg111⟩
theorem Il:jh prog 111 175 3:=⟨underlying111,sizeOf175⟩
theorem aaV:jE prog 111 175 3 24:=⟨underlying111,(by obtain⟨i,h1,D,ak,bc⟩:=info_parts (by kernel_rfl:(prog.info? 175).map (λi=>(i.zero,i.size,i.bytes))=some (some (.agg #[zI0,zI0,zI0]),3,24));exact⟨i,_,h1,D,ak,bc,rfl⟩),by decide⟩
theorem aaW:ku prog 111 175 3 [zI0,zI0,zI0]:=⟨underlying111,sizeOf175,Pk,rfl⟩
theorem aci:dM prog 125 1 false:=⟨sizeOf125,isAgg125⟩
theorem acj:dM prog 126 1 false:=⟨sizeOf126,isAgg126⟩
theorem DI:dM prog 144 1 false:=⟨sizeOf144,isAgg144⟩
theorem Hf:k7 prog 144 3 3 .i64:=⟨underlying144,underlying3⟩
theorem ack:dM prog 158 1 false:=⟨sizeOf158,isAgg158⟩
theorem acm:dM prog 161 1 false:=⟨sizeOf161,isAgg161⟩
theorem Pp:dM prog 162 1 false:=⟨sizeOf162,isAgg162⟩
theorem Dv:jh prog 162 144 1:=⟨underlying162,sizeOf144⟩
theorem Ou:jE prog 162 144 1 8:=⟨underlying162,(by obtain⟨i,h1,D,ak,bc⟩:=info_parts (by kernel_rfl:(prog.info? 144).map (λi=>(i.zero,i.size,i.bytes))=some (some (.map none),1,8));exact⟨i,_,h1,D,ak,bc,rfl⟩),by decide⟩
theorem aaX:ku prog 162 144 1 [.map none]:=⟨underlying162,sizeOf144,Ph,rfl⟩
theorem Pq:dM prog 163 1 false:=⟨sizeOf163,isAgg163⟩
theorem Pr:jh prog 163 166 1:=⟨underlying163,sizeOf166⟩
theorem Ov:jE prog 163 166 1 8:=⟨underlying163,(by obtain⟨i,h1,D,ak,bc⟩:=info_parts (by kernel_rfl:(prog.info? 166).map (λi=>(i.zero,i.size,i.bytes))=some (some (.map none),1,8));exact⟨i,_,h1,D,ak,bc,rfl⟩),by decide⟩
theorem aaY:ku prog 163 166 1 [.map none]:=⟨underlying163,sizeOf166,Pj,rfl⟩
theorem acn:dM prog 165 3 true:=⟨sizeOf165,isAgg165⟩
theorem aaZ:j0 prog 165 [zS0,zS0,zS0] [(0,1),(1,1),(2,1)]:=mq zeroValue165 underlying165 (λw=>by kernel_rfl)
theorem Wu:gM prog 165 0 0:=⟨λa w=>by kernel_rfl⟩
theorem Wv:gM prog 165 1 1:=⟨λa w=>by kernel_rfl⟩
theorem Ww:gM prog 165 2 2:=⟨λa w=>by kernel_rfl⟩
theorem Wx:gE prog 165 0 0 1 false:=hd underlying165 (by kernel_rfl) Po (by decide)
theorem Wy:gE prog 165 1 1 1 false:=hd underlying165 (by kernel_rfl) Pp (by decide)
theorem Wz:gE prog 165 2 2 1 false:=hd underlying165 (by kernel_rfl) Pq (by decide)
theorem Pt:dM prog 166 1 false:=⟨sizeOf166,isAgg166⟩
theorem Dt:k7 prog 166 3 169 .i64:=⟨underlying166,underlying3⟩
theorem aco:dM prog 169 2 true:=⟨sizeOf169,isAgg169⟩
theorem aa0:j0 prog 169 [zI0,zI0] [(0,1),(1,1)]:=mq zeroValue169 underlying169 (λw=>by kernel_rfl)
theorem WA:gM prog 169 0 0:=⟨λa w=>by kernel_rfl⟩
theorem WB:gM prog 169 1 1:=⟨λa w=>by kernel_rfl⟩
theorem Xm:gE prog 169 0 0 1 false:=hd underlying169 (by kernel_rfl) ll (by decide)
theorem Xn:gE prog 169 1 1 1 false:=hd underlying169 (by kernel_rfl) ll (by decide)
theorem acp:dM prog 172 1 false:=⟨sizeOf172,isAgg172⟩
theorem acq:dM prog 175 3 true:=⟨sizeOf175,isAgg175⟩
theorem aa1:j0 prog 175 [zI0,zI0,zI0] [(0,2),(2,1)]:=mq zeroValue175 underlying175 (λw=>by kernel_rfl)
theorem Xo:gM prog 175 0 0:=⟨λa w=>by kernel_rfl⟩
theorem Xp:gM prog 175 1 2:=⟨λa w=>by kernel_rfl⟩
theorem Xq:gE prog 175 0 0 2 true:=hd underlying175 (by kernel_rfl) Qt (by decide)
theorem Xr:gE prog 175 1 2 1 false:=hd underlying175 (by kernel_rfl) ll (by decide)
theorem adT:dM prog 177 1 false:=⟨sizeOf177,isAgg177⟩
theorem adU:dM prog 178 1 false:=⟨sizeOf178,isAgg178⟩
theorem adV:dM prog 182 1 false:=⟨sizeOf182,isAgg182⟩
theorem adW:dM prog 185 1 false:=⟨sizeOf185,isAgg185⟩
theorem adX:dM prog 187 1 false:=⟨sizeOf187,isAgg187⟩
theorem adY:dM prog 188 1 false:=⟨sizeOf188,isAgg188⟩
theorem adZ:dM prog 190 1 false:=⟨sizeOf190,isAgg190⟩
theorem ad0:dM prog 191 1 false:=⟨sizeOf191,isAgg191⟩
theorem Ow:k7 prog 191 3 4 .i64:=⟨underlying191,underlying3⟩
theorem ad1:dM prog 198 1 false:=⟨sizeOf198,isAgg198⟩
theorem ad2:dM prog 245 1 false:=⟨sizeOf245,isAgg245⟩
theorem ad3:dM prog 252 1 false:=⟨sizeOf252,isAgg252⟩
theorem ad4:dM prog 254 1 false:=⟨sizeOf254,isAgg254⟩
end Go.Proofs.YtmnbolcmepihlaaGreat
