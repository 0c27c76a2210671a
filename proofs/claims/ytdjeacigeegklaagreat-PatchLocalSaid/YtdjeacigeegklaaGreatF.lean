/- The types of this translation, as the rules want abX. No condition. -/
import Derived.Test.YtdjeacigeegklaaGreatAB
import Derived.Test.YtdjeacigeegklaaGreatRows
import Derived.OwnWalk
namespace Go.Proofs.YtdjeacigeegklaaGreat
set_option linter.all false
abbrev zI0:Value:=.int .i64 0
abbrev zS0:Value:=.slice none 0 0
open Go Go.Proofs.Tryz
set_option maxRecDepth 100000
abbrev Zr(i:Nat)(c:List Value):Prop:=∀w,∃z,(zeroValue i).run prog w=.ok z w∧z.cells=c.toArray
theorem hmix:prog.follows .mixedOrders=true:=by kernel_rfl
theorem ze2:Zr 2 [zI0]:=λw=>⟨_,zeroValue2 w,rfl⟩
theorem ze3:Zr 3 [zI0]:=λw=>⟨_,zeroValue3 w,rfl⟩
theorem ze4:Zr 4 [.bool false]:=λw=>⟨_,zeroValue4 w,rfl⟩
theorem ze5:Zr 5 [.int .u8 0]:=λw=>⟨_,zeroValue5 w,rfl⟩
theorem ze6:Zr 6 [.int .u8 0]:=λw=>⟨_,zeroValue6 w,rfl⟩
theorem ze7:Zr 7 [zI0,zI0,.bool false,.int .u8 0]:=λw=>⟨_,zeroValue7 w,rfl⟩
theorem ze8:Zr 8 [zI0,zI0,.bool false,.int .u8 0]:=λw=>⟨_,zeroValue8 w,rfl⟩
theorem ze9:Zr 9 [.string ⟨#[]⟩]:=λw=>⟨_,zeroValue9 w,rfl⟩
theorem ze10:Zr 10 [.string ⟨#[]⟩]:=λw=>⟨_,zeroValue10 w,rfl⟩
theorem ze11:Zr 11 [.string ⟨#[]⟩]:=λw=>⟨_,zeroValue11 w,rfl⟩
theorem ze12:Zr 12 [.int .u64 0]:=λw=>⟨_,zeroValue12 w,rfl⟩
theorem ze13:Zr 13 [.string ⟨#[]⟩,.int .u64 0]:=λw=>⟨_,zeroValue13 w,rfl⟩
theorem ze14:Zr 14 [.string ⟨#[]⟩,.int .u64 0]:=λw=>⟨_,zeroValue14 w,rfl⟩
theorem ze15:Zr 15 [.pointer none]:=λw=>⟨_,zeroValue15 w,rfl⟩
theorem ze16:Zr 16 [.pointer none]:=λw=>⟨_,zeroValue16 w,rfl⟩
theorem ze17:Zr 17 [.pointer none]:=λw=>⟨_,zeroValue17 w,rfl⟩
theorem ze18:Zr 18 [.pointer none]:=λw=>⟨_,zeroValue18 w,rfl⟩
theorem ze19:Zr 19 [.pointer none]:=λw=>⟨_,zeroValue19 w,rfl⟩
theorem ze21:Zr 21 [.int .i32 0]:=λw=>⟨_,zeroValue21 w,rfl⟩
theorem aqp:Zr 22 [zS0]:=λw=>⟨_,zeroValue22 w,rfl⟩
theorem ze23:Zr 23 [.pointer none]:=λw=>⟨_,zeroValue23 w,rfl⟩
theorem ze25:Zr 25 [zS0]:=λw=>⟨_,zeroValue25 w,rfl⟩
theorem ze26:Zr 26 [zS0]:=λw=>⟨_,zeroValue26 w,rfl⟩
theorem ze27:Zr 27 [zS0,zS0]:=λw=>⟨_,zeroValue27 w,rfl⟩
theorem aqq:Zr 28 [zS0,zS0]:=λw=>⟨_,zeroValue28 w,rfl⟩
theorem ze30:Zr 30 [zS0]:=λw=>⟨_,zeroValue30 w,rfl⟩
theorem ze31:Zr 31 [zI0,zS0]:=λw=>⟨_,zeroValue31 w,rfl⟩
theorem aqr:Zr 32 [zI0,zS0]:=λw=>⟨_,zeroValue32 w,rfl⟩
theorem ze34:Zr 34 [.int .u64 0]:=λw=>⟨_,zeroValue34 w,rfl⟩
theorem ze35:Zr 35 [zI0,zI0,zI0,zI0,zI0,zI0,zI0,zI0,.int .u64 0,.string ⟨#[]⟩]:=λw=>⟨_,zeroValue35 w,rfl⟩
theorem aqs:Zr 36 [zI0,zI0,zI0,zI0,zI0,zI0,zI0,zI0,.int .u64 0,.string ⟨#[]⟩]:=λw=>⟨_,zeroValue36 w,rfl⟩
theorem ze37:Zr 37 [zI0,zI0,zI0,zI0]:=λw=>⟨_,zeroValue37 w,rfl⟩
theorem aqt:Zr 38 [zI0,zI0,zI0,zI0]:=λw=>⟨_,zeroValue38 w,rfl⟩
theorem ze40:Zr 40 [.int .u64 0]:=λw=>⟨_,zeroValue40 w,rfl⟩
theorem ze41:Zr 41 [zI0,.bool false]:=λw=>⟨_,zeroValue41 w,rfl⟩
theorem aqu:Zr 42 [zI0,.bool false]:=λw=>⟨_,zeroValue42 w,rfl⟩
theorem ze44:Zr 44 [zS0]:=λw=>⟨_,zeroValue44 w,rfl⟩
theorem ze45:Zr 45 [.int .u64 0,.int .u64 0,zS0]:=λw=>⟨_,zeroValue45 w,rfl⟩
theorem ze46:Zr 46 [.int .u64 0,.int .u64 0,zS0]:=λw=>⟨_,zeroValue46 w,rfl⟩
theorem aqv:Zr 47 [zI0]:=λw=>⟨_,zeroValue47 w,rfl⟩
theorem ze51:Zr 51 [zS0,zI0,zI0,zI0,zI0,zI0,zI0,zI0,zI0,.int .u64 0,.string ⟨#[]⟩]:=λw=>⟨_,zeroValue51 w,rfl⟩
theorem ze52:Zr 52 [zS0,zI0,zI0,zI0,zI0,zI0,zI0,zI0,zI0,.int .u64 0,.string ⟨#[]⟩]:=λw=>⟨_,zeroValue52 w,rfl⟩
theorem ze53:Zr 53 [zI0,zS0,zI0,zI0,zI0,zI0,zI0,zI0,zI0,zI0,.int .u64 0,.string ⟨#[]⟩]:=λw=>⟨_,zeroValue53 w,rfl⟩
theorem aqw:Zr 54 [zI0,zS0,zI0,zI0,zI0,zI0,zI0,zI0,zI0,zI0,.int .u64 0,.string ⟨#[]⟩]:=λw=>⟨_,zeroValue54 w,rfl⟩
theorem ze61:Zr 61 [zS0]:=λw=>⟨_,zeroValue61 w,rfl⟩
theorem ze62:Zr 62 [zI0,zS0]:=λw=>⟨_,zeroValue62 w,rfl⟩
theorem aqx:Zr 63 [zI0,zS0]:=λw=>⟨_,zeroValue63 w,rfl⟩
theorem ze66:Zr 66 [zI0,zI0]:=λw=>⟨_,zeroValue66 w,rfl⟩
theorem aqy:Zr 67 [zI0,zI0]:=λw=>⟨_,zeroValue67 w,rfl⟩
theorem ze70:Zr 70 [zS0]:=λw=>⟨_,zeroValue70 w,rfl⟩
theorem ze71:Zr 71 [zS0]:=λw=>⟨_,zeroValue71 w,rfl⟩
theorem ze72:Zr 72 [zS0]:=λw=>⟨_,zeroValue72 w,rfl⟩
theorem ze73:Zr 73 [zS0,zS0,zS0]:=λw=>⟨_,zeroValue73 w,rfl⟩
theorem ze74:Zr 74 [zS0,zS0,zS0]:=λw=>⟨_,zeroValue74 w,rfl⟩
theorem ze77:Zr 77 [zI0,zI0,zI0,zI0,zI0,zI0,zI0,zI0,zI0,.int .u64 0,.string ⟨#[]⟩]:=λw=>⟨_,zeroValue77 w,rfl⟩
theorem aqz:Zr 78 [zI0,zI0,zI0,zI0,zI0,zI0,zI0,zI0,zI0,.int .u64 0,.string ⟨#[]⟩]:=λw=>⟨_,zeroValue78 w,rfl⟩
theorem ze80:Zr 80 [zI0,zI0,.int .u64 0]:=λw=>⟨_,zeroValue80 w,rfl⟩
theorem aqA:Zr 81 [zI0,zI0,.int .u64 0]:=λw=>⟨_,zeroValue81 w,rfl⟩
theorem ze88:Zr 88 [zI0,zI0,zI0,zI0,zI0]:=λw=>⟨_,zeroValue88 w,rfl⟩
theorem aqB:Zr 89 [zI0,zI0,zI0,zI0,zI0]:=λw=>⟨_,zeroValue89 w,rfl⟩
theorem ze91:Zr 91 [zS0]:=λw=>⟨_,zeroValue91 w,rfl⟩
theorem ze93:Zr 93 [zS0]:=λw=>⟨_,zeroValue93 w,rfl⟩
theorem ze94:Zr 94 [zS0]:=λw=>⟨_,zeroValue94 w,rfl⟩
theorem ze96:Zr 96 [zS0]:=λw=>⟨_,zeroValue96 w,rfl⟩
theorem ze97:Zr 97 [zS0]:=λw=>⟨_,zeroValue97 w,rfl⟩
theorem ze99:Zr 99 [zS0,zS0]:=λw=>⟨_,zeroValue99 w,rfl⟩
theorem akw:Zr 100 [zS0,zS0]:=λw=>⟨_,zeroValue100 w,rfl⟩
theorem auA:Zr 105 [zS0]:=λw=>⟨_,zeroValue105 w,rfl⟩
theorem auB:Zr 114 [zS0,zI0]:=λw=>⟨_,zeroValue114 w,rfl⟩
theorem auC:Zr 115 [zS0,zI0]:=λw=>⟨_,zeroValue115 w,rfl⟩
theorem auD:Zr 117 [zS0]:=λw=>⟨_,zeroValue117 w,rfl⟩
theorem akx:Zr 118 [zS0]:=λw=>⟨_,zeroValue118 w,rfl⟩
theorem auE:Zr 130 [.nilFunc]:=λw=>⟨_,zeroValue130 w,rfl⟩
theorem auF:Zr 133 [zI0,zI0,zI0,zI0,zI0,zI0,zI0,zI0,zI0,.int .u64 0,.string ⟨#[]⟩]:=λw=>⟨_,zeroValue133 w,rfl⟩
theorem aky:Zr 134 [zI0,zI0,zI0,zI0,zI0,zI0,zI0,zI0,zI0,.int .u64 0,.string ⟨#[]⟩]:=λw=>⟨_,zeroValue134 w,rfl⟩
theorem auG:Zr 135 [zS0]:=λw=>⟨_,zeroValue135 w,rfl⟩
theorem auH:Zr 136 [zS0]:=λw=>⟨_,zeroValue136 w,rfl⟩
theorem auI:Zr 140 [zI0,.int .u64 0]:=λw=>⟨_,zeroValue140 w,rfl⟩
theorem akz:Zr 141 [zI0,.int .u64 0]:=λw=>⟨_,zeroValue141 w,rfl⟩
theorem auJ:Zr 142 [zI0,zI0,zI0,zI0,zI0,zS0,zI0,zI0,zI0,zI0,zI0,zI0,zI0,zI0,.int .u64 0,.string ⟨#[]⟩]:=λw=>⟨_,zeroValue142 w,rfl⟩
theorem akA:Zr 143 [zI0,zI0,zI0,zI0,zI0,zS0,zI0,zI0,zI0,zI0,zI0,zI0,zI0,zI0,.int .u64 0,.string ⟨#[]⟩]:=λw=>⟨_,zeroValue143 w,rfl⟩
theorem akB:Zr 146 [zI0,zI0,zI0,zI0,zI0,zI0,zI0,zI0,zI0,.int .u64 0,.string ⟨#[]⟩]:=λw=>⟨_,zeroValue146 w,rfl⟩
theorem auK:Zr 147 [zS0]:=λw=>⟨_,zeroValue147 w,rfl⟩
theorem auL:Zr 152 [.nilFunc]:=λw=>⟨_,zeroValue152 w,rfl⟩
theorem auM:Zr 153 [zI0,zS0,zI0,zI0,zI0,zI0,zI0,zI0,zI0,zI0,.int .u64 0,.string ⟨#[]⟩]:=λw=>⟨_,zeroValue153 w,rfl⟩
theorem akC:Zr 154 [zI0,zS0,zI0,zI0,zI0,zI0,zI0,zI0,zI0,zI0,.int .u64 0,.string ⟨#[]⟩]:=λw=>⟨_,zeroValue154 w,rfl⟩
theorem auN:Zr 155 [zS0]:=λw=>⟨_,zeroValue155 w,rfl⟩
theorem auO:Zr 156 [zI0,zS0,zS0,zS0,zS0,zS0,zS0,zS0,zS0,zS0,zS0,zS0]:=λw=>⟨_,zeroValue156 w,rfl⟩
theorem auP:Zr 157 [zI0,zS0,zS0,zS0,zS0,zS0,zS0,zS0,zS0,zS0,zS0,zS0]:=λw=>⟨_,zeroValue157 w,rfl⟩
theorem auQ:Zr 159 [zI0,zS0,zI0,zI0,zI0,zI0,zI0,zI0,zI0,zI0,.int .u64 0,.string ⟨#[]⟩]:=λw=>⟨_,zeroValue159 w,rfl⟩
theorem akD:Zr 160 [zI0,zS0,zI0,zI0,zI0,zI0,zI0,zI0,zI0,zI0,.int .u64 0,.string ⟨#[]⟩]:=λw=>⟨_,zeroValue160 w,rfl⟩
theorem auR:Zr 161 [zS0]:=λw=>⟨_,zeroValue161 w,rfl⟩
theorem auS:Zr 168 [.nilFunc]:=λw=>⟨_,zeroValue168 w,rfl⟩
theorem auT:Zr 170 [.nilFunc]:=λw=>⟨_,zeroValue170 w,rfl⟩
theorem auU:Zr 172 [.nilFunc]:=λw=>⟨_,zeroValue172 w,rfl⟩
theorem auV:Zr 173 [.nilFunc]:=λw=>⟨_,zeroValue173 w,rfl⟩
theorem xM:Zr 177 [zI0,zI0]:=λw=>⟨_,zeroValue177 w,rfl⟩
theorem auW:Zr 178 [zS0]:=λw=>⟨_,zeroValue178 w,rfl⟩
theorem auX:Zr 181 [zS0]:=λw=>⟨_,zeroValue181 w,rfl⟩
theorem auZ:Zr 183 [zI0,zI0,zI0]:=λw=>⟨_,zeroValue183 w,rfl⟩
theorem akE:Zr 184 [zI0,zI0,zI0]:=λw=>⟨_,zeroValue184 w,rfl⟩
theorem au0:Zr 193 [.pointer none]:=λw=>⟨_,zeroValue193 w,rfl⟩
theorem au1:Zr 200 [.map none]:=λw=>⟨_,zeroValue200 w,rfl⟩
theorem au2:Zr 201 [.map none,.map none]:=λw=>⟨_,zeroValue201 w,rfl⟩
theorem au3:Zr 202 [.map none,.map none]:=λw=>⟨_,zeroValue202 w,rfl⟩
theorem au4:Zr 204 [.map none]:=λw=>⟨_,zeroValue204 w,rfl⟩
theorem au5:Zr 207 [zS0]:=λw=>⟨_,zeroValue207 w,rfl⟩
theorem au6:Zr 208 [.map none]:=λw=>⟨_,zeroValue208 w,rfl⟩
theorem au7:Zr 215 [.nilFunc]:=λw=>⟨_,zeroValue215 w,rfl⟩
theorem au8:Zr 216 [zS0]:=λw=>⟨_,zeroValue216 w,rfl⟩
theorem au9:Zr 217 [zI0,zI0]:=λw=>⟨_,zeroValue217 w,rfl⟩
theorem akF:Zr 218 [zI0,zI0]:=λw=>⟨_,zeroValue218 w,rfl⟩
theorem ava:Zr 220 [.nilFunc]:=λw=>⟨_,zeroValue220 w,rfl⟩
theorem avb:Zr 228 [zI0]:=λw=>⟨_,zeroValue228 w,rfl⟩
theorem avc:Zr 235 [.int .u32 0]:=λw=>⟨_,zeroValue235 w,rfl⟩
theorem avd:Zr 242 [.int .u64 0]:=λw=>⟨_,zeroValue242 w,rfl⟩
theorem ave:Zr 246 [.pointer none]:=λw=>⟨_,zeroValue246 w,rfl⟩
theorem avf:Zr 250 [.pointer none]:=λw=>⟨_,zeroValue250 w,rfl⟩
theorem avg:Zr 255 [.pointer none,.pointer none,.pointer none,.string ⟨#[]⟩]:=λw=>⟨_,zeroValue255 w,rfl⟩
theorem avh:Zr 256 [.pointer none,.pointer none,.pointer none,.string ⟨#[]⟩]:=λw=>⟨_,zeroValue256 w,rfl⟩
theorem avj:Zr 257 []:=λw=>⟨_,zeroValue257 w,rfl⟩
theorem avk:Zr 260 [.int .u8 0]:=λw=>⟨_,zeroValue260 w,rfl⟩
theorem avl:Zr 261 [.int .u8 0]:=λw=>⟨_,zeroValue261 w,rfl⟩
theorem avm:Zr 262 [.nilFunc]:=λw=>⟨_,zeroValue262 w,rfl⟩
theorem avn:Zr 263 [.pointer none]:=λw=>⟨_,zeroValue263 w,rfl⟩
theorem avo:Zr 264 [.int .i32 0]:=λw=>⟨_,zeroValue264 w,rfl⟩
theorem avp:Zr 265 [.int .i32 0]:=λw=>⟨_,zeroValue265 w,rfl⟩
theorem avq:Zr 266 [.int .u64 0,.int .u64 0,.int .u32 0,.int .u8 0,.int .u8 0,.int .u8 0,.int .u8 0,.nilFunc,.pointer none,.int .i32 0,.int .i32 0]:=λw=>⟨_,zeroValue266 w,rfl⟩
theorem avr:Zr 267 [.int .u64 0,.int .u64 0,.int .u32 0,.int .u8 0,.int .u8 0,.int .u8 0,.int .u8 0,.nilFunc,.pointer none,.int .i32 0,.int .i32 0]:=λw=>⟨_,zeroValue267 w,rfl⟩
theorem ty2:TyS prog 2 1 false:=⟨sizeOf2,isAgg2⟩
theorem ty3:TyS prog 3 1 false:=⟨sizeOf3,isAgg3⟩
theorem ty4:TyS prog 4 1 false:=⟨sizeOf4,isAgg4⟩
theorem ty5:TyS prog 5 1 false:=⟨sizeOf5,isAgg5⟩
theorem ty6:TyS prog 6 1 false:=⟨sizeOf6,isAgg6⟩
theorem ty7:TyS prog 7 4 true:=⟨sizeOf7,isAgg7⟩
theorem str7:cO prog 7 [zI0,zI0,.bool false,.int .u8 0] [(0,1),(1,1),(2,1),(3,1)]:=dn zeroValue7 underlying7 (λw=>by kernel_rfl)
theorem aqC:aO prog 7 0 0:=⟨λa w=>by kernel_rfl⟩
theorem aqD:aO prog 7 1 1:=⟨λa w=>by kernel_rfl⟩
theorem aqE:aO prog 7 2 2:=⟨λa w=>by kernel_rfl⟩
theorem aqF:aO prog 7 3 3:=⟨λa w=>by kernel_rfl⟩
theorem aqG:aG prog 7 0 0 1 false:=aH underlying7 (by kernel_rfl) ty2 (by decide)
theorem aqH:aG prog 7 1 1 1 false:=aH underlying7 (by kernel_rfl) ty3 (by decide)
theorem aqI:aG prog 7 2 2 1 false:=aH underlying7 (by kernel_rfl) ty4 (by decide)
theorem aqJ:aG prog 7 3 3 1 false:=aH underlying7 (by kernel_rfl) ty6 (by decide)
theorem ty8:TyS prog 8 4 true:=⟨sizeOf8,isAgg8⟩
theorem str8:cO prog 8 [zI0,zI0,.bool false,.int .u8 0] [(0,1),(1,1),(2,1),(3,1)]:=dn zeroValue8 underlying8 (λw=>by kernel_rfl)
theorem aqK:aO prog 8 0 0:=⟨λa w=>by kernel_rfl⟩
theorem aqL:aO prog 8 1 1:=⟨λa w=>by kernel_rfl⟩
theorem aqM:aO prog 8 2 2:=⟨λa w=>by kernel_rfl⟩
theorem aqN:aO prog 8 3 3:=⟨λa w=>by kernel_rfl⟩
theorem aqO:aG prog 8 0 0 1 false:=aH underlying8 (by kernel_rfl) ty2 (by decide)
theorem aqP:aG prog 8 1 1 1 false:=aH underlying8 (by kernel_rfl) ty3 (by decide)
theorem aqQ:aG prog 8 2 2 1 false:=aH underlying8 (by kernel_rfl) ty4 (by decide)
theorem aqR:aG prog 8 3 3 1 false:=aH underlying8 (by kernel_rfl) ty6 (by decide)
theorem ty9:TyS prog 9 1 false:=⟨sizeOf9,isAgg9⟩
theorem ty10:TyS prog 10 1 false:=⟨sizeOf10,isAgg10⟩
theorem ty11:TyS prog 11 1 false:=⟨sizeOf11,isAgg11⟩
theorem yO:TyS prog 12 1 false:=⟨sizeOf12,isAgg12⟩
theorem ty13:TyS prog 13 2 true:=⟨sizeOf13,isAgg13⟩
theorem avt:cO prog 13 [.string ⟨#[]⟩,.int .u64 0] [(0,1),(1,1)]:=dn zeroValue13 underlying13 (λw=>by kernel_rfl)
theorem ami:aO prog 13 0 0:=⟨λa w=>by kernel_rfl⟩
theorem amj:aO prog 13 1 1:=⟨λa w=>by kernel_rfl⟩
theorem amk:aG prog 13 0 0 1 false:=aH underlying13 (by kernel_rfl) ty9 (by decide)
theorem aml:aG prog 13 1 1 1 false:=aH underlying13 (by kernel_rfl) yO (by decide)
theorem ty14:TyS prog 14 2 true:=⟨sizeOf14,isAgg14⟩
theorem avu:cO prog 14 [.string ⟨#[]⟩,.int .u64 0] [(0,1),(1,1)]:=dn zeroValue14 underlying14 (λw=>by kernel_rfl)
theorem amm:aO prog 14 0 0:=⟨λa w=>by kernel_rfl⟩
theorem amn:aO prog 14 1 1:=⟨λa w=>by kernel_rfl⟩
theorem amo:aG prog 14 0 0 1 false:=aH underlying14 (by kernel_rfl) ty9 (by decide)
theorem amp:aG prog 14 1 1 1 false:=aH underlying14 (by kernel_rfl) yO (by decide)
theorem ty15:TyS prog 15 1 false:=⟨sizeOf15,isAgg15⟩
theorem ty16:TyS prog 16 1 false:=⟨sizeOf16,isAgg16⟩
theorem vv:TyS prog 17 1 false:=⟨sizeOf17,isAgg17⟩
theorem ty18:TyS prog 18 1 true:=⟨sizeOf18,isAgg18⟩
theorem avv:cO prog 18 [.pointer none] [(0,1)]:=dn zeroValue18 underlying18 (λw=>by kernel_rfl)
theorem amq:aO prog 18 0 0:=⟨λa w=>by kernel_rfl⟩
theorem amr:aG prog 18 0 0 1 false:=aH underlying18 (by kernel_rfl) vv (by decide)
theorem ty19:TyS prog 19 1 true:=⟨sizeOf19,isAgg19⟩
theorem avw:cO prog 19 [.pointer none] [(0,1)]:=dn zeroValue19 underlying19 (λw=>by kernel_rfl)
theorem ams:aO prog 19 0 0:=⟨λa w=>by kernel_rfl⟩
theorem amt:aG prog 19 0 0 1 false:=aH underlying19 (by kernel_rfl) vv (by decide)
theorem ty21:TyS prog 21 1 false:=⟨sizeOf21,isAgg21⟩
theorem yP:TyS prog 22 1 false:=⟨sizeOf22,isAgg22⟩
theorem sl22:SlS prog 22 3 1:=⟨underlying22,sizeOf3⟩
theorem akG:fL prog 22 3 1 8:=⟨underlying22,(by obtain⟨i,h1,h2,h3,h4⟩:=info_parts (by kernel_rfl:(prog.info? 3).map (λi=>(i.zero,i.size,i.bytes))=some (some (zI0),1,8));exact⟨i,_,h1,h2,h3,h4,rfl⟩),by decide⟩
theorem avx:fU prog 22 3 1 [zI0]:=⟨underlying22,sizeOf3,ze3,rfl⟩
theorem ty23:TyS prog 23 1 false:=⟨sizeOf23,isAgg23⟩
theorem agB:TyS prog 25 1 false:=⟨sizeOf25,isAgg25⟩
theorem sl25:SlS prog 25 42 2:=⟨underlying25,sizeOf42⟩
theorem avy:fL prog 25 42 2 16:=⟨underlying25,(by obtain⟨i,h1,h2,h3,h4⟩:=info_parts (by kernel_rfl:(prog.info? 42).map (λi=>(i.zero,i.size,i.bytes))=some (some (.agg #[zI0,.bool false]),2,16));exact⟨i,_,h1,h2,h3,h4,rfl⟩),by decide⟩
theorem avz:fU prog 25 42 2 [zI0,.bool false]:=⟨underlying25,sizeOf42,aqu,rfl⟩
theorem agC:TyS prog 26 1 false:=⟨sizeOf26,isAgg26⟩
theorem sl26:SlS prog 26 89 5:=⟨underlying26,sizeOf89⟩
theorem avA:fL prog 26 89 5 40:=⟨underlying26,(by obtain⟨i,h1,h2,h3,h4⟩:=info_parts (by kernel_rfl:(prog.info? 89).map (λi=>(i.zero,i.size,i.bytes))=some (some (.agg #[zI0,zI0,zI0,zI0,zI0]),5,40));exact⟨i,_,h1,h2,h3,h4,rfl⟩),by decide⟩
theorem avB:fU prog 26 89 5 [zI0,zI0,zI0,zI0,zI0]:=⟨underlying26,sizeOf89,aqB,rfl⟩
theorem ty27:TyS prog 27 2 true:=⟨sizeOf27,isAgg27⟩
theorem avC:cO prog 27 [zS0,zS0] [(0,1),(1,1)]:=dn zeroValue27 underlying27 (λw=>by kernel_rfl)
theorem amu:aO prog 27 0 0:=⟨λa w=>by kernel_rfl⟩
theorem amv:aO prog 27 1 1:=⟨λa w=>by kernel_rfl⟩
theorem amw:aG prog 27 0 0 1 false:=aH underlying27 (by kernel_rfl) agB (by decide)
theorem amx:aG prog 27 1 1 1 false:=aH underlying27 (by kernel_rfl) agC (by decide)
theorem aci:TyS prog 28 2 true:=⟨sizeOf28,isAgg28⟩
theorem avD:cO prog 28 [zS0,zS0] [(0,1),(1,1)]:=dn zeroValue28 underlying28 (λw=>by kernel_rfl)
theorem amy:aO prog 28 0 0:=⟨λa w=>by kernel_rfl⟩
theorem amz:aO prog 28 1 1:=⟨λa w=>by kernel_rfl⟩
theorem amA:aG prog 28 0 0 1 false:=aH underlying28 (by kernel_rfl) agB (by decide)
theorem amB:aG prog 28 1 1 1 false:=aH underlying28 (by kernel_rfl) agC (by decide)
theorem agD:TyS prog 30 1 false:=⟨sizeOf30,isAgg30⟩
theorem aqS:SlS prog 30 38 4:=⟨underlying30,sizeOf38⟩
theorem avE:fL prog 30 38 4 32:=⟨underlying30,(by obtain⟨i,h1,h2,h3,h4⟩:=info_parts (by kernel_rfl:(prog.info? 38).map (λi=>(i.zero,i.size,i.bytes))=some (some (.agg #[zI0,zI0,zI0,zI0]),4,32));exact⟨i,_,h1,h2,h3,h4,rfl⟩),by decide⟩
theorem avF:fU prog 30 38 4 [zI0,zI0,zI0,zI0]:=⟨underlying30,sizeOf38,aqt,rfl⟩
theorem ty31:TyS prog 31 2 true:=⟨sizeOf31,isAgg31⟩
theorem avG:cO prog 31 [zI0,zS0] [(0,1),(1,1)]:=dn zeroValue31 underlying31 (λw=>by kernel_rfl)
theorem amC:aO prog 31 0 0:=⟨λa w=>by kernel_rfl⟩
theorem amD:aO prog 31 1 1:=⟨λa w=>by kernel_rfl⟩
theorem amE:aG prog 31 0 0 1 false:=aH underlying31 (by kernel_rfl) ty3 (by decide)
theorem amF:aG prog 31 1 1 1 false:=aH underlying31 (by kernel_rfl) agD (by decide)
theorem agE:TyS prog 32 2 true:=⟨sizeOf32,isAgg32⟩
theorem avH:cO prog 32 [zI0,zS0] [(0,1),(1,1)]:=dn zeroValue32 underlying32 (λw=>by kernel_rfl)
theorem amG:aO prog 32 0 0:=⟨λa w=>by kernel_rfl⟩
theorem amH:aO prog 32 1 1:=⟨λa w=>by kernel_rfl⟩
theorem amI:aG prog 32 0 0 1 false:=aH underlying32 (by kernel_rfl) ty3 (by decide)
theorem amJ:aG prog 32 1 1 1 false:=aH underlying32 (by kernel_rfl) agD (by decide)
theorem s8:TyS prog 34 1 false:=⟨sizeOf34,isAgg34⟩
theorem ty35:TyS prog 35 10 true:=⟨sizeOf35,isAgg35⟩
theorem avI:cO prog 35 [zI0,zI0,zI0,zI0,zI0,zI0,zI0,zI0,.int .u64 0,.string ⟨#[]⟩] [(0,1),(1,1),(2,1),(3,1),(4,1),(5,1),(6,1),(7,1),(8,1),(9,1)]:=dn zeroValue35 underlying35 (λw=>by kernel_rfl)
theorem amK:aO prog 35 0 0:=⟨λa w=>by kernel_rfl⟩
theorem amL:aO prog 35 1 1:=⟨λa w=>by kernel_rfl⟩
theorem amM:aO prog 35 2 2:=⟨λa w=>by kernel_rfl⟩
theorem amN:aO prog 35 3 3:=⟨λa w=>by kernel_rfl⟩
theorem amO:aO prog 35 4 4:=⟨λa w=>by kernel_rfl⟩
theorem amP:aO prog 35 5 5:=⟨λa w=>by kernel_rfl⟩
theorem amQ:aO prog 35 6 6:=⟨λa w=>by kernel_rfl⟩
theorem amR:aO prog 35 7 7:=⟨λa w=>by kernel_rfl⟩
theorem amS:aO prog 35 8 8:=⟨λa w=>by kernel_rfl⟩
theorem amT:aO prog 35 9 9:=⟨λa w=>by kernel_rfl⟩
theorem amU:aG prog 35 0 0 1 false:=aH underlying35 (by kernel_rfl) ty3 (by decide)
theorem amV:aG prog 35 1 1 1 false:=aH underlying35 (by kernel_rfl) ty3 (by decide)
theorem amW:aG prog 35 2 2 1 false:=aH underlying35 (by kernel_rfl) ty3 (by decide)
theorem amX:aG prog 35 3 3 1 false:=aH underlying35 (by kernel_rfl) ty3 (by decide)
theorem amY:aG prog 35 4 4 1 false:=aH underlying35 (by kernel_rfl) ty3 (by decide)
theorem amZ:aG prog 35 5 5 1 false:=aH underlying35 (by kernel_rfl) ty3 (by decide)
theorem am0:aG prog 35 6 6 1 false:=aH underlying35 (by kernel_rfl) ty3 (by decide)
theorem am1:aG prog 35 7 7 1 false:=aH underlying35 (by kernel_rfl) ty3 (by decide)
theorem am2:aG prog 35 8 8 1 false:=aH underlying35 (by kernel_rfl) s8 (by decide)
theorem am3:aG prog 35 9 9 1 false:=aH underlying35 (by kernel_rfl) ty9 (by decide)
theorem wR:TyS prog 36 10 true:=⟨sizeOf36,isAgg36⟩
theorem avJ:cO prog 36 [zI0,zI0,zI0,zI0,zI0,zI0,zI0,zI0,.int .u64 0,.string ⟨#[]⟩] [(0,1),(1,1),(2,1),(3,1),(4,1),(5,1),(6,1),(7,1),(8,1),(9,1)]:=dn zeroValue36 underlying36 (λw=>by kernel_rfl)
theorem am4:aO prog 36 0 0:=⟨λa w=>by kernel_rfl⟩
theorem am5:aO prog 36 1 1:=⟨λa w=>by kernel_rfl⟩
theorem am6:aO prog 36 2 2:=⟨λa w=>by kernel_rfl⟩
theorem am7:aO prog 36 3 3:=⟨λa w=>by kernel_rfl⟩
theorem am8:aO prog 36 4 4:=⟨λa w=>by kernel_rfl⟩
theorem am9:aO prog 36 5 5:=⟨λa w=>by kernel_rfl⟩
theorem ana:aO prog 36 6 6:=⟨λa w=>by kernel_rfl⟩
theorem anb:aO prog 36 7 7:=⟨λa w=>by kernel_rfl⟩
theorem anc:aO prog 36 8 8:=⟨λa w=>by kernel_rfl⟩
theorem ane:aO prog 36 9 9:=⟨λa w=>by kernel_rfl⟩
theorem anf:aG prog 36 0 0 1 false:=aH underlying36 (by kernel_rfl) ty3 (by decide)
theorem ang:aG prog 36 1 1 1 false:=aH underlying36 (by kernel_rfl) ty3 (by decide)
theorem anh:aG prog 36 2 2 1 false:=aH underlying36 (by kernel_rfl) ty3 (by decide)
theorem ani:aG prog 36 3 3 1 false:=aH underlying36 (by kernel_rfl) ty3 (by decide)
theorem anj:aG prog 36 4 4 1 false:=aH underlying36 (by kernel_rfl) ty3 (by decide)
theorem ank:aG prog 36 5 5 1 false:=aH underlying36 (by kernel_rfl) ty3 (by decide)
theorem anl:aG prog 36 6 6 1 false:=aH underlying36 (by kernel_rfl) ty3 (by decide)
theorem anm:aG prog 36 7 7 1 false:=aH underlying36 (by kernel_rfl) ty3 (by decide)
theorem ann:aG prog 36 8 8 1 false:=aH underlying36 (by kernel_rfl) s8 (by decide)
theorem ano:aG prog 36 9 9 1 false:=aH underlying36 (by kernel_rfl) ty9 (by decide)
theorem avK(a0 b0:Int)(a1 b1:Int)(a2 b2:Int)(a3 b3:Int)(a4 b4:Int)(a5 b5:Int)(a6 b6:Int)(a7 b7:Int)(a8 b8:Int)(a9 b9:ByteArray)(w:World):(Op.eqFields 9999 #[.int .i64 a0,.int .i64 a1,.int .i64 a2,.int .i64 a3,.int .i64 a4,.int .i64 a5,.int .i64 a6,.int .i64 a7,.int .u64 a8,.string a9] #[.int .i64 b0,.int .i64 b1,.int .i64 b2,.int .i64 b3,.int .i64 b4,.int .i64 b5,.int .i64 b6,.int .i64 b7,.int .u64 b8,.string b9] (prog.fieldsOf 36).toList).run prog w=.ok (decide (a0=b0)&&(decide (a1=b1)&&(decide (a2=b2)&&(decide (a3=b3)&&(decide (a4=b4)&&(decide (a5=b5)&&(decide (a6=b6)&&(decide (a7=b7)&&(decide (a8=b8)&&((a9.toList==b9.toList)&&true)))))))))) w:=by
 have hf:(prog.fieldsOf 36).toList.map (λf=>(f.name== "_",f.type,f.offset))=[(false,3,0),(false,3,1),(false,3,2),(false,3,3),(false,3,4),(false,3,5),(false,3,6),(false,3,7),(false,34,8),(false,9,9)]:=by kernel_rfl
 have q:(Op.eqFields 9999 #[.int .i64 a0,.int .i64 a1,.int .i64 a2,.int .i64 a3,.int .i64 a4,.int .i64 a5,.int .i64 a6,.int .i64 a7,.int .u64 a8,.string a9] #[.int .i64 b0,.int .i64 b1,.int .i64 b2,.int .i64 b3,.int .i64 b4,.int .i64 b5,.int .i64 b6,.int .i64 b7,.int .u64 b8,.string b9] (prog.fieldsOf 36).toList).run prog w=.ok (decide (a0=b0)&&(decide (a1=b1)&&(decide (a2=b2)&&(decide (a3=b3)&&(decide (a4=b4)&&(decide (a5=b5)&&(decide (a6=b6)&&(decide (a7=b7)&&(decide (a8=b8)&&((a9.toList==b9.toList)&&true)))))))))) w:=by
  obtain⟨f0,t0,e0,h0,hf⟩:=eS hf
  obtain⟨f1,t1,e1,h1,hf⟩:=eS hf
  obtain⟨f2,t2,e2,h2,hf⟩:=eS hf
  obtain⟨f3,t3,e3,h3,hf⟩:=eS hf
  obtain⟨f4,t4,e4,h4,hf⟩:=eS hf
  obtain⟨f5,t5,e5,h5,hf⟩:=eS hf
  obtain⟨f6,t6,e6,h6,hf⟩:=eS hf
  obtain⟨f7,t7,e7,h7,hf⟩:=eS hf
  obtain⟨f8,t8,e8,h8,hf⟩:=eS hf
  obtain⟨f9,t9,e9,h9,hf⟩:=eS hf
  rw[e0,e1,e2,e3,e4,e5,e6,e7,e8,e9,vu hf]
  exact jl h0 isAgg3 underlying3 rfl rfl (jl h1 isAgg3 underlying3 rfl rfl (jl h2 isAgg3 underlying3 rfl rfl (jl h3 isAgg3 underlying3 rfl rfl (jl h4 isAgg3 underlying3 rfl rfl (jl h5 isAgg3 underlying3 rfl rfl (jl h6 isAgg3 underlying3 rfl rfl (jl h7 isAgg3 underlying3 rfl rfl (jl h8 isAgg34 underlying34 rfl rfl (aem h9 isAgg9 underlying9 rfl rfl (aaA))))))))))
 exact q
theorem acj(x y:Operand)(a0 b0:Int)(a1 b1:Int)(a2 b2:Int)(a3 b3:Int)(a4 b4:Int)(a5 b5:Int)(a6 b6:Int)(a7 b7:Int)(a8 b8:Int)(a9 b9:ByteArray)(w:World):(do eqGuard .neq 36 x y (.agg #[.int .i64 a0,.int .i64 a1,.int .i64 a2,.int .i64 a3,.int .i64 a4,.int .i64 a5,.int .i64 a6,.int .i64 a7,.int .u64 a8,.string a9]) (.agg #[.int .i64 b0,.int .i64 b1,.int .i64 b2,.int .i64 b3,.int .i64 b4,.int .i64 b5,.int .i64 b6,.int .i64 b7,.int .u64 b8,.string b9]);binOp .neq 36 (.agg #[.int .i64 a0,.int .i64 a1,.int .i64 a2,.int .i64 a3,.int .i64 a4,.int .i64 a5,.int .i64 a6,.int .i64 a7,.int .u64 a8,.string a9]) (.agg #[.int .i64 b0,.int .i64 b1,.int .i64 b2,.int .i64 b3,.int .i64 b4,.int .i64 b5,.int .i64 b6,.int .i64 b7,.int .u64 b8,.string b9]):Sem Value).run prog w=.ok (.bool (!(decide (a0=b0)&&(decide (a1=b1)&&(decide (a2=b2)&&(decide (a3=b3)&&(decide (a4=b4)&&(decide (a5=b5)&&(decide (a6=b6)&&(decide (a7=b7)&&(decide (a8=b8)&&((a9.toList==b9.toList)&&true)))))))))))) w:=ame _ _ _ x y (by kernel_rfl) (by kernel_rfl) (by kernel_rfl) (avK a0 b0 a1 b1 a2 b2 a3 b3 a4 b4 a5 b5 a6 b6 a7 b7 a8 b8 a9 b9 w)
theorem ty37:TyS prog 37 4 true:=⟨sizeOf37,isAgg37⟩
theorem avL:cO prog 37 [zI0,zI0,zI0,zI0] [(0,1),(1,1),(2,1),(3,1)]:=dn zeroValue37 underlying37 (λw=>by kernel_rfl)
theorem anp:aO prog 37 0 0:=⟨λa w=>by kernel_rfl⟩
theorem anq:aO prog 37 1 1:=⟨λa w=>by kernel_rfl⟩
theorem anr:aO prog 37 2 2:=⟨λa w=>by kernel_rfl⟩
theorem ans:aO prog 37 3 3:=⟨λa w=>by kernel_rfl⟩
theorem ant:aG prog 37 0 0 1 false:=aH underlying37 (by kernel_rfl) ty3 (by decide)
theorem anu:aG prog 37 1 1 1 false:=aH underlying37 (by kernel_rfl) ty3 (by decide)
theorem anv:aG prog 37 2 2 1 false:=aH underlying37 (by kernel_rfl) ty3 (by decide)
theorem anw:aG prog 37 3 3 1 false:=aH underlying37 (by kernel_rfl) ty3 (by decide)
theorem agF:TyS prog 38 4 true:=⟨sizeOf38,isAgg38⟩
theorem avM:cO prog 38 [zI0,zI0,zI0,zI0] [(0,1),(1,1),(2,1),(3,1)]:=dn zeroValue38 underlying38 (λw=>by kernel_rfl)
theorem anx:aO prog 38 0 0:=⟨λa w=>by kernel_rfl⟩
theorem anz:aO prog 38 1 1:=⟨λa w=>by kernel_rfl⟩
theorem anA:aO prog 38 2 2:=⟨λa w=>by kernel_rfl⟩
theorem anB:aO prog 38 3 3:=⟨λa w=>by kernel_rfl⟩
theorem anC:aG prog 38 0 0 1 false:=aH underlying38 (by kernel_rfl) ty3 (by decide)
theorem anD:aG prog 38 1 1 1 false:=aH underlying38 (by kernel_rfl) ty3 (by decide)
theorem anE:aG prog 38 2 2 1 false:=aH underlying38 (by kernel_rfl) ty3 (by decide)
theorem anG:aG prog 38 3 3 1 false:=aH underlying38 (by kernel_rfl) ty3 (by decide)
theorem ty40:TyS prog 40 1 false:=⟨sizeOf40,isAgg40⟩
theorem ty41:TyS prog 41 2 true:=⟨sizeOf41,isAgg41⟩
theorem avN:cO prog 41 [zI0,.bool false] [(0,1),(1,1)]:=dn zeroValue41 underlying41 (λw=>by kernel_rfl)
theorem anH:aO prog 41 0 0:=⟨λa w=>by kernel_rfl⟩
theorem anI:aO prog 41 1 1:=⟨λa w=>by kernel_rfl⟩
theorem anJ:aG prog 41 0 0 1 false:=aH underlying41 (by kernel_rfl) ty3 (by decide)
theorem anK:aG prog 41 1 1 1 false:=aH underlying41 (by kernel_rfl) ty4 (by decide)
theorem ty42:TyS prog 42 2 true:=⟨sizeOf42,isAgg42⟩
theorem avO:cO prog 42 [zI0,.bool false] [(0,1),(1,1)]:=dn zeroValue42 underlying42 (λw=>by kernel_rfl)
theorem anL:aO prog 42 0 0:=⟨λa w=>by kernel_rfl⟩
theorem anM:aO prog 42 1 1:=⟨λa w=>by kernel_rfl⟩
theorem anN:aG prog 42 0 0 1 false:=aH underlying42 (by kernel_rfl) ty3 (by decide)
theorem anO:aG prog 42 1 1 1 false:=aH underlying42 (by kernel_rfl) ty4 (by decide)
theorem agG:TyS prog 44 1 false:=⟨sizeOf44,isAgg44⟩
theorem sl44:SlS prog 44 54 12:=⟨underlying44,sizeOf54⟩
theorem avP:fL prog 44 54 12 120:=⟨underlying44,(by obtain⟨i,h1,h2,h3,h4⟩:=info_parts (by kernel_rfl:(prog.info? 54).map (λi=>(i.zero,i.size,i.bytes))=some (some (.agg #[zI0,zS0,zI0,zI0,zI0,zI0,zI0,zI0,zI0,zI0,.int .u64 0,.string ⟨#[]⟩]),12,120));exact⟨i,_,h1,h2,h3,h4,rfl⟩),by decide⟩
theorem avQ:fU prog 44 54 12 [zI0,zS0,zI0,zI0,zI0,zI0,zI0,zI0,zI0,zI0,.int .u64 0,.string ⟨#[]⟩]:=⟨underlying44,sizeOf54,aqw,rfl⟩
theorem ty45:TyS prog 45 3 true:=⟨sizeOf45,isAgg45⟩
theorem avR:cO prog 45 [.int .u64 0,.int .u64 0,zS0] [(0,1),(1,1),(2,1)]:=dn zeroValue45 underlying45 (λw=>by kernel_rfl)
theorem anP:aO prog 45 0 0:=⟨λa w=>by kernel_rfl⟩
theorem anQ:aO prog 45 1 1:=⟨λa w=>by kernel_rfl⟩
theorem anR:aO prog 45 2 2:=⟨λa w=>by kernel_rfl⟩
theorem anS:aG prog 45 0 0 1 false:=aH underlying45 (by kernel_rfl) s8 (by decide)
theorem anT:aG prog 45 1 1 1 false:=aH underlying45 (by kernel_rfl) s8 (by decide)
theorem anU:aG prog 45 2 2 1 false:=aH underlying45 (by kernel_rfl) agG (by decide)
theorem ty46:TyS prog 46 3 true:=⟨sizeOf46,isAgg46⟩
theorem avS:cO prog 46 [.int .u64 0,.int .u64 0,zS0] [(0,1),(1,1),(2,1)]:=dn zeroValue46 underlying46 (λw=>by kernel_rfl)
theorem anV:aO prog 46 0 0:=⟨λa w=>by kernel_rfl⟩
theorem anW:aO prog 46 1 1:=⟨λa w=>by kernel_rfl⟩
theorem anX:aO prog 46 2 2:=⟨λa w=>by kernel_rfl⟩
theorem anY:aG prog 46 0 0 1 false:=aH underlying46 (by kernel_rfl) s8 (by decide)
theorem anZ:aG prog 46 1 1 1 false:=aH underlying46 (by kernel_rfl) s8 (by decide)
theorem an0:aG prog 46 2 2 1 false:=aH underlying46 (by kernel_rfl) agG (by decide)
theorem ty47:TyS prog 47 1 false:=⟨sizeOf47,isAgg47⟩
theorem ty51:TyS prog 51 11 true:=⟨sizeOf51,isAgg51⟩
theorem avT:cO prog 51 [zS0,zI0,zI0,zI0,zI0,zI0,zI0,zI0,zI0,.int .u64 0,.string ⟨#[]⟩] [(0,1),(1,10)]:=dn zeroValue51 underlying51 (λw=>by kernel_rfl)
theorem an1:aO prog 51 0 0:=⟨λa w=>by kernel_rfl⟩
theorem an2:aO prog 51 1 1:=⟨λa w=>by kernel_rfl⟩
theorem an3:aG prog 51 0 0 1 false:=aH underlying51 (by kernel_rfl) yP (by decide)
theorem an4:aG prog 51 1 1 10 true:=aH underlying51 (by kernel_rfl) wR (by decide)
theorem yQ:TyS prog 52 11 true:=⟨sizeOf52,isAgg52⟩
theorem avU:cO prog 52 [zS0,zI0,zI0,zI0,zI0,zI0,zI0,zI0,zI0,.int .u64 0,.string ⟨#[]⟩] [(0,1),(1,10)]:=dn zeroValue52 underlying52 (λw=>by kernel_rfl)
theorem an5:aO prog 52 0 0:=⟨λa w=>by kernel_rfl⟩
theorem an6:aO prog 52 1 1:=⟨λa w=>by kernel_rfl⟩
theorem an7:aG prog 52 0 0 1 false:=aH underlying52 (by kernel_rfl) yP (by decide)
theorem an8:aG prog 52 1 1 10 true:=aH underlying52 (by kernel_rfl) wR (by decide)
theorem ty53:TyS prog 53 12 true:=⟨sizeOf53,isAgg53⟩
theorem avV:cO prog 53 [zI0,zS0,zI0,zI0,zI0,zI0,zI0,zI0,zI0,zI0,.int .u64 0,.string ⟨#[]⟩] [(0,1),(1,11)]:=dn zeroValue53 underlying53 (λw=>by kernel_rfl)
theorem an9:aO prog 53 0 0:=⟨λa w=>by kernel_rfl⟩
theorem aoa:aO prog 53 1 1:=⟨λa w=>by kernel_rfl⟩
theorem aob:aG prog 53 0 0 1 false:=aH underlying53 (by kernel_rfl) ty3 (by decide)
theorem aoc:aG prog 53 1 1 11 true:=aH underlying53 (by kernel_rfl) yQ (by decide)
theorem agH:TyS prog 54 12 true:=⟨sizeOf54,isAgg54⟩
theorem avW:cO prog 54 [zI0,zS0,zI0,zI0,zI0,zI0,zI0,zI0,zI0,zI0,.int .u64 0,.string ⟨#[]⟩] [(0,1),(1,11)]:=dn zeroValue54 underlying54 (λw=>by kernel_rfl)
theorem aod:aO prog 54 0 0:=⟨λa w=>by kernel_rfl⟩
theorem aoe:aO prog 54 1 1:=⟨λa w=>by kernel_rfl⟩
theorem aof:aG prog 54 0 0 1 false:=aH underlying54 (by kernel_rfl) ty3 (by decide)
theorem aog:aG prog 54 1 1 11 true:=aH underlying54 (by kernel_rfl) yQ (by decide)
theorem ack:TyS prog 61 1 false:=⟨sizeOf61,isAgg61⟩
theorem sl61:SlS prog 61 67 2:=⟨underlying61,sizeOf67⟩
theorem avX:fL prog 61 67 2 16:=⟨underlying61,(by obtain⟨i,h1,h2,h3,h4⟩:=info_parts (by kernel_rfl:(prog.info? 67).map (λi=>(i.zero,i.size,i.bytes))=some (some (.agg #[zI0,zI0]),2,16));exact⟨i,_,h1,h2,h3,h4,rfl⟩),by decide⟩
theorem avY:fU prog 61 67 2 [zI0,zI0]:=⟨underlying61,sizeOf67,aqy,rfl⟩
theorem ty62:TyS prog 62 2 true:=⟨sizeOf62,isAgg62⟩
theorem avZ:cO prog 62 [zI0,zS0] [(0,1),(1,1)]:=dn zeroValue62 underlying62 (λw=>by kernel_rfl)
theorem aoh:aO prog 62 0 0:=⟨λa w=>by kernel_rfl⟩
theorem aoi:aO prog 62 1 1:=⟨λa w=>by kernel_rfl⟩
theorem aoj:aG prog 62 0 0 1 false:=aH underlying62 (by kernel_rfl) ty3 (by decide)
theorem aok:aG prog 62 1 1 1 false:=aH underlying62 (by kernel_rfl) ack (by decide)
theorem ty63:TyS prog 63 2 true:=⟨sizeOf63,isAgg63⟩
theorem av0:cO prog 63 [zI0,zS0] [(0,1),(1,1)]:=dn zeroValue63 underlying63 (λw=>by kernel_rfl)
theorem aol:aO prog 63 0 0:=⟨λa w=>by kernel_rfl⟩
theorem aom:aO prog 63 1 1:=⟨λa w=>by kernel_rfl⟩
theorem aon:aG prog 63 0 0 1 false:=aH underlying63 (by kernel_rfl) ty3 (by decide)
theorem aoo:aG prog 63 1 1 1 false:=aH underlying63 (by kernel_rfl) ack (by decide)
theorem ty66:TyS prog 66 2 true:=⟨sizeOf66,isAgg66⟩
theorem av2:cO prog 66 [zI0,zI0] [(0,1),(1,1)]:=dn zeroValue66 underlying66 (λw=>by kernel_rfl)
theorem aop:aO prog 66 0 0:=⟨λa w=>by kernel_rfl⟩
theorem aoq:aO prog 66 1 1:=⟨λa w=>by kernel_rfl⟩
theorem aor:aG prog 66 0 0 1 false:=aH underlying66 (by kernel_rfl) ty3 (by decide)
theorem aos:aG prog 66 1 1 1 false:=aH underlying66 (by kernel_rfl) ty3 (by decide)
theorem ty67:TyS prog 67 2 true:=⟨sizeOf67,isAgg67⟩
theorem av3:cO prog 67 [zI0,zI0] [(0,1),(1,1)]:=dn zeroValue67 underlying67 (λw=>by kernel_rfl)
theorem aot:aO prog 67 0 0:=⟨λa w=>by kernel_rfl⟩
theorem aou:aO prog 67 1 1:=⟨λa w=>by kernel_rfl⟩
theorem aov:aG prog 67 0 0 1 false:=aH underlying67 (by kernel_rfl) ty3 (by decide)
theorem aow:aG prog 67 1 1 1 false:=aH underlying67 (by kernel_rfl) ty3 (by decide)
theorem av4(a0 b0:Int)(a1 b1:Int)(w:World):(Op.eqFields 9999 #[.int .i64 a0,.int .i64 a1] #[.int .i64 b0,.int .i64 b1] (prog.fieldsOf 67).toList).run prog w=.ok (decide (a0=b0)&&(decide (a1=b1)&&true)) w:=by
 have hf:(prog.fieldsOf 67).toList.map (λf=>(f.name== "_",f.type,f.offset))=[(false,3,0),(false,3,1)]:=by kernel_rfl
 have q:(Op.eqFields 9999 #[.int .i64 a0,.int .i64 a1] #[.int .i64 b0,.int .i64 b1] (prog.fieldsOf 67).toList).run prog w=.ok (decide (a0=b0)&&(decide (a1=b1)&&true)) w:=by
  obtain⟨f0,t0,e0,h0,hf⟩:=eS hf
  obtain⟨f1,t1,e1,h1,hf⟩:=eS hf
  rw[e0,e1,vu hf]
  exact jl h0 isAgg3 underlying3 rfl rfl (jl h1 isAgg3 underlying3 rfl rfl (aaA))
 exact q
theorem agI(x y:Operand)(a0 b0:Int)(a1 b1:Int)(w:World):(do eqGuard .eql 67 x y (.agg #[.int .i64 a0,.int .i64 a1]) (.agg #[.int .i64 b0,.int .i64 b1]);binOp .eql 67 (.agg #[.int .i64 a0,.int .i64 a1]) (.agg #[.int .i64 b0,.int .i64 b1]):Sem Value).run prog w=.ok (.bool (decide (a0=b0)&&(decide (a1=b1)&&true))) w:=amd _ _ _ x y (by kernel_rfl) (by kernel_rfl) (by kernel_rfl) (av4 a0 b0 a1 b1 w)
theorem agJ:TyS prog 70 1 false:=⟨sizeOf70,isAgg70⟩
theorem sl70:SlS prog 70 78 11:=⟨underlying70,sizeOf78⟩
theorem av5:fL prog 70 78 11 96:=⟨underlying70,(by obtain⟨i,h1,h2,h3,h4⟩:=info_parts (by kernel_rfl:(prog.info? 78).map (λi=>(i.zero,i.size,i.bytes))=some (some (.agg #[zI0,zI0,zI0,zI0,zI0,zI0,zI0,zI0,zI0,.int .u64 0,.string ⟨#[]⟩]),11,96));exact⟨i,_,h1,h2,h3,h4,rfl⟩),by decide⟩
theorem av6:fU prog 70 78 11 [zI0,zI0,zI0,zI0,zI0,zI0,zI0,zI0,zI0,.int .u64 0,.string ⟨#[]⟩]:=⟨underlying70,sizeOf78,aqz,rfl⟩
theorem agK:TyS prog 71 1 false:=⟨sizeOf71,isAgg71⟩
theorem sl71:SlS prog 71 81 3:=⟨underlying71,sizeOf81⟩
theorem av7:fL prog 71 81 3 24:=⟨underlying71,(by obtain⟨i,h1,h2,h3,h4⟩:=info_parts (by kernel_rfl:(prog.info? 81).map (λi=>(i.zero,i.size,i.bytes))=some (some (.agg #[zI0,zI0,.int .u64 0]),3,24));exact⟨i,_,h1,h2,h3,h4,rfl⟩),by decide⟩
theorem av8:fU prog 71 81 3 [zI0,zI0,.int .u64 0]:=⟨underlying71,sizeOf81,aqA,rfl⟩
theorem agL:TyS prog 72 1 false:=⟨sizeOf72,isAgg72⟩
theorem sl72:SlS prog 72 141 2:=⟨underlying72,sizeOf141⟩
theorem av9:fL prog 72 141 2 16:=⟨underlying72,(by obtain⟨i,h1,h2,h3,h4⟩:=info_parts (by kernel_rfl:(prog.info? 141).map (λi=>(i.zero,i.size,i.bytes))=some (some (.agg #[zI0,.int .u64 0]),2,16));exact⟨i,_,h1,h2,h3,h4,rfl⟩),by decide⟩
theorem awa:fU prog 72 141 2 [zI0,.int .u64 0]:=⟨underlying72,sizeOf141,akz,rfl⟩
theorem ty73:TyS prog 73 3 true:=⟨sizeOf73,isAgg73⟩
theorem awb:cO prog 73 [zS0,zS0,zS0] [(0,1),(1,1),(2,1)]:=dn zeroValue73 underlying73 (λw=>by kernel_rfl)
theorem aox:aO prog 73 0 0:=⟨λa w=>by kernel_rfl⟩
theorem aoy:aO prog 73 1 1:=⟨λa w=>by kernel_rfl⟩
theorem aoz:aO prog 73 2 2:=⟨λa w=>by kernel_rfl⟩
theorem aoA:aG prog 73 0 0 1 false:=aH underlying73 (by kernel_rfl) agJ (by decide)
theorem aoB:aG prog 73 1 1 1 false:=aH underlying73 (by kernel_rfl) agK (by decide)
theorem aoC:aG prog 73 2 2 1 false:=aH underlying73 (by kernel_rfl) agL (by decide)
theorem agM:TyS prog 74 3 true:=⟨sizeOf74,isAgg74⟩
theorem awc:cO prog 74 [zS0,zS0,zS0] [(0,1),(1,1),(2,1)]:=dn zeroValue74 underlying74 (λw=>by kernel_rfl)
theorem aoD:aO prog 74 0 0:=⟨λa w=>by kernel_rfl⟩
theorem aoE:aO prog 74 1 1:=⟨λa w=>by kernel_rfl⟩
theorem aoF:aO prog 74 2 2:=⟨λa w=>by kernel_rfl⟩
theorem aoG:aG prog 74 0 0 1 false:=aH underlying74 (by kernel_rfl) agJ (by decide)
theorem aoH:aG prog 74 1 1 1 false:=aH underlying74 (by kernel_rfl) agK (by decide)
theorem aoI:aG prog 74 2 2 1 false:=aH underlying74 (by kernel_rfl) agL (by decide)
theorem ty77:TyS prog 77 11 true:=⟨sizeOf77,isAgg77⟩
theorem awd:cO prog 77 [zI0,zI0,zI0,zI0,zI0,zI0,zI0,zI0,zI0,.int .u64 0,.string ⟨#[]⟩] [(0,1),(1,10)]:=dn zeroValue77 underlying77 (λw=>by kernel_rfl)
theorem aoJ:aO prog 77 0 0:=⟨λa w=>by kernel_rfl⟩
theorem aoK:aO prog 77 1 1:=⟨λa w=>by kernel_rfl⟩
theorem aoL:aG prog 77 0 0 1 false:=aH underlying77 (by kernel_rfl) ty3 (by decide)
theorem aoM:aG prog 77 1 1 10 true:=aH underlying77 (by kernel_rfl) wR (by decide)
theorem ty78:TyS prog 78 11 true:=⟨sizeOf78,isAgg78⟩
theorem awe:cO prog 78 [zI0,zI0,zI0,zI0,zI0,zI0,zI0,zI0,zI0,.int .u64 0,.string ⟨#[]⟩] [(0,1),(1,10)]:=dn zeroValue78 underlying78 (λw=>by kernel_rfl)
theorem aoN:aO prog 78 0 0:=⟨λa w=>by kernel_rfl⟩
theorem aoO:aO prog 78 1 1:=⟨λa w=>by kernel_rfl⟩
theorem aoP:aG prog 78 0 0 1 false:=aH underlying78 (by kernel_rfl) ty3 (by decide)
theorem aoQ:aG prog 78 1 1 10 true:=aH underlying78 (by kernel_rfl) wR (by decide)
theorem ty80:TyS prog 80 3 true:=⟨sizeOf80,isAgg80⟩
theorem awf:cO prog 80 [zI0,zI0,.int .u64 0] [(0,1),(1,1),(2,1)]:=dn zeroValue80 underlying80 (λw=>by kernel_rfl)
theorem aoR:aO prog 80 0 0:=⟨λa w=>by kernel_rfl⟩
theorem aoS:aO prog 80 1 1:=⟨λa w=>by kernel_rfl⟩
theorem aoT:aO prog 80 2 2:=⟨λa w=>by kernel_rfl⟩
theorem aoU:aG prog 80 0 0 1 false:=aH underlying80 (by kernel_rfl) ty3 (by decide)
theorem aoV:aG prog 80 1 1 1 false:=aH underlying80 (by kernel_rfl) ty3 (by decide)
theorem aoW:aG prog 80 2 2 1 false:=aH underlying80 (by kernel_rfl) s8 (by decide)
theorem ty81:TyS prog 81 3 true:=⟨sizeOf81,isAgg81⟩
theorem awg:cO prog 81 [zI0,zI0,.int .u64 0] [(0,1),(1,1),(2,1)]:=dn zeroValue81 underlying81 (λw=>by kernel_rfl)
theorem aoX:aO prog 81 0 0:=⟨λa w=>by kernel_rfl⟩
theorem aoY:aO prog 81 1 1:=⟨λa w=>by kernel_rfl⟩
theorem aoZ:aO prog 81 2 2:=⟨λa w=>by kernel_rfl⟩
theorem ao0:aG prog 81 0 0 1 false:=aH underlying81 (by kernel_rfl) ty3 (by decide)
theorem ao1:aG prog 81 1 1 1 false:=aH underlying81 (by kernel_rfl) ty3 (by decide)
theorem ao2:aG prog 81 2 2 1 false:=aH underlying81 (by kernel_rfl) s8 (by decide)
theorem ty88:TyS prog 88 5 true:=⟨sizeOf88,isAgg88⟩
theorem awh:cO prog 88 [zI0,zI0,zI0,zI0,zI0] [(0,1),(1,1),(2,1),(3,1),(4,1)]:=dn zeroValue88 underlying88 (λw=>by kernel_rfl)
theorem ao3:aO prog 88 0 0:=⟨λa w=>by kernel_rfl⟩
theorem ao4:aO prog 88 1 1:=⟨λa w=>by kernel_rfl⟩
theorem ao5:aO prog 88 2 2:=⟨λa w=>by kernel_rfl⟩
theorem ao6:aO prog 88 3 3:=⟨λa w=>by kernel_rfl⟩
theorem ao7:aO prog 88 4 4:=⟨λa w=>by kernel_rfl⟩
theorem ao8:aG prog 88 0 0 1 false:=aH underlying88 (by kernel_rfl) ty3 (by decide)
theorem ao9:aG prog 88 1 1 1 false:=aH underlying88 (by kernel_rfl) ty3 (by decide)
theorem apa:aG prog 88 2 2 1 false:=aH underlying88 (by kernel_rfl) ty3 (by decide)
theorem apb:aG prog 88 3 3 1 false:=aH underlying88 (by kernel_rfl) ty3 (by decide)
theorem apc:aG prog 88 4 4 1 false:=aH underlying88 (by kernel_rfl) ty3 (by decide)
theorem ty89:TyS prog 89 5 true:=⟨sizeOf89,isAgg89⟩
theorem awi:cO prog 89 [zI0,zI0,zI0,zI0,zI0] [(0,1),(1,1),(2,1),(3,1),(4,1)]:=dn zeroValue89 underlying89 (λw=>by kernel_rfl)
theorem apd:aO prog 89 0 0:=⟨λa w=>by kernel_rfl⟩
theorem ape:aO prog 89 1 1:=⟨λa w=>by kernel_rfl⟩
theorem apf:aO prog 89 2 2:=⟨λa w=>by kernel_rfl⟩
theorem apg:aO prog 89 3 3:=⟨λa w=>by kernel_rfl⟩
theorem aph:aO prog 89 4 4:=⟨λa w=>by kernel_rfl⟩
theorem api:aG prog 89 0 0 1 false:=aH underlying89 (by kernel_rfl) ty3 (by decide)
theorem apj:aG prog 89 1 1 1 false:=aH underlying89 (by kernel_rfl) ty3 (by decide)
theorem apk:aG prog 89 2 2 1 false:=aH underlying89 (by kernel_rfl) ty3 (by decide)
theorem apl:aG prog 89 3 3 1 false:=aH underlying89 (by kernel_rfl) ty3 (by decide)
theorem apm:aG prog 89 4 4 1 false:=aH underlying89 (by kernel_rfl) ty3 (by decide)
theorem ty91:TyS prog 91 1 false:=⟨sizeOf91,isAgg91⟩
theorem sl91:SlS prog 91 32 2:=⟨underlying91,sizeOf32⟩
theorem awj:fL prog 91 32 2 32:=⟨underlying91,(by obtain⟨i,h1,h2,h3,h4⟩:=info_parts (by kernel_rfl:(prog.info? 32).map (λi=>(i.zero,i.size,i.bytes))=some (some (.agg #[zI0,zS0]),2,32));exact⟨i,_,h1,h2,h3,h4,rfl⟩),by decide⟩
theorem awk:fU prog 91 32 2 [zI0,zS0]:=⟨underlying91,sizeOf32,aqr,rfl⟩
theorem ty93:TyS prog 93 1 false:=⟨sizeOf93,isAgg93⟩
theorem sl93:SlS prog 93 36 10:=⟨underlying93,sizeOf36⟩
theorem awl:fL prog 93 36 10 88:=⟨underlying93,(by obtain⟨i,h1,h2,h3,h4⟩:=info_parts (by kernel_rfl:(prog.info? 36).map (λi=>(i.zero,i.size,i.bytes))=some (some (.agg #[zI0,zI0,zI0,zI0,zI0,zI0,zI0,zI0,.int .u64 0,.string ⟨#[]⟩]),10,88));exact⟨i,_,h1,h2,h3,h4,rfl⟩),by decide⟩
theorem awm:fU prog 93 36 10 [zI0,zI0,zI0,zI0,zI0,zI0,zI0,zI0,.int .u64 0,.string ⟨#[]⟩]:=⟨underlying93,sizeOf36,aqs,rfl⟩
theorem ty94:TyS prog 94 1 false:=⟨sizeOf94,isAgg94⟩
theorem sl94:SlS prog 94 28 2:=⟨underlying94,sizeOf28⟩
theorem awn:fL prog 94 28 2 48:=⟨underlying94,(by obtain⟨i,h1,h2,h3,h4⟩:=info_parts (by kernel_rfl:(prog.info? 28).map (λi=>(i.zero,i.size,i.bytes))=some (some (.agg #[zS0,zS0]),2,48));exact⟨i,_,h1,h2,h3,h4,rfl⟩),by decide⟩
theorem awo:fU prog 94 28 2 [zS0,zS0]:=⟨underlying94,sizeOf28,aqq,rfl⟩
theorem ty96:TyS prog 96 1 false:=⟨sizeOf96,isAgg96⟩
theorem sl96:SlS prog 96 63 2:=⟨underlying96,sizeOf63⟩
theorem awp:fL prog 96 63 2 32:=⟨underlying96,(by obtain⟨i,h1,h2,h3,h4⟩:=info_parts (by kernel_rfl:(prog.info? 63).map (λi=>(i.zero,i.size,i.bytes))=some (some (.agg #[zI0,zS0]),2,32));exact⟨i,_,h1,h2,h3,h4,rfl⟩),by decide⟩
theorem awq:fU prog 96 63 2 [zI0,zS0]:=⟨underlying96,sizeOf63,aqx,rfl⟩
theorem ty97:TyS prog 97 1 false:=⟨sizeOf97,isAgg97⟩
theorem sl97:SlS prog 97 22 1:=⟨underlying97,sizeOf22⟩
theorem awr:fL prog 97 22 1 24:=⟨underlying97,(by obtain⟨i,h1,h2,h3,h4⟩:=info_parts (by kernel_rfl:(prog.info? 22).map (λi=>(i.zero,i.size,i.bytes))=some (some (zS0),1,24));exact⟨i,_,h1,h2,h3,h4,rfl⟩),by decide⟩
theorem aws:fU prog 97 22 1 [zS0]:=⟨underlying97,sizeOf22,aqp,rfl⟩
theorem ty99:TyS prog 99 2 true:=⟨sizeOf99,isAgg99⟩
theorem awt:cO prog 99 [zS0,zS0] [(0,1),(1,1)]:=dn zeroValue99 underlying99 (λw=>by kernel_rfl)
theorem apn:aO prog 99 0 0:=⟨λa w=>by kernel_rfl⟩
theorem apo:aO prog 99 1 1:=⟨λa w=>by kernel_rfl⟩
theorem apq:aG prog 99 0 0 1 false:=aH underlying99 (by kernel_rfl) ack (by decide)
theorem apr:aG prog 99 1 1 1 false:=aH underlying99 (by kernel_rfl) yP (by decide)
theorem aeo:TyS prog 100 2 true:=⟨sizeOf100,isAgg100⟩
theorem aqT:cO prog 100 [zS0,zS0] [(0,1),(1,1)]:=dn zeroValue100 underlying100 (λw=>by kernel_rfl)
theorem agN:aO prog 100 0 0:=⟨λa w=>by kernel_rfl⟩
theorem agO:aO prog 100 1 1:=⟨λa w=>by kernel_rfl⟩
theorem agP:aG prog 100 0 0 1 false:=aH underlying100 (by kernel_rfl) ack (by decide)
theorem agQ:aG prog 100 1 1 1 false:=aH underlying100 (by kernel_rfl) yP (by decide)
theorem awu:TyS prog 105 1 false:=⟨sizeOf105,isAgg105⟩
theorem awv:SlS prog 105 100 2:=⟨underlying105,sizeOf100⟩
theorem aqU:fL prog 105 100 2 48:=⟨underlying105,(by obtain⟨i,h1,h2,h3,h4⟩:=info_parts (by kernel_rfl:(prog.info? 100).map (λi=>(i.zero,i.size,i.bytes))=some (some (.agg #[zS0,zS0]),2,48));exact⟨i,_,h1,h2,h3,h4,rfl⟩),by decide⟩
theorem aqV:fU prog 105 100 2 [zS0,zS0]:=⟨underlying105,sizeOf100,akw,rfl⟩
theorem aww:TyS prog 114 2 true:=⟨sizeOf114,isAgg114⟩
theorem aqW:cO prog 114 [zS0,zI0] [(0,1),(1,1)]:=dn zeroValue114 underlying114 (λw=>by kernel_rfl)
theorem agR:aO prog 114 0 0:=⟨λa w=>by kernel_rfl⟩
theorem agS:aO prog 114 1 1:=⟨λa w=>by kernel_rfl⟩
theorem agT:aG prog 114 0 0 1 false:=aH underlying114 (by kernel_rfl) yP (by decide)
theorem agU:aG prog 114 1 1 1 false:=aH underlying114 (by kernel_rfl) ty3 (by decide)
theorem awx:TyS prog 115 2 true:=⟨sizeOf115,isAgg115⟩
theorem aqX:cO prog 115 [zS0,zI0] [(0,1),(1,1)]:=dn zeroValue115 underlying115 (λw=>by kernel_rfl)
theorem agV:aO prog 115 0 0:=⟨λa w=>by kernel_rfl⟩
theorem agW:aO prog 115 1 1:=⟨λa w=>by kernel_rfl⟩
theorem agX:aG prog 115 0 0 1 false:=aH underlying115 (by kernel_rfl) yP (by decide)
theorem agY:aG prog 115 1 1 1 false:=aH underlying115 (by kernel_rfl) ty3 (by decide)
theorem awy:TyS prog 117 1 false:=⟨sizeOf117,isAgg117⟩
theorem tX:SlS prog 117 118 1:=⟨underlying117,sizeOf118⟩
theorem aft:fL prog 117 118 1 24:=⟨underlying117,(by obtain⟨i,h1,h2,h3,h4⟩:=info_parts (by kernel_rfl:(prog.info? 118).map (λi=>(i.zero,i.size,i.bytes))=some (some (zS0),1,24));exact⟨i,_,h1,h2,h3,h4,rfl⟩),by decide⟩
theorem afu:fU prog 117 118 1 [zS0]:=⟨underlying117,sizeOf118,akx,rfl⟩
theorem zM:TyS prog 118 1 false:=⟨sizeOf118,isAgg118⟩
theorem awz:SlS prog 118 4 1:=⟨underlying118,sizeOf4⟩
theorem afv:fL prog 118 4 1 1:=⟨underlying118,(by obtain⟨i,h1,h2,h3,h4⟩:=info_parts (by kernel_rfl:(prog.info? 4).map (λi=>(i.zero,i.size,i.bytes))=some (some (.bool false),1,1));exact⟨i,_,h1,h2,h3,h4,rfl⟩),by decide⟩
theorem afw:fU prog 118 4 1 [.bool false]:=⟨underlying118,sizeOf4,ze4,rfl⟩
theorem awA:TyS prog 130 1 false:=⟨sizeOf130,isAgg130⟩
theorem awB:TyS prog 133 11 true:=⟨sizeOf133,isAgg133⟩
theorem aqY:cO prog 133 [zI0,zI0,zI0,zI0,zI0,zI0,zI0,zI0,zI0,.int .u64 0,.string ⟨#[]⟩] [(0,1),(1,10)]:=dn zeroValue133 underlying133 (λw=>by kernel_rfl)
theorem agZ:aO prog 133 0 0:=⟨λa w=>by kernel_rfl⟩
theorem ag0:aO prog 133 1 1:=⟨λa w=>by kernel_rfl⟩
theorem ag1:aG prog 133 0 0 1 false:=aH underlying133 (by kernel_rfl) ty3 (by decide)
theorem ag3:aG prog 133 1 1 10 true:=aH underlying133 (by kernel_rfl) wR (by decide)
theorem awC:TyS prog 134 11 true:=⟨sizeOf134,isAgg134⟩
theorem aqZ:cO prog 134 [zI0,zI0,zI0,zI0,zI0,zI0,zI0,zI0,zI0,.int .u64 0,.string ⟨#[]⟩] [(0,1),(1,10)]:=dn zeroValue134 underlying134 (λw=>by kernel_rfl)
theorem ag4:aO prog 134 0 0:=⟨λa w=>by kernel_rfl⟩
theorem ag5:aO prog 134 1 1:=⟨λa w=>by kernel_rfl⟩
theorem ag6:aG prog 134 0 0 1 false:=aH underlying134 (by kernel_rfl) ty3 (by decide)
theorem ag7:aG prog 134 1 1 10 true:=aH underlying134 (by kernel_rfl) wR (by decide)
theorem awD:TyS prog 135 1 false:=⟨sizeOf135,isAgg135⟩
theorem awE:SlS prog 135 134 11:=⟨underlying135,sizeOf134⟩
theorem aq0:fL prog 135 134 11 96:=⟨underlying135,(by obtain⟨i,h1,h2,h3,h4⟩:=info_parts (by kernel_rfl:(prog.info? 134).map (λi=>(i.zero,i.size,i.bytes))=some (some (.agg #[zI0,zI0,zI0,zI0,zI0,zI0,zI0,zI0,zI0,.int .u64 0,.string ⟨#[]⟩]),11,96));exact⟨i,_,h1,h2,h3,h4,rfl⟩),by decide⟩
theorem aq1:fU prog 135 134 11 [zI0,zI0,zI0,zI0,zI0,zI0,zI0,zI0,zI0,.int .u64 0,.string ⟨#[]⟩]:=⟨underlying135,sizeOf134,aky,rfl⟩
theorem awF:TyS prog 136 1 false:=⟨sizeOf136,isAgg136⟩
theorem awG:SlS prog 136 143 16:=⟨underlying136,sizeOf143⟩
theorem aq2:fL prog 136 143 16 152:=⟨underlying136,(by obtain⟨i,h1,h2,h3,h4⟩:=info_parts (by kernel_rfl:(prog.info? 143).map (λi=>(i.zero,i.size,i.bytes))=some (some (.agg #[zI0,zI0,zI0,zI0,zI0,zS0,zI0,zI0,zI0,zI0,zI0,zI0,zI0,zI0,.int .u64 0,.string ⟨#[]⟩]),16,152));exact⟨i,_,h1,h2,h3,h4,rfl⟩),by decide⟩
theorem aq3:fU prog 136 143 16 [zI0,zI0,zI0,zI0,zI0,zS0,zI0,zI0,zI0,zI0,zI0,zI0,zI0,zI0,.int .u64 0,.string ⟨#[]⟩]:=⟨underlying136,sizeOf143,akA,rfl⟩
theorem awH:TyS prog 140 2 true:=⟨sizeOf140,isAgg140⟩
theorem aq4:cO prog 140 [zI0,.int .u64 0] [(0,1),(1,1)]:=dn zeroValue140 underlying140 (λw=>by kernel_rfl)
theorem ag8:aO prog 140 0 0:=⟨λa w=>by kernel_rfl⟩
theorem ag9:aO prog 140 1 1:=⟨λa w=>by kernel_rfl⟩
theorem aha:aG prog 140 0 0 1 false:=aH underlying140 (by kernel_rfl) ty3 (by decide)
theorem ahb:aG prog 140 1 1 1 false:=aH underlying140 (by kernel_rfl) s8 (by decide)
theorem awI:TyS prog 141 2 true:=⟨sizeOf141,isAgg141⟩
theorem aq5:cO prog 141 [zI0,.int .u64 0] [(0,1),(1,1)]:=dn zeroValue141 underlying141 (λw=>by kernel_rfl)
theorem ahc:aO prog 141 0 0:=⟨λa w=>by kernel_rfl⟩
theorem ahd:aO prog 141 1 1:=⟨λa w=>by kernel_rfl⟩
theorem ahe:aG prog 141 0 0 1 false:=aH underlying141 (by kernel_rfl) ty3 (by decide)
theorem ahf:aG prog 141 1 1 1 false:=aH underlying141 (by kernel_rfl) s8 (by decide)
theorem awJ:TyS prog 142 16 true:=⟨sizeOf142,isAgg142⟩
theorem aq6:cO prog 142 [zI0,zI0,zI0,zI0,zI0,zS0,zI0,zI0,zI0,zI0,zI0,zI0,zI0,zI0,.int .u64 0,.string ⟨#[]⟩] [(0,4),(4,12)]:=dn zeroValue142 underlying142 (λw=>by kernel_rfl)
theorem ahg:aO prog 142 0 0:=⟨λa w=>by kernel_rfl⟩
theorem ahh:aO prog 142 1 4:=⟨λa w=>by kernel_rfl⟩
theorem ahi:aG prog 142 0 0 4 true:=aH underlying142 (by kernel_rfl) agF (by decide)
theorem ahj:aG prog 142 1 4 12 true:=aH underlying142 (by kernel_rfl) agH (by decide)
theorem awK:TyS prog 143 16 true:=⟨sizeOf143,isAgg143⟩
theorem aq7:cO prog 143 [zI0,zI0,zI0,zI0,zI0,zS0,zI0,zI0,zI0,zI0,zI0,zI0,zI0,zI0,.int .u64 0,.string ⟨#[]⟩] [(0,4),(4,12)]:=dn zeroValue143 underlying143 (λw=>by kernel_rfl)
theorem ahk:aO prog 143 0 0:=⟨λa w=>by kernel_rfl⟩
theorem ahl:aO prog 143 1 4:=⟨λa w=>by kernel_rfl⟩
theorem ahm:aG prog 143 0 0 4 true:=aH underlying143 (by kernel_rfl) agF (by decide)
theorem ahn:aG prog 143 1 4 12 true:=aH underlying143 (by kernel_rfl) agH (by decide)
theorem awL:TyS prog 146 11 true:=⟨sizeOf146,isAgg146⟩
theorem aq8:cO prog 146 [zI0,zI0,zI0,zI0,zI0,zI0,zI0,zI0,zI0,.int .u64 0,.string ⟨#[]⟩] [(0,1),(1,10)]:=dn zeroValue146 underlying146 (λw=>by kernel_rfl)
theorem aho:aO prog 146 0 0:=⟨λa w=>by kernel_rfl⟩
theorem ahp:aO prog 146 1 1:=⟨λa w=>by kernel_rfl⟩
theorem ahq:aG prog 146 0 0 1 false:=aH underlying146 (by kernel_rfl) ty3 (by decide)
theorem ahr:aG prog 146 1 1 10 true:=aH underlying146 (by kernel_rfl) wR (by decide)
theorem awM:TyS prog 147 1 false:=⟨sizeOf147,isAgg147⟩
theorem awN:SlS prog 147 146 11:=⟨underlying147,sizeOf146⟩
theorem aq9:fL prog 147 146 11 96:=⟨underlying147,(by obtain⟨i,h1,h2,h3,h4⟩:=info_parts (by kernel_rfl:(prog.info? 146).map (λi=>(i.zero,i.size,i.bytes))=some (some (.agg #[zI0,zI0,zI0,zI0,zI0,zI0,zI0,zI0,zI0,.int .u64 0,.string ⟨#[]⟩]),11,96));exact⟨i,_,h1,h2,h3,h4,rfl⟩),by decide⟩
theorem ara:fU prog 147 146 11 [zI0,zI0,zI0,zI0,zI0,zI0,zI0,zI0,zI0,.int .u64 0,.string ⟨#[]⟩]:=⟨underlying147,sizeOf146,akB,rfl⟩
theorem awO:TyS prog 152 1 false:=⟨sizeOf152,isAgg152⟩
theorem awP:TyS prog 153 12 true:=⟨sizeOf153,isAgg153⟩
theorem arb:cO prog 153 [zI0,zS0,zI0,zI0,zI0,zI0,zI0,zI0,zI0,zI0,.int .u64 0,.string ⟨#[]⟩] [(0,1),(1,11)]:=dn zeroValue153 underlying153 (λw=>by kernel_rfl)
theorem ahs:aO prog 153 0 0:=⟨λa w=>by kernel_rfl⟩
theorem aht:aO prog 153 1 1:=⟨λa w=>by kernel_rfl⟩
theorem ahu:aG prog 153 0 0 1 false:=aH underlying153 (by kernel_rfl) ty3 (by decide)
theorem ahv:aG prog 153 1 1 11 true:=aH underlying153 (by kernel_rfl) yQ (by decide)
theorem awQ:TyS prog 154 12 true:=⟨sizeOf154,isAgg154⟩
theorem arc:cO prog 154 [zI0,zS0,zI0,zI0,zI0,zI0,zI0,zI0,zI0,zI0,.int .u64 0,.string ⟨#[]⟩] [(0,1),(1,11)]:=dn zeroValue154 underlying154 (λw=>by kernel_rfl)
theorem ahw:aO prog 154 0 0:=⟨λa w=>by kernel_rfl⟩
theorem ahx:aO prog 154 1 1:=⟨λa w=>by kernel_rfl⟩
theorem ahy:aG prog 154 0 0 1 false:=aH underlying154 (by kernel_rfl) ty3 (by decide)
theorem ahz:aG prog 154 1 1 11 true:=aH underlying154 (by kernel_rfl) yQ (by decide)
theorem aep:TyS prog 155 1 false:=⟨sizeOf155,isAgg155⟩
theorem awR:SlS prog 155 154 12:=⟨underlying155,sizeOf154⟩
theorem ard:fL prog 155 154 12 120:=⟨underlying155,(by obtain⟨i,h1,h2,h3,h4⟩:=info_parts (by kernel_rfl:(prog.info? 154).map (λi=>(i.zero,i.size,i.bytes))=some (some (.agg #[zI0,zS0,zI0,zI0,zI0,zI0,zI0,zI0,zI0,zI0,.int .u64 0,.string ⟨#[]⟩]),12,120));exact⟨i,_,h1,h2,h3,h4,rfl⟩),by decide⟩
theorem arf:fU prog 155 154 12 [zI0,zS0,zI0,zI0,zI0,zI0,zI0,zI0,zI0,zI0,.int .u64 0,.string ⟨#[]⟩]:=⟨underlying155,sizeOf154,akC,rfl⟩
theorem awS:TyS prog 156 12 true:=⟨sizeOf156,isAgg156⟩
theorem arh:cO prog 156 [zI0,zS0,zS0,zS0,zS0,zS0,zS0,zS0,zS0,zS0,zS0,zS0] [(0,2),(2,2),(4,2),(6,2),(8,3),(11,1)]:=dn zeroValue156 underlying156 (λw=>by kernel_rfl)
theorem ahA:aO prog 156 0 0:=⟨λa w=>by kernel_rfl⟩
theorem ahB:aO prog 156 1 2:=⟨λa w=>by kernel_rfl⟩
theorem ahC:aO prog 156 2 4:=⟨λa w=>by kernel_rfl⟩
theorem ahD:aO prog 156 3 6:=⟨λa w=>by kernel_rfl⟩
theorem ahE:aO prog 156 4 8:=⟨λa w=>by kernel_rfl⟩
theorem ahF:aO prog 156 5 11:=⟨λa w=>by kernel_rfl⟩
theorem ahG:aG prog 156 0 0 2 true:=aH underlying156 (by kernel_rfl) agE (by decide)
theorem ahH:aG prog 156 1 2 2 true:=aH underlying156 (by kernel_rfl) aci (by decide)
theorem ahI:aG prog 156 2 4 2 true:=aH underlying156 (by kernel_rfl) aci (by decide)
theorem ahJ:aG prog 156 3 6 2 true:=aH underlying156 (by kernel_rfl) aeo (by decide)
theorem ahK:aG prog 156 4 8 3 true:=aH underlying156 (by kernel_rfl) agM (by decide)
theorem ahL:aG prog 156 5 11 1 false:=aH underlying156 (by kernel_rfl) aep (by decide)
theorem awT:TyS prog 157 12 true:=⟨sizeOf157,isAgg157⟩
theorem ari:cO prog 157 [zI0,zS0,zS0,zS0,zS0,zS0,zS0,zS0,zS0,zS0,zS0,zS0] [(0,2),(2,2),(4,2),(6,2),(8,3),(11,1)]:=dn zeroValue157 underlying157 (λw=>by kernel_rfl)
theorem ahM:aO prog 157 0 0:=⟨λa w=>by kernel_rfl⟩
theorem ahN:aO prog 157 1 2:=⟨λa w=>by kernel_rfl⟩
theorem ahO:aO prog 157 2 4:=⟨λa w=>by kernel_rfl⟩
theorem ahP:aO prog 157 3 6:=⟨λa w=>by kernel_rfl⟩
theorem ahQ:aO prog 157 4 8:=⟨λa w=>by kernel_rfl⟩
theorem ahR:aO prog 157 5 11:=⟨λa w=>by kernel_rfl⟩
theorem ahS:aG prog 157 0 0 2 true:=aH underlying157 (by kernel_rfl) agE (by decide)
theorem ahT:aG prog 157 1 2 2 true:=aH underlying157 (by kernel_rfl) aci (by decide)
theorem ahU:aG prog 157 2 4 2 true:=aH underlying157 (by kernel_rfl) aci (by decide)
theorem ahV:aG prog 157 3 6 2 true:=aH underlying157 (by kernel_rfl) aeo (by decide)
theorem ahW:aG prog 157 4 8 3 true:=aH underlying157 (by kernel_rfl) agM (by decide)
theorem ahX:aG prog 157 5 11 1 false:=aH underlying157 (by kernel_rfl) aep (by decide)
theorem awU:TyS prog 159 12 true:=⟨sizeOf159,isAgg159⟩
theorem arj:cO prog 159 [zI0,zS0,zI0,zI0,zI0,zI0,zI0,zI0,zI0,zI0,.int .u64 0,.string ⟨#[]⟩] [(0,1),(1,11)]:=dn zeroValue159 underlying159 (λw=>by kernel_rfl)
theorem ahY:aO prog 159 0 0:=⟨λa w=>by kernel_rfl⟩
theorem ahZ:aO prog 159 1 1:=⟨λa w=>by kernel_rfl⟩
theorem ah0:aG prog 159 0 0 1 false:=aH underlying159 (by kernel_rfl) ty3 (by decide)
theorem ah1:aG prog 159 1 1 11 true:=aH underlying159 (by kernel_rfl) yQ (by decide)
theorem awV:TyS prog 160 12 true:=⟨sizeOf160,isAgg160⟩
theorem ark:cO prog 160 [zI0,zS0,zI0,zI0,zI0,zI0,zI0,zI0,zI0,zI0,.int .u64 0,.string ⟨#[]⟩] [(0,1),(1,11)]:=dn zeroValue160 underlying160 (λw=>by kernel_rfl)
theorem ah2:aO prog 160 0 0:=⟨λa w=>by kernel_rfl⟩
theorem ah3:aO prog 160 1 1:=⟨λa w=>by kernel_rfl⟩
theorem ah4:aG prog 160 0 0 1 false:=aH underlying160 (by kernel_rfl) ty3 (by decide)
theorem ah5:aG prog 160 1 1 11 true:=aH underlying160 (by kernel_rfl) yQ (by decide)
theorem awW:TyS prog 161 1 false:=⟨sizeOf161,isAgg161⟩
theorem awX:SlS prog 161 160 12:=⟨underlying161,sizeOf160⟩
theorem arl:fL prog 161 160 12 120:=⟨underlying161,(by obtain⟨i,h1,h2,h3,h4⟩:=info_parts (by kernel_rfl:(prog.info? 160).map (λi=>(i.zero,i.size,i.bytes))=some (some (.agg #[zI0,zS0,zI0,zI0,zI0,zI0,zI0,zI0,zI0,zI0,.int .u64 0,.string ⟨#[]⟩]),12,120));exact⟨i,_,h1,h2,h3,h4,rfl⟩),by decide⟩
theorem arn:fU prog 161 160 12 [zI0,zS0,zI0,zI0,zI0,zI0,zI0,zI0,zI0,zI0,.int .u64 0,.string ⟨#[]⟩]:=⟨underlying161,sizeOf160,akD,rfl⟩
theorem awY:TyS prog 168 1 false:=⟨sizeOf168,isAgg168⟩
theorem awZ:TyS prog 170 1 false:=⟨sizeOf170,isAgg170⟩
theorem aw0:TyS prog 172 1 false:=⟨sizeOf172,isAgg172⟩
theorem aw1:TyS prog 173 1 false:=⟨sizeOf173,isAgg173⟩
theorem aw2:TyS prog 177 2 true:=⟨sizeOf177,isAgg177⟩
theorem aw3:TyS prog 178 1 false:=⟨sizeOf178,isAgg178⟩
theorem aw4:SlS prog 178 177 2:=⟨underlying178,sizeOf177⟩
theorem aro:fL prog 178 177 2 16:=⟨underlying178,(by obtain⟨i,h1,h2,h3,h4⟩:=info_parts (by kernel_rfl:(prog.info? 177).map (λi=>(i.zero,i.size,i.bytes))=some (some (.agg #[zI0,zI0]),2,16));exact⟨i,_,h1,h2,h3,h4,rfl⟩),by decide⟩
theorem arp:fU prog 178 177 2 [zI0,zI0]:=⟨underlying178,sizeOf177,xM,rfl⟩
theorem aw5:TyS prog 181 1 false:=⟨sizeOf181,isAgg181⟩
theorem aw6:SlS prog 181 184 3:=⟨underlying181,sizeOf184⟩
theorem arq:fL prog 181 184 3 24:=⟨underlying181,(by obtain⟨i,h1,h2,h3,h4⟩:=info_parts (by kernel_rfl:(prog.info? 184).map (λi=>(i.zero,i.size,i.bytes))=some (some (.agg #[zI0,zI0,zI0]),3,24));exact⟨i,_,h1,h2,h3,h4,rfl⟩),by decide⟩
theorem ars:fU prog 181 184 3 [zI0,zI0,zI0]:=⟨underlying181,sizeOf184,akE,rfl⟩
theorem aw7:TyS prog 183 3 true:=⟨sizeOf183,isAgg183⟩
theorem art:cO prog 183 [zI0,zI0,zI0] [(0,1),(1,1),(2,1)]:=dn zeroValue183 underlying183 (λw=>by kernel_rfl)
theorem ah6:aO prog 183 0 0:=⟨λa w=>by kernel_rfl⟩
theorem ah7:aO prog 183 1 1:=⟨λa w=>by kernel_rfl⟩
theorem ah8:aO prog 183 2 2:=⟨λa w=>by kernel_rfl⟩
theorem ah9:aG prog 183 0 0 1 false:=aH underlying183 (by kernel_rfl) ty3 (by decide)
theorem aia:aG prog 183 1 1 1 false:=aH underlying183 (by kernel_rfl) ty3 (by decide)
theorem aib:aG prog 183 2 2 1 false:=aH underlying183 (by kernel_rfl) ty3 (by decide)
theorem aw8:TyS prog 184 3 true:=⟨sizeOf184,isAgg184⟩
theorem aru:cO prog 184 [zI0,zI0,zI0] [(0,1),(1,1),(2,1)]:=dn zeroValue184 underlying184 (λw=>by kernel_rfl)
theorem aic:aO prog 184 0 0:=⟨λa w=>by kernel_rfl⟩
theorem aid:aO prog 184 1 1:=⟨λa w=>by kernel_rfl⟩
theorem aie:aO prog 184 2 2:=⟨λa w=>by kernel_rfl⟩
theorem aif:aG prog 184 0 0 1 false:=aH underlying184 (by kernel_rfl) ty3 (by decide)
theorem aih:aG prog 184 1 1 1 false:=aH underlying184 (by kernel_rfl) ty3 (by decide)
theorem aii:aG prog 184 2 2 1 false:=aH underlying184 (by kernel_rfl) ty3 (by decide)
theorem arv(a0 b0:Int)(a1 b1:Int)(a2 b2:Int)(w:World):(Op.eqFields 9999 #[.int .i64 a0,.int .i64 a1,.int .i64 a2] #[.int .i64 b0,.int .i64 b1,.int .i64 b2] (prog.fieldsOf 184).toList).run prog w=.ok (decide (a0=b0)&&(decide (a1=b1)&&(decide (a2=b2)&&true))) w:=by
 have hf:(prog.fieldsOf 184).toList.map (λf=>(f.name== "_",f.type,f.offset))=[(false,3,0),(false,3,1),(false,3,2)]:=by kernel_rfl
 have q:(Op.eqFields 9999 #[.int .i64 a0,.int .i64 a1,.int .i64 a2] #[.int .i64 b0,.int .i64 b1,.int .i64 b2] (prog.fieldsOf 184).toList).run prog w=.ok (decide (a0=b0)&&(decide (a1=b1)&&(decide (a2=b2)&&true))) w:=by
  obtain⟨f0,t0,e0,h0,hf⟩:=eS hf
  obtain⟨f1,t1,e1,h1,hf⟩:=eS hf
  obtain⟨f2,t2,e2,h2,hf⟩:=eS hf
  rw[e0,e1,e2,vu hf]
  exact jl h0 isAgg3 underlying3 rfl rfl (jl h1 isAgg3 underlying3 rfl rfl (jl h2 isAgg3 underlying3 rfl rfl (aaA)))
 exact q
theorem aw9:TyS prog 193 1 false:=⟨sizeOf193,isAgg193⟩
theorem zN:TyS prog 200 1 false:=⟨sizeOf200,isAgg200⟩
theorem iX:iW prog 200 3 216 .i64:=⟨underlying200,underlying3⟩
theorem axa:TyS prog 201 2 true:=⟨sizeOf201,isAgg201⟩
theorem arw:cO prog 201 [.map none,.map none] [(0,1),(1,1)]:=dn zeroValue201 underlying201 (λw=>by kernel_rfl)
theorem aij:aO prog 201 0 0:=⟨λa w=>by kernel_rfl⟩
theorem aik:aO prog 201 1 1:=⟨λa w=>by kernel_rfl⟩
theorem ail:aG prog 201 0 0 1 false:=aH underlying201 (by kernel_rfl) zN (by decide)
theorem aim:aG prog 201 1 1 1 false:=aH underlying201 (by kernel_rfl) zN (by decide)
theorem axb:TyS prog 202 2 true:=⟨sizeOf202,isAgg202⟩
theorem arx:cO prog 202 [.map none,.map none] [(0,1),(1,1)]:=dn zeroValue202 underlying202 (λw=>by kernel_rfl)
theorem ain:aO prog 202 0 0:=⟨λa w=>by kernel_rfl⟩
theorem aio:aO prog 202 1 1:=⟨λa w=>by kernel_rfl⟩
theorem aip:aG prog 202 0 0 1 false:=aH underlying202 (by kernel_rfl) zN (by decide)
theorem aiq:aG prog 202 1 1 1 false:=aH underlying202 (by kernel_rfl) zN (by decide)
theorem axc:TyS prog 204 1 false:=⟨sizeOf204,isAgg204⟩
theorem nX:iW prog 204 3 3 .i64:=⟨underlying204,underlying3⟩
theorem axd:TyS prog 207 1 false:=⟨sizeOf207,isAgg207⟩
theorem axe:SlS prog 207 47 1:=⟨underlying207,sizeOf47⟩
theorem ary:fL prog 207 47 1 8:=⟨underlying207,(by obtain⟨i,h1,h2,h3,h4⟩:=info_parts (by kernel_rfl:(prog.info? 47).map (λi=>(i.zero,i.size,i.bytes))=some (some (zI0),1,8));exact⟨i,_,h1,h2,h3,h4,rfl⟩),by decide⟩
theorem arz:fU prog 207 47 1 [zI0]:=⟨underlying207,sizeOf47,aqv,rfl⟩
theorem axf:TyS prog 208 1 false:=⟨sizeOf208,isAgg208⟩
theorem arA:iW prog 208 3 4 .i64:=⟨underlying208,underlying3⟩
theorem axg:TyS prog 215 1 false:=⟨sizeOf215,isAgg215⟩
theorem axh:TyS prog 216 1 false:=⟨sizeOf216,isAgg216⟩
theorem axi:SlS prog 216 218 2:=⟨underlying216,sizeOf218⟩
theorem arB:fL prog 216 218 2 16:=⟨underlying216,(by obtain⟨i,h1,h2,h3,h4⟩:=info_parts (by kernel_rfl:(prog.info? 218).map (λi=>(i.zero,i.size,i.bytes))=some (some (.agg #[zI0,zI0]),2,16));exact⟨i,_,h1,h2,h3,h4,rfl⟩),by decide⟩
theorem arC:fU prog 216 218 2 [zI0,zI0]:=⟨underlying216,sizeOf218,akF,rfl⟩
theorem axj:TyS prog 217 2 true:=⟨sizeOf217,isAgg217⟩
theorem arD:cO prog 217 [zI0,zI0] [(0,1),(1,1)]:=dn zeroValue217 underlying217 (λw=>by kernel_rfl)
theorem air:aO prog 217 0 0:=⟨λa w=>by kernel_rfl⟩
theorem ais:aO prog 217 1 1:=⟨λa w=>by kernel_rfl⟩
theorem ait:aG prog 217 0 0 1 false:=aH underlying217 (by kernel_rfl) ty3 (by decide)
theorem aiu:aG prog 217 1 1 1 false:=aH underlying217 (by kernel_rfl) ty3 (by decide)
theorem axk:TyS prog 218 2 true:=⟨sizeOf218,isAgg218⟩
theorem arE:cO prog 218 [zI0,zI0] [(0,1),(1,1)]:=dn zeroValue218 underlying218 (λw=>by kernel_rfl)
theorem aiv:aO prog 218 0 0:=⟨λa w=>by kernel_rfl⟩
theorem aiw:aO prog 218 1 1:=⟨λa w=>by kernel_rfl⟩
theorem aix:aG prog 218 0 0 1 false:=aH underlying218 (by kernel_rfl) ty3 (by decide)
theorem aiy:aG prog 218 1 1 1 false:=aH underlying218 (by kernel_rfl) ty3 (by decide)
theorem axl:TyS prog 220 1 false:=⟨sizeOf220,isAgg220⟩
theorem axm:TyS prog 228 1 false:=⟨sizeOf228,isAgg228⟩
theorem aeq:TyS prog 235 1 false:=⟨sizeOf235,isAgg235⟩
theorem axn:TyS prog 242 1 false:=⟨sizeOf242,isAgg242⟩
theorem axo:TyS prog 246 1 false:=⟨sizeOf246,isAgg246⟩
theorem axp:TyS prog 250 1 false:=⟨sizeOf250,isAgg250⟩
theorem axq:TyS prog 255 4 true:=⟨sizeOf255,isAgg255⟩
theorem arF:cO prog 255 [.pointer none,.pointer none,.pointer none,.string ⟨#[]⟩] [(0,1),(1,1),(2,1),(3,1)]:=dn zeroValue255 underlying255 (λw=>by kernel_rfl)
theorem aiz:aO prog 255 0 0:=⟨λa w=>by kernel_rfl⟩
theorem aiA:aO prog 255 1 1:=⟨λa w=>by kernel_rfl⟩
theorem aiB:aO prog 255 2 2:=⟨λa w=>by kernel_rfl⟩
theorem aiC:aO prog 255 3 3:=⟨λa w=>by kernel_rfl⟩
theorem aiD:aG prog 255 0 0 1 false:=aH underlying255 (by kernel_rfl) vv (by decide)
theorem aiE:aG prog 255 1 1 1 false:=aH underlying255 (by kernel_rfl) vv (by decide)
theorem aiF:aG prog 255 2 2 1 false:=aH underlying255 (by kernel_rfl) vv (by decide)
theorem aiG:aG prog 255 3 3 1 false:=aH underlying255 (by kernel_rfl) ty9 (by decide)
theorem axr:TyS prog 256 4 true:=⟨sizeOf256,isAgg256⟩
theorem arG:cO prog 256 [.pointer none,.pointer none,.pointer none,.string ⟨#[]⟩] [(0,1),(1,1),(2,1),(3,1)]:=dn zeroValue256 underlying256 (λw=>by kernel_rfl)
theorem aiH:aO prog 256 0 0:=⟨λa w=>by kernel_rfl⟩
theorem aiI:aO prog 256 1 1:=⟨λa w=>by kernel_rfl⟩
theorem aiJ:aO prog 256 2 2:=⟨λa w=>by kernel_rfl⟩
theorem aiK:aO prog 256 3 3:=⟨λa w=>by kernel_rfl⟩
theorem aiL:aG prog 256 0 0 1 false:=aH underlying256 (by kernel_rfl) vv (by decide)
theorem aiM:aG prog 256 1 1 1 false:=aH underlying256 (by kernel_rfl) vv (by decide)
theorem aiN:aG prog 256 2 2 1 false:=aH underlying256 (by kernel_rfl) vv (by decide)
theorem aiO:aG prog 256 3 3 1 false:=aH underlying256 (by kernel_rfl) ty9 (by decide)
theorem axt:TyS prog 257 0 true:=⟨sizeOf257,isAgg257⟩
theorem aer:TyS prog 260 1 false:=⟨sizeOf260,isAgg260⟩
theorem aes:TyS prog 261 1 false:=⟨sizeOf261,isAgg261⟩
theorem aet:TyS prog 262 1 false:=⟨sizeOf262,isAgg262⟩
theorem aeu:TyS prog 263 1 false:=⟨sizeOf263,isAgg263⟩
theorem aev:TyS prog 264 1 false:=⟨sizeOf264,isAgg264⟩
theorem aew:TyS prog 265 1 false:=⟨sizeOf265,isAgg265⟩
theorem axu:TyS prog 266 11 true:=⟨sizeOf266,isAgg266⟩
theorem arH:cO prog 266 [.int .u64 0,.int .u64 0,.int .u32 0,.int .u8 0,.int .u8 0,.int .u8 0,.int .u8 0,.nilFunc,.pointer none,.int .i32 0,.int .i32 0] [(0,1),(1,1),(2,1),(3,1),(4,1),(5,1),(6,1),(7,1),(8,1),(9,1),(10,1)]:=dn zeroValue266 underlying266 (λw=>by kernel_rfl)
theorem aiP:aO prog 266 0 0:=⟨λa w=>by kernel_rfl⟩
theorem aiQ:aO prog 266 1 1:=⟨λa w=>by kernel_rfl⟩
theorem aiR:aO prog 266 2 2:=⟨λa w=>by kernel_rfl⟩
theorem aiS:aO prog 266 3 3:=⟨λa w=>by kernel_rfl⟩
theorem aiT:aO prog 266 4 4:=⟨λa w=>by kernel_rfl⟩
theorem aiU:aO prog 266 5 5:=⟨λa w=>by kernel_rfl⟩
theorem aiV:aO prog 266 6 6:=⟨λa w=>by kernel_rfl⟩
theorem aiW:aO prog 266 7 7:=⟨λa w=>by kernel_rfl⟩
theorem aiX:aO prog 266 8 8:=⟨λa w=>by kernel_rfl⟩
theorem aiY:aO prog 266 9 9:=⟨λa w=>by kernel_rfl⟩
theorem afx:aO prog 266 10 10:=⟨λa w=>by kernel_rfl⟩
theorem aiZ:aG prog 266 0 0 1 false:=aH underlying266 (by kernel_rfl) yO (by decide)
theorem ai0:aG prog 266 1 1 1 false:=aH underlying266 (by kernel_rfl) yO (by decide)
theorem ai1:aG prog 266 2 2 1 false:=aH underlying266 (by kernel_rfl) aeq (by decide)
theorem ai2:aG prog 266 3 3 1 false:=aH underlying266 (by kernel_rfl) aer (by decide)
theorem ai3:aG prog 266 4 4 1 false:=aH underlying266 (by kernel_rfl) ty5 (by decide)
theorem ai4:aG prog 266 5 5 1 false:=aH underlying266 (by kernel_rfl) ty5 (by decide)
theorem ai5:aG prog 266 6 6 1 false:=aH underlying266 (by kernel_rfl) aes (by decide)
theorem ai6:aG prog 266 7 7 1 false:=aH underlying266 (by kernel_rfl) aet (by decide)
theorem ai7:aG prog 266 8 8 1 false:=aH underlying266 (by kernel_rfl) aeu (by decide)
theorem ai8:aG prog 266 9 9 1 false:=aH underlying266 (by kernel_rfl) aev (by decide)
theorem afy:aG prog 266 10 10 1 false:=aH underlying266 (by kernel_rfl) aew (by decide)
theorem axv:TyS prog 267 11 true:=⟨sizeOf267,isAgg267⟩
theorem arI:cO prog 267 [.int .u64 0,.int .u64 0,.int .u32 0,.int .u8 0,.int .u8 0,.int .u8 0,.int .u8 0,.nilFunc,.pointer none,.int .i32 0,.int .i32 0] [(0,1),(1,1),(2,1),(3,1),(4,1),(5,1),(6,1),(7,1),(8,1),(9,1),(10,1)]:=dn zeroValue267 underlying267 (λw=>by kernel_rfl)
theorem ai9:aO prog 267 0 0:=⟨λa w=>by kernel_rfl⟩
theorem aja:aO prog 267 1 1:=⟨λa w=>by kernel_rfl⟩
theorem ajb:aO prog 267 2 2:=⟨λa w=>by kernel_rfl⟩
theorem ajc:aO prog 267 3 3:=⟨λa w=>by kernel_rfl⟩
theorem ajd:aO prog 267 4 4:=⟨λa w=>by kernel_rfl⟩
theorem aje:aO prog 267 5 5:=⟨λa w=>by kernel_rfl⟩
theorem ajf:aO prog 267 6 6:=⟨λa w=>by kernel_rfl⟩
theorem ajg:aO prog 267 7 7:=⟨λa w=>by kernel_rfl⟩
theorem ajh:aO prog 267 8 8:=⟨λa w=>by kernel_rfl⟩
theorem aji:aO prog 267 9 9:=⟨λa w=>by kernel_rfl⟩
theorem afz:aO prog 267 10 10:=⟨λa w=>by kernel_rfl⟩
theorem ajj:aG prog 267 0 0 1 false:=aH underlying267 (by kernel_rfl) yO (by decide)
theorem ajk:aG prog 267 1 1 1 false:=aH underlying267 (by kernel_rfl) yO (by decide)
theorem ajl:aG prog 267 2 2 1 false:=aH underlying267 (by kernel_rfl) aeq (by decide)
theorem ajm:aG prog 267 3 3 1 false:=aH underlying267 (by kernel_rfl) aer (by decide)
theorem ajn:aG prog 267 4 4 1 false:=aH underlying267 (by kernel_rfl) ty5 (by decide)
theorem ajo:aG prog 267 5 5 1 false:=aH underlying267 (by kernel_rfl) ty5 (by decide)
theorem ajp:aG prog 267 6 6 1 false:=aH underlying267 (by kernel_rfl) aes (by decide)
theorem ajq:aG prog 267 7 7 1 false:=aH underlying267 (by kernel_rfl) aet (by decide)
theorem ajr:aG prog 267 8 8 1 false:=aH underlying267 (by kernel_rfl) aeu (by decide)
theorem ajs:aG prog 267 9 9 1 false:=aH underlying267 (by kernel_rfl) aev (by decide)
theorem afA:aG prog 267 10 10 1 false:=aH underlying267 (by kernel_rfl) aew (by decide)
end Go.Proofs.YtdjeacigeegklaaGreat
