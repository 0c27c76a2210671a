/- The types of this translation, as the rules want afC. No condition. -/
import Derived.Test.YtdjeacigeegklaaGreatAB
import Derived.Test.YtdjeacigeegklaaGreatRows
import Derived.OwnWalk
namespace Go.Proofs.YtdjeacigeegklaaGreat
set_option linter.all false
abbrev zI0:Value:=.int .i64 0
abbrev zS0:Value:=.slice none 0 0
open Go Go.Proofs.Tryz
set_option maxRecDepth 100000
abbrev Zr(i:Nat)(c:List Value):Prop:=∀w,∃z,(zeroValue i).run prog w=.ok z w∧z.cells=c.toArray
theorem hmix:prog.follows .mixedOrders=true:=by kernel_rfl
theorem ze2:Zr 2 [zI0]:=λw=>⟨_,zeroValue2 w,rfl⟩
theorem ze3:Zr 3 [zI0]:=λw=>⟨_,zeroValue3 w,rfl⟩
theorem ze4:Zr 4 [.bool false]:=λw=>⟨_,zeroValue4 w,rfl⟩
theorem ze5:Zr 5 [.int .u8 0]:=λw=>⟨_,zeroValue5 w,rfl⟩
theorem ze6:Zr 6 [.int .u8 0]:=λw=>⟨_,zeroValue6 w,rfl⟩
theorem ze7:Zr 7 [zI0,zI0,.bool false,.int .u8 0]:=λw=>⟨_,zeroValue7 w,rfl⟩
theorem ze8:Zr 8 [zI0,zI0,.bool false,.int .u8 0]:=λw=>⟨_,zeroValue8 w,rfl⟩
theorem ze9:Zr 9 [.string ⟨#[]⟩]:=λw=>⟨_,zeroValue9 w,rfl⟩
theorem ze10:Zr 10 [.string ⟨#[]⟩]:=λw=>⟨_,zeroValue10 w,rfl⟩
theorem ze11:Zr 11 [.string ⟨#[]⟩]:=λw=>⟨_,zeroValue11 w,rfl⟩
theorem ze12:Zr 12 [.int .u64 0]:=λw=>⟨_,zeroValue12 w,rfl⟩
theorem ze13:Zr 13 [.string ⟨#[]⟩,.int .u64 0]:=λw=>⟨_,zeroValue13 w,rfl⟩
theorem ze14:Zr 14 [.string ⟨#[]⟩,.int .u64 0]:=λw=>⟨_,zeroValue14 w,rfl⟩
theorem ze15:Zr 15 [.pointer none]:=λw=>⟨_,zeroValue15 w,rfl⟩
theorem ze16:Zr 16 [.pointer none]:=λw=>⟨_,zeroValue16 w,rfl⟩
theorem ze17:Zr 17 [.pointer none]:=λw=>⟨_,zeroValue17 w,rfl⟩
theorem ze18:Zr 18 [.pointer none]:=λw=>⟨_,zeroValue18 w,rfl⟩
theorem ze19:Zr 19 [.pointer none]:=λw=>⟨_,zeroValue19 w,rfl⟩
theorem ze21:Zr 21 [.int .i32 0]:=λw=>⟨_,zeroValue21 w,rfl⟩
theorem aso:Zr 22 [zS0]:=λw=>⟨_,zeroValue22 w,rfl⟩
theorem ze23:Zr 23 [.pointer none]:=λw=>⟨_,zeroValue23 w,rfl⟩
theorem ze25:Zr 25 [zS0]:=λw=>⟨_,zeroValue25 w,rfl⟩
theorem ze26:Zr 26 [zS0]:=λw=>⟨_,zeroValue26 w,rfl⟩
theorem ze27:Zr 27 [zS0,zS0]:=λw=>⟨_,zeroValue27 w,rfl⟩
theorem asp:Zr 28 [zS0,zS0]:=λw=>⟨_,zeroValue28 w,rfl⟩
theorem ze30:Zr 30 [zS0]:=λw=>⟨_,zeroValue30 w,rfl⟩
theorem ze31:Zr 31 [zI0,zS0]:=λw=>⟨_,zeroValue31 w,rfl⟩
theorem asq:Zr 32 [zI0,zS0]:=λw=>⟨_,zeroValue32 w,rfl⟩
theorem ze34:Zr 34 [.int .u64 0]:=λw=>⟨_,zeroValue34 w,rfl⟩
theorem ze35:Zr 35 [zI0,zI0,zI0,zI0,zI0,zI0,zI0,zI0,.int .u64 0,.string ⟨#[]⟩]:=λw=>⟨_,zeroValue35 w,rfl⟩
theorem asr:Zr 36 [zI0,zI0,zI0,zI0,zI0,zI0,zI0,zI0,.int .u64 0,.string ⟨#[]⟩]:=λw=>⟨_,zeroValue36 w,rfl⟩
theorem ze37:Zr 37 [zI0,zI0,zI0,zI0]:=λw=>⟨_,zeroValue37 w,rfl⟩
theorem ass:Zr 38 [zI0,zI0,zI0,zI0]:=λw=>⟨_,zeroValue38 w,rfl⟩
theorem ze40:Zr 40 [.int .u64 0]:=λw=>⟨_,zeroValue40 w,rfl⟩
theorem ze41:Zr 41 [zI0,.bool false]:=λw=>⟨_,zeroValue41 w,rfl⟩
theorem ast:Zr 42 [zI0,.bool false]:=λw=>⟨_,zeroValue42 w,rfl⟩
theorem ze44:Zr 44 [zS0]:=λw=>⟨_,zeroValue44 w,rfl⟩
theorem ze45:Zr 45 [.int .u64 0,.int .u64 0,zS0]:=λw=>⟨_,zeroValue45 w,rfl⟩
theorem ze46:Zr 46 [.int .u64 0,.int .u64 0,zS0]:=λw=>⟨_,zeroValue46 w,rfl⟩
theorem asu:Zr 47 [zI0]:=λw=>⟨_,zeroValue47 w,rfl⟩
theorem ze51:Zr 51 [zS0,zI0,zI0,zI0,zI0,zI0,zI0,zI0,zI0,.int .u64 0,.string ⟨#[]⟩]:=λw=>⟨_,zeroValue51 w,rfl⟩
theorem ze52:Zr 52 [zS0,zI0,zI0,zI0,zI0,zI0,zI0,zI0,zI0,.int .u64 0,.string ⟨#[]⟩]:=λw=>⟨_,zeroValue52 w,rfl⟩
theorem ze53:Zr 53 [zI0,zS0,zI0,zI0,zI0,zI0,zI0,zI0,zI0,zI0,.int .u64 0,.string ⟨#[]⟩]:=λw=>⟨_,zeroValue53 w,rfl⟩
theorem asv:Zr 54 [zI0,zS0,zI0,zI0,zI0,zI0,zI0,zI0,zI0,zI0,.int .u64 0,.string ⟨#[]⟩]:=λw=>⟨_,zeroValue54 w,rfl⟩
theorem ze61:Zr 61 [zS0]:=λw=>⟨_,zeroValue61 w,rfl⟩
theorem ze62:Zr 62 [zI0,zS0]:=λw=>⟨_,zeroValue62 w,rfl⟩
theorem asw:Zr 63 [zI0,zS0]:=λw=>⟨_,zeroValue63 w,rfl⟩
theorem ze66:Zr 66 [zI0,zI0]:=λw=>⟨_,zeroValue66 w,rfl⟩
theorem asx:Zr 67 [zI0,zI0]:=λw=>⟨_,zeroValue67 w,rfl⟩
theorem ze70:Zr 70 [zS0]:=λw=>⟨_,zeroValue70 w,rfl⟩
theorem ze71:Zr 71 [zS0]:=λw=>⟨_,zeroValue71 w,rfl⟩
theorem ze72:Zr 72 [zS0]:=λw=>⟨_,zeroValue72 w,rfl⟩
theorem ze73:Zr 73 [zS0,zS0,zS0]:=λw=>⟨_,zeroValue73 w,rfl⟩
theorem ze74:Zr 74 [zS0,zS0,zS0]:=λw=>⟨_,zeroValue74 w,rfl⟩
theorem ze77:Zr 77 [zI0,zI0,zI0,zI0,zI0,zI0,zI0,zI0,zI0,.int .u64 0,.string ⟨#[]⟩]:=λw=>⟨_,zeroValue77 w,rfl⟩
theorem asy:Zr 78 [zI0,zI0,zI0,zI0,zI0,zI0,zI0,zI0,zI0,.int .u64 0,.string ⟨#[]⟩]:=λw=>⟨_,zeroValue78 w,rfl⟩
theorem ze80:Zr 80 [zI0,zI0,.int .u64 0]:=λw=>⟨_,zeroValue80 w,rfl⟩
theorem asz:Zr 81 [zI0,zI0,.int .u64 0]:=λw=>⟨_,zeroValue81 w,rfl⟩
theorem ze88:Zr 88 [zI0,zI0,zI0,zI0,zI0]:=λw=>⟨_,zeroValue88 w,rfl⟩
theorem asA:Zr 89 [zI0,zI0,zI0,zI0,zI0]:=λw=>⟨_,zeroValue89 w,rfl⟩
theorem ze91:Zr 91 [zS0]:=λw=>⟨_,zeroValue91 w,rfl⟩
theorem ze93:Zr 93 [zS0]:=λw=>⟨_,zeroValue93 w,rfl⟩
theorem ze94:Zr 94 [zS0]:=λw=>⟨_,zeroValue94 w,rfl⟩
theorem ze96:Zr 96 [zS0]:=λw=>⟨_,zeroValue96 w,rfl⟩
theorem ze97:Zr 97 [zS0]:=λw=>⟨_,zeroValue97 w,rfl⟩
theorem ze99:Zr 99 [zS0,zS0]:=λw=>⟨_,zeroValue99 w,rfl⟩
theorem amt:Zr 100 [zS0,zS0]:=λw=>⟨_,zeroValue100 w,rfl⟩
theorem awy:Zr 105 [zS0]:=λw=>⟨_,zeroValue105 w,rfl⟩
theorem awz:Zr 114 [zS0,zI0]:=λw=>⟨_,zeroValue114 w,rfl⟩
theorem awA:Zr 115 [zS0,zI0]:=λw=>⟨_,zeroValue115 w,rfl⟩
theorem awB:Zr 117 [zS0]:=λw=>⟨_,zeroValue117 w,rfl⟩
theorem amu:Zr 118 [zS0]:=λw=>⟨_,zeroValue118 w,rfl⟩
theorem awC:Zr 130 [.nilFunc]:=λw=>⟨_,zeroValue130 w,rfl⟩
theorem awD:Zr 133 [zI0,zI0,zI0,zI0,zI0,zI0,zI0,zI0,zI0,.int .u64 0,.string ⟨#[]⟩]:=λw=>⟨_,zeroValue133 w,rfl⟩
theorem amv:Zr 134 [zI0,zI0,zI0,zI0,zI0,zI0,zI0,zI0,zI0,.int .u64 0,.string ⟨#[]⟩]:=λw=>⟨_,zeroValue134 w,rfl⟩
theorem awE:Zr 135 [zS0]:=λw=>⟨_,zeroValue135 w,rfl⟩
theorem awF:Zr 136 [zS0]:=λw=>⟨_,zeroValue136 w,rfl⟩
theorem awG:Zr 140 [zI0,.int .u64 0]:=λw=>⟨_,zeroValue140 w,rfl⟩
theorem amw:Zr 141 [zI0,.int .u64 0]:=λw=>⟨_,zeroValue141 w,rfl⟩
theorem awH:Zr 142 [zI0,zI0,zI0,zI0,zI0,zS0,zI0,zI0,zI0,zI0,zI0,zI0,zI0,zI0,.int .u64 0,.string ⟨#[]⟩]:=λw=>⟨_,zeroValue142 w,rfl⟩
theorem amx:Zr 143 [zI0,zI0,zI0,zI0,zI0,zS0,zI0,zI0,zI0,zI0,zI0,zI0,zI0,zI0,.int .u64 0,.string ⟨#[]⟩]:=λw=>⟨_,zeroValue143 w,rfl⟩
theorem amy:Zr 146 [zI0,zI0,zI0,zI0,zI0,zI0,zI0,zI0,zI0,.int .u64 0,.string ⟨#[]⟩]:=λw=>⟨_,zeroValue146 w,rfl⟩
theorem awI:Zr 147 [zS0]:=λw=>⟨_,zeroValue147 w,rfl⟩
theorem awJ:Zr 152 [.nilFunc]:=λw=>⟨_,zeroValue152 w,rfl⟩
theorem awK:Zr 153 [zI0,zS0,zI0,zI0,zI0,zI0,zI0,zI0,zI0,zI0,.int .u64 0,.string ⟨#[]⟩]:=λw=>⟨_,zeroValue153 w,rfl⟩
theorem amz:Zr 154 [zI0,zS0,zI0,zI0,zI0,zI0,zI0,zI0,zI0,zI0,.int .u64 0,.string ⟨#[]⟩]:=λw=>⟨_,zeroValue154 w,rfl⟩
theorem awL:Zr 155 [zS0]:=λw=>⟨_,zeroValue155 w,rfl⟩
theorem awM:Zr 156 [zI0,zS0,zS0,zS0,zS0,zS0,zS0,zS0,zS0,zS0,zS0,zS0]:=λw=>⟨_,zeroValue156 w,rfl⟩
theorem awN:Zr 157 [zI0,zS0,zS0,zS0,zS0,zS0,zS0,zS0,zS0,zS0,zS0,zS0]:=λw=>⟨_,zeroValue157 w,rfl⟩
theorem awO:Zr 159 [zI0,zS0,zI0,zI0,zI0,zI0,zI0,zI0,zI0,zI0,.int .u64 0,.string ⟨#[]⟩]:=λw=>⟨_,zeroValue159 w,rfl⟩
theorem amA:Zr 160 [zI0,zS0,zI0,zI0,zI0,zI0,zI0,zI0,zI0,zI0,.int .u64 0,.string ⟨#[]⟩]:=λw=>⟨_,zeroValue160 w,rfl⟩
theorem awP:Zr 161 [zS0]:=λw=>⟨_,zeroValue161 w,rfl⟩
theorem awQ:Zr 168 [.nilFunc]:=λw=>⟨_,zeroValue168 w,rfl⟩
theorem awR:Zr 170 [.nilFunc]:=λw=>⟨_,zeroValue170 w,rfl⟩
theorem awS:Zr 172 [.nilFunc]:=λw=>⟨_,zeroValue172 w,rfl⟩
theorem awT:Zr 173 [.nilFunc]:=λw=>⟨_,zeroValue173 w,rfl⟩
theorem amB:Zr 177 [zI0,zI0]:=λw=>⟨_,zeroValue177 w,rfl⟩
theorem awU:Zr 178 [zS0]:=λw=>⟨_,zeroValue178 w,rfl⟩
theorem awV:Zr 181 [zS0]:=λw=>⟨_,zeroValue181 w,rfl⟩
theorem awW:Zr 183 [zI0,zI0,zI0]:=λw=>⟨_,zeroValue183 w,rfl⟩
theorem amC:Zr 184 [zI0,zI0,zI0]:=λw=>⟨_,zeroValue184 w,rfl⟩
theorem awX:Zr 193 [.pointer none]:=λw=>⟨_,zeroValue193 w,rfl⟩
theorem awY:Zr 200 [.map none]:=λw=>⟨_,zeroValue200 w,rfl⟩
theorem awZ:Zr 201 [.map none,.map none]:=λw=>⟨_,zeroValue201 w,rfl⟩
theorem aw0:Zr 202 [.map none,.map none]:=λw=>⟨_,zeroValue202 w,rfl⟩
theorem aw1:Zr 204 [.map none]:=λw=>⟨_,zeroValue204 w,rfl⟩
theorem aw2:Zr 207 [zS0]:=λw=>⟨_,zeroValue207 w,rfl⟩
theorem aw3:Zr 208 [.map none]:=λw=>⟨_,zeroValue208 w,rfl⟩
theorem aw4:Zr 215 [.nilFunc]:=λw=>⟨_,zeroValue215 w,rfl⟩
theorem aw5:Zr 216 [zS0]:=λw=>⟨_,zeroValue216 w,rfl⟩
theorem aw6:Zr 217 [zI0,zI0]:=λw=>⟨_,zeroValue217 w,rfl⟩
theorem amD:Zr 218 [zI0,zI0]:=λw=>⟨_,zeroValue218 w,rfl⟩
theorem aw7:Zr 220 [.nilFunc]:=λw=>⟨_,zeroValue220 w,rfl⟩
theorem aw8:Zr 228 [zI0]:=λw=>⟨_,zeroValue228 w,rfl⟩
theorem aw9:Zr 235 [.int .u32 0]:=λw=>⟨_,zeroValue235 w,rfl⟩
theorem axa:Zr 242 [.int .u64 0]:=λw=>⟨_,zeroValue242 w,rfl⟩
theorem axb:Zr 246 [.pointer none]:=λw=>⟨_,zeroValue246 w,rfl⟩
theorem axc:Zr 250 [.pointer none]:=λw=>⟨_,zeroValue250 w,rfl⟩
theorem axd:Zr 255 [.pointer none,.pointer none,.pointer none,.string ⟨#[]⟩]:=λw=>⟨_,zeroValue255 w,rfl⟩
theorem axe:Zr 256 [.pointer none,.pointer none,.pointer none,.string ⟨#[]⟩]:=λw=>⟨_,zeroValue256 w,rfl⟩
theorem axf:Zr 257 []:=λw=>⟨_,zeroValue257 w,rfl⟩
theorem axg:Zr 260 [.int .u8 0]:=λw=>⟨_,zeroValue260 w,rfl⟩
theorem axh:Zr 261 [.int .u8 0]:=λw=>⟨_,zeroValue261 w,rfl⟩
theorem axi:Zr 262 [.nilFunc]:=λw=>⟨_,zeroValue262 w,rfl⟩
theorem axj:Zr 263 [.pointer none]:=λw=>⟨_,zeroValue263 w,rfl⟩
theorem axk:Zr 264 [.int .i32 0]:=λw=>⟨_,zeroValue264 w,rfl⟩
theorem axl:Zr 265 [.int .i32 0]:=λw=>⟨_,zeroValue265 w,rfl⟩
theorem axm:Zr 266 [.int .u64 0,.int .u64 0,.int .u32 0,.int .u8 0,.int .u8 0,.int .u8 0,.int .u8 0,.nilFunc,.pointer none,.int .i32 0,.int .i32 0]:=λw=>⟨_,zeroValue266 w,rfl⟩
theorem axn:Zr 267 [.int .u64 0,.int .u64 0,.int .u32 0,.int .u8 0,.int .u8 0,.int .u8 0,.int .u8 0,.nilFunc,.pointer none,.int .i32 0,.int .i32 0]:=λw=>⟨_,zeroValue267 w,rfl⟩
theorem ty2:TyS prog 2 1 false:=⟨sizeOf2,isAgg2⟩
theorem ty3:TyS prog 3 1 false:=⟨sizeOf3,isAgg3⟩
theorem ty4:TyS prog 4 1 false:=⟨sizeOf4,isAgg4⟩
theorem ty5:TyS prog 5 1 false:=⟨sizeOf5,isAgg5⟩
theorem ty6:TyS prog 6 1 false:=⟨sizeOf6,isAgg6⟩
theorem ty7:TyS prog 7 4 true:=⟨sizeOf7,isAgg7⟩
theorem str7:dP prog 7 [zI0,zI0,.bool false,.int .u8 0] [(0,1),(1,1),(2,1),(3,1)]:=en zeroValue7 underlying7 (λw=>by kernel_rfl)
theorem asB:aZ prog 7 0 0:=⟨λa w=>by kernel_rfl⟩
theorem asC:aZ prog 7 1 1:=⟨λa w=>by kernel_rfl⟩
theorem asD:aZ prog 7 2 2:=⟨λa w=>by kernel_rfl⟩
theorem asE:aZ prog 7 3 3:=⟨λa w=>by kernel_rfl⟩
theorem asF:aL prog 7 0 0 1 false:=aO underlying7 (by kernel_rfl) ty2 (by decide)
theorem asG:aL prog 7 1 1 1 false:=aO underlying7 (by kernel_rfl) ty3 (by decide)
theorem asH:aL prog 7 2 2 1 false:=aO underlying7 (by kernel_rfl) ty4 (by decide)
theorem asI:aL prog 7 3 3 1 false:=aO underlying7 (by kernel_rfl) ty6 (by decide)
theorem ty8:TyS prog 8 4 true:=⟨sizeOf8,isAgg8⟩
theorem str8:dP prog 8 [zI0,zI0,.bool false,.int .u8 0] [(0,1),(1,1),(2,1),(3,1)]:=en zeroValue8 underlying8 (λw=>by kernel_rfl)
theorem asJ:aZ prog 8 0 0:=⟨λa w=>by kernel_rfl⟩
theorem asK:aZ prog 8 1 1:=⟨λa w=>by kernel_rfl⟩
theorem asL:aZ prog 8 2 2:=⟨λa w=>by kernel_rfl⟩
theorem asM:aZ prog 8 3 3:=⟨λa w=>by kernel_rfl⟩
theorem asN:aL prog 8 0 0 1 false:=aO underlying8 (by kernel_rfl) ty2 (by decide)
theorem asO:aL prog 8 1 1 1 false:=aO underlying8 (by kernel_rfl) ty3 (by decide)
theorem asP:aL prog 8 2 2 1 false:=aO underlying8 (by kernel_rfl) ty4 (by decide)
theorem asQ:aL prog 8 3 3 1 false:=aO underlying8 (by kernel_rfl) ty6 (by decide)
theorem ty9:TyS prog 9 1 false:=⟨sizeOf9,isAgg9⟩
theorem ty10:TyS prog 10 1 false:=⟨sizeOf10,isAgg10⟩
theorem ty11:TyS prog 11 1 false:=⟨sizeOf11,isAgg11⟩
theorem aaD:TyS prog 12 1 false:=⟨sizeOf12,isAgg12⟩
theorem ty13:TyS prog 13 2 true:=⟨sizeOf13,isAgg13⟩
theorem axo:dP prog 13 [.string ⟨#[]⟩,.int .u64 0] [(0,1),(1,1)]:=en zeroValue13 underlying13 (λw=>by kernel_rfl)
theorem aof:aZ prog 13 0 0:=⟨λa w=>by kernel_rfl⟩
theorem aog:aZ prog 13 1 1:=⟨λa w=>by kernel_rfl⟩
theorem aoh:aL prog 13 0 0 1 false:=aO underlying13 (by kernel_rfl) ty9 (by decide)
theorem aoi:aL prog 13 1 1 1 false:=aO underlying13 (by kernel_rfl) aaD (by decide)
theorem ty14:TyS prog 14 2 true:=⟨sizeOf14,isAgg14⟩
theorem axp:dP prog 14 [.string ⟨#[]⟩,.int .u64 0] [(0,1),(1,1)]:=en zeroValue14 underlying14 (λw=>by kernel_rfl)
theorem aoj:aZ prog 14 0 0:=⟨λa w=>by kernel_rfl⟩
theorem aok:aZ prog 14 1 1:=⟨λa w=>by kernel_rfl⟩
theorem aol:aL prog 14 0 0 1 false:=aO underlying14 (by kernel_rfl) ty9 (by decide)
theorem aom:aL prog 14 1 1 1 false:=aO underlying14 (by kernel_rfl) aaD (by decide)
theorem ty15:TyS prog 15 1 false:=⟨sizeOf15,isAgg15⟩
theorem ty16:TyS prog 16 1 false:=⟨sizeOf16,isAgg16⟩
theorem xk:TyS prog 17 1 false:=⟨sizeOf17,isAgg17⟩
theorem ty18:TyS prog 18 1 true:=⟨sizeOf18,isAgg18⟩
theorem axq:dP prog 18 [.pointer none] [(0,1)]:=en zeroValue18 underlying18 (λw=>by kernel_rfl)
theorem aon:aZ prog 18 0 0:=⟨λa w=>by kernel_rfl⟩
theorem aoo:aL prog 18 0 0 1 false:=aO underlying18 (by kernel_rfl) xk (by decide)
theorem ty19:TyS prog 19 1 true:=⟨sizeOf19,isAgg19⟩
theorem axr:dP prog 19 [.pointer none] [(0,1)]:=en zeroValue19 underlying19 (λw=>by kernel_rfl)
theorem aop:aZ prog 19 0 0:=⟨λa w=>by kernel_rfl⟩
theorem aoq:aL prog 19 0 0 1 false:=aO underlying19 (by kernel_rfl) xk (by decide)
theorem ty21:TyS prog 21 1 false:=⟨sizeOf21,isAgg21⟩
theorem aaE:TyS prog 22 1 false:=⟨sizeOf22,isAgg22⟩
theorem sl22:SlS prog 22 3 1:=⟨underlying22,sizeOf3⟩
theorem afR:gC prog 22 3 1 8:=⟨underlying22,(by obtain⟨i,h1,h2,h3,h4⟩:=info_parts (by kernel_rfl:(prog.info? 3).map (λi=>(i.zero,i.size,i.bytes))=some (some (zI0),1,8));exact⟨i,_,h1,h2,h3,h4,rfl⟩),by decide⟩
theorem amE:gM prog 22 3 1 [zI0]:=⟨underlying22,sizeOf3,ze3,rfl⟩
theorem ty23:TyS prog 23 1 false:=⟨sizeOf23,isAgg23⟩
theorem aip:TyS prog 25 1 false:=⟨sizeOf25,isAgg25⟩
theorem sl25:SlS prog 25 42 2:=⟨underlying25,sizeOf42⟩
theorem axt:gC prog 25 42 2 16:=⟨underlying25,(by obtain⟨i,h1,h2,h3,h4⟩:=info_parts (by kernel_rfl:(prog.info? 42).map (λi=>(i.zero,i.size,i.bytes))=some (some (.agg #[zI0,.bool false]),2,16));exact⟨i,_,h1,h2,h3,h4,rfl⟩),by decide⟩
theorem axu:gM prog 25 42 2 [zI0,.bool false]:=⟨underlying25,sizeOf42,ast,rfl⟩
theorem aiq:TyS prog 26 1 false:=⟨sizeOf26,isAgg26⟩
theorem sl26:SlS prog 26 89 5:=⟨underlying26,sizeOf89⟩
theorem axv:gC prog 26 89 5 40:=⟨underlying26,(by obtain⟨i,h1,h2,h3,h4⟩:=info_parts (by kernel_rfl:(prog.info? 89).map (λi=>(i.zero,i.size,i.bytes))=some (some (.agg #[zI0,zI0,zI0,zI0,zI0]),5,40));exact⟨i,_,h1,h2,h3,h4,rfl⟩),by decide⟩
theorem axw:gM prog 26 89 5 [zI0,zI0,zI0,zI0,zI0]:=⟨underlying26,sizeOf89,asA,rfl⟩
theorem ty27:TyS prog 27 2 true:=⟨sizeOf27,isAgg27⟩
theorem axx:dP prog 27 [zS0,zS0] [(0,1),(1,1)]:=en zeroValue27 underlying27 (λw=>by kernel_rfl)
theorem aor:aZ prog 27 0 0:=⟨λa w=>by kernel_rfl⟩
theorem aos:aZ prog 27 1 1:=⟨λa w=>by kernel_rfl⟩
theorem aot:aL prog 27 0 0 1 false:=aO underlying27 (by kernel_rfl) aip (by decide)
theorem aou:aL prog 27 1 1 1 false:=aO underlying27 (by kernel_rfl) aiq (by decide)
theorem adZ:TyS prog 28 2 true:=⟨sizeOf28,isAgg28⟩
theorem axy:dP prog 28 [zS0,zS0] [(0,1),(1,1)]:=en zeroValue28 underlying28 (λw=>by kernel_rfl)
theorem aov:aZ prog 28 0 0:=⟨λa w=>by kernel_rfl⟩
theorem aow:aZ prog 28 1 1:=⟨λa w=>by kernel_rfl⟩
theorem aox:aL prog 28 0 0 1 false:=aO underlying28 (by kernel_rfl) aip (by decide)
theorem aoy:aL prog 28 1 1 1 false:=aO underlying28 (by kernel_rfl) aiq (by decide)
theorem air:TyS prog 30 1 false:=⟨sizeOf30,isAgg30⟩
theorem asR:SlS prog 30 38 4:=⟨underlying30,sizeOf38⟩
theorem axz:gC prog 30 38 4 32:=⟨underlying30,(by obtain⟨i,h1,h2,h3,h4⟩:=info_parts (by kernel_rfl:(prog.info? 38).map (λi=>(i.zero,i.size,i.bytes))=some (some (.agg #[zI0,zI0,zI0,zI0]),4,32));exact⟨i,_,h1,h2,h3,h4,rfl⟩),by decide⟩
theorem axA:gM prog 30 38 4 [zI0,zI0,zI0,zI0]:=⟨underlying30,sizeOf38,ass,rfl⟩
theorem ty31:TyS prog 31 2 true:=⟨sizeOf31,isAgg31⟩
theorem axB:dP prog 31 [zI0,zS0] [(0,1),(1,1)]:=en zeroValue31 underlying31 (λw=>by kernel_rfl)
theorem aoz:aZ prog 31 0 0:=⟨λa w=>by kernel_rfl⟩
theorem aoA:aZ prog 31 1 1:=⟨λa w=>by kernel_rfl⟩
theorem aoB:aL prog 31 0 0 1 false:=aO underlying31 (by kernel_rfl) ty3 (by decide)
theorem aoC:aL prog 31 1 1 1 false:=aO underlying31 (by kernel_rfl) air (by decide)
theorem ais:TyS prog 32 2 true:=⟨sizeOf32,isAgg32⟩
theorem axC:dP prog 32 [zI0,zS0] [(0,1),(1,1)]:=en zeroValue32 underlying32 (λw=>by kernel_rfl)
theorem aoD:aZ prog 32 0 0:=⟨λa w=>by kernel_rfl⟩
theorem aoE:aZ prog 32 1 1:=⟨λa w=>by kernel_rfl⟩
theorem aoF:aL prog 32 0 0 1 false:=aO underlying32 (by kernel_rfl) ty3 (by decide)
theorem aoG:aL prog 32 1 1 1 false:=aO underlying32 (by kernel_rfl) air (by decide)
theorem uR:TyS prog 34 1 false:=⟨sizeOf34,isAgg34⟩
theorem ty35:TyS prog 35 10 true:=⟨sizeOf35,isAgg35⟩
theorem axD:dP prog 35 [zI0,zI0,zI0,zI0,zI0,zI0,zI0,zI0,.int .u64 0,.string ⟨#[]⟩] [(0,1),(1,1),(2,1),(3,1),(4,1),(5,1),(6,1),(7,1),(8,1),(9,1)]:=en zeroValue35 underlying35 (λw=>by kernel_rfl)
theorem aoH:aZ prog 35 0 0:=⟨λa w=>by kernel_rfl⟩
theorem aoI:aZ prog 35 1 1:=⟨λa w=>by kernel_rfl⟩
theorem aoJ:aZ prog 35 2 2:=⟨λa w=>by kernel_rfl⟩
theorem aoK:aZ prog 35 3 3:=⟨λa w=>by kernel_rfl⟩
theorem aoL:aZ prog 35 4 4:=⟨λa w=>by kernel_rfl⟩
theorem aoM:aZ prog 35 5 5:=⟨λa w=>by kernel_rfl⟩
theorem aoN:aZ prog 35 6 6:=⟨λa w=>by kernel_rfl⟩
theorem aoO:aZ prog 35 7 7:=⟨λa w=>by kernel_rfl⟩
theorem aoP:aZ prog 35 8 8:=⟨λa w=>by kernel_rfl⟩
theorem aoQ:aZ prog 35 9 9:=⟨λa w=>by kernel_rfl⟩
theorem aoR:aL prog 35 0 0 1 false:=aO underlying35 (by kernel_rfl) ty3 (by decide)
theorem aoS:aL prog 35 1 1 1 false:=aO underlying35 (by kernel_rfl) ty3 (by decide)
theorem aoT:aL prog 35 2 2 1 false:=aO underlying35 (by kernel_rfl) ty3 (by decide)
theorem aoU:aL prog 35 3 3 1 false:=aO underlying35 (by kernel_rfl) ty3 (by decide)
theorem aoV:aL prog 35 4 4 1 false:=aO underlying35 (by kernel_rfl) ty3 (by decide)
theorem aoW:aL prog 35 5 5 1 false:=aO underlying35 (by kernel_rfl) ty3 (by decide)
theorem aoX:aL prog 35 6 6 1 false:=aO underlying35 (by kernel_rfl) ty3 (by decide)
theorem aoY:aL prog 35 7 7 1 false:=aO underlying35 (by kernel_rfl) ty3 (by decide)
theorem aoZ:aL prog 35 8 8 1 false:=aO underlying35 (by kernel_rfl) uR (by decide)
theorem ao0:aL prog 35 9 9 1 false:=aO underlying35 (by kernel_rfl) ty9 (by decide)
theorem yG:TyS prog 36 10 true:=⟨sizeOf36,isAgg36⟩
theorem axE:dP prog 36 [zI0,zI0,zI0,zI0,zI0,zI0,zI0,zI0,.int .u64 0,.string ⟨#[]⟩] [(0,1),(1,1),(2,1),(3,1),(4,1),(5,1),(6,1),(7,1),(8,1),(9,1)]:=en zeroValue36 underlying36 (λw=>by kernel_rfl)
theorem ao1:aZ prog 36 0 0:=⟨λa w=>by kernel_rfl⟩
theorem ao2:aZ prog 36 1 1:=⟨λa w=>by kernel_rfl⟩
theorem ao3:aZ prog 36 2 2:=⟨λa w=>by kernel_rfl⟩
theorem ao4:aZ prog 36 3 3:=⟨λa w=>by kernel_rfl⟩
theorem ao5:aZ prog 36 4 4:=⟨λa w=>by kernel_rfl⟩
theorem ao6:aZ prog 36 5 5:=⟨λa w=>by kernel_rfl⟩
theorem ao7:aZ prog 36 6 6:=⟨λa w=>by kernel_rfl⟩
theorem ao8:aZ prog 36 7 7:=⟨λa w=>by kernel_rfl⟩
theorem ao9:aZ prog 36 8 8:=⟨λa w=>by kernel_rfl⟩
theorem apa:aZ prog 36 9 9:=⟨λa w=>by kernel_rfl⟩
theorem apb:aL prog 36 0 0 1 false:=aO underlying36 (by kernel_rfl) ty3 (by decide)
theorem apc:aL prog 36 1 1 1 false:=aO underlying36 (by kernel_rfl) ty3 (by decide)
theorem apd:aL prog 36 2 2 1 false:=aO underlying36 (by kernel_rfl) ty3 (by decide)
theorem ape:aL prog 36 3 3 1 false:=aO underlying36 (by kernel_rfl) ty3 (by decide)
theorem apf:aL prog 36 4 4 1 false:=aO underlying36 (by kernel_rfl) ty3 (by decide)
theorem apg:aL prog 36 5 5 1 false:=aO underlying36 (by kernel_rfl) ty3 (by decide)
theorem aph:aL prog 36 6 6 1 false:=aO underlying36 (by kernel_rfl) ty3 (by decide)
theorem api:aL prog 36 7 7 1 false:=aO underlying36 (by kernel_rfl) ty3 (by decide)
theorem apj:aL prog 36 8 8 1 false:=aO underlying36 (by kernel_rfl) uR (by decide)
theorem apk:aL prog 36 9 9 1 false:=aO underlying36 (by kernel_rfl) ty9 (by decide)
theorem axF(a0 b0:Int)(a1 b1:Int)(a2 b2:Int)(a3 b3:Int)(a4 b4:Int)(a5 b5:Int)(a6 b6:Int)(a7 b7:Int)(a8 b8:Int)(a9 b9:ByteArray)(w:World):(Op.eqFields 9999 #[.int .i64 a0,.int .i64 a1,.int .i64 a2,.int .i64 a3,.int .i64 a4,.int .i64 a5,.int .i64 a6,.int .i64 a7,.int .u64 a8,.string a9] #[.int .i64 b0,.int .i64 b1,.int .i64 b2,.int .i64 b3,.int .i64 b4,.int .i64 b5,.int .i64 b6,.int .i64 b7,.int .u64 b8,.string b9] (prog.fieldsOf 36).toList).run prog w=.ok (decide (a0=b0)&&(decide (a1=b1)&&(decide (a2=b2)&&(decide (a3=b3)&&(decide (a4=b4)&&(decide (a5=b5)&&(decide (a6=b6)&&(decide (a7=b7)&&(decide (a8=b8)&&((a9.toList==b9.toList)&&true)))))))))) w:=by
 have hf:(prog.fieldsOf 36).toList.map (λf=>(f.name== "_",f.type,f.offset))=[(false,3,0),(false,3,1),(false,3,2),(false,3,3),(false,3,4),(false,3,5),(false,3,6),(false,3,7),(false,34,8),(false,9,9)]:=by kernel_rfl
 have q:(Op.eqFields 9999 #[.int .i64 a0,.int .i64 a1,.int .i64 a2,.int .i64 a3,.int .i64 a4,.int .i64 a5,.int .i64 a6,.int .i64 a7,.int .u64 a8,.string a9] #[.int .i64 b0,.int .i64 b1,.int .i64 b2,.int .i64 b3,.int .i64 b4,.int .i64 b5,.int .i64 b6,.int .i64 b7,.int .u64 b8,.string b9] (prog.fieldsOf 36).toList).run prog w=.ok (decide (a0=b0)&&(decide (a1=b1)&&(decide (a2=b2)&&(decide (a3=b3)&&(decide (a4=b4)&&(decide (a5=b5)&&(decide (a6=b6)&&(decide (a7=b7)&&(decide (a8=b8)&&((a9.toList==b9.toList)&&true)))))))))) w:=by
  obtain⟨f0,t0,e0,h0,hf⟩:=cQ hf
  obtain⟨f1,t1,e1,h1,hf⟩:=cQ hf
  obtain⟨f2,t2,e2,h2,hf⟩:=cQ hf
  obtain⟨f3,t3,e3,h3,hf⟩:=cQ hf
  obtain⟨f4,t4,e4,h4,hf⟩:=cQ hf
  obtain⟨f5,t5,e5,h5,hf⟩:=cQ hf
  obtain⟨f6,t6,e6,h6,hf⟩:=cQ hf
  obtain⟨f7,t7,e7,h7,hf⟩:=cQ hf
  obtain⟨f8,t8,e8,h8,hf⟩:=cQ hf
  obtain⟨f9,t9,e9,h9,hf⟩:=cQ hf
  rw[e0,e1,e2,e3,e4,e5,e6,e7,e8,e9,pM hf]
  exact fh h0 isAgg3 underlying3 rfl rfl (fh h1 isAgg3 underlying3 rfl rfl (fh h2 isAgg3 underlying3 rfl rfl (fh h3 isAgg3 underlying3 rfl rfl (fh h4 isAgg3 underlying3 rfl rfl (fh h5 isAgg3 underlying3 rfl rfl (fh h6 isAgg3 underlying3 rfl rfl (fh h7 isAgg3 underlying3 rfl rfl (fh h8 isAgg34 underlying34 rfl rfl (aby h9 isAgg9 underlying9 rfl rfl (ur))))))))))
 exact q
theorem aaF(x y:Operand)(a0 b0:Int)(a1 b1:Int)(a2 b2:Int)(a3 b3:Int)(a4 b4:Int)(a5 b5:Int)(a6 b6:Int)(a7 b7:Int)(a8 b8:Int)(a9 b9:ByteArray)(w:World):(do eqGuard .neq 36 x y (.agg #[.int .i64 a0,.int .i64 a1,.int .i64 a2,.int .i64 a3,.int .i64 a4,.int .i64 a5,.int .i64 a6,.int .i64 a7,.int .u64 a8,.string a9]) (.agg #[.int .i64 b0,.int .i64 b1,.int .i64 b2,.int .i64 b3,.int .i64 b4,.int .i64 b5,.int .i64 b6,.int .i64 b7,.int .u64 b8,.string b9]);binOp .neq 36 (.agg #[.int .i64 a0,.int .i64 a1,.int .i64 a2,.int .i64 a3,.int .i64 a4,.int .i64 a5,.int .i64 a6,.int .i64 a7,.int .u64 a8,.string a9]) (.agg #[.int .i64 b0,.int .i64 b1,.int .i64 b2,.int .i64 b3,.int .i64 b4,.int .i64 b5,.int .i64 b6,.int .i64 b7,.int .u64 b8,.string b9]):Sem Value).run prog w=.ok (.bool (!(decide (a0=b0)&&(decide (a1=b1)&&(decide (a2=b2)&&(decide (a3=b3)&&(decide (a4=b4)&&(decide (a5=b5)&&(decide (a6=b6)&&(decide (a7=b7)&&(decide (a8=b8)&&((a9.toList==b9.toList)&&true)))))))))))) w:=zx _ _ _ x y (by kernel_rfl) (by kernel_rfl) (by kernel_rfl) (axF a0 b0 a1 b1 a2 b2 a3 b3 a4 b4 a5 b5 a6 b6 a7 b7 a8 b8 a9 b9 w)
theorem ty37:TyS prog 37 4 true:=⟨sizeOf37,isAgg37⟩
theorem axG:dP prog 37 [zI0,zI0,zI0,zI0] [(0,1),(1,1),(2,1),(3,1)]:=en zeroValue37 underlying37 (λw=>by kernel_rfl)
theorem apl:aZ prog 37 0 0:=⟨λa w=>by kernel_rfl⟩
theorem apm:aZ prog 37 1 1:=⟨λa w=>by kernel_rfl⟩
theorem apn:aZ prog 37 2 2:=⟨λa w=>by kernel_rfl⟩
theorem apo:aZ prog 37 3 3:=⟨λa w=>by kernel_rfl⟩
theorem apq:aL prog 37 0 0 1 false:=aO underlying37 (by kernel_rfl) ty3 (by decide)
theorem apr:aL prog 37 1 1 1 false:=aO underlying37 (by kernel_rfl) ty3 (by decide)
theorem aps:aL prog 37 2 2 1 false:=aO underlying37 (by kernel_rfl) ty3 (by decide)
theorem apt:aL prog 37 3 3 1 false:=aO underlying37 (by kernel_rfl) ty3 (by decide)
theorem ait:TyS prog 38 4 true:=⟨sizeOf38,isAgg38⟩
theorem axH:dP prog 38 [zI0,zI0,zI0,zI0] [(0,1),(1,1),(2,1),(3,1)]:=en zeroValue38 underlying38 (λw=>by kernel_rfl)
theorem apu:aZ prog 38 0 0:=⟨λa w=>by kernel_rfl⟩
theorem apv:aZ prog 38 1 1:=⟨λa w=>by kernel_rfl⟩
theorem apw:aZ prog 38 2 2:=⟨λa w=>by kernel_rfl⟩
theorem apx:aZ prog 38 3 3:=⟨λa w=>by kernel_rfl⟩
theorem apy:aL prog 38 0 0 1 false:=aO underlying38 (by kernel_rfl) ty3 (by decide)
theorem apz:aL prog 38 1 1 1 false:=aO underlying38 (by kernel_rfl) ty3 (by decide)
theorem apA:aL prog 38 2 2 1 false:=aO underlying38 (by kernel_rfl) ty3 (by decide)
theorem apB:aL prog 38 3 3 1 false:=aO underlying38 (by kernel_rfl) ty3 (by decide)
theorem ty40:TyS prog 40 1 false:=⟨sizeOf40,isAgg40⟩
theorem ty41:TyS prog 41 2 true:=⟨sizeOf41,isAgg41⟩
theorem axI:dP prog 41 [zI0,.bool false] [(0,1),(1,1)]:=en zeroValue41 underlying41 (λw=>by kernel_rfl)
theorem apC:aZ prog 41 0 0:=⟨λa w=>by kernel_rfl⟩
theorem apD:aZ prog 41 1 1:=⟨λa w=>by kernel_rfl⟩
theorem apF:aL prog 41 0 0 1 false:=aO underlying41 (by kernel_rfl) ty3 (by decide)
theorem apG:aL prog 41 1 1 1 false:=aO underlying41 (by kernel_rfl) ty4 (by decide)
theorem ty42:TyS prog 42 2 true:=⟨sizeOf42,isAgg42⟩
theorem axJ:dP prog 42 [zI0,.bool false] [(0,1),(1,1)]:=en zeroValue42 underlying42 (λw=>by kernel_rfl)
theorem apH:aZ prog 42 0 0:=⟨λa w=>by kernel_rfl⟩
theorem apI:aZ prog 42 1 1:=⟨λa w=>by kernel_rfl⟩
theorem apJ:aL prog 42 0 0 1 false:=aO underlying42 (by kernel_rfl) ty3 (by decide)
theorem apK:aL prog 42 1 1 1 false:=aO underlying42 (by kernel_rfl) ty4 (by decide)
theorem aiu:TyS prog 44 1 false:=⟨sizeOf44,isAgg44⟩
theorem sl44:SlS prog 44 54 12:=⟨underlying44,sizeOf54⟩
theorem axK:gC prog 44 54 12 120:=⟨underlying44,(by obtain⟨i,h1,h2,h3,h4⟩:=info_parts (by kernel_rfl:(prog.info? 54).map (λi=>(i.zero,i.size,i.bytes))=some (some (.agg #[zI0,zS0,zI0,zI0,zI0,zI0,zI0,zI0,zI0,zI0,.int .u64 0,.string ⟨#[]⟩]),12,120));exact⟨i,_,h1,h2,h3,h4,rfl⟩),by decide⟩
theorem axL:gM prog 44 54 12 [zI0,zS0,zI0,zI0,zI0,zI0,zI0,zI0,zI0,zI0,.int .u64 0,.string ⟨#[]⟩]:=⟨underlying44,sizeOf54,asv,rfl⟩
theorem ty45:TyS prog 45 3 true:=⟨sizeOf45,isAgg45⟩
theorem axM:dP prog 45 [.int .u64 0,.int .u64 0,zS0] [(0,1),(1,1),(2,1)]:=en zeroValue45 underlying45 (λw=>by kernel_rfl)
theorem apL:aZ prog 45 0 0:=⟨λa w=>by kernel_rfl⟩
theorem apM:aZ prog 45 1 1:=⟨λa w=>by kernel_rfl⟩
theorem apN:aZ prog 45 2 2:=⟨λa w=>by kernel_rfl⟩
theorem apO:aL prog 45 0 0 1 false:=aO underlying45 (by kernel_rfl) uR (by decide)
theorem apP:aL prog 45 1 1 1 false:=aO underlying45 (by kernel_rfl) uR (by decide)
theorem apQ:aL prog 45 2 2 1 false:=aO underlying45 (by kernel_rfl) aiu (by decide)
theorem ty46:TyS prog 46 3 true:=⟨sizeOf46,isAgg46⟩
theorem axN:dP prog 46 [.int .u64 0,.int .u64 0,zS0] [(0,1),(1,1),(2,1)]:=en zeroValue46 underlying46 (λw=>by kernel_rfl)
theorem apR:aZ prog 46 0 0:=⟨λa w=>by kernel_rfl⟩
theorem apS:aZ prog 46 1 1:=⟨λa w=>by kernel_rfl⟩
theorem apT:aZ prog 46 2 2:=⟨λa w=>by kernel_rfl⟩
theorem apU:aL prog 46 0 0 1 false:=aO underlying46 (by kernel_rfl) uR (by decide)
theorem apV:aL prog 46 1 1 1 false:=aO underlying46 (by kernel_rfl) uR (by decide)
theorem apW:aL prog 46 2 2 1 false:=aO underlying46 (by kernel_rfl) aiu (by decide)
theorem ty47:TyS prog 47 1 false:=⟨sizeOf47,isAgg47⟩
theorem ty51:TyS prog 51 11 true:=⟨sizeOf51,isAgg51⟩
theorem axO:dP prog 51 [zS0,zI0,zI0,zI0,zI0,zI0,zI0,zI0,zI0,.int .u64 0,.string ⟨#[]⟩] [(0,1),(1,10)]:=en zeroValue51 underlying51 (λw=>by kernel_rfl)
theorem apX:aZ prog 51 0 0:=⟨λa w=>by kernel_rfl⟩
theorem apY:aZ prog 51 1 1:=⟨λa w=>by kernel_rfl⟩
theorem apZ:aL prog 51 0 0 1 false:=aO underlying51 (by kernel_rfl) aaE (by decide)
theorem ap0:aL prog 51 1 1 10 true:=aO underlying51 (by kernel_rfl) yG (by decide)
theorem aaG:TyS prog 52 11 true:=⟨sizeOf52,isAgg52⟩
theorem axP:dP prog 52 [zS0,zI0,zI0,zI0,zI0,zI0,zI0,zI0,zI0,.int .u64 0,.string ⟨#[]⟩] [(0,1),(1,10)]:=en zeroValue52 underlying52 (λw=>by kernel_rfl)
theorem ap1:aZ prog 52 0 0:=⟨λa w=>by kernel_rfl⟩
theorem ap2:aZ prog 52 1 1:=⟨λa w=>by kernel_rfl⟩
theorem ap3:aL prog 52 0 0 1 false:=aO underlying52 (by kernel_rfl) aaE (by decide)
theorem ap4:aL prog 52 1 1 10 true:=aO underlying52 (by kernel_rfl) yG (by decide)
theorem ty53:TyS prog 53 12 true:=⟨sizeOf53,isAgg53⟩
theorem axQ:dP prog 53 [zI0,zS0,zI0,zI0,zI0,zI0,zI0,zI0,zI0,zI0,.int .u64 0,.string ⟨#[]⟩] [(0,1),(1,11)]:=en zeroValue53 underlying53 (λw=>by kernel_rfl)
theorem ap5:aZ prog 53 0 0:=⟨λa w=>by kernel_rfl⟩
theorem ap6:aZ prog 53 1 1:=⟨λa w=>by kernel_rfl⟩
theorem ap7:aL prog 53 0 0 1 false:=aO underlying53 (by kernel_rfl) ty3 (by decide)
theorem ap8:aL prog 53 1 1 11 true:=aO underlying53 (by kernel_rfl) aaG (by decide)
theorem aiv:TyS prog 54 12 true:=⟨sizeOf54,isAgg54⟩
theorem axR:dP prog 54 [zI0,zS0,zI0,zI0,zI0,zI0,zI0,zI0,zI0,zI0,.int .u64 0,.string ⟨#[]⟩] [(0,1),(1,11)]:=en zeroValue54 underlying54 (λw=>by kernel_rfl)
theorem ap9:aZ prog 54 0 0:=⟨λa w=>by kernel_rfl⟩
theorem aqa:aZ prog 54 1 1:=⟨λa w=>by kernel_rfl⟩
theorem aqb:aL prog 54 0 0 1 false:=aO underlying54 (by kernel_rfl) ty3 (by decide)
theorem aqc:aL prog 54 1 1 11 true:=aO underlying54 (by kernel_rfl) aaG (by decide)
theorem ad0:TyS prog 61 1 false:=⟨sizeOf61,isAgg61⟩
theorem sl61:SlS prog 61 67 2:=⟨underlying61,sizeOf67⟩
theorem amF:gC prog 61 67 2 16:=⟨underlying61,(by obtain⟨i,h1,h2,h3,h4⟩:=info_parts (by kernel_rfl:(prog.info? 67).map (λi=>(i.zero,i.size,i.bytes))=some (some (.agg #[zI0,zI0]),2,16));exact⟨i,_,h1,h2,h3,h4,rfl⟩),by decide⟩
theorem axS:gM prog 61 67 2 [zI0,zI0]:=⟨underlying61,sizeOf67,asx,rfl⟩
theorem ty62:TyS prog 62 2 true:=⟨sizeOf62,isAgg62⟩
theorem axT:dP prog 62 [zI0,zS0] [(0,1),(1,1)]:=en zeroValue62 underlying62 (λw=>by kernel_rfl)
theorem aqd:aZ prog 62 0 0:=⟨λa w=>by kernel_rfl⟩
theorem aqe:aZ prog 62 1 1:=⟨λa w=>by kernel_rfl⟩
theorem aqf:aL prog 62 0 0 1 false:=aO underlying62 (by kernel_rfl) ty3 (by decide)
theorem aqg:aL prog 62 1 1 1 false:=aO underlying62 (by kernel_rfl) ad0 (by decide)
theorem ty63:TyS prog 63 2 true:=⟨sizeOf63,isAgg63⟩
theorem axU:dP prog 63 [zI0,zS0] [(0,1),(1,1)]:=en zeroValue63 underlying63 (λw=>by kernel_rfl)
theorem aqh:aZ prog 63 0 0:=⟨λa w=>by kernel_rfl⟩
theorem aqi:aZ prog 63 1 1:=⟨λa w=>by kernel_rfl⟩
theorem aqj:aL prog 63 0 0 1 false:=aO underlying63 (by kernel_rfl) ty3 (by decide)
theorem aqk:aL prog 63 1 1 1 false:=aO underlying63 (by kernel_rfl) ad0 (by decide)
theorem ty66:TyS prog 66 2 true:=⟨sizeOf66,isAgg66⟩
theorem axV:dP prog 66 [zI0,zI0] [(0,1),(1,1)]:=en zeroValue66 underlying66 (λw=>by kernel_rfl)
theorem aql:aZ prog 66 0 0:=⟨λa w=>by kernel_rfl⟩
theorem aqm:aZ prog 66 1 1:=⟨λa w=>by kernel_rfl⟩
theorem aqn:aL prog 66 0 0 1 false:=aO underlying66 (by kernel_rfl) ty3 (by decide)
theorem aqo:aL prog 66 1 1 1 false:=aO underlying66 (by kernel_rfl) ty3 (by decide)
theorem ty67:TyS prog 67 2 true:=⟨sizeOf67,isAgg67⟩
theorem axW:dP prog 67 [zI0,zI0] [(0,1),(1,1)]:=en zeroValue67 underlying67 (λw=>by kernel_rfl)
theorem aqp:aZ prog 67 0 0:=⟨λa w=>by kernel_rfl⟩
theorem aqq:aZ prog 67 1 1:=⟨λa w=>by kernel_rfl⟩
theorem aqr:aL prog 67 0 0 1 false:=aO underlying67 (by kernel_rfl) ty3 (by decide)
theorem aqs:aL prog 67 1 1 1 false:=aO underlying67 (by kernel_rfl) ty3 (by decide)
theorem aiw:TyS prog 70 1 false:=⟨sizeOf70,isAgg70⟩
theorem sl70:SlS prog 70 78 11:=⟨underlying70,sizeOf78⟩
theorem axX:gC prog 70 78 11 96:=⟨underlying70,(by obtain⟨i,h1,h2,h3,h4⟩:=info_parts (by kernel_rfl:(prog.info? 78).map (λi=>(i.zero,i.size,i.bytes))=some (some (.agg #[zI0,zI0,zI0,zI0,zI0,zI0,zI0,zI0,zI0,.int .u64 0,.string ⟨#[]⟩]),11,96));exact⟨i,_,h1,h2,h3,h4,rfl⟩),by decide⟩
theorem axY:gM prog 70 78 11 [zI0,zI0,zI0,zI0,zI0,zI0,zI0,zI0,zI0,.int .u64 0,.string ⟨#[]⟩]:=⟨underlying70,sizeOf78,asy,rfl⟩
theorem aix:TyS prog 71 1 false:=⟨sizeOf71,isAgg71⟩
theorem sl71:SlS prog 71 81 3:=⟨underlying71,sizeOf81⟩
theorem axZ:gC prog 71 81 3 24:=⟨underlying71,(by obtain⟨i,h1,h2,h3,h4⟩:=info_parts (by kernel_rfl:(prog.info? 81).map (λi=>(i.zero,i.size,i.bytes))=some (some (.agg #[zI0,zI0,.int .u64 0]),3,24));exact⟨i,_,h1,h2,h3,h4,rfl⟩),by decide⟩
theorem ax0:gM prog 71 81 3 [zI0,zI0,.int .u64 0]:=⟨underlying71,sizeOf81,asz,rfl⟩
theorem aiy:TyS prog 72 1 false:=⟨sizeOf72,isAgg72⟩
theorem sl72:SlS prog 72 141 2:=⟨underlying72,sizeOf141⟩
theorem ax1:gC prog 72 141 2 16:=⟨underlying72,(by obtain⟨i,h1,h2,h3,h4⟩:=info_parts (by kernel_rfl:(prog.info? 141).map (λi=>(i.zero,i.size,i.bytes))=some (some (.agg #[zI0,.int .u64 0]),2,16));exact⟨i,_,h1,h2,h3,h4,rfl⟩),by decide⟩
theorem ax2:gM prog 72 141 2 [zI0,.int .u64 0]:=⟨underlying72,sizeOf141,amw,rfl⟩
theorem ty73:TyS prog 73 3 true:=⟨sizeOf73,isAgg73⟩
theorem ax3:dP prog 73 [zS0,zS0,zS0] [(0,1),(1,1),(2,1)]:=en zeroValue73 underlying73 (λw=>by kernel_rfl)
theorem aqt:aZ prog 73 0 0:=⟨λa w=>by kernel_rfl⟩
theorem aqu:aZ prog 73 1 1:=⟨λa w=>by kernel_rfl⟩
theorem aqv:aZ prog 73 2 2:=⟨λa w=>by kernel_rfl⟩
theorem aqw:aL prog 73 0 0 1 false:=aO underlying73 (by kernel_rfl) aiw (by decide)
theorem aqx:aL prog 73 1 1 1 false:=aO underlying73 (by kernel_rfl) aix (by decide)
theorem aqy:aL prog 73 2 2 1 false:=aO underlying73 (by kernel_rfl) aiy (by decide)
theorem aiz:TyS prog 74 3 true:=⟨sizeOf74,isAgg74⟩
theorem ax4:dP prog 74 [zS0,zS0,zS0] [(0,1),(1,1),(2,1)]:=en zeroValue74 underlying74 (λw=>by kernel_rfl)
theorem aqz:aZ prog 74 0 0:=⟨λa w=>by kernel_rfl⟩
theorem aqA:aZ prog 74 1 1:=⟨λa w=>by kernel_rfl⟩
theorem aqB:aZ prog 74 2 2:=⟨λa w=>by kernel_rfl⟩
theorem aqC:aL prog 74 0 0 1 false:=aO underlying74 (by kernel_rfl) aiw (by decide)
theorem aqD:aL prog 74 1 1 1 false:=aO underlying74 (by kernel_rfl) aix (by decide)
theorem aqE:aL prog 74 2 2 1 false:=aO underlying74 (by kernel_rfl) aiy (by decide)
theorem ty77:TyS prog 77 11 true:=⟨sizeOf77,isAgg77⟩
theorem ax5:dP prog 77 [zI0,zI0,zI0,zI0,zI0,zI0,zI0,zI0,zI0,.int .u64 0,.string ⟨#[]⟩] [(0,1),(1,10)]:=en zeroValue77 underlying77 (λw=>by kernel_rfl)
theorem aqF:aZ prog 77 0 0:=⟨λa w=>by kernel_rfl⟩
theorem aqG:aZ prog 77 1 1:=⟨λa w=>by kernel_rfl⟩
theorem aqH:aL prog 77 0 0 1 false:=aO underlying77 (by kernel_rfl) ty3 (by decide)
theorem aqI:aL prog 77 1 1 10 true:=aO underlying77 (by kernel_rfl) yG (by decide)
theorem ty78:TyS prog 78 11 true:=⟨sizeOf78,isAgg78⟩
theorem ax6:dP prog 78 [zI0,zI0,zI0,zI0,zI0,zI0,zI0,zI0,zI0,.int .u64 0,.string ⟨#[]⟩] [(0,1),(1,10)]:=en zeroValue78 underlying78 (λw=>by kernel_rfl)
theorem aqJ:aZ prog 78 0 0:=⟨λa w=>by kernel_rfl⟩
theorem aqK:aZ prog 78 1 1:=⟨λa w=>by kernel_rfl⟩
theorem aqL:aL prog 78 0 0 1 false:=aO underlying78 (by kernel_rfl) ty3 (by decide)
theorem aqM:aL prog 78 1 1 10 true:=aO underlying78 (by kernel_rfl) yG (by decide)
theorem ax7(a0 b0:Int)(a1 b1:Int)(a2 b2:Int)(a3 b3:Int)(a4 b4:Int)(a5 b5:Int)(a6 b6:Int)(a7 b7:Int)(a8 b8:Int)(a9 b9:Int)(a10 b10:ByteArray)(w:World):(Op.eqFields 9999 #[.int .i64 a0,.int .i64 a1,.int .i64 a2,.int .i64 a3,.int .i64 a4,.int .i64 a5,.int .i64 a6,.int .i64 a7,.int .i64 a8,.int .u64 a9,.string a10] #[.int .i64 b0,.int .i64 b1,.int .i64 b2,.int .i64 b3,.int .i64 b4,.int .i64 b5,.int .i64 b6,.int .i64 b7,.int .i64 b8,.int .u64 b9,.string b10] (prog.fieldsOf 78).toList).run prog w=.ok (decide (a0=b0)&&((decide (a1=b1)&&(decide (a2=b2)&&(decide (a3=b3)&&(decide (a4=b4)&&(decide (a5=b5)&&(decide (a6=b6)&&(decide (a7=b7)&&(decide (a8=b8)&&(decide (a9=b9)&&((a10.toList==b10.toList)&&true))))))))))&&true)) w:=by
 have mP:(prog.fieldsOf 36).toList.map (λf=>(f.name== "_",f.type,f.offset))=[(false,3,0),(false,3,1),(false,3,2),(false,3,3),(false,3,4),(false,3,5),(false,3,6),(false,3,7),(false,34,8),(false,9,9)]:=by kernel_rfl
 have q_1:(Op.eqFields 9998 #[.int .i64 a1,.int .i64 a2,.int .i64 a3,.int .i64 a4,.int .i64 a5,.int .i64 a6,.int .i64 a7,.int .i64 a8,.int .u64 a9,.string a10] #[.int .i64 b1,.int .i64 b2,.int .i64 b3,.int .i64 b4,.int .i64 b5,.int .i64 b6,.int .i64 b7,.int .i64 b8,.int .u64 b9,.string b10] (prog.fieldsOf 36).toList).run prog w=.ok (decide (a1=b1)&&(decide (a2=b2)&&(decide (a3=b3)&&(decide (a4=b4)&&(decide (a5=b5)&&(decide (a6=b6)&&(decide (a7=b7)&&(decide (a8=b8)&&(decide (a9=b9)&&((a10.toList==b10.toList)&&true)))))))))) w:=by
  obtain⟨f0,t0,e0,h0,mP⟩:=cQ mP
  obtain⟨f1,t1,e1,h1,mP⟩:=cQ mP
  obtain⟨f2,t2,e2,h2,mP⟩:=cQ mP
  obtain⟨f3,t3,e3,h3,mP⟩:=cQ mP
  obtain⟨f4,t4,e4,h4,mP⟩:=cQ mP
  obtain⟨f5,t5,e5,h5,mP⟩:=cQ mP
  obtain⟨f6,t6,e6,h6,mP⟩:=cQ mP
  obtain⟨f7,t7,e7,h7,mP⟩:=cQ mP
  obtain⟨f8,t8,e8,h8,mP⟩:=cQ mP
  obtain⟨f9,t9,e9,h9,mP⟩:=cQ mP
  rw[e0,e1,e2,e3,e4,e5,e6,e7,e8,e9,pM mP]
  exact fh h0 isAgg3 underlying3 rfl rfl (fh h1 isAgg3 underlying3 rfl rfl (fh h2 isAgg3 underlying3 rfl rfl (fh h3 isAgg3 underlying3 rfl rfl (fh h4 isAgg3 underlying3 rfl rfl (fh h5 isAgg3 underlying3 rfl rfl (fh h6 isAgg3 underlying3 rfl rfl (fh h7 isAgg3 underlying3 rfl rfl (fh h8 isAgg34 underlying34 rfl rfl (aby h9 isAgg9 underlying9 rfl rfl (ur))))))))))
 have hf:(prog.fieldsOf 78).toList.map (λf=>(f.name== "_",f.type,f.offset))=[(false,3,0),(false,36,1)]:=by kernel_rfl
 have q:(Op.eqFields 9999 #[.int .i64 a0,.int .i64 a1,.int .i64 a2,.int .i64 a3,.int .i64 a4,.int .i64 a5,.int .i64 a6,.int .i64 a7,.int .i64 a8,.int .u64 a9,.string a10] #[.int .i64 b0,.int .i64 b1,.int .i64 b2,.int .i64 b3,.int .i64 b4,.int .i64 b5,.int .i64 b6,.int .i64 b7,.int .i64 b8,.int .u64 b9,.string b10] (prog.fieldsOf 78).toList).run prog w=.ok (decide (a0=b0)&&((decide (a1=b1)&&(decide (a2=b2)&&(decide (a3=b3)&&(decide (a4=b4)&&(decide (a5=b5)&&(decide (a6=b6)&&(decide (a7=b7)&&(decide (a8=b8)&&(decide (a9=b9)&&((a10.toList==b10.toList)&&true))))))))))&&true)) w:=by
  obtain⟨f0,t0,e0,h0,hf⟩:=cQ hf
  obtain⟨f1,t1,e1,h1,hf⟩:=cQ hf
  rw[e0,e1,pM hf]
  exact fh h0 isAgg3 underlying3 rfl rfl (afP h1 isAgg36 sizeOf36 underlying36 (by kernel_rfl) rfl rfl q_1 (ur))
 exact q
theorem aiA(x y:Operand)(a0 b0:Int)(a1 b1:Int)(a2 b2:Int)(a3 b3:Int)(a4 b4:Int)(a5 b5:Int)(a6 b6:Int)(a7 b7:Int)(a8 b8:Int)(a9 b9:Int)(a10 b10:ByteArray)(w:World):(do eqGuard .neq 78 x y (.agg #[.int .i64 a0,.int .i64 a1,.int .i64 a2,.int .i64 a3,.int .i64 a4,.int .i64 a5,.int .i64 a6,.int .i64 a7,.int .i64 a8,.int .u64 a9,.string a10]) (.agg #[.int .i64 b0,.int .i64 b1,.int .i64 b2,.int .i64 b3,.int .i64 b4,.int .i64 b5,.int .i64 b6,.int .i64 b7,.int .i64 b8,.int .u64 b9,.string b10]);binOp .neq 78 (.agg #[.int .i64 a0,.int .i64 a1,.int .i64 a2,.int .i64 a3,.int .i64 a4,.int .i64 a5,.int .i64 a6,.int .i64 a7,.int .i64 a8,.int .u64 a9,.string a10]) (.agg #[.int .i64 b0,.int .i64 b1,.int .i64 b2,.int .i64 b3,.int .i64 b4,.int .i64 b5,.int .i64 b6,.int .i64 b7,.int .i64 b8,.int .u64 b9,.string b10]):Sem Value).run prog w=.ok (.bool (!(decide (a0=b0)&&((decide (a1=b1)&&(decide (a2=b2)&&(decide (a3=b3)&&(decide (a4=b4)&&(decide (a5=b5)&&(decide (a6=b6)&&(decide (a7=b7)&&(decide (a8=b8)&&(decide (a9=b9)&&((a10.toList==b10.toList)&&true))))))))))&&true)))) w:=zx _ _ _ x y (by kernel_rfl) (by kernel_rfl) (by kernel_rfl) (ax7 a0 b0 a1 b1 a2 b2 a3 b3 a4 b4 a5 b5 a6 b6 a7 b7 a8 b8 a9 b9 a10 b10 w)
theorem ty80:TyS prog 80 3 true:=⟨sizeOf80,isAgg80⟩
theorem ax8:dP prog 80 [zI0,zI0,.int .u64 0] [(0,1),(1,1),(2,1)]:=en zeroValue80 underlying80 (λw=>by kernel_rfl)
theorem aqN:aZ prog 80 0 0:=⟨λa w=>by kernel_rfl⟩
theorem aqO:aZ prog 80 1 1:=⟨λa w=>by kernel_rfl⟩
theorem aqP:aZ prog 80 2 2:=⟨λa w=>by kernel_rfl⟩
theorem aqQ:aL prog 80 0 0 1 false:=aO underlying80 (by kernel_rfl) ty3 (by decide)
theorem aqR:aL prog 80 1 1 1 false:=aO underlying80 (by kernel_rfl) ty3 (by decide)
theorem aqS:aL prog 80 2 2 1 false:=aO underlying80 (by kernel_rfl) uR (by decide)
theorem ty81:TyS prog 81 3 true:=⟨sizeOf81,isAgg81⟩
theorem ax9:dP prog 81 [zI0,zI0,.int .u64 0] [(0,1),(1,1),(2,1)]:=en zeroValue81 underlying81 (λw=>by kernel_rfl)
theorem aqT:aZ prog 81 0 0:=⟨λa w=>by kernel_rfl⟩
theorem aqU:aZ prog 81 1 1:=⟨λa w=>by kernel_rfl⟩
theorem aqV:aZ prog 81 2 2:=⟨λa w=>by kernel_rfl⟩
theorem aqW:aL prog 81 0 0 1 false:=aO underlying81 (by kernel_rfl) ty3 (by decide)
theorem aqX:aL prog 81 1 1 1 false:=aO underlying81 (by kernel_rfl) ty3 (by decide)
theorem aqY:aL prog 81 2 2 1 false:=aO underlying81 (by kernel_rfl) uR (by decide)
theorem aya(a0 b0:Int)(a1 b1:Int)(a2 b2:Int)(w:World):(Op.eqFields 9999 #[.int .i64 a0,.int .i64 a1,.int .u64 a2] #[.int .i64 b0,.int .i64 b1,.int .u64 b2] (prog.fieldsOf 81).toList).run prog w=.ok (decide (a0=b0)&&(decide (a1=b1)&&(decide (a2=b2)&&true))) w:=by
 have hf:(prog.fieldsOf 81).toList.map (λf=>(f.name== "_",f.type,f.offset))=[(false,3,0),(false,3,1),(false,34,2)]:=by kernel_rfl
 have q:(Op.eqFields 9999 #[.int .i64 a0,.int .i64 a1,.int .u64 a2] #[.int .i64 b0,.int .i64 b1,.int .u64 b2] (prog.fieldsOf 81).toList).run prog w=.ok (decide (a0=b0)&&(decide (a1=b1)&&(decide (a2=b2)&&true))) w:=by
  obtain⟨f0,t0,e0,h0,hf⟩:=cQ hf
  obtain⟨f1,t1,e1,h1,hf⟩:=cQ hf
  obtain⟨f2,t2,e2,h2,hf⟩:=cQ hf
  rw[e0,e1,e2,pM hf]
  exact fh h0 isAgg3 underlying3 rfl rfl (fh h1 isAgg3 underlying3 rfl rfl (fh h2 isAgg34 underlying34 rfl rfl (ur)))
 exact q
theorem aiB(x y:Operand)(a0 b0:Int)(a1 b1:Int)(a2 b2:Int)(w:World):(do eqGuard .neq 81 x y (.agg #[.int .i64 a0,.int .i64 a1,.int .u64 a2]) (.agg #[.int .i64 b0,.int .i64 b1,.int .u64 b2]);binOp .neq 81 (.agg #[.int .i64 a0,.int .i64 a1,.int .u64 a2]) (.agg #[.int .i64 b0,.int .i64 b1,.int .u64 b2]):Sem Value).run prog w=.ok (.bool (!(decide (a0=b0)&&(decide (a1=b1)&&(decide (a2=b2)&&true))))) w:=zx _ _ _ x y (by kernel_rfl) (by kernel_rfl) (by kernel_rfl) (aya a0 b0 a1 b1 a2 b2 w)
theorem ty88:TyS prog 88 5 true:=⟨sizeOf88,isAgg88⟩
theorem ayb:dP prog 88 [zI0,zI0,zI0,zI0,zI0] [(0,1),(1,1),(2,1),(3,1),(4,1)]:=en zeroValue88 underlying88 (λw=>by kernel_rfl)
theorem aqZ:aZ prog 88 0 0:=⟨λa w=>by kernel_rfl⟩
theorem aq0:aZ prog 88 1 1:=⟨λa w=>by kernel_rfl⟩
theorem aq1:aZ prog 88 2 2:=⟨λa w=>by kernel_rfl⟩
theorem aq2:aZ prog 88 3 3:=⟨λa w=>by kernel_rfl⟩
theorem aq3:aZ prog 88 4 4:=⟨λa w=>by kernel_rfl⟩
theorem aq4:aL prog 88 0 0 1 false:=aO underlying88 (by kernel_rfl) ty3 (by decide)
theorem aq5:aL prog 88 1 1 1 false:=aO underlying88 (by kernel_rfl) ty3 (by decide)
theorem aq6:aL prog 88 2 2 1 false:=aO underlying88 (by kernel_rfl) ty3 (by decide)
theorem aq7:aL prog 88 3 3 1 false:=aO underlying88 (by kernel_rfl) ty3 (by decide)
theorem aq8:aL prog 88 4 4 1 false:=aO underlying88 (by kernel_rfl) ty3 (by decide)
theorem ty89:TyS prog 89 5 true:=⟨sizeOf89,isAgg89⟩
theorem ayc:dP prog 89 [zI0,zI0,zI0,zI0,zI0] [(0,1),(1,1),(2,1),(3,1),(4,1)]:=en zeroValue89 underlying89 (λw=>by kernel_rfl)
theorem aq9:aZ prog 89 0 0:=⟨λa w=>by kernel_rfl⟩
theorem ara:aZ prog 89 1 1:=⟨λa w=>by kernel_rfl⟩
theorem arb:aZ prog 89 2 2:=⟨λa w=>by kernel_rfl⟩
theorem arc:aZ prog 89 3 3:=⟨λa w=>by kernel_rfl⟩
theorem ard:aZ prog 89 4 4:=⟨λa w=>by kernel_rfl⟩
theorem arf:aL prog 89 0 0 1 false:=aO underlying89 (by kernel_rfl) ty3 (by decide)
theorem arh:aL prog 89 1 1 1 false:=aO underlying89 (by kernel_rfl) ty3 (by decide)
theorem ari:aL prog 89 2 2 1 false:=aO underlying89 (by kernel_rfl) ty3 (by decide)
theorem arj:aL prog 89 3 3 1 false:=aO underlying89 (by kernel_rfl) ty3 (by decide)
theorem ark:aL prog 89 4 4 1 false:=aO underlying89 (by kernel_rfl) ty3 (by decide)
theorem ty91:TyS prog 91 1 false:=⟨sizeOf91,isAgg91⟩
theorem sl91:SlS prog 91 32 2:=⟨underlying91,sizeOf32⟩
theorem ayd:gC prog 91 32 2 32:=⟨underlying91,(by obtain⟨i,h1,h2,h3,h4⟩:=info_parts (by kernel_rfl:(prog.info? 32).map (λi=>(i.zero,i.size,i.bytes))=some (some (.agg #[zI0,zS0]),2,32));exact⟨i,_,h1,h2,h3,h4,rfl⟩),by decide⟩
theorem aye:gM prog 91 32 2 [zI0,zS0]:=⟨underlying91,sizeOf32,asq,rfl⟩
theorem ty93:TyS prog 93 1 false:=⟨sizeOf93,isAgg93⟩
theorem sl93:SlS prog 93 36 10:=⟨underlying93,sizeOf36⟩
theorem ayf:gC prog 93 36 10 88:=⟨underlying93,(by obtain⟨i,h1,h2,h3,h4⟩:=info_parts (by kernel_rfl:(prog.info? 36).map (λi=>(i.zero,i.size,i.bytes))=some (some (.agg #[zI0,zI0,zI0,zI0,zI0,zI0,zI0,zI0,.int .u64 0,.string ⟨#[]⟩]),10,88));exact⟨i,_,h1,h2,h3,h4,rfl⟩),by decide⟩
theorem ayg:gM prog 93 36 10 [zI0,zI0,zI0,zI0,zI0,zI0,zI0,zI0,.int .u64 0,.string ⟨#[]⟩]:=⟨underlying93,sizeOf36,asr,rfl⟩
theorem ty94:TyS prog 94 1 false:=⟨sizeOf94,isAgg94⟩
theorem sl94:SlS prog 94 28 2:=⟨underlying94,sizeOf28⟩
theorem ayh:gC prog 94 28 2 48:=⟨underlying94,(by obtain⟨i,h1,h2,h3,h4⟩:=info_parts (by kernel_rfl:(prog.info? 28).map (λi=>(i.zero,i.size,i.bytes))=some (some (.agg #[zS0,zS0]),2,48));exact⟨i,_,h1,h2,h3,h4,rfl⟩),by decide⟩
theorem ayi:gM prog 94 28 2 [zS0,zS0]:=⟨underlying94,sizeOf28,asp,rfl⟩
theorem ty96:TyS prog 96 1 false:=⟨sizeOf96,isAgg96⟩
theorem sl96:SlS prog 96 63 2:=⟨underlying96,sizeOf63⟩
theorem ayj:gC prog 96 63 2 32:=⟨underlying96,(by obtain⟨i,h1,h2,h3,h4⟩:=info_parts (by kernel_rfl:(prog.info? 63).map (λi=>(i.zero,i.size,i.bytes))=some (some (.agg #[zI0,zS0]),2,32));exact⟨i,_,h1,h2,h3,h4,rfl⟩),by decide⟩
theorem ayk:gM prog 96 63 2 [zI0,zS0]:=⟨underlying96,sizeOf63,asw,rfl⟩
theorem ty97:TyS prog 97 1 false:=⟨sizeOf97,isAgg97⟩
theorem sl97:SlS prog 97 22 1:=⟨underlying97,sizeOf22⟩
theorem ayl:gC prog 97 22 1 24:=⟨underlying97,(by obtain⟨i,h1,h2,h3,h4⟩:=info_parts (by kernel_rfl:(prog.info? 22).map (λi=>(i.zero,i.size,i.bytes))=some (some (zS0),1,24));exact⟨i,_,h1,h2,h3,h4,rfl⟩),by decide⟩
theorem aym:gM prog 97 22 1 [zS0]:=⟨underlying97,sizeOf22,aso,rfl⟩
theorem ty99:TyS prog 99 2 true:=⟨sizeOf99,isAgg99⟩
theorem ayn:dP prog 99 [zS0,zS0] [(0,1),(1,1)]:=en zeroValue99 underlying99 (λw=>by kernel_rfl)
theorem arl:aZ prog 99 0 0:=⟨λa w=>by kernel_rfl⟩
theorem arn:aZ prog 99 1 1:=⟨λa w=>by kernel_rfl⟩
theorem aro:aL prog 99 0 0 1 false:=aO underlying99 (by kernel_rfl) ad0 (by decide)
theorem arp:aL prog 99 1 1 1 false:=aO underlying99 (by kernel_rfl) aaE (by decide)
theorem afS:TyS prog 100 2 true:=⟨sizeOf100,isAgg100⟩
theorem asS:dP prog 100 [zS0,zS0] [(0,1),(1,1)]:=en zeroValue100 underlying100 (λw=>by kernel_rfl)
theorem aiC:aZ prog 100 0 0:=⟨λa w=>by kernel_rfl⟩
theorem aiD:aZ prog 100 1 1:=⟨λa w=>by kernel_rfl⟩
theorem aiE:aL prog 100 0 0 1 false:=aO underlying100 (by kernel_rfl) ad0 (by decide)
theorem aiF:aL prog 100 1 1 1 false:=aO underlying100 (by kernel_rfl) aaE (by decide)
theorem ayo:TyS prog 105 1 false:=⟨sizeOf105,isAgg105⟩
theorem ayp:SlS prog 105 100 2:=⟨underlying105,sizeOf100⟩
theorem asT:gC prog 105 100 2 48:=⟨underlying105,(by obtain⟨i,h1,h2,h3,h4⟩:=info_parts (by kernel_rfl:(prog.info? 100).map (λi=>(i.zero,i.size,i.bytes))=some (some (.agg #[zS0,zS0]),2,48));exact⟨i,_,h1,h2,h3,h4,rfl⟩),by decide⟩
theorem asU:gM prog 105 100 2 [zS0,zS0]:=⟨underlying105,sizeOf100,amt,rfl⟩
theorem ayq:TyS prog 114 2 true:=⟨sizeOf114,isAgg114⟩
theorem asV:dP prog 114 [zS0,zI0] [(0,1),(1,1)]:=en zeroValue114 underlying114 (λw=>by kernel_rfl)
theorem aiG:aZ prog 114 0 0:=⟨λa w=>by kernel_rfl⟩
theorem aiH:aZ prog 114 1 1:=⟨λa w=>by kernel_rfl⟩
theorem aiI:aL prog 114 0 0 1 false:=aO underlying114 (by kernel_rfl) aaE (by decide)
theorem aiJ:aL prog 114 1 1 1 false:=aO underlying114 (by kernel_rfl) ty3 (by decide)
theorem ayr:TyS prog 115 2 true:=⟨sizeOf115,isAgg115⟩
theorem asW:dP prog 115 [zS0,zI0] [(0,1),(1,1)]:=en zeroValue115 underlying115 (λw=>by kernel_rfl)
theorem aiK:aZ prog 115 0 0:=⟨λa w=>by kernel_rfl⟩
theorem aiL:aZ prog 115 1 1:=⟨λa w=>by kernel_rfl⟩
theorem aiM:aL prog 115 0 0 1 false:=aO underlying115 (by kernel_rfl) aaE (by decide)
theorem aiN:aL prog 115 1 1 1 false:=aO underlying115 (by kernel_rfl) ty3 (by decide)
theorem ays:TyS prog 117 1 false:=⟨sizeOf117,isAgg117⟩
theorem vz:SlS prog 117 118 1:=⟨underlying117,sizeOf118⟩
theorem ahd:gC prog 117 118 1 24:=⟨underlying117,(by obtain⟨i,h1,h2,h3,h4⟩:=info_parts (by kernel_rfl:(prog.info? 118).map (λi=>(i.zero,i.size,i.bytes))=some (some (zS0),1,24));exact⟨i,_,h1,h2,h3,h4,rfl⟩),by decide⟩
theorem ahe:gM prog 117 118 1 [zS0]:=⟨underlying117,sizeOf118,amu,rfl⟩
theorem abz:TyS prog 118 1 false:=⟨sizeOf118,isAgg118⟩
theorem ayt:SlS prog 118 4 1:=⟨underlying118,sizeOf4⟩
theorem ahf:gC prog 118 4 1 1:=⟨underlying118,(by obtain⟨i,h1,h2,h3,h4⟩:=info_parts (by kernel_rfl:(prog.info? 4).map (λi=>(i.zero,i.size,i.bytes))=some (some (.bool false),1,1));exact⟨i,_,h1,h2,h3,h4,rfl⟩),by decide⟩
theorem ahg:gM prog 118 4 1 [.bool false]:=⟨underlying118,sizeOf4,ze4,rfl⟩
theorem ayu:TyS prog 130 1 false:=⟨sizeOf130,isAgg130⟩
theorem ayv:TyS prog 133 11 true:=⟨sizeOf133,isAgg133⟩
theorem asX:dP prog 133 [zI0,zI0,zI0,zI0,zI0,zI0,zI0,zI0,zI0,.int .u64 0,.string ⟨#[]⟩] [(0,1),(1,10)]:=en zeroValue133 underlying133 (λw=>by kernel_rfl)
theorem aiO:aZ prog 133 0 0:=⟨λa w=>by kernel_rfl⟩
theorem aiP:aZ prog 133 1 1:=⟨λa w=>by kernel_rfl⟩
theorem aiQ:aL prog 133 0 0 1 false:=aO underlying133 (by kernel_rfl) ty3 (by decide)
theorem aiR:aL prog 133 1 1 10 true:=aO underlying133 (by kernel_rfl) yG (by decide)
theorem ayw:TyS prog 134 11 true:=⟨sizeOf134,isAgg134⟩
theorem asY:dP prog 134 [zI0,zI0,zI0,zI0,zI0,zI0,zI0,zI0,zI0,.int .u64 0,.string ⟨#[]⟩] [(0,1),(1,10)]:=en zeroValue134 underlying134 (λw=>by kernel_rfl)
theorem aiS:aZ prog 134 0 0:=⟨λa w=>by kernel_rfl⟩
theorem aiT:aZ prog 134 1 1:=⟨λa w=>by kernel_rfl⟩
theorem aiU:aL prog 134 0 0 1 false:=aO underlying134 (by kernel_rfl) ty3 (by decide)
theorem aiV:aL prog 134 1 1 10 true:=aO underlying134 (by kernel_rfl) yG (by decide)
theorem ayx:TyS prog 135 1 false:=⟨sizeOf135,isAgg135⟩
theorem ayy:SlS prog 135 134 11:=⟨underlying135,sizeOf134⟩
theorem asZ:gC prog 135 134 11 96:=⟨underlying135,(by obtain⟨i,h1,h2,h3,h4⟩:=info_parts (by kernel_rfl:(prog.info? 134).map (λi=>(i.zero,i.size,i.bytes))=some (some (.agg #[zI0,zI0,zI0,zI0,zI0,zI0,zI0,zI0,zI0,.int .u64 0,.string ⟨#[]⟩]),11,96));exact⟨i,_,h1,h2,h3,h4,rfl⟩),by decide⟩
theorem as0:gM prog 135 134 11 [zI0,zI0,zI0,zI0,zI0,zI0,zI0,zI0,zI0,.int .u64 0,.string ⟨#[]⟩]:=⟨underlying135,sizeOf134,amv,rfl⟩
theorem ayz:TyS prog 136 1 false:=⟨sizeOf136,isAgg136⟩
theorem ayA:SlS prog 136 143 16:=⟨underlying136,sizeOf143⟩
theorem as1:gC prog 136 143 16 152:=⟨underlying136,(by obtain⟨i,h1,h2,h3,h4⟩:=info_parts (by kernel_rfl:(prog.info? 143).map (λi=>(i.zero,i.size,i.bytes))=some (some (.agg #[zI0,zI0,zI0,zI0,zI0,zS0,zI0,zI0,zI0,zI0,zI0,zI0,zI0,zI0,.int .u64 0,.string ⟨#[]⟩]),16,152));exact⟨i,_,h1,h2,h3,h4,rfl⟩),by decide⟩
theorem as2:gM prog 136 143 16 [zI0,zI0,zI0,zI0,zI0,zS0,zI0,zI0,zI0,zI0,zI0,zI0,zI0,zI0,.int .u64 0,.string ⟨#[]⟩]:=⟨underlying136,sizeOf143,amx,rfl⟩
theorem ayB:TyS prog 140 2 true:=⟨sizeOf140,isAgg140⟩
theorem as3:dP prog 140 [zI0,.int .u64 0] [(0,1),(1,1)]:=en zeroValue140 underlying140 (λw=>by kernel_rfl)
theorem aiW:aZ prog 140 0 0:=⟨λa w=>by kernel_rfl⟩
theorem aiX:aZ prog 140 1 1:=⟨λa w=>by kernel_rfl⟩
theorem aiY:aL prog 140 0 0 1 false:=aO underlying140 (by kernel_rfl) ty3 (by decide)
theorem aiZ:aL prog 140 1 1 1 false:=aO underlying140 (by kernel_rfl) uR (by decide)
theorem ayC:TyS prog 141 2 true:=⟨sizeOf141,isAgg141⟩
theorem as4:dP prog 141 [zI0,.int .u64 0] [(0,1),(1,1)]:=en zeroValue141 underlying141 (λw=>by kernel_rfl)
theorem ai0:aZ prog 141 0 0:=⟨λa w=>by kernel_rfl⟩
theorem ai1:aZ prog 141 1 1:=⟨λa w=>by kernel_rfl⟩
theorem ai2:aL prog 141 0 0 1 false:=aO underlying141 (by kernel_rfl) ty3 (by decide)
theorem ai3:aL prog 141 1 1 1 false:=aO underlying141 (by kernel_rfl) uR (by decide)
theorem as5(a0 b0:Int)(a1 b1:Int)(w:World):(Op.eqFields 9999 #[.int .i64 a0,.int .u64 a1] #[.int .i64 b0,.int .u64 b1] (prog.fieldsOf 141).toList).run prog w=.ok (decide (a0=b0)&&(decide (a1=b1)&&true)) w:=by
 have hf:(prog.fieldsOf 141).toList.map (λf=>(f.name== "_",f.type,f.offset))=[(false,3,0),(false,34,1)]:=by kernel_rfl
 have q:(Op.eqFields 9999 #[.int .i64 a0,.int .u64 a1] #[.int .i64 b0,.int .u64 b1] (prog.fieldsOf 141).toList).run prog w=.ok (decide (a0=b0)&&(decide (a1=b1)&&true)) w:=by
  obtain⟨f0,t0,e0,h0,hf⟩:=cQ hf
  obtain⟨f1,t1,e1,h1,hf⟩:=cQ hf
  rw[e0,e1,pM hf]
  exact fh h0 isAgg3 underlying3 rfl rfl (fh h1 isAgg34 underlying34 rfl rfl (ur))
 exact q
theorem ahh(x y:Operand)(a0 b0:Int)(a1 b1:Int)(w:World):(do eqGuard .neq 141 x y (.agg #[.int .i64 a0,.int .u64 a1]) (.agg #[.int .i64 b0,.int .u64 b1]);binOp .neq 141 (.agg #[.int .i64 a0,.int .u64 a1]) (.agg #[.int .i64 b0,.int .u64 b1]):Sem Value).run prog w=.ok (.bool (!(decide (a0=b0)&&(decide (a1=b1)&&true)))) w:=zx _ _ _ x y (by kernel_rfl) (by kernel_rfl) (by kernel_rfl) (as5 a0 b0 a1 b1 w)
theorem ayD:TyS prog 142 16 true:=⟨sizeOf142,isAgg142⟩
theorem as6:dP prog 142 [zI0,zI0,zI0,zI0,zI0,zS0,zI0,zI0,zI0,zI0,zI0,zI0,zI0,zI0,.int .u64 0,.string ⟨#[]⟩] [(0,4),(4,12)]:=en zeroValue142 underlying142 (λw=>by kernel_rfl)
theorem ai4:aZ prog 142 0 0:=⟨λa w=>by kernel_rfl⟩
theorem ai5:aZ prog 142 1 4:=⟨λa w=>by kernel_rfl⟩
theorem ai6:aL prog 142 0 0 4 true:=aO underlying142 (by kernel_rfl) ait (by decide)
theorem ai7:aL prog 142 1 4 12 true:=aO underlying142 (by kernel_rfl) aiv (by decide)
theorem ayE:TyS prog 143 16 true:=⟨sizeOf143,isAgg143⟩
theorem as7:dP prog 143 [zI0,zI0,zI0,zI0,zI0,zS0,zI0,zI0,zI0,zI0,zI0,zI0,zI0,zI0,.int .u64 0,.string ⟨#[]⟩] [(0,4),(4,12)]:=en zeroValue143 underlying143 (λw=>by kernel_rfl)
theorem ai8:aZ prog 143 0 0:=⟨λa w=>by kernel_rfl⟩
theorem ai9:aZ prog 143 1 4:=⟨λa w=>by kernel_rfl⟩
theorem aja:aL prog 143 0 0 4 true:=aO underlying143 (by kernel_rfl) ait (by decide)
theorem ajb:aL prog 143 1 4 12 true:=aO underlying143 (by kernel_rfl) aiv (by decide)
theorem ayF:TyS prog 146 11 true:=⟨sizeOf146,isAgg146⟩
theorem as8:dP prog 146 [zI0,zI0,zI0,zI0,zI0,zI0,zI0,zI0,zI0,.int .u64 0,.string ⟨#[]⟩] [(0,1),(1,10)]:=en zeroValue146 underlying146 (λw=>by kernel_rfl)
theorem ajc:aZ prog 146 0 0:=⟨λa w=>by kernel_rfl⟩
theorem ajd:aZ prog 146 1 1:=⟨λa w=>by kernel_rfl⟩
theorem aje:aL prog 146 0 0 1 false:=aO underlying146 (by kernel_rfl) ty3 (by decide)
theorem ajf:aL prog 146 1 1 10 true:=aO underlying146 (by kernel_rfl) yG (by decide)
theorem ayG:TyS prog 147 1 false:=⟨sizeOf147,isAgg147⟩
theorem ayH:SlS prog 147 146 11:=⟨underlying147,sizeOf146⟩
theorem as9:gC prog 147 146 11 96:=⟨underlying147,(by obtain⟨i,h1,h2,h3,h4⟩:=info_parts (by kernel_rfl:(prog.info? 146).map (λi=>(i.zero,i.size,i.bytes))=some (some (.agg #[zI0,zI0,zI0,zI0,zI0,zI0,zI0,zI0,zI0,.int .u64 0,.string ⟨#[]⟩]),11,96));exact⟨i,_,h1,h2,h3,h4,rfl⟩),by decide⟩
theorem ata:gM prog 147 146 11 [zI0,zI0,zI0,zI0,zI0,zI0,zI0,zI0,zI0,.int .u64 0,.string ⟨#[]⟩]:=⟨underlying147,sizeOf146,amy,rfl⟩
theorem ayI:TyS prog 152 1 false:=⟨sizeOf152,isAgg152⟩
theorem ayJ:TyS prog 153 12 true:=⟨sizeOf153,isAgg153⟩
theorem atb:dP prog 153 [zI0,zS0,zI0,zI0,zI0,zI0,zI0,zI0,zI0,zI0,.int .u64 0,.string ⟨#[]⟩] [(0,1),(1,11)]:=en zeroValue153 underlying153 (λw=>by kernel_rfl)
theorem ajg:aZ prog 153 0 0:=⟨λa w=>by kernel_rfl⟩
theorem ajh:aZ prog 153 1 1:=⟨λa w=>by kernel_rfl⟩
theorem aji:aL prog 153 0 0 1 false:=aO underlying153 (by kernel_rfl) ty3 (by decide)
theorem ajj:aL prog 153 1 1 11 true:=aO underlying153 (by kernel_rfl) aaG (by decide)
theorem ayK:TyS prog 154 12 true:=⟨sizeOf154,isAgg154⟩
theorem atc:dP prog 154 [zI0,zS0,zI0,zI0,zI0,zI0,zI0,zI0,zI0,zI0,.int .u64 0,.string ⟨#[]⟩] [(0,1),(1,11)]:=en zeroValue154 underlying154 (λw=>by kernel_rfl)
theorem ajk:aZ prog 154 0 0:=⟨λa w=>by kernel_rfl⟩
theorem ajl:aZ prog 154 1 1:=⟨λa w=>by kernel_rfl⟩
theorem ajm:aL prog 154 0 0 1 false:=aO underlying154 (by kernel_rfl) ty3 (by decide)
theorem ajn:aL prog 154 1 1 11 true:=aO underlying154 (by kernel_rfl) aaG (by decide)
theorem afT:TyS prog 155 1 false:=⟨sizeOf155,isAgg155⟩
theorem ayL:SlS prog 155 154 12:=⟨underlying155,sizeOf154⟩
theorem atd:gC prog 155 154 12 120:=⟨underlying155,(by obtain⟨i,h1,h2,h3,h4⟩:=info_parts (by kernel_rfl:(prog.info? 154).map (λi=>(i.zero,i.size,i.bytes))=some (some (.agg #[zI0,zS0,zI0,zI0,zI0,zI0,zI0,zI0,zI0,zI0,.int .u64 0,.string ⟨#[]⟩]),12,120));exact⟨i,_,h1,h2,h3,h4,rfl⟩),by decide⟩
theorem ate:gM prog 155 154 12 [zI0,zS0,zI0,zI0,zI0,zI0,zI0,zI0,zI0,zI0,.int .u64 0,.string ⟨#[]⟩]:=⟨underlying155,sizeOf154,amz,rfl⟩
theorem ayM:TyS prog 156 12 true:=⟨sizeOf156,isAgg156⟩
theorem atf:dP prog 156 [zI0,zS0,zS0,zS0,zS0,zS0,zS0,zS0,zS0,zS0,zS0,zS0] [(0,2),(2,2),(4,2),(6,2),(8,3),(11,1)]:=en zeroValue156 underlying156 (λw=>by kernel_rfl)
theorem ajo:aZ prog 156 0 0:=⟨λa w=>by kernel_rfl⟩
theorem ajp:aZ prog 156 1 2:=⟨λa w=>by kernel_rfl⟩
theorem ajq:aZ prog 156 2 4:=⟨λa w=>by kernel_rfl⟩
theorem ajr:aZ prog 156 3 6:=⟨λa w=>by kernel_rfl⟩
theorem ajs:aZ prog 156 4 8:=⟨λa w=>by kernel_rfl⟩
theorem ajt:aZ prog 156 5 11:=⟨λa w=>by kernel_rfl⟩
theorem aju:aL prog 156 0 0 2 true:=aO underlying156 (by kernel_rfl) ais (by decide)
theorem ajv:aL prog 156 1 2 2 true:=aO underlying156 (by kernel_rfl) adZ (by decide)
theorem ajw:aL prog 156 2 4 2 true:=aO underlying156 (by kernel_rfl) adZ (by decide)
theorem ajx:aL prog 156 3 6 2 true:=aO underlying156 (by kernel_rfl) afS (by decide)
theorem ajy:aL prog 156 4 8 3 true:=aO underlying156 (by kernel_rfl) aiz (by decide)
theorem ajz:aL prog 156 5 11 1 false:=aO underlying156 (by kernel_rfl) afT (by decide)
theorem ayN:TyS prog 157 12 true:=⟨sizeOf157,isAgg157⟩
theorem atg:dP prog 157 [zI0,zS0,zS0,zS0,zS0,zS0,zS0,zS0,zS0,zS0,zS0,zS0] [(0,2),(2,2),(4,2),(6,2),(8,3),(11,1)]:=en zeroValue157 underlying157 (λw=>by kernel_rfl)
theorem ajA:aZ prog 157 0 0:=⟨λa w=>by kernel_rfl⟩
theorem ajB:aZ prog 157 1 2:=⟨λa w=>by kernel_rfl⟩
theorem ajC:aZ prog 157 2 4:=⟨λa w=>by kernel_rfl⟩
theorem ajD:aZ prog 157 3 6:=⟨λa w=>by kernel_rfl⟩
theorem ajE:aZ prog 157 4 8:=⟨λa w=>by kernel_rfl⟩
theorem ajF:aZ prog 157 5 11:=⟨λa w=>by kernel_rfl⟩
theorem ajG:aL prog 157 0 0 2 true:=aO underlying157 (by kernel_rfl) ais (by decide)
theorem ajH:aL prog 157 1 2 2 true:=aO underlying157 (by kernel_rfl) adZ (by decide)
theorem ajI:aL prog 157 2 4 2 true:=aO underlying157 (by kernel_rfl) adZ (by decide)
theorem ajJ:aL prog 157 3 6 2 true:=aO underlying157 (by kernel_rfl) afS (by decide)
theorem ajK:aL prog 157 4 8 3 true:=aO underlying157 (by kernel_rfl) aiz (by decide)
theorem ajL:aL prog 157 5 11 1 false:=aO underlying157 (by kernel_rfl) afT (by decide)
theorem ayO:TyS prog 159 12 true:=⟨sizeOf159,isAgg159⟩
theorem ath:dP prog 159 [zI0,zS0,zI0,zI0,zI0,zI0,zI0,zI0,zI0,zI0,.int .u64 0,.string ⟨#[]⟩] [(0,1),(1,11)]:=en zeroValue159 underlying159 (λw=>by kernel_rfl)
theorem ajM:aZ prog 159 0 0:=⟨λa w=>by kernel_rfl⟩
theorem ajN:aZ prog 159 1 1:=⟨λa w=>by kernel_rfl⟩
theorem ajO:aL prog 159 0 0 1 false:=aO underlying159 (by kernel_rfl) ty3 (by decide)
theorem ajP:aL prog 159 1 1 11 true:=aO underlying159 (by kernel_rfl) aaG (by decide)
theorem ayP:TyS prog 160 12 true:=⟨sizeOf160,isAgg160⟩
theorem ati:dP prog 160 [zI0,zS0,zI0,zI0,zI0,zI0,zI0,zI0,zI0,zI0,.int .u64 0,.string ⟨#[]⟩] [(0,1),(1,11)]:=en zeroValue160 underlying160 (λw=>by kernel_rfl)
theorem ajQ:aZ prog 160 0 0:=⟨λa w=>by kernel_rfl⟩
theorem ajR:aZ prog 160 1 1:=⟨λa w=>by kernel_rfl⟩
theorem ajS:aL prog 160 0 0 1 false:=aO underlying160 (by kernel_rfl) ty3 (by decide)
theorem ajT:aL prog 160 1 1 11 true:=aO underlying160 (by kernel_rfl) aaG (by decide)
theorem ayQ:TyS prog 161 1 false:=⟨sizeOf161,isAgg161⟩
theorem ayR:SlS prog 161 160 12:=⟨underlying161,sizeOf160⟩
theorem atj:gC prog 161 160 12 120:=⟨underlying161,(by obtain⟨i,h1,h2,h3,h4⟩:=info_parts (by kernel_rfl:(prog.info? 160).map (λi=>(i.zero,i.size,i.bytes))=some (some (.agg #[zI0,zS0,zI0,zI0,zI0,zI0,zI0,zI0,zI0,zI0,.int .u64 0,.string ⟨#[]⟩]),12,120));exact⟨i,_,h1,h2,h3,h4,rfl⟩),by decide⟩
theorem atk:gM prog 161 160 12 [zI0,zS0,zI0,zI0,zI0,zI0,zI0,zI0,zI0,zI0,.int .u64 0,.string ⟨#[]⟩]:=⟨underlying161,sizeOf160,amA,rfl⟩
theorem ayS:TyS prog 168 1 false:=⟨sizeOf168,isAgg168⟩
theorem ayT:TyS prog 170 1 false:=⟨sizeOf170,isAgg170⟩
theorem ayU:TyS prog 172 1 false:=⟨sizeOf172,isAgg172⟩
theorem ayV:TyS prog 173 1 false:=⟨sizeOf173,isAgg173⟩
theorem ayW:TyS prog 177 2 true:=⟨sizeOf177,isAgg177⟩
theorem ayX:TyS prog 178 1 false:=⟨sizeOf178,isAgg178⟩
theorem ayY:SlS prog 178 177 2:=⟨underlying178,sizeOf177⟩
theorem atl:gC prog 178 177 2 16:=⟨underlying178,(by obtain⟨i,h1,h2,h3,h4⟩:=info_parts (by kernel_rfl:(prog.info? 177).map (λi=>(i.zero,i.size,i.bytes))=some (some (.agg #[zI0,zI0]),2,16));exact⟨i,_,h1,h2,h3,h4,rfl⟩),by decide⟩
theorem atm:gM prog 178 177 2 [zI0,zI0]:=⟨underlying178,sizeOf177,amB,rfl⟩
theorem ayZ:TyS prog 181 1 false:=⟨sizeOf181,isAgg181⟩
theorem ay0:SlS prog 181 184 3:=⟨underlying181,sizeOf184⟩
theorem atn:gC prog 181 184 3 24:=⟨underlying181,(by obtain⟨i,h1,h2,h3,h4⟩:=info_parts (by kernel_rfl:(prog.info? 184).map (λi=>(i.zero,i.size,i.bytes))=some (some (.agg #[zI0,zI0,zI0]),3,24));exact⟨i,_,h1,h2,h3,h4,rfl⟩),by decide⟩
theorem ato:gM prog 181 184 3 [zI0,zI0,zI0]:=⟨underlying181,sizeOf184,amC,rfl⟩
theorem ay1:TyS prog 183 3 true:=⟨sizeOf183,isAgg183⟩
theorem atp:dP prog 183 [zI0,zI0,zI0] [(0,1),(1,1),(2,1)]:=en zeroValue183 underlying183 (λw=>by kernel_rfl)
theorem ajU:aZ prog 183 0 0:=⟨λa w=>by kernel_rfl⟩
theorem ajV:aZ prog 183 1 1:=⟨λa w=>by kernel_rfl⟩
theorem ajW:aZ prog 183 2 2:=⟨λa w=>by kernel_rfl⟩
theorem ajX:aL prog 183 0 0 1 false:=aO underlying183 (by kernel_rfl) ty3 (by decide)
theorem ajY:aL prog 183 1 1 1 false:=aO underlying183 (by kernel_rfl) ty3 (by decide)
theorem ajZ:aL prog 183 2 2 1 false:=aO underlying183 (by kernel_rfl) ty3 (by decide)
theorem ay2:TyS prog 184 3 true:=⟨sizeOf184,isAgg184⟩
theorem atq:dP prog 184 [zI0,zI0,zI0] [(0,1),(1,1),(2,1)]:=en zeroValue184 underlying184 (λw=>by kernel_rfl)
theorem aj0:aZ prog 184 0 0:=⟨λa w=>by kernel_rfl⟩
theorem aj1:aZ prog 184 1 1:=⟨λa w=>by kernel_rfl⟩
theorem aj2:aZ prog 184 2 2:=⟨λa w=>by kernel_rfl⟩
theorem aj3:aL prog 184 0 0 1 false:=aO underlying184 (by kernel_rfl) ty3 (by decide)
theorem aj4:aL prog 184 1 1 1 false:=aO underlying184 (by kernel_rfl) ty3 (by decide)
theorem aj5:aL prog 184 2 2 1 false:=aO underlying184 (by kernel_rfl) ty3 (by decide)
theorem ahi(a0 b0:Int)(a1 b1:Int)(a2 b2:Int)(w:World):(Op.eqFields 9999 #[.int .i64 a0,.int .i64 a1,.int .i64 a2] #[.int .i64 b0,.int .i64 b1,.int .i64 b2] (prog.fieldsOf 184).toList).run prog w=.ok (decide (a0=b0)&&(decide (a1=b1)&&(decide (a2=b2)&&true))) w:=by
 have hf:(prog.fieldsOf 184).toList.map (λf=>(f.name== "_",f.type,f.offset))=[(false,3,0),(false,3,1),(false,3,2)]:=by kernel_rfl
 have q:(Op.eqFields 9999 #[.int .i64 a0,.int .i64 a1,.int .i64 a2] #[.int .i64 b0,.int .i64 b1,.int .i64 b2] (prog.fieldsOf 184).toList).run prog w=.ok (decide (a0=b0)&&(decide (a1=b1)&&(decide (a2=b2)&&true))) w:=by
  obtain⟨f0,t0,e0,h0,hf⟩:=cQ hf
  obtain⟨f1,t1,e1,h1,hf⟩:=cQ hf
  obtain⟨f2,t2,e2,h2,hf⟩:=cQ hf
  rw[e0,e1,e2,pM hf]
  exact fh h0 isAgg3 underlying3 rfl rfl (fh h1 isAgg3 underlying3 rfl rfl (fh h2 isAgg3 underlying3 rfl rfl (ur)))
 exact q
theorem ahj(x y:Operand)(a0 b0:Int)(a1 b1:Int)(a2 b2:Int)(w:World):(do eqGuard .eql 184 x y (.agg #[.int .i64 a0,.int .i64 a1,.int .i64 a2]) (.agg #[.int .i64 b0,.int .i64 b1,.int .i64 b2]);binOp .eql 184 (.agg #[.int .i64 a0,.int .i64 a1,.int .i64 a2]) (.agg #[.int .i64 b0,.int .i64 b1,.int .i64 b2]):Sem Value).run prog w=.ok (.bool (decide (a0=b0)&&(decide (a1=b1)&&(decide (a2=b2)&&true)))) w:=aob _ _ _ x y (by kernel_rfl) (by kernel_rfl) (by kernel_rfl) (ahi a0 b0 a1 b1 a2 b2 w)
theorem ay3:TyS prog 193 1 false:=⟨sizeOf193,isAgg193⟩
theorem abA:TyS prog 200 1 false:=⟨sizeOf200,isAgg200⟩
theorem kr:kj prog 200 3 216 .i64:=⟨underlying200,underlying3⟩
theorem ay4:TyS prog 201 2 true:=⟨sizeOf201,isAgg201⟩
theorem atr:dP prog 201 [.map none,.map none] [(0,1),(1,1)]:=en zeroValue201 underlying201 (λw=>by kernel_rfl)
theorem aj6:aZ prog 201 0 0:=⟨λa w=>by kernel_rfl⟩
theorem aj7:aZ prog 201 1 1:=⟨λa w=>by kernel_rfl⟩
theorem aj8:aL prog 201 0 0 1 false:=aO underlying201 (by kernel_rfl) abA (by decide)
theorem aj9:aL prog 201 1 1 1 false:=aO underlying201 (by kernel_rfl) abA (by decide)
theorem ay5:TyS prog 202 2 true:=⟨sizeOf202,isAgg202⟩
theorem att:dP prog 202 [.map none,.map none] [(0,1),(1,1)]:=en zeroValue202 underlying202 (λw=>by kernel_rfl)
theorem aka:aZ prog 202 0 0:=⟨λa w=>by kernel_rfl⟩
theorem akb:aZ prog 202 1 1:=⟨λa w=>by kernel_rfl⟩
theorem akc:aL prog 202 0 0 1 false:=aO underlying202 (by kernel_rfl) abA (by decide)
theorem akd:aL prog 202 1 1 1 false:=aO underlying202 (by kernel_rfl) abA (by decide)
theorem ay6:TyS prog 204 1 false:=⟨sizeOf204,isAgg204⟩
theorem qd:kj prog 204 3 3 .i64:=⟨underlying204,underlying3⟩
theorem ay7:TyS prog 207 1 false:=⟨sizeOf207,isAgg207⟩
theorem ay8:SlS prog 207 47 1:=⟨underlying207,sizeOf47⟩
theorem atu:gC prog 207 47 1 8:=⟨underlying207,(by obtain⟨i,h1,h2,h3,h4⟩:=info_parts (by kernel_rfl:(prog.info? 47).map (λi=>(i.zero,i.size,i.bytes))=some (some (zI0),1,8));exact⟨i,_,h1,h2,h3,h4,rfl⟩),by decide⟩
theorem atv:gM prog 207 47 1 [zI0]:=⟨underlying207,sizeOf47,asu,rfl⟩
theorem ay9:TyS prog 208 1 false:=⟨sizeOf208,isAgg208⟩
theorem ahk:kj prog 208 3 4 .i64:=⟨underlying208,underlying3⟩
theorem aza:TyS prog 215 1 false:=⟨sizeOf215,isAgg215⟩
theorem azb:TyS prog 216 1 false:=⟨sizeOf216,isAgg216⟩
theorem azc:SlS prog 216 218 2:=⟨underlying216,sizeOf218⟩
theorem atw:gC prog 216 218 2 16:=⟨underlying216,(by obtain⟨i,h1,h2,h3,h4⟩:=info_parts (by kernel_rfl:(prog.info? 218).map (λi=>(i.zero,i.size,i.bytes))=some (some (.agg #[zI0,zI0]),2,16));exact⟨i,_,h1,h2,h3,h4,rfl⟩),by decide⟩
theorem atx:gM prog 216 218 2 [zI0,zI0]:=⟨underlying216,sizeOf218,amD,rfl⟩
theorem azd:TyS prog 217 2 true:=⟨sizeOf217,isAgg217⟩
theorem aty:dP prog 217 [zI0,zI0] [(0,1),(1,1)]:=en zeroValue217 underlying217 (λw=>by kernel_rfl)
theorem ake:aZ prog 217 0 0:=⟨λa w=>by kernel_rfl⟩
theorem akf:aZ prog 217 1 1:=⟨λa w=>by kernel_rfl⟩
theorem akg:aL prog 217 0 0 1 false:=aO underlying217 (by kernel_rfl) ty3 (by decide)
theorem akh:aL prog 217 1 1 1 false:=aO underlying217 (by kernel_rfl) ty3 (by decide)
theorem aze:TyS prog 218 2 true:=⟨sizeOf218,isAgg218⟩
theorem atz:dP prog 218 [zI0,zI0] [(0,1),(1,1)]:=en zeroValue218 underlying218 (λw=>by kernel_rfl)
theorem aki:aZ prog 218 0 0:=⟨λa w=>by kernel_rfl⟩
theorem akj:aZ prog 218 1 1:=⟨λa w=>by kernel_rfl⟩
theorem akk:aL prog 218 0 0 1 false:=aO underlying218 (by kernel_rfl) ty3 (by decide)
theorem akl:aL prog 218 1 1 1 false:=aO underlying218 (by kernel_rfl) ty3 (by decide)
theorem azf:TyS prog 220 1 false:=⟨sizeOf220,isAgg220⟩
theorem azg:TyS prog 228 1 false:=⟨sizeOf228,isAgg228⟩
theorem afU:TyS prog 235 1 false:=⟨sizeOf235,isAgg235⟩
theorem azh:TyS prog 242 1 false:=⟨sizeOf242,isAgg242⟩
theorem azi:TyS prog 246 1 false:=⟨sizeOf246,isAgg246⟩
theorem azj:TyS prog 250 1 false:=⟨sizeOf250,isAgg250⟩
theorem azk:TyS prog 255 4 true:=⟨sizeOf255,isAgg255⟩
theorem atA:dP prog 255 [.pointer none,.pointer none,.pointer none,.string ⟨#[]⟩] [(0,1),(1,1),(2,1),(3,1)]:=en zeroValue255 underlying255 (λw=>by kernel_rfl)
theorem akm:aZ prog 255 0 0:=⟨λa w=>by kernel_rfl⟩
theorem akn:aZ prog 255 1 1:=⟨λa w=>by kernel_rfl⟩
theorem ako:aZ prog 255 2 2:=⟨λa w=>by kernel_rfl⟩
theorem akp:aZ prog 255 3 3:=⟨λa w=>by kernel_rfl⟩
theorem akq:aL prog 255 0 0 1 false:=aO underlying255 (by kernel_rfl) xk (by decide)
theorem akr:aL prog 255 1 1 1 false:=aO underlying255 (by kernel_rfl) xk (by decide)
theorem aks:aL prog 255 2 2 1 false:=aO underlying255 (by kernel_rfl) xk (by decide)
theorem akt:aL prog 255 3 3 1 false:=aO underlying255 (by kernel_rfl) ty9 (by decide)
theorem azl:TyS prog 256 4 true:=⟨sizeOf256,isAgg256⟩
theorem atB:dP prog 256 [.pointer none,.pointer none,.pointer none,.string ⟨#[]⟩] [(0,1),(1,1),(2,1),(3,1)]:=en zeroValue256 underlying256 (λw=>by kernel_rfl)
theorem aku:aZ prog 256 0 0:=⟨λa w=>by kernel_rfl⟩
theorem akv:aZ prog 256 1 1:=⟨λa w=>by kernel_rfl⟩
theorem akw:aZ prog 256 2 2:=⟨λa w=>by kernel_rfl⟩
theorem akx:aZ prog 256 3 3:=⟨λa w=>by kernel_rfl⟩
theorem aky:aL prog 256 0 0 1 false:=aO underlying256 (by kernel_rfl) xk (by decide)
theorem akz:aL prog 256 1 1 1 false:=aO underlying256 (by kernel_rfl) xk (by decide)
theorem akA:aL prog 256 2 2 1 false:=aO underlying256 (by kernel_rfl) xk (by decide)
theorem akB:aL prog 256 3 3 1 false:=aO underlying256 (by kernel_rfl) ty9 (by decide)
theorem azm:TyS prog 257 0 true:=⟨sizeOf257,isAgg257⟩
theorem afV:TyS prog 260 1 false:=⟨sizeOf260,isAgg260⟩
theorem afW:TyS prog 261 1 false:=⟨sizeOf261,isAgg261⟩
theorem afX:TyS prog 262 1 false:=⟨sizeOf262,isAgg262⟩
theorem afY:TyS prog 263 1 false:=⟨sizeOf263,isAgg263⟩
theorem afZ:TyS prog 264 1 false:=⟨sizeOf264,isAgg264⟩
theorem af0:TyS prog 265 1 false:=⟨sizeOf265,isAgg265⟩
theorem azn:TyS prog 266 11 true:=⟨sizeOf266,isAgg266⟩
theorem atC:dP prog 266 [.int .u64 0,.int .u64 0,.int .u32 0,.int .u8 0,.int .u8 0,.int .u8 0,.int .u8 0,.nilFunc,.pointer none,.int .i32 0,.int .i32 0] [(0,1),(1,1),(2,1),(3,1),(4,1),(5,1),(6,1),(7,1),(8,1),(9,1),(10,1)]:=en zeroValue266 underlying266 (λw=>by kernel_rfl)
theorem akC:aZ prog 266 0 0:=⟨λa w=>by kernel_rfl⟩
theorem akD:aZ prog 266 1 1:=⟨λa w=>by kernel_rfl⟩
theorem akE:aZ prog 266 2 2:=⟨λa w=>by kernel_rfl⟩
theorem akF:aZ prog 266 3 3:=⟨λa w=>by kernel_rfl⟩
theorem akG:aZ prog 266 4 4:=⟨λa w=>by kernel_rfl⟩
theorem akH:aZ prog 266 5 5:=⟨λa w=>by kernel_rfl⟩
theorem akI:aZ prog 266 6 6:=⟨λa w=>by kernel_rfl⟩
theorem akJ:aZ prog 266 7 7:=⟨λa w=>by kernel_rfl⟩
theorem akK:aZ prog 266 8 8:=⟨λa w=>by kernel_rfl⟩
theorem akL:aZ prog 266 9 9:=⟨λa w=>by kernel_rfl⟩
theorem ahl:aZ prog 266 10 10:=⟨λa w=>by kernel_rfl⟩
theorem akM:aL prog 266 0 0 1 false:=aO underlying266 (by kernel_rfl) aaD (by decide)
theorem akN:aL prog 266 1 1 1 false:=aO underlying266 (by kernel_rfl) aaD (by decide)
theorem akO:aL prog 266 2 2 1 false:=aO underlying266 (by kernel_rfl) afU (by decide)
theorem akP:aL prog 266 3 3 1 false:=aO underlying266 (by kernel_rfl) afV (by decide)
theorem akQ:aL prog 266 4 4 1 false:=aO underlying266 (by kernel_rfl) ty5 (by decide)
theorem akR:aL prog 266 5 5 1 false:=aO underlying266 (by kernel_rfl) ty5 (by decide)
theorem akS:aL prog 266 6 6 1 false:=aO underlying266 (by kernel_rfl) afW (by decide)
theorem akT:aL prog 266 7 7 1 false:=aO underlying266 (by kernel_rfl) afX (by decide)
theorem akU:aL prog 266 8 8 1 false:=aO underlying266 (by kernel_rfl) afY (by decide)
theorem akV:aL prog 266 9 9 1 false:=aO underlying266 (by kernel_rfl) afZ (by decide)
theorem ahm:aL prog 266 10 10 1 false:=aO underlying266 (by kernel_rfl) af0 (by decide)
theorem azo:TyS prog 267 11 true:=⟨sizeOf267,isAgg267⟩
theorem atD:dP prog 267 [.int .u64 0,.int .u64 0,.int .u32 0,.int .u8 0,.int .u8 0,.int .u8 0,.int .u8 0,.nilFunc,.pointer none,.int .i32 0,.int .i32 0] [(0,1),(1,1),(2,1),(3,1),(4,1),(5,1),(6,1),(7,1),(8,1),(9,1),(10,1)]:=en zeroValue267 underlying267 (λw=>by kernel_rfl)
theorem akW:aZ prog 267 0 0:=⟨λa w=>by kernel_rfl⟩
theorem akX:aZ prog 267 1 1:=⟨λa w=>by kernel_rfl⟩
theorem akY:aZ prog 267 2 2:=⟨λa w=>by kernel_rfl⟩
theorem akZ:aZ prog 267 3 3:=⟨λa w=>by kernel_rfl⟩
theorem ak0:aZ prog 267 4 4:=⟨λa w=>by kernel_rfl⟩
theorem ak1:aZ prog 267 5 5:=⟨λa w=>by kernel_rfl⟩
theorem ak2:aZ prog 267 6 6:=⟨λa w=>by kernel_rfl⟩
theorem ak3:aZ prog 267 7 7:=⟨λa w=>by kernel_rfl⟩
theorem ak4:aZ prog 267 8 8:=⟨λa w=>by kernel_rfl⟩
theorem ak5:aZ prog 267 9 9:=⟨λa w=>by kernel_rfl⟩
theorem ahn:aZ prog 267 10 10:=⟨λa w=>by kernel_rfl⟩
theorem ak6:aL prog 267 0 0 1 false:=aO underlying267 (by kernel_rfl) aaD (by decide)
theorem ak7:aL prog 267 1 1 1 false:=aO underlying267 (by kernel_rfl) aaD (by decide)
theorem ak8:aL prog 267 2 2 1 false:=aO underlying267 (by kernel_rfl) afU (by decide)
theorem ak9:aL prog 267 3 3 1 false:=aO underlying267 (by kernel_rfl) afV (by decide)
theorem ala:aL prog 267 4 4 1 false:=aO underlying267 (by kernel_rfl) ty5 (by decide)
theorem alb:aL prog 267 5 5 1 false:=aO underlying267 (by kernel_rfl) ty5 (by decide)
theorem alc:aL prog 267 6 6 1 false:=aO underlying267 (by kernel_rfl) afW (by decide)
theorem ald:aL prog 267 7 7 1 false:=aO underlying267 (by kernel_rfl) afX (by decide)
theorem ale:aL prog 267 8 8 1 false:=aO underlying267 (by kernel_rfl) afY (by decide)
theorem alf:aL prog 267 9 9 1 false:=aO underlying267 (by kernel_rfl) afZ (by decide)
theorem aho:aL prog 267 10 10 1 false:=aO underlying267 (by kernel_rfl) af0 (by decide)
end Go.Proofs.YtdjeacigeegklaaGreat
