/- The types of this translation, as the rules want adz. No condition. -/
import Derived.Test.YtpmifmdidfgpdaaGreatAB
import Derived.Test.YtpmifmdidfgpdaaGreatRows
import Derived.OwnWalk
namespace Go.Proofs.YtpmifmdidfgpdaaGreat
set_option linter.all false
open Go
set_option maxRecDepth 100000
abbrev Zr (i : Nat) (c : List Value) : Prop := ∀ w, ∃ z, (zeroValue i).run Tryz.prog w = .ok z w ∧ z.cells = c.toArray
theorem yP : Tryz.prog.follows .mixedOrders = true := by kernel_rfl
theorem ze1 : Zr 1 [.nilFunc] := fun w => ⟨_, Tryz.zeroValue1 w, rfl⟩
theorem ze2 : Zr 2 [.int .i64 0] := fun w => ⟨_, Tryz.zeroValue2 w, rfl⟩
theorem ze3 : Zr 3 [.int .i64 0] := fun w => ⟨_, Tryz.zeroValue3 w, rfl⟩
theorem ze4 : Zr 4 [.bool false] := fun w => ⟨_, Tryz.zeroValue4 w, rfl⟩
theorem ze5 : Zr 5 [.int .u8 0] := fun w => ⟨_, Tryz.zeroValue5 w, rfl⟩
theorem ze6 : Zr 6 [.int .u8 0] := fun w => ⟨_, Tryz.zeroValue6 w, rfl⟩
theorem ze7 : Zr 7 [.int .i64 0, .int .i64 0, .bool false, .int .u8 0] := fun w => ⟨_, Tryz.zeroValue7 w, rfl⟩
theorem ze8 : Zr 8 [.int .i64 0, .int .i64 0, .bool false, .int .u8 0] := fun w => ⟨_, Tryz.zeroValue8 w, rfl⟩
theorem ze9 : Zr 9 [.string ⟨#[]⟩] := fun w => ⟨_, Tryz.zeroValue9 w, rfl⟩
theorem ze10 : Zr 10 [.string ⟨#[]⟩] := fun w => ⟨_, Tryz.zeroValue10 w, rfl⟩
theorem ze11 : Zr 11 [.string ⟨#[]⟩] := fun w => ⟨_, Tryz.zeroValue11 w, rfl⟩
theorem ze12 : Zr 12 [.int .u64 0] := fun w => ⟨_, Tryz.zeroValue12 w, rfl⟩
theorem ze13 : Zr 13 [.string ⟨#[]⟩, .int .u64 0] := fun w => ⟨_, Tryz.zeroValue13 w, rfl⟩
theorem ze14 : Zr 14 [.string ⟨#[]⟩, .int .u64 0] := fun w => ⟨_, Tryz.zeroValue14 w, rfl⟩
theorem ze15 : Zr 15 [.pointer none] := fun w => ⟨_, Tryz.zeroValue15 w, rfl⟩
theorem ze16 : Zr 16 [.pointer none] := fun w => ⟨_, Tryz.zeroValue16 w, rfl⟩
theorem ze17 : Zr 17 [.pointer none] := fun w => ⟨_, Tryz.zeroValue17 w, rfl⟩
theorem ze18 : Zr 18 [.pointer none] := fun w => ⟨_, Tryz.zeroValue18 w, rfl⟩
theorem ze19 : Zr 19 [.pointer none] := fun w => ⟨_, Tryz.zeroValue19 w, rfl⟩
theorem ze21 : Zr 21 [.int .i32 0] := fun w => ⟨_, Tryz.zeroValue21 w, rfl⟩
theorem ze22 : Zr 22 [.slice none 0 0] := fun w => ⟨_, Tryz.zeroValue22 w, rfl⟩
theorem am3 : Zr 23 [.slice none 0 0] := fun w => ⟨_, Tryz.zeroValue23 w, rfl⟩
theorem ze24 : Zr 24 [.slice none 0 0] := fun w => ⟨_, Tryz.zeroValue24 w, rfl⟩
theorem ze25 : Zr 25 [.slice none 0 0] := fun w => ⟨_, Tryz.zeroValue25 w, rfl⟩
theorem ze26 : Zr 26 [.slice none 0 0, .slice none 0 0, .slice none 0 0] := fun w => ⟨_, Tryz.zeroValue26 w, rfl⟩
theorem am4 : Zr 27 [.slice none 0 0, .slice none 0 0, .slice none 0 0] := fun w => ⟨_, Tryz.zeroValue27 w, rfl⟩
theorem ze28 : Zr 28 [.pointer none] := fun w => ⟨_, Tryz.zeroValue28 w, rfl⟩
theorem ze32 : Zr 32 [.slice none 0 0] := fun w => ⟨_, Tryz.zeroValue32 w, rfl⟩
theorem ze34 : Zr 34 [.int .i64 0] := fun w => ⟨_, Tryz.zeroValue34 w, rfl⟩
theorem ze42 : Zr 42 [.slice none 0 0] := fun w => ⟨_, Tryz.zeroValue42 w, rfl⟩
theorem ze43 : Zr 43 [.slice none 0 0, .slice none 0 0] := fun w => ⟨_, Tryz.zeroValue43 w, rfl⟩
theorem ze44 : Zr 44 [.slice none 0 0, .slice none 0 0] := fun w => ⟨_, Tryz.zeroValue44 w, rfl⟩
theorem ze47 : Zr 47 [.slice none 0 0] := fun w => ⟨_, Tryz.zeroValue47 w, rfl⟩
theorem ze48 : Zr 48 [.slice none 0 0] := fun w => ⟨_, Tryz.zeroValue48 w, rfl⟩
theorem ze49 : Zr 49 [.int .i64 0, .int .i64 0, .bool false, .slice none 0 0, .slice none 0 0] := fun w => ⟨_, Tryz.zeroValue49 w, rfl⟩
theorem am5 : Zr 50 [.int .i64 0, .int .i64 0, .bool false, .slice none 0 0, .slice none 0 0] := fun w => ⟨_, Tryz.zeroValue50 w, rfl⟩
theorem ze53 : Zr 53 [.nilFunc] := fun w => ⟨_, Tryz.zeroValue53 w, rfl⟩
theorem ze58 : Zr 58 [.slice none 0 0] := fun w => ⟨_, Tryz.zeroValue58 w, rfl⟩
theorem ze59 : Zr 59 [.slice none 0 0] := fun w => ⟨_, Tryz.zeroValue59 w, rfl⟩
theorem ze60 : Zr 60 [.slice none 0 0] := fun w => ⟨_, Tryz.zeroValue60 w, rfl⟩
theorem ze61 : Zr 61 [.int .i64 0, .int .i64 0, .slice none 0 0] := fun w => ⟨_, Tryz.zeroValue61 w, rfl⟩
theorem am6 : Zr 62 [.int .i64 0, .int .i64 0, .slice none 0 0] := fun w => ⟨_, Tryz.zeroValue62 w, rfl⟩
theorem ze65 : Zr 65 [.slice none 0 0] := fun w => ⟨_, Tryz.zeroValue65 w, rfl⟩
theorem ze66 : Zr 66 [.slice none 0 0, .slice none 0 0] := fun w => ⟨_, Tryz.zeroValue66 w, rfl⟩
theorem ze67 : Zr 67 [.slice none 0 0, .slice none 0 0] := fun w => ⟨_, Tryz.zeroValue67 w, rfl⟩
theorem ze70 : Zr 70 [.slice none 0 0] := fun w => ⟨_, Tryz.zeroValue70 w, rfl⟩
theorem ze73 : Zr 73 [.slice none 0 0, .int .i64 0] := fun w => ⟨_, Tryz.zeroValue73 w, rfl⟩
theorem ze74 : Zr 74 [.slice none 0 0, .int .i64 0] := fun w => ⟨_, Tryz.zeroValue74 w, rfl⟩
theorem ze75 : Zr 75 [.nilFunc] := fun w => ⟨_, Tryz.zeroValue75 w, rfl⟩
theorem ze77 : Zr 77 [.int .i64 0, .int .i64 0, .int .i64 0, .int .i64 0, .int .i64 0] := fun w => ⟨_, Tryz.zeroValue77 w, rfl⟩
theorem am7 : Zr 78 [.int .i64 0, .int .i64 0, .int .i64 0, .int .i64 0, .int .i64 0] := fun w => ⟨_, Tryz.zeroValue78 w, rfl⟩
theorem ze80 : Zr 80 [.int .i64 0, .int .i64 0, .bool false, .slice none 0 0, .slice none 0 0] := fun w => ⟨_, Tryz.zeroValue80 w, rfl⟩
theorem am8 : Zr 81 [.int .i64 0, .int .i64 0, .bool false, .slice none 0 0, .slice none 0 0] := fun w => ⟨_, Tryz.zeroValue81 w, rfl⟩
theorem ze84 : Zr 84 [.int .i64 0, .int .i64 0, .int .i64 0] := fun w => ⟨_, Tryz.zeroValue84 w, rfl⟩
theorem am9 : Zr 85 [.int .i64 0, .int .i64 0, .int .i64 0] := fun w => ⟨_, Tryz.zeroValue85 w, rfl⟩
theorem ze86 : Zr 86 [.int .i64 0, .bool false] := fun w => ⟨_, Tryz.zeroValue86 w, rfl⟩
theorem ana : Zr 87 [.int .i64 0, .bool false] := fun w => ⟨_, Tryz.zeroValue87 w, rfl⟩
theorem ze88 : Zr 88 [.pointer none] := fun w => ⟨_, Tryz.zeroValue88 w, rfl⟩
theorem ze90 : Zr 90 [.slice none 0 0, .slice none 0 0, .slice none 0 0] := fun w => ⟨_, Tryz.zeroValue90 w, rfl⟩
theorem ze91 : Zr 91 [.slice none 0 0, .slice none 0 0, .slice none 0 0] := fun w => ⟨_, Tryz.zeroValue91 w, rfl⟩
theorem ze92 : Zr 92 [.slice none 0 0] := fun w => ⟨_, Tryz.zeroValue92 w, rfl⟩
theorem ze95 : Zr 95 [.nilFunc] := fun w => ⟨_, Tryz.zeroValue95 w, rfl⟩
theorem aqk : Zr 105 [.int .i64 0, .int .i64 0, .int .i64 0] := fun w => ⟨_, Tryz.zeroValue105 w, rfl⟩
theorem ais : Zr 106 [.int .i64 0, .int .i64 0, .int .i64 0] := fun w => ⟨_, Tryz.zeroValue106 w, rfl⟩
theorem aql : Zr 109 [.nilFunc] := fun w => ⟨_, Tryz.zeroValue109 w, rfl⟩
theorem aqm : Zr 119 [.int .i64 0, .int .i64 0] := fun w => ⟨_, Tryz.zeroValue119 w, rfl⟩
theorem ait : Zr 120 [.int .i64 0, .int .i64 0] := fun w => ⟨_, Tryz.zeroValue120 w, rfl⟩
theorem aqn : Zr 123 [.nilFunc] := fun w => ⟨_, Tryz.zeroValue123 w, rfl⟩
theorem aqo : Zr 124 [.pointer none] := fun w => ⟨_, Tryz.zeroValue124 w, rfl⟩
theorem aqp : Zr 133 [.nilFunc] := fun w => ⟨_, Tryz.zeroValue133 w, rfl⟩
theorem aqq : Zr 135 [.nilFunc] := fun w => ⟨_, Tryz.zeroValue135 w, rfl⟩
theorem aqr : Zr 137 [.nilFunc] := fun w => ⟨_, Tryz.zeroValue137 w, rfl⟩
theorem aqs : Zr 138 [.nilFunc] := fun w => ⟨_, Tryz.zeroValue138 w, rfl⟩
theorem aqt : Zr 141 [.nilFunc] := fun w => ⟨_, Tryz.zeroValue141 w, rfl⟩
theorem aqu : Zr 152 [.slice none 0 0] := fun w => ⟨_, Tryz.zeroValue152 w, rfl⟩
theorem aqv : Zr 154 [.int .i64 0, .int .i64 0, .int .i64 0, .int .i64 0] := fun w => ⟨_, Tryz.zeroValue154 w, rfl⟩
theorem aiu : Zr 155 [.int .i64 0, .int .i64 0, .int .i64 0, .int .i64 0] := fun w => ⟨_, Tryz.zeroValue155 w, rfl⟩
theorem aqw : Zr 156 [.nilFunc] := fun w => ⟨_, Tryz.zeroValue156 w, rfl⟩
theorem aqx : Zr 165 [.int .u64 0] := fun w => ⟨_, Tryz.zeroValue165 w, rfl⟩
theorem aqy : Zr 174 [.pointer none] := fun w => ⟨_, Tryz.zeroValue174 w, rfl⟩
theorem aqz : Zr 180 [.nilFunc] := fun w => ⟨_, Tryz.zeroValue180 w, rfl⟩
theorem aqA : Zr 182 [.slice none 0 0] := fun w => ⟨_, Tryz.zeroValue182 w, rfl⟩
theorem aqB : Zr 186 [.int .i64 0] := fun w => ⟨_, Tryz.zeroValue186 w, rfl⟩
theorem aqC : Zr 194 [.int .u32 0] := fun w => ⟨_, Tryz.zeroValue194 w, rfl⟩
theorem aqD : Zr 196 [.int .u64 0] := fun w => ⟨_, Tryz.zeroValue196 w, rfl⟩
theorem aqE : Zr 200 [.slice none 0 0, .int .i64 0] := fun w => ⟨_, Tryz.zeroValue200 w, rfl⟩
theorem aqF : Zr 201 [.slice none 0 0, .int .i64 0] := fun w => ⟨_, Tryz.zeroValue201 w, rfl⟩
theorem aqG : Zr 207 [.int .u64 0] := fun w => ⟨_, Tryz.zeroValue207 w, rfl⟩
theorem aqH : Zr 211 [.pointer none] := fun w => ⟨_, Tryz.zeroValue211 w, rfl⟩
theorem aqI : Zr 213 [.slice none 0 0, .int .i64 0] := fun w => ⟨_, Tryz.zeroValue213 w, rfl⟩
theorem aqJ : Zr 214 [.slice none 0 0, .int .i64 0] := fun w => ⟨_, Tryz.zeroValue214 w, rfl⟩
theorem aqK : Zr 220 [.pointer none] := fun w => ⟨_, Tryz.zeroValue220 w, rfl⟩
theorem aqL : Zr 224 [.pointer none] := fun w => ⟨_, Tryz.zeroValue224 w, rfl⟩
theorem aqM : Zr 228 [.pointer none] := fun w => ⟨_, Tryz.zeroValue228 w, rfl⟩
theorem aqN : Zr 230 [.pointer none, .pointer none, .pointer none, .string ⟨#[]⟩] := fun w => ⟨_, Tryz.zeroValue230 w, rfl⟩
theorem aqO : Zr 231 [.pointer none, .pointer none, .pointer none, .string ⟨#[]⟩] := fun w => ⟨_, Tryz.zeroValue231 w, rfl⟩
theorem aqP : Zr 232 [] := fun w => ⟨_, Tryz.zeroValue232 w, rfl⟩
theorem aqQ : Zr 235 [.int .u8 0] := fun w => ⟨_, Tryz.zeroValue235 w, rfl⟩
theorem aqR : Zr 236 [.int .u8 0] := fun w => ⟨_, Tryz.zeroValue236 w, rfl⟩
theorem aqS : Zr 237 [.nilFunc] := fun w => ⟨_, Tryz.zeroValue237 w, rfl⟩
theorem aqT : Zr 238 [.pointer none] := fun w => ⟨_, Tryz.zeroValue238 w, rfl⟩
theorem aqU : Zr 239 [.int .i32 0] := fun w => ⟨_, Tryz.zeroValue239 w, rfl⟩
theorem aqV : Zr 240 [.int .i32 0] := fun w => ⟨_, Tryz.zeroValue240 w, rfl⟩
theorem aqW : Zr 241 [.int .u64 0, .int .u64 0, .int .u32 0, .int .u8 0, .int .u8 0, .int .u8 0, .int .u8 0, .nilFunc, .pointer none, .int .i32 0, .int .i32 0] := fun w => ⟨_, Tryz.zeroValue241 w, rfl⟩
theorem aqX : Zr 242 [.int .u64 0, .int .u64 0, .int .u32 0, .int .u8 0, .int .u8 0, .int .u8 0, .int .u8 0, .nilFunc, .pointer none, .int .i32 0, .int .i32 0] := fun w => ⟨_, Tryz.zeroValue242 w, rfl⟩
theorem ty1 : TyS Tryz.prog 1 1 false := ⟨Tryz.sizeOf1, Tryz.isAgg1⟩
theorem ty2 : TyS Tryz.prog 2 1 false := ⟨Tryz.sizeOf2, Tryz.isAgg2⟩
theorem ty3 : TyS Tryz.prog 3 1 false := ⟨Tryz.sizeOf3, Tryz.isAgg3⟩
theorem ty4 : TyS Tryz.prog 4 1 false := ⟨Tryz.sizeOf4, Tryz.isAgg4⟩
theorem ty5 : TyS Tryz.prog 5 1 false := ⟨Tryz.sizeOf5, Tryz.isAgg5⟩
theorem ty6 : TyS Tryz.prog 6 1 false := ⟨Tryz.sizeOf6, Tryz.isAgg6⟩
theorem ty7 : TyS Tryz.prog 7 4 true := ⟨Tryz.sizeOf7, Tryz.isAgg7⟩
theorem str7 : dN Tryz.prog 7 [.int .i64 0, .int .i64 0, .bool false, .int .u8 0] [(0, 1), (1, 1), (2, 1), (3, 1)] := ei Tryz.zeroValue7 Tryz.underlying7 (fun w => by kernel_rfl)
theorem anb : bH Tryz.prog 7 0 0 := ⟨fun a w => by kernel_rfl⟩
theorem anc : bH Tryz.prog 7 1 1 := ⟨fun a w => by kernel_rfl⟩
theorem ane : bH Tryz.prog 7 2 2 := ⟨fun a w => by kernel_rfl⟩
theorem anf : bH Tryz.prog 7 3 3 := ⟨fun a w => by kernel_rfl⟩
theorem ang : bp Tryz.prog 7 0 0 1 false := br Tryz.underlying7 (by kernel_rfl) ty2 (by decide)
theorem anh : bp Tryz.prog 7 1 1 1 false := br Tryz.underlying7 (by kernel_rfl) ty3 (by decide)
theorem ani : bp Tryz.prog 7 2 2 1 false := br Tryz.underlying7 (by kernel_rfl) ty4 (by decide)
theorem anj : bp Tryz.prog 7 3 3 1 false := br Tryz.underlying7 (by kernel_rfl) ty6 (by decide)
theorem ty8 : TyS Tryz.prog 8 4 true := ⟨Tryz.sizeOf8, Tryz.isAgg8⟩
theorem str8 : dN Tryz.prog 8 [.int .i64 0, .int .i64 0, .bool false, .int .u8 0] [(0, 1), (1, 1), (2, 1), (3, 1)] := ei Tryz.zeroValue8 Tryz.underlying8 (fun w => by kernel_rfl)
theorem ank : bH Tryz.prog 8 0 0 := ⟨fun a w => by kernel_rfl⟩
theorem anl : bH Tryz.prog 8 1 1 := ⟨fun a w => by kernel_rfl⟩
theorem anm : bH Tryz.prog 8 2 2 := ⟨fun a w => by kernel_rfl⟩
theorem ann : bH Tryz.prog 8 3 3 := ⟨fun a w => by kernel_rfl⟩
theorem ano : bp Tryz.prog 8 0 0 1 false := br Tryz.underlying8 (by kernel_rfl) ty2 (by decide)
theorem anp : bp Tryz.prog 8 1 1 1 false := br Tryz.underlying8 (by kernel_rfl) ty3 (by decide)
theorem anq : bp Tryz.prog 8 2 2 1 false := br Tryz.underlying8 (by kernel_rfl) ty4 (by decide)
theorem anr : bp Tryz.prog 8 3 3 1 false := br Tryz.underlying8 (by kernel_rfl) ty6 (by decide)
theorem ty9 : TyS Tryz.prog 9 1 false := ⟨Tryz.sizeOf9, Tryz.isAgg9⟩
theorem ty10 : TyS Tryz.prog 10 1 false := ⟨Tryz.sizeOf10, Tryz.isAgg10⟩
theorem ty11 : TyS Tryz.prog 11 1 false := ⟨Tryz.sizeOf11, Tryz.isAgg11⟩
theorem yQ : TyS Tryz.prog 12 1 false := ⟨Tryz.sizeOf12, Tryz.isAgg12⟩
theorem ty13 : TyS Tryz.prog 13 2 true := ⟨Tryz.sizeOf13, Tryz.isAgg13⟩
theorem aqY : dN Tryz.prog 13 [.string ⟨#[]⟩, .int .u64 0] [(0, 1), (1, 1)] := ei Tryz.zeroValue13 Tryz.underlying13 (fun w => by kernel_rfl)
theorem ajU : bH Tryz.prog 13 0 0 := ⟨fun a w => by kernel_rfl⟩
theorem ajV : bH Tryz.prog 13 1 1 := ⟨fun a w => by kernel_rfl⟩
theorem ajW : bp Tryz.prog 13 0 0 1 false := br Tryz.underlying13 (by kernel_rfl) ty9 (by decide)
theorem ajX : bp Tryz.prog 13 1 1 1 false := br Tryz.underlying13 (by kernel_rfl) yQ (by decide)
theorem ty14 : TyS Tryz.prog 14 2 true := ⟨Tryz.sizeOf14, Tryz.isAgg14⟩
theorem aqZ : dN Tryz.prog 14 [.string ⟨#[]⟩, .int .u64 0] [(0, 1), (1, 1)] := ei Tryz.zeroValue14 Tryz.underlying14 (fun w => by kernel_rfl)
theorem ajY : bH Tryz.prog 14 0 0 := ⟨fun a w => by kernel_rfl⟩
theorem ajZ : bH Tryz.prog 14 1 1 := ⟨fun a w => by kernel_rfl⟩
theorem aj0 : bp Tryz.prog 14 0 0 1 false := br Tryz.underlying14 (by kernel_rfl) ty9 (by decide)
theorem aj1 : bp Tryz.prog 14 1 1 1 false := br Tryz.underlying14 (by kernel_rfl) yQ (by decide)
theorem ty15 : TyS Tryz.prog 15 1 false := ⟨Tryz.sizeOf15, Tryz.isAgg15⟩
theorem ty16 : TyS Tryz.prog 16 1 false := ⟨Tryz.sizeOf16, Tryz.isAgg16⟩
theorem vJ : TyS Tryz.prog 17 1 false := ⟨Tryz.sizeOf17, Tryz.isAgg17⟩
theorem ty18 : TyS Tryz.prog 18 1 true := ⟨Tryz.sizeOf18, Tryz.isAgg18⟩
theorem aq0 : dN Tryz.prog 18 [.pointer none] [(0, 1)] := ei Tryz.zeroValue18 Tryz.underlying18 (fun w => by kernel_rfl)
theorem aj2 : bH Tryz.prog 18 0 0 := ⟨fun a w => by kernel_rfl⟩
theorem aj3 : bp Tryz.prog 18 0 0 1 false := br Tryz.underlying18 (by kernel_rfl) vJ (by decide)
theorem ty19 : TyS Tryz.prog 19 1 true := ⟨Tryz.sizeOf19, Tryz.isAgg19⟩
theorem aq1 : dN Tryz.prog 19 [.pointer none] [(0, 1)] := ei Tryz.zeroValue19 Tryz.underlying19 (fun w => by kernel_rfl)
theorem aj4 : bH Tryz.prog 19 0 0 := ⟨fun a w => by kernel_rfl⟩
theorem aj5 : bp Tryz.prog 19 0 0 1 false := br Tryz.underlying19 (by kernel_rfl) vJ (by decide)
theorem ty21 : TyS Tryz.prog 21 1 false := ⟨Tryz.sizeOf21, Tryz.isAgg21⟩
theorem abY : TyS Tryz.prog 22 1 false := ⟨Tryz.sizeOf22, Tryz.isAgg22⟩
theorem sl22 : SlS Tryz.prog 22 3 1 := ⟨Tryz.underlying22, Tryz.sizeOf3⟩
theorem aq2 : nK Tryz.prog 22 3 1 8 := ⟨Tryz.underlying22, (by obtain ⟨i, h1, h2, h3, h4⟩ := info_parts (by kernel_rfl : (Tryz.prog.info? 3).map (fun i => (i.zero, i.size, i.bytes)) = some (some (.int .i64 0), 1, 8)); exact ⟨i, _, h1, h2, h3, h4, rfl⟩), by decide⟩
theorem aq3 : mP Tryz.prog 22 3 1 [.int .i64 0] := ⟨Tryz.underlying22, Tryz.sizeOf3, ze3, rfl⟩
theorem abZ : TyS Tryz.prog 23 1 false := ⟨Tryz.sizeOf23, Tryz.isAgg23⟩
theorem sl23 : SlS Tryz.prog 23 78 5 := ⟨Tryz.underlying23, Tryz.sizeOf78⟩
theorem aq4 : nK Tryz.prog 23 78 5 40 := ⟨Tryz.underlying23, (by obtain ⟨i, h1, h2, h3, h4⟩ := info_parts (by kernel_rfl : (Tryz.prog.info? 78).map (fun i => (i.zero, i.size, i.bytes)) = some (some (.agg #[.int .i64 0, .int .i64 0, .int .i64 0, .int .i64 0, .int .i64 0]), 5, 40)); exact ⟨i, _, h1, h2, h3, h4, rfl⟩), by decide⟩
theorem aq5 : mP Tryz.prog 23 78 5 [.int .i64 0, .int .i64 0, .int .i64 0, .int .i64 0, .int .i64 0] := ⟨Tryz.underlying23, Tryz.sizeOf78, am7, rfl⟩
theorem afB : TyS Tryz.prog 24 1 false := ⟨Tryz.sizeOf24, Tryz.isAgg24⟩
theorem sl24 : SlS Tryz.prog 24 81 5 := ⟨Tryz.underlying24, Tryz.sizeOf81⟩
theorem aq6 : nK Tryz.prog 24 81 5 72 := ⟨Tryz.underlying24, (by obtain ⟨i, h1, h2, h3, h4⟩ := info_parts (by kernel_rfl : (Tryz.prog.info? 81).map (fun i => (i.zero, i.size, i.bytes)) = some (some (.agg #[.int .i64 0, .int .i64 0, .bool false, .slice none 0 0, .slice none 0 0]), 5, 72)); exact ⟨i, _, h1, h2, h3, h4, rfl⟩), by decide⟩
theorem aq7 : mP Tryz.prog 24 81 5 [.int .i64 0, .int .i64 0, .bool false, .slice none 0 0, .slice none 0 0] := ⟨Tryz.underlying24, Tryz.sizeOf81, am8, rfl⟩
theorem afC : TyS Tryz.prog 25 1 false := ⟨Tryz.sizeOf25, Tryz.isAgg25⟩
theorem sl25 : SlS Tryz.prog 25 62 3 := ⟨Tryz.underlying25, Tryz.sizeOf62⟩
theorem aq8 : nK Tryz.prog 25 62 3 40 := ⟨Tryz.underlying25, (by obtain ⟨i, h1, h2, h3, h4⟩ := info_parts (by kernel_rfl : (Tryz.prog.info? 62).map (fun i => (i.zero, i.size, i.bytes)) = some (some (.agg #[.int .i64 0, .int .i64 0, .slice none 0 0]), 3, 40)); exact ⟨i, _, h1, h2, h3, h4, rfl⟩), by decide⟩
theorem aq9 : mP Tryz.prog 25 62 3 [.int .i64 0, .int .i64 0, .slice none 0 0] := ⟨Tryz.underlying25, Tryz.sizeOf62, am6, rfl⟩
theorem ty26 : TyS Tryz.prog 26 3 true := ⟨Tryz.sizeOf26, Tryz.isAgg26⟩
theorem ara : dN Tryz.prog 26 [.slice none 0 0, .slice none 0 0, .slice none 0 0] [(0, 1), (1, 1), (2, 1)] := ei Tryz.zeroValue26 Tryz.underlying26 (fun w => by kernel_rfl)
theorem aj6 : bH Tryz.prog 26 0 0 := ⟨fun a w => by kernel_rfl⟩
theorem aj7 : bH Tryz.prog 26 1 1 := ⟨fun a w => by kernel_rfl⟩
theorem aj8 : bH Tryz.prog 26 2 2 := ⟨fun a w => by kernel_rfl⟩
theorem aj9 : bp Tryz.prog 26 0 0 1 false := br Tryz.underlying26 (by kernel_rfl) abZ (by decide)
theorem aka : bp Tryz.prog 26 1 1 1 false := br Tryz.underlying26 (by kernel_rfl) afB (by decide)
theorem akb : bp Tryz.prog 26 2 2 1 false := br Tryz.underlying26 (by kernel_rfl) afC (by decide)
theorem afD : TyS Tryz.prog 27 3 true := ⟨Tryz.sizeOf27, Tryz.isAgg27⟩
theorem arb : dN Tryz.prog 27 [.slice none 0 0, .slice none 0 0, .slice none 0 0] [(0, 1), (1, 1), (2, 1)] := ei Tryz.zeroValue27 Tryz.underlying27 (fun w => by kernel_rfl)
theorem akc : bH Tryz.prog 27 0 0 := ⟨fun a w => by kernel_rfl⟩
theorem akd : bH Tryz.prog 27 1 1 := ⟨fun a w => by kernel_rfl⟩
theorem ake : bH Tryz.prog 27 2 2 := ⟨fun a w => by kernel_rfl⟩
theorem akf : bp Tryz.prog 27 0 0 1 false := br Tryz.underlying27 (by kernel_rfl) abZ (by decide)
theorem akg : bp Tryz.prog 27 1 1 1 false := br Tryz.underlying27 (by kernel_rfl) afB (by decide)
theorem akh : bp Tryz.prog 27 2 2 1 false := br Tryz.underlying27 (by kernel_rfl) afC (by decide)
theorem ty28 : TyS Tryz.prog 28 1 false := ⟨Tryz.sizeOf28, Tryz.isAgg28⟩
theorem ty32 : TyS Tryz.prog 32 1 false := ⟨Tryz.sizeOf32, Tryz.isAgg32⟩
theorem sl32 : SlS Tryz.prog 32 27 3 := ⟨Tryz.underlying32, Tryz.sizeOf27⟩
theorem arc : nK Tryz.prog 32 27 3 72 := ⟨Tryz.underlying32, (by obtain ⟨i, h1, h2, h3, h4⟩ := info_parts (by kernel_rfl : (Tryz.prog.info? 27).map (fun i => (i.zero, i.size, i.bytes)) = some (some (.agg #[.slice none 0 0, .slice none 0 0, .slice none 0 0]), 3, 72)); exact ⟨i, _, h1, h2, h3, h4, rfl⟩), by decide⟩
theorem ard : mP Tryz.prog 32 27 3 [.slice none 0 0, .slice none 0 0, .slice none 0 0] := ⟨Tryz.underlying32, Tryz.sizeOf27, am4, rfl⟩
theorem ty34 : TyS Tryz.prog 34 1 false := ⟨Tryz.sizeOf34, Tryz.isAgg34⟩
theorem afE : TyS Tryz.prog 42 1 false := ⟨Tryz.sizeOf42, Tryz.isAgg42⟩
theorem sl42 : SlS Tryz.prog 42 87 2 := ⟨Tryz.underlying42, Tryz.sizeOf87⟩
theorem arf : nK Tryz.prog 42 87 2 16 := ⟨Tryz.underlying42, (by obtain ⟨i, h1, h2, h3, h4⟩ := info_parts (by kernel_rfl : (Tryz.prog.info? 87).map (fun i => (i.zero, i.size, i.bytes)) = some (some (.agg #[.int .i64 0, .bool false]), 2, 16)); exact ⟨i, _, h1, h2, h3, h4, rfl⟩), by decide⟩
theorem arh : mP Tryz.prog 42 87 2 [.int .i64 0, .bool false] := ⟨Tryz.underlying42, Tryz.sizeOf87, ana, rfl⟩
theorem ty43 : TyS Tryz.prog 43 2 true := ⟨Tryz.sizeOf43, Tryz.isAgg43⟩
theorem ari : dN Tryz.prog 43 [.slice none 0 0, .slice none 0 0] [(0, 1), (1, 1)] := ei Tryz.zeroValue43 Tryz.underlying43 (fun w => by kernel_rfl)
theorem aki : bH Tryz.prog 43 0 0 := ⟨fun a w => by kernel_rfl⟩
theorem akj : bH Tryz.prog 43 1 1 := ⟨fun a w => by kernel_rfl⟩
theorem akk : bp Tryz.prog 43 0 0 1 false := br Tryz.underlying43 (by kernel_rfl) afE (by decide)
theorem akl : bp Tryz.prog 43 1 1 1 false := br Tryz.underlying43 (by kernel_rfl) abZ (by decide)
theorem ty44 : TyS Tryz.prog 44 2 true := ⟨Tryz.sizeOf44, Tryz.isAgg44⟩
theorem arj : dN Tryz.prog 44 [.slice none 0 0, .slice none 0 0] [(0, 1), (1, 1)] := ei Tryz.zeroValue44 Tryz.underlying44 (fun w => by kernel_rfl)
theorem akm : bH Tryz.prog 44 0 0 := ⟨fun a w => by kernel_rfl⟩
theorem akn : bH Tryz.prog 44 1 1 := ⟨fun a w => by kernel_rfl⟩
theorem ako : bp Tryz.prog 44 0 0 1 false := br Tryz.underlying44 (by kernel_rfl) afE (by decide)
theorem akp : bp Tryz.prog 44 1 1 1 false := br Tryz.underlying44 (by kernel_rfl) abZ (by decide)
theorem afF : TyS Tryz.prog 47 1 false := ⟨Tryz.sizeOf47, Tryz.isAgg47⟩
theorem sl47 : SlS Tryz.prog 47 106 3 := ⟨Tryz.underlying47, Tryz.sizeOf106⟩
theorem ark : nK Tryz.prog 47 106 3 24 := ⟨Tryz.underlying47, (by obtain ⟨i, h1, h2, h3, h4⟩ := info_parts (by kernel_rfl : (Tryz.prog.info? 106).map (fun i => (i.zero, i.size, i.bytes)) = some (some (.agg #[.int .i64 0, .int .i64 0, .int .i64 0]), 3, 24)); exact ⟨i, _, h1, h2, h3, h4, rfl⟩), by decide⟩
theorem arl : mP Tryz.prog 47 106 3 [.int .i64 0, .int .i64 0, .int .i64 0] := ⟨Tryz.underlying47, Tryz.sizeOf106, ais, rfl⟩
theorem ab0 : TyS Tryz.prog 48 1 false := ⟨Tryz.sizeOf48, Tryz.isAgg48⟩
theorem sl48 : SlS Tryz.prog 48 85 3 := ⟨Tryz.underlying48, Tryz.sizeOf85⟩
theorem arn : nK Tryz.prog 48 85 3 24 := ⟨Tryz.underlying48, (by obtain ⟨i, h1, h2, h3, h4⟩ := info_parts (by kernel_rfl : (Tryz.prog.info? 85).map (fun i => (i.zero, i.size, i.bytes)) = some (some (.agg #[.int .i64 0, .int .i64 0, .int .i64 0]), 3, 24)); exact ⟨i, _, h1, h2, h3, h4, rfl⟩), by decide⟩
theorem aro : mP Tryz.prog 48 85 3 [.int .i64 0, .int .i64 0, .int .i64 0] := ⟨Tryz.underlying48, Tryz.sizeOf85, am9, rfl⟩
theorem ty49 : TyS Tryz.prog 49 5 true := ⟨Tryz.sizeOf49, Tryz.isAgg49⟩
theorem arp : dN Tryz.prog 49 [.int .i64 0, .int .i64 0, .bool false, .slice none 0 0, .slice none 0 0] [(0, 1), (1, 1), (2, 1), (3, 1), (4, 1)] := ei Tryz.zeroValue49 Tryz.underlying49 (fun w => by kernel_rfl)
theorem akq : bH Tryz.prog 49 0 0 := ⟨fun a w => by kernel_rfl⟩
theorem akr : bH Tryz.prog 49 1 1 := ⟨fun a w => by kernel_rfl⟩
theorem aks : bH Tryz.prog 49 2 2 := ⟨fun a w => by kernel_rfl⟩
theorem akt : bH Tryz.prog 49 3 3 := ⟨fun a w => by kernel_rfl⟩
theorem aku : bH Tryz.prog 49 4 4 := ⟨fun a w => by kernel_rfl⟩
theorem akv : bp Tryz.prog 49 0 0 1 false := br Tryz.underlying49 (by kernel_rfl) ty3 (by decide)
theorem akw : bp Tryz.prog 49 1 1 1 false := br Tryz.underlying49 (by kernel_rfl) ty3 (by decide)
theorem akx : bp Tryz.prog 49 2 2 1 false := br Tryz.underlying49 (by kernel_rfl) ty4 (by decide)
theorem aky : bp Tryz.prog 49 3 3 1 false := br Tryz.underlying49 (by kernel_rfl) afF (by decide)
theorem akz : bp Tryz.prog 49 4 4 1 false := br Tryz.underlying49 (by kernel_rfl) ab0 (by decide)
theorem ty50 : TyS Tryz.prog 50 5 true := ⟨Tryz.sizeOf50, Tryz.isAgg50⟩
theorem arq : dN Tryz.prog 50 [.int .i64 0, .int .i64 0, .bool false, .slice none 0 0, .slice none 0 0] [(0, 1), (1, 1), (2, 1), (3, 1), (4, 1)] := ei Tryz.zeroValue50 Tryz.underlying50 (fun w => by kernel_rfl)
theorem akA : bH Tryz.prog 50 0 0 := ⟨fun a w => by kernel_rfl⟩
theorem akB : bH Tryz.prog 50 1 1 := ⟨fun a w => by kernel_rfl⟩
theorem akC : bH Tryz.prog 50 2 2 := ⟨fun a w => by kernel_rfl⟩
theorem akD : bH Tryz.prog 50 3 3 := ⟨fun a w => by kernel_rfl⟩
theorem akE : bH Tryz.prog 50 4 4 := ⟨fun a w => by kernel_rfl⟩
theorem akF : bp Tryz.prog 50 0 0 1 false := br Tryz.underlying50 (by kernel_rfl) ty3 (by decide)
theorem akG : bp Tryz.prog 50 1 1 1 false := br Tryz.underlying50 (by kernel_rfl) ty3 (by decide)
theorem akH : bp Tryz.prog 50 2 2 1 false := br Tryz.underlying50 (by kernel_rfl) ty4 (by decide)
theorem akI : bp Tryz.prog 50 3 3 1 false := br Tryz.underlying50 (by kernel_rfl) afF (by decide)
theorem akJ : bp Tryz.prog 50 4 4 1 false := br Tryz.underlying50 (by kernel_rfl) ab0 (by decide)
theorem ty53 : TyS Tryz.prog 53 1 false := ⟨Tryz.sizeOf53, Tryz.isAgg53⟩
theorem afG : TyS Tryz.prog 58 1 false := ⟨Tryz.sizeOf58, Tryz.isAgg58⟩
theorem sl58 : SlS Tryz.prog 58 50 5 := ⟨Tryz.underlying58, Tryz.sizeOf50⟩
theorem ars : nK Tryz.prog 58 50 5 72 := ⟨Tryz.underlying58, (by obtain ⟨i, h1, h2, h3, h4⟩ := info_parts (by kernel_rfl : (Tryz.prog.info? 50).map (fun i => (i.zero, i.size, i.bytes)) = some (some (.agg #[.int .i64 0, .int .i64 0, .bool false, .slice none 0 0, .slice none 0 0]), 5, 72)); exact ⟨i, _, h1, h2, h3, h4, rfl⟩), by decide⟩
theorem art : mP Tryz.prog 58 50 5 [.int .i64 0, .int .i64 0, .bool false, .slice none 0 0, .slice none 0 0] := ⟨Tryz.underlying58, Tryz.sizeOf50, am5, rfl⟩
theorem ty59 : TyS Tryz.prog 59 1 true := ⟨Tryz.sizeOf59, Tryz.isAgg59⟩
theorem aru : dN Tryz.prog 59 [.slice none 0 0] [(0, 1)] := ei Tryz.zeroValue59 Tryz.underlying59 (fun w => by kernel_rfl)
theorem akK : bH Tryz.prog 59 0 0 := ⟨fun a w => by kernel_rfl⟩
theorem akL : bp Tryz.prog 59 0 0 1 false := br Tryz.underlying59 (by kernel_rfl) afG (by decide)
theorem ab1 : TyS Tryz.prog 60 1 true := ⟨Tryz.sizeOf60, Tryz.isAgg60⟩
theorem arv : dN Tryz.prog 60 [.slice none 0 0] [(0, 1)] := ei Tryz.zeroValue60 Tryz.underlying60 (fun w => by kernel_rfl)
theorem akM : bH Tryz.prog 60 0 0 := ⟨fun a w => by kernel_rfl⟩
theorem akN : bp Tryz.prog 60 0 0 1 false := br Tryz.underlying60 (by kernel_rfl) afG (by decide)
theorem ty61 : TyS Tryz.prog 61 3 true := ⟨Tryz.sizeOf61, Tryz.isAgg61⟩
theorem arw : dN Tryz.prog 61 [.int .i64 0, .int .i64 0, .slice none 0 0] [(0, 1), (1, 1), (2, 1)] := ei Tryz.zeroValue61 Tryz.underlying61 (fun w => by kernel_rfl)
theorem akO : bH Tryz.prog 61 0 0 := ⟨fun a w => by kernel_rfl⟩
theorem akP : bH Tryz.prog 61 1 1 := ⟨fun a w => by kernel_rfl⟩
theorem akQ : bH Tryz.prog 61 2 2 := ⟨fun a w => by kernel_rfl⟩
theorem akR : bp Tryz.prog 61 0 0 1 false := br Tryz.underlying61 (by kernel_rfl) ty3 (by decide)
theorem akS : bp Tryz.prog 61 1 1 1 false := br Tryz.underlying61 (by kernel_rfl) ty3 (by decide)
theorem akT : bp Tryz.prog 61 2 2 1 true := br Tryz.underlying61 (by kernel_rfl) ab1 (by decide)
theorem ty62 : TyS Tryz.prog 62 3 true := ⟨Tryz.sizeOf62, Tryz.isAgg62⟩
theorem arx : dN Tryz.prog 62 [.int .i64 0, .int .i64 0, .slice none 0 0] [(0, 1), (1, 1), (2, 1)] := ei Tryz.zeroValue62 Tryz.underlying62 (fun w => by kernel_rfl)
theorem akU : bH Tryz.prog 62 0 0 := ⟨fun a w => by kernel_rfl⟩
theorem akV : bH Tryz.prog 62 1 1 := ⟨fun a w => by kernel_rfl⟩
theorem akW : bH Tryz.prog 62 2 2 := ⟨fun a w => by kernel_rfl⟩
theorem akX : bp Tryz.prog 62 0 0 1 false := br Tryz.underlying62 (by kernel_rfl) ty3 (by decide)
theorem akY : bp Tryz.prog 62 1 1 1 false := br Tryz.underlying62 (by kernel_rfl) ty3 (by decide)
theorem akZ : bp Tryz.prog 62 2 2 1 true := br Tryz.underlying62 (by kernel_rfl) ab1 (by decide)
theorem afH : TyS Tryz.prog 65 1 false := ⟨Tryz.sizeOf65, Tryz.isAgg65⟩
theorem sl65 : SlS Tryz.prog 65 120 2 := ⟨Tryz.underlying65, Tryz.sizeOf120⟩
theorem ary : nK Tryz.prog 65 120 2 16 := ⟨Tryz.underlying65, (by obtain ⟨i, h1, h2, h3, h4⟩ := info_parts (by kernel_rfl : (Tryz.prog.info? 120).map (fun i => (i.zero, i.size, i.bytes)) = some (some (.agg #[.int .i64 0, .int .i64 0]), 2, 16)); exact ⟨i, _, h1, h2, h3, h4, rfl⟩), by decide⟩
theorem arz : mP Tryz.prog 65 120 2 [.int .i64 0, .int .i64 0] := ⟨Tryz.underlying65, Tryz.sizeOf120, ait, rfl⟩
theorem ty66 : TyS Tryz.prog 66 2 true := ⟨Tryz.sizeOf66, Tryz.isAgg66⟩
theorem arA : dN Tryz.prog 66 [.slice none 0 0, .slice none 0 0] [(0, 1), (1, 1)] := ei Tryz.zeroValue66 Tryz.underlying66 (fun w => by kernel_rfl)
theorem ak0 : bH Tryz.prog 66 0 0 := ⟨fun a w => by kernel_rfl⟩
theorem ak1 : bH Tryz.prog 66 1 1 := ⟨fun a w => by kernel_rfl⟩
theorem ak2 : bp Tryz.prog 66 0 0 1 false := br Tryz.underlying66 (by kernel_rfl) afH (by decide)
theorem ak3 : bp Tryz.prog 66 1 1 1 false := br Tryz.underlying66 (by kernel_rfl) abY (by decide)
theorem ty67 : TyS Tryz.prog 67 2 true := ⟨Tryz.sizeOf67, Tryz.isAgg67⟩
theorem arB : dN Tryz.prog 67 [.slice none 0 0, .slice none 0 0] [(0, 1), (1, 1)] := ei Tryz.zeroValue67 Tryz.underlying67 (fun w => by kernel_rfl)
theorem ak4 : bH Tryz.prog 67 0 0 := ⟨fun a w => by kernel_rfl⟩
theorem ak5 : bH Tryz.prog 67 1 1 := ⟨fun a w => by kernel_rfl⟩
theorem ak6 : bp Tryz.prog 67 0 0 1 false := br Tryz.underlying67 (by kernel_rfl) afH (by decide)
theorem ak7 : bp Tryz.prog 67 1 1 1 false := br Tryz.underlying67 (by kernel_rfl) abY (by decide)
theorem ty70 : TyS Tryz.prog 70 1 false := ⟨Tryz.sizeOf70, Tryz.isAgg70⟩
theorem sl70 : SlS Tryz.prog 70 23 1 := ⟨Tryz.underlying70, Tryz.sizeOf23⟩
theorem arC : nK Tryz.prog 70 23 1 24 := ⟨Tryz.underlying70, (by obtain ⟨i, h1, h2, h3, h4⟩ := info_parts (by kernel_rfl : (Tryz.prog.info? 23).map (fun i => (i.zero, i.size, i.bytes)) = some (some (.slice none 0 0), 1, 24)); exact ⟨i, _, h1, h2, h3, h4, rfl⟩), by decide⟩
theorem arD : mP Tryz.prog 70 23 1 [.slice none 0 0] := ⟨Tryz.underlying70, Tryz.sizeOf23, am3, rfl⟩
theorem ty73 : TyS Tryz.prog 73 2 true := ⟨Tryz.sizeOf73, Tryz.isAgg73⟩
theorem arE : dN Tryz.prog 73 [.slice none 0 0, .int .i64 0] [(0, 1), (1, 1)] := ei Tryz.zeroValue73 Tryz.underlying73 (fun w => by kernel_rfl)
theorem ak8 : bH Tryz.prog 73 0 0 := ⟨fun a w => by kernel_rfl⟩
theorem ak9 : bH Tryz.prog 73 1 1 := ⟨fun a w => by kernel_rfl⟩
theorem ala : bp Tryz.prog 73 0 0 1 false := br Tryz.underlying73 (by kernel_rfl) abY (by decide)
theorem alb : bp Tryz.prog 73 1 1 1 false := br Tryz.underlying73 (by kernel_rfl) ty3 (by decide)
theorem ty74 : TyS Tryz.prog 74 2 true := ⟨Tryz.sizeOf74, Tryz.isAgg74⟩
theorem arF : dN Tryz.prog 74 [.slice none 0 0, .int .i64 0] [(0, 1), (1, 1)] := ei Tryz.zeroValue74 Tryz.underlying74 (fun w => by kernel_rfl)
theorem alc : bH Tryz.prog 74 0 0 := ⟨fun a w => by kernel_rfl⟩
theorem ald : bH Tryz.prog 74 1 1 := ⟨fun a w => by kernel_rfl⟩
theorem ale : bp Tryz.prog 74 0 0 1 false := br Tryz.underlying74 (by kernel_rfl) abY (by decide)
theorem alf : bp Tryz.prog 74 1 1 1 false := br Tryz.underlying74 (by kernel_rfl) ty3 (by decide)
theorem ty75 : TyS Tryz.prog 75 1 false := ⟨Tryz.sizeOf75, Tryz.isAgg75⟩
theorem ty77 : TyS Tryz.prog 77 5 true := ⟨Tryz.sizeOf77, Tryz.isAgg77⟩
theorem arG : dN Tryz.prog 77 [.int .i64 0, .int .i64 0, .int .i64 0, .int .i64 0, .int .i64 0] [(0, 1), (1, 1), (2, 1), (3, 1), (4, 1)] := ei Tryz.zeroValue77 Tryz.underlying77 (fun w => by kernel_rfl)
theorem alg : bH Tryz.prog 77 0 0 := ⟨fun a w => by kernel_rfl⟩
theorem alh : bH Tryz.prog 77 1 1 := ⟨fun a w => by kernel_rfl⟩
theorem ali : bH Tryz.prog 77 2 2 := ⟨fun a w => by kernel_rfl⟩
theorem alj : bH Tryz.prog 77 3 3 := ⟨fun a w => by kernel_rfl⟩
theorem alk : bH Tryz.prog 77 4 4 := ⟨fun a w => by kernel_rfl⟩
theorem alm : bp Tryz.prog 77 0 0 1 false := br Tryz.underlying77 (by kernel_rfl) ty3 (by decide)
theorem aln : bp Tryz.prog 77 1 1 1 false := br Tryz.underlying77 (by kernel_rfl) ty3 (by decide)
theorem alo : bp Tryz.prog 77 2 2 1 false := br Tryz.underlying77 (by kernel_rfl) ty3 (by decide)
theorem alp : bp Tryz.prog 77 3 3 1 false := br Tryz.underlying77 (by kernel_rfl) ty3 (by decide)
theorem alq : bp Tryz.prog 77 4 4 1 false := br Tryz.underlying77 (by kernel_rfl) ty3 (by decide)
theorem ty78 : TyS Tryz.prog 78 5 true := ⟨Tryz.sizeOf78, Tryz.isAgg78⟩
theorem arH : dN Tryz.prog 78 [.int .i64 0, .int .i64 0, .int .i64 0, .int .i64 0, .int .i64 0] [(0, 1), (1, 1), (2, 1), (3, 1), (4, 1)] := ei Tryz.zeroValue78 Tryz.underlying78 (fun w => by kernel_rfl)
theorem alr : bH Tryz.prog 78 0 0 := ⟨fun a w => by kernel_rfl⟩
theorem als : bH Tryz.prog 78 1 1 := ⟨fun a w => by kernel_rfl⟩
theorem alu : bH Tryz.prog 78 2 2 := ⟨fun a w => by kernel_rfl⟩
theorem alv : bH Tryz.prog 78 3 3 := ⟨fun a w => by kernel_rfl⟩
theorem alw : bH Tryz.prog 78 4 4 := ⟨fun a w => by kernel_rfl⟩
theorem alx : bp Tryz.prog 78 0 0 1 false := br Tryz.underlying78 (by kernel_rfl) ty3 (by decide)
theorem aly : bp Tryz.prog 78 1 1 1 false := br Tryz.underlying78 (by kernel_rfl) ty3 (by decide)
theorem alz : bp Tryz.prog 78 2 2 1 false := br Tryz.underlying78 (by kernel_rfl) ty3 (by decide)
theorem alA : bp Tryz.prog 78 3 3 1 false := br Tryz.underlying78 (by kernel_rfl) ty3 (by decide)
theorem alB : bp Tryz.prog 78 4 4 1 false := br Tryz.underlying78 (by kernel_rfl) ty3 (by decide)
theorem arI (a0 b0 : Int) (a1 b1 : Int) (a2 b2 : Int) (a3 b3 : Int) (a4 b4 : Int) (w : World) : (Op.eqFields 9999 #[.int .i64 a0, .int .i64 a1, .int .i64 a2, .int .i64 a3, .int .i64 a4] #[.int .i64 b0, .int .i64 b1, .int .i64 b2, .int .i64 b3, .int .i64 b4] (Tryz.prog.fieldsOf 78).toList).run Tryz.prog w = .ok (decide (a0 = b0) && (decide (a1 = b1) && (decide (a2 = b2) && (decide (a3 = b3) && (decide (a4 = b4) && true))))) w := by
 have hf : (Tryz.prog.fieldsOf 78).toList.map (fun f => (f.name == "_", f.type, f.offset)) = [(false, 3, 0), (false, 3, 1), (false, 3, 2), (false, 3, 3), (false, 3, 4)] := by kernel_rfl
 have q : (Op.eqFields 9999 #[.int .i64 a0, .int .i64 a1, .int .i64 a2, .int .i64 a3, .int .i64 a4] #[.int .i64 b0, .int .i64 b1, .int .i64 b2, .int .i64 b3, .int .i64 b4] (Tryz.prog.fieldsOf 78).toList).run Tryz.prog w = .ok (decide (a0 = b0) && (decide (a1 = b1) && (decide (a2 = b2) && (decide (a3 = b3) && (decide (a4 = b4) && true))))) w := by
  obtain ⟨f0, t0, e0, h0, hf⟩ := fq hf
  obtain ⟨f1, t1, e1, h1, hf⟩ := fq hf
  obtain ⟨f2, t2, e2, h2, hf⟩ := fq hf
  obtain ⟨f3, t3, e3, h3, hf⟩ := fq hf
  obtain ⟨f4, t4, e4, h4, hf⟩ := fq hf
  rw [e0, e1, e2, e3, e4, sW hf]
  exact kO h0 Tryz.isAgg3 Tryz.underlying3 rfl rfl (kO h1 Tryz.isAgg3 Tryz.underlying3 rfl rfl (kO h2 Tryz.isAgg3 Tryz.underlying3 rfl rfl (kO h3 Tryz.isAgg3 Tryz.underlying3 rfl rfl (kO h4 Tryz.isAgg3 Tryz.underlying3 rfl rfl (xM)))))
 exact q
theorem afI (x y : Operand) (a0 b0 : Int) (a1 b1 : Int) (a2 b2 : Int) (a3 b3 : Int) (a4 b4 : Int) (w : World) : (do eqGuard .neq 78 x y (.agg #[.int .i64 a0, .int .i64 a1, .int .i64 a2, .int .i64 a3, .int .i64 a4]) (.agg #[.int .i64 b0, .int .i64 b1, .int .i64 b2, .int .i64 b3, .int .i64 b4]); binOp .neq 78 (.agg #[.int .i64 a0, .int .i64 a1, .int .i64 a2, .int .i64 a3, .int .i64 a4]) (.agg #[.int .i64 b0, .int .i64 b1, .int .i64 b2, .int .i64 b3, .int .i64 b4]) : Sem Value).run Tryz.prog w = .ok (.bool (!(decide (a0 = b0) && (decide (a1 = b1) && (decide (a2 = b2) && (decide (a3 = b3) && (decide (a4 = b4) && true))))))) w := xN _ _ _ x y (by kernel_rfl) (by kernel_rfl) (by kernel_rfl) (arI a0 b0 a1 b1 a2 b2 a3 b3 a4 b4 w)
theorem ty80 : TyS Tryz.prog 80 5 true := ⟨Tryz.sizeOf80, Tryz.isAgg80⟩
theorem arJ : dN Tryz.prog 80 [.int .i64 0, .int .i64 0, .bool false, .slice none 0 0, .slice none 0 0] [(0, 1), (1, 1), (2, 1), (3, 1), (4, 1)] := ei Tryz.zeroValue80 Tryz.underlying80 (fun w => by kernel_rfl)
theorem alC : bH Tryz.prog 80 0 0 := ⟨fun a w => by kernel_rfl⟩
theorem alD : bH Tryz.prog 80 1 1 := ⟨fun a w => by kernel_rfl⟩
theorem alF : bH Tryz.prog 80 2 2 := ⟨fun a w => by kernel_rfl⟩
theorem alG : bH Tryz.prog 80 3 3 := ⟨fun a w => by kernel_rfl⟩
theorem alH : bH Tryz.prog 80 4 4 := ⟨fun a w => by kernel_rfl⟩
theorem alI : bp Tryz.prog 80 0 0 1 false := br Tryz.underlying80 (by kernel_rfl) ty3 (by decide)
theorem alJ : bp Tryz.prog 80 1 1 1 false := br Tryz.underlying80 (by kernel_rfl) ty3 (by decide)
theorem alK : bp Tryz.prog 80 2 2 1 false := br Tryz.underlying80 (by kernel_rfl) ty4 (by decide)
theorem alL : bp Tryz.prog 80 3 3 1 false := br Tryz.underlying80 (by kernel_rfl) ab0 (by decide)
theorem alM : bp Tryz.prog 80 4 4 1 true := br Tryz.underlying80 (by kernel_rfl) ab1 (by decide)
theorem ty81 : TyS Tryz.prog 81 5 true := ⟨Tryz.sizeOf81, Tryz.isAgg81⟩
theorem arK : dN Tryz.prog 81 [.int .i64 0, .int .i64 0, .bool false, .slice none 0 0, .slice none 0 0] [(0, 1), (1, 1), (2, 1), (3, 1), (4, 1)] := ei Tryz.zeroValue81 Tryz.underlying81 (fun w => by kernel_rfl)
theorem alN : bH Tryz.prog 81 0 0 := ⟨fun a w => by kernel_rfl⟩
theorem alO : bH Tryz.prog 81 1 1 := ⟨fun a w => by kernel_rfl⟩
theorem alP : bH Tryz.prog 81 2 2 := ⟨fun a w => by kernel_rfl⟩
theorem alQ : bH Tryz.prog 81 3 3 := ⟨fun a w => by kernel_rfl⟩
theorem alR : bH Tryz.prog 81 4 4 := ⟨fun a w => by kernel_rfl⟩
theorem alS : bp Tryz.prog 81 0 0 1 false := br Tryz.underlying81 (by kernel_rfl) ty3 (by decide)
theorem alT : bp Tryz.prog 81 1 1 1 false := br Tryz.underlying81 (by kernel_rfl) ty3 (by decide)
theorem alU : bp Tryz.prog 81 2 2 1 false := br Tryz.underlying81 (by kernel_rfl) ty4 (by decide)
theorem alV : bp Tryz.prog 81 3 3 1 false := br Tryz.underlying81 (by kernel_rfl) ab0 (by decide)
theorem alW : bp Tryz.prog 81 4 4 1 true := br Tryz.underlying81 (by kernel_rfl) ab1 (by decide)
theorem ty84 : TyS Tryz.prog 84 3 true := ⟨Tryz.sizeOf84, Tryz.isAgg84⟩
theorem arL : dN Tryz.prog 84 [.int .i64 0, .int .i64 0, .int .i64 0] [(0, 1), (1, 1), (2, 1)] := ei Tryz.zeroValue84 Tryz.underlying84 (fun w => by kernel_rfl)
theorem alX : bH Tryz.prog 84 0 0 := ⟨fun a w => by kernel_rfl⟩
theorem alY : bH Tryz.prog 84 1 1 := ⟨fun a w => by kernel_rfl⟩
theorem alZ : bH Tryz.prog 84 2 2 := ⟨fun a w => by kernel_rfl⟩
theorem al0 : bp Tryz.prog 84 0 0 1 false := br Tryz.underlying84 (by kernel_rfl) ty3 (by decide)
theorem al1 : bp Tryz.prog 84 1 1 1 false := br Tryz.underlying84 (by kernel_rfl) ty3 (by decide)
theorem al2 : bp Tryz.prog 84 2 2 1 false := br Tryz.underlying84 (by kernel_rfl) ty3 (by decide)
theorem afJ : TyS Tryz.prog 85 3 true := ⟨Tryz.sizeOf85, Tryz.isAgg85⟩
theorem arM : dN Tryz.prog 85 [.int .i64 0, .int .i64 0, .int .i64 0] [(0, 1), (1, 1), (2, 1)] := ei Tryz.zeroValue85 Tryz.underlying85 (fun w => by kernel_rfl)
theorem al3 : bH Tryz.prog 85 0 0 := ⟨fun a w => by kernel_rfl⟩
theorem al4 : bH Tryz.prog 85 1 1 := ⟨fun a w => by kernel_rfl⟩
theorem al5 : bH Tryz.prog 85 2 2 := ⟨fun a w => by kernel_rfl⟩
theorem al6 : bp Tryz.prog 85 0 0 1 false := br Tryz.underlying85 (by kernel_rfl) ty3 (by decide)
theorem al7 : bp Tryz.prog 85 1 1 1 false := br Tryz.underlying85 (by kernel_rfl) ty3 (by decide)
theorem al8 : bp Tryz.prog 85 2 2 1 false := br Tryz.underlying85 (by kernel_rfl) ty3 (by decide)
theorem arN (a0 b0 : Int) (a1 b1 : Int) (a2 b2 : Int) (w : World) : (Op.eqFields 9999 #[.int .i64 a0, .int .i64 a1, .int .i64 a2] #[.int .i64 b0, .int .i64 b1, .int .i64 b2] (Tryz.prog.fieldsOf 85).toList).run Tryz.prog w = .ok (decide (a0 = b0) && (decide (a1 = b1) && (decide (a2 = b2) && true))) w := by
 have hf : (Tryz.prog.fieldsOf 85).toList.map (fun f => (f.name == "_", f.type, f.offset)) = [(false, 3, 0), (false, 3, 1), (false, 3, 2)] := by kernel_rfl
 have q : (Op.eqFields 9999 #[.int .i64 a0, .int .i64 a1, .int .i64 a2] #[.int .i64 b0, .int .i64 b1, .int .i64 b2] (Tryz.prog.fieldsOf 85).toList).run Tryz.prog w = .ok (decide (a0 = b0) && (decide (a1 = b1) && (decide (a2 = b2) && true))) w := by
  obtain ⟨f0, t0, e0, h0, hf⟩ := fq hf
  obtain ⟨f1, t1, e1, h1, hf⟩ := fq hf
  obtain ⟨f2, t2, e2, h2, hf⟩ := fq hf
  rw [e0, e1, e2, sW hf]
  exact kO h0 Tryz.isAgg3 Tryz.underlying3 rfl rfl (kO h1 Tryz.isAgg3 Tryz.underlying3 rfl rfl (kO h2 Tryz.isAgg3 Tryz.underlying3 rfl rfl (xM)))
 exact q
theorem yR (x y : Operand) (a0 b0 : Int) (a1 b1 : Int) (a2 b2 : Int) (w : World) : (do eqGuard .neq 85 x y (.agg #[.int .i64 a0, .int .i64 a1, .int .i64 a2]) (.agg #[.int .i64 b0, .int .i64 b1, .int .i64 b2]); binOp .neq 85 (.agg #[.int .i64 a0, .int .i64 a1, .int .i64 a2]) (.agg #[.int .i64 b0, .int .i64 b1, .int .i64 b2]) : Sem Value).run Tryz.prog w = .ok (.bool (!(decide (a0 = b0) && (decide (a1 = b1) && (decide (a2 = b2) && true))))) w := xN _ _ _ x y (by kernel_rfl) (by kernel_rfl) (by kernel_rfl) (arN a0 b0 a1 b1 a2 b2 w)
theorem ty86 : TyS Tryz.prog 86 2 true := ⟨Tryz.sizeOf86, Tryz.isAgg86⟩
theorem arO : dN Tryz.prog 86 [.int .i64 0, .bool false] [(0, 1), (1, 1)] := ei Tryz.zeroValue86 Tryz.underlying86 (fun w => by kernel_rfl)
theorem al9 : bH Tryz.prog 86 0 0 := ⟨fun a w => by kernel_rfl⟩
theorem ama : bH Tryz.prog 86 1 1 := ⟨fun a w => by kernel_rfl⟩
theorem amb : bp Tryz.prog 86 0 0 1 false := br Tryz.underlying86 (by kernel_rfl) ty3 (by decide)
theorem amc : bp Tryz.prog 86 1 1 1 false := br Tryz.underlying86 (by kernel_rfl) ty4 (by decide)
theorem ty87 : TyS Tryz.prog 87 2 true := ⟨Tryz.sizeOf87, Tryz.isAgg87⟩
theorem arP : dN Tryz.prog 87 [.int .i64 0, .bool false] [(0, 1), (1, 1)] := ei Tryz.zeroValue87 Tryz.underlying87 (fun w => by kernel_rfl)
theorem amd : bH Tryz.prog 87 0 0 := ⟨fun a w => by kernel_rfl⟩
theorem ame : bH Tryz.prog 87 1 1 := ⟨fun a w => by kernel_rfl⟩
theorem amf : bp Tryz.prog 87 0 0 1 false := br Tryz.underlying87 (by kernel_rfl) ty3 (by decide)
theorem amg : bp Tryz.prog 87 1 1 1 false := br Tryz.underlying87 (by kernel_rfl) ty4 (by decide)
theorem arQ (a0 b0 : Int) (a1 b1 : Bool) (w : World) : (Op.eqFields 9999 #[.int .i64 a0, .bool a1] #[.int .i64 b0, .bool b1] (Tryz.prog.fieldsOf 87).toList).run Tryz.prog w = .ok (decide (a0 = b0) && ((a1 == b1) && true)) w := by
 have hf : (Tryz.prog.fieldsOf 87).toList.map (fun f => (f.name == "_", f.type, f.offset)) = [(false, 3, 0), (false, 4, 1)] := by kernel_rfl
 have q : (Op.eqFields 9999 #[.int .i64 a0, .bool a1] #[.int .i64 b0, .bool b1] (Tryz.prog.fieldsOf 87).toList).run Tryz.prog w = .ok (decide (a0 = b0) && ((a1 == b1) && true)) w := by
  obtain ⟨f0, t0, e0, h0, hf⟩ := fq hf
  obtain ⟨f1, t1, e1, h1, hf⟩ := fq hf
  rw [e0, e1, sW hf]
  exact kO h0 Tryz.isAgg3 Tryz.underlying3 rfl rfl (afA h1 Tryz.isAgg4 Tryz.underlying4 rfl rfl (xM))
 exact q
theorem afK (x y : Operand) (a0 b0 : Int) (a1 b1 : Bool) (w : World) : (do eqGuard .neq 87 x y (.agg #[.int .i64 a0, .bool a1]) (.agg #[.int .i64 b0, .bool b1]); binOp .neq 87 (.agg #[.int .i64 a0, .bool a1]) (.agg #[.int .i64 b0, .bool b1]) : Sem Value).run Tryz.prog w = .ok (.bool (!(decide (a0 = b0) && ((a1 == b1) && true)))) w := xN _ _ _ x y (by kernel_rfl) (by kernel_rfl) (by kernel_rfl) (arQ a0 b0 a1 b1 w)
theorem ty88 : TyS Tryz.prog 88 1 false := ⟨Tryz.sizeOf88, Tryz.isAgg88⟩
theorem ty90 : TyS Tryz.prog 90 3 true := ⟨Tryz.sizeOf90, Tryz.isAgg90⟩
theorem arR : dN Tryz.prog 90 [.slice none 0 0, .slice none 0 0, .slice none 0 0] [(0, 3)] := ei Tryz.zeroValue90 Tryz.underlying90 (fun w => by kernel_rfl)
theorem amh : bH Tryz.prog 90 0 0 := ⟨fun a w => by kernel_rfl⟩
theorem ami : bp Tryz.prog 90 0 0 3 true := br Tryz.underlying90 (by kernel_rfl) afD (by decide)
theorem ty91 : TyS Tryz.prog 91 3 true := ⟨Tryz.sizeOf91, Tryz.isAgg91⟩
theorem arS : dN Tryz.prog 91 [.slice none 0 0, .slice none 0 0, .slice none 0 0] [(0, 3)] := ei Tryz.zeroValue91 Tryz.underlying91 (fun w => by kernel_rfl)
theorem amj : bH Tryz.prog 91 0 0 := ⟨fun a w => by kernel_rfl⟩
theorem amk : bp Tryz.prog 91 0 0 3 true := br Tryz.underlying91 (by kernel_rfl) afD (by decide)
theorem ty92 : TyS Tryz.prog 92 1 false := ⟨Tryz.sizeOf92, Tryz.isAgg92⟩
theorem sl92 : SlS Tryz.prog 92 1 1 := ⟨Tryz.underlying92, Tryz.sizeOf1⟩
theorem arT : nK Tryz.prog 92 1 1 8 := ⟨Tryz.underlying92, (by obtain ⟨i, h1, h2, h3, h4⟩ := info_parts (by kernel_rfl : (Tryz.prog.info? 1).map (fun i => (i.zero, i.size, i.bytes)) = some (some (.nilFunc), 1, 8)); exact ⟨i, _, h1, h2, h3, h4, rfl⟩), by decide⟩
theorem arU : mP Tryz.prog 92 1 1 [.nilFunc] := ⟨Tryz.underlying92, Tryz.sizeOf1, ze1, rfl⟩
theorem ty95 : TyS Tryz.prog 95 1 false := ⟨Tryz.sizeOf95, Tryz.isAgg95⟩
theorem arV : TyS Tryz.prog 105 3 true := ⟨Tryz.sizeOf105, Tryz.isAgg105⟩
theorem ans : dN Tryz.prog 105 [.int .i64 0, .int .i64 0, .int .i64 0] [(0, 1), (1, 1), (2, 1)] := ei Tryz.zeroValue105 Tryz.underlying105 (fun w => by kernel_rfl)
theorem afL : bH Tryz.prog 105 0 0 := ⟨fun a w => by kernel_rfl⟩
theorem afM : bH Tryz.prog 105 1 1 := ⟨fun a w => by kernel_rfl⟩
theorem afN : bH Tryz.prog 105 2 2 := ⟨fun a w => by kernel_rfl⟩
theorem afO : bp Tryz.prog 105 0 0 1 false := br Tryz.underlying105 (by kernel_rfl) ty3 (by decide)
theorem afP : bp Tryz.prog 105 1 1 1 false := br Tryz.underlying105 (by kernel_rfl) ty3 (by decide)
theorem afQ : bp Tryz.prog 105 2 2 1 false := br Tryz.underlying105 (by kernel_rfl) ty3 (by decide)
theorem arW : TyS Tryz.prog 106 3 true := ⟨Tryz.sizeOf106, Tryz.isAgg106⟩
theorem ant : dN Tryz.prog 106 [.int .i64 0, .int .i64 0, .int .i64 0] [(0, 1), (1, 1), (2, 1)] := ei Tryz.zeroValue106 Tryz.underlying106 (fun w => by kernel_rfl)
theorem afR : bH Tryz.prog 106 0 0 := ⟨fun a w => by kernel_rfl⟩
theorem afS : bH Tryz.prog 106 1 1 := ⟨fun a w => by kernel_rfl⟩
theorem afT : bH Tryz.prog 106 2 2 := ⟨fun a w => by kernel_rfl⟩
theorem afU : bp Tryz.prog 106 0 0 1 false := br Tryz.underlying106 (by kernel_rfl) ty3 (by decide)
theorem afV : bp Tryz.prog 106 1 1 1 false := br Tryz.underlying106 (by kernel_rfl) ty3 (by decide)
theorem afW : bp Tryz.prog 106 2 2 1 false := br Tryz.underlying106 (by kernel_rfl) ty3 (by decide)
theorem anu (a0 b0 : Int) (a1 b1 : Int) (a2 b2 : Int) (w : World) : (Op.eqFields 9999 #[.int .i64 a0, .int .i64 a1, .int .i64 a2] #[.int .i64 b0, .int .i64 b1, .int .i64 b2] (Tryz.prog.fieldsOf 106).toList).run Tryz.prog w = .ok (decide (a0 = b0) && (decide (a1 = b1) && (decide (a2 = b2) && true))) w := by
 have hf : (Tryz.prog.fieldsOf 106).toList.map (fun f => (f.name == "_", f.type, f.offset)) = [(false, 3, 0), (false, 3, 1), (false, 3, 2)] := by kernel_rfl
 have q : (Op.eqFields 9999 #[.int .i64 a0, .int .i64 a1, .int .i64 a2] #[.int .i64 b0, .int .i64 b1, .int .i64 b2] (Tryz.prog.fieldsOf 106).toList).run Tryz.prog w = .ok (decide (a0 = b0) && (decide (a1 = b1) && (decide (a2 = b2) && true))) w := by
  obtain ⟨f0, t0, e0, h0, hf⟩ := fq hf
  obtain ⟨f1, t1, e1, h1, hf⟩ := fq hf
  obtain ⟨f2, t2, e2, h2, hf⟩ := fq hf
  rw [e0, e1, e2, sW hf]
  exact kO h0 Tryz.isAgg3 Tryz.underlying3 rfl rfl (kO h1 Tryz.isAgg3 Tryz.underlying3 rfl rfl (kO h2 Tryz.isAgg3 Tryz.underlying3 rfl rfl (xM)))
 exact q
theorem aa9 (x y : Operand) (a0 b0 : Int) (a1 b1 : Int) (a2 b2 : Int) (w : World) : (do eqGuard .neq 106 x y (.agg #[.int .i64 a0, .int .i64 a1, .int .i64 a2]) (.agg #[.int .i64 b0, .int .i64 b1, .int .i64 b2]); binOp .neq 106 (.agg #[.int .i64 a0, .int .i64 a1, .int .i64 a2]) (.agg #[.int .i64 b0, .int .i64 b1, .int .i64 b2]) : Sem Value).run Tryz.prog w = .ok (.bool (!(decide (a0 = b0) && (decide (a1 = b1) && (decide (a2 = b2) && true))))) w := xN _ _ _ x y (by kernel_rfl) (by kernel_rfl) (by kernel_rfl) (anu a0 b0 a1 b1 a2 b2 w)
theorem arX : TyS Tryz.prog 109 1 false := ⟨Tryz.sizeOf109, Tryz.isAgg109⟩
theorem arY : TyS Tryz.prog 119 2 true := ⟨Tryz.sizeOf119, Tryz.isAgg119⟩
theorem anv : dN Tryz.prog 119 [.int .i64 0, .int .i64 0] [(0, 1), (1, 1)] := ei Tryz.zeroValue119 Tryz.underlying119 (fun w => by kernel_rfl)
theorem afX : bH Tryz.prog 119 0 0 := ⟨fun a w => by kernel_rfl⟩
theorem afY : bH Tryz.prog 119 1 1 := ⟨fun a w => by kernel_rfl⟩
theorem afZ : bp Tryz.prog 119 0 0 1 false := br Tryz.underlying119 (by kernel_rfl) ty3 (by decide)
theorem af0 : bp Tryz.prog 119 1 1 1 false := br Tryz.underlying119 (by kernel_rfl) ty3 (by decide)
theorem arZ : TyS Tryz.prog 120 2 true := ⟨Tryz.sizeOf120, Tryz.isAgg120⟩
theorem anw : dN Tryz.prog 120 [.int .i64 0, .int .i64 0] [(0, 1), (1, 1)] := ei Tryz.zeroValue120 Tryz.underlying120 (fun w => by kernel_rfl)
theorem af1 : bH Tryz.prog 120 0 0 := ⟨fun a w => by kernel_rfl⟩
theorem af2 : bH Tryz.prog 120 1 1 := ⟨fun a w => by kernel_rfl⟩
theorem af3 : bp Tryz.prog 120 0 0 1 false := br Tryz.underlying120 (by kernel_rfl) ty3 (by decide)
theorem af4 : bp Tryz.prog 120 1 1 1 false := br Tryz.underlying120 (by kernel_rfl) ty3 (by decide)
theorem ar0 : TyS Tryz.prog 123 1 false := ⟨Tryz.sizeOf123, Tryz.isAgg123⟩
theorem ar1 : TyS Tryz.prog 124 1 false := ⟨Tryz.sizeOf124, Tryz.isAgg124⟩
theorem ar2 : TyS Tryz.prog 133 1 false := ⟨Tryz.sizeOf133, Tryz.isAgg133⟩
theorem ar3 : TyS Tryz.prog 135 1 false := ⟨Tryz.sizeOf135, Tryz.isAgg135⟩
theorem ar4 : TyS Tryz.prog 137 1 false := ⟨Tryz.sizeOf137, Tryz.isAgg137⟩
theorem ar5 : TyS Tryz.prog 138 1 false := ⟨Tryz.sizeOf138, Tryz.isAgg138⟩
theorem ar6 : TyS Tryz.prog 141 1 false := ⟨Tryz.sizeOf141, Tryz.isAgg141⟩
theorem ar7 : TyS Tryz.prog 152 1 false := ⟨Tryz.sizeOf152, Tryz.isAgg152⟩
theorem ar8 : SlS Tryz.prog 152 155 4 := ⟨Tryz.underlying152, Tryz.sizeOf155⟩
theorem anx : nK Tryz.prog 152 155 4 32 := ⟨Tryz.underlying152, (by obtain ⟨i, h1, h2, h3, h4⟩ := info_parts (by kernel_rfl : (Tryz.prog.info? 155).map (fun i => (i.zero, i.size, i.bytes)) = some (some (.agg #[.int .i64 0, .int .i64 0, .int .i64 0, .int .i64 0]), 4, 32)); exact ⟨i, _, h1, h2, h3, h4, rfl⟩), by decide⟩
theorem anz : mP Tryz.prog 152 155 4 [.int .i64 0, .int .i64 0, .int .i64 0, .int .i64 0] := ⟨Tryz.underlying152, Tryz.sizeOf155, aiu, rfl⟩
theorem ar9 : TyS Tryz.prog 154 4 true := ⟨Tryz.sizeOf154, Tryz.isAgg154⟩
theorem anA : dN Tryz.prog 154 [.int .i64 0, .int .i64 0, .int .i64 0, .int .i64 0] [(0, 1), (1, 3)] := ei Tryz.zeroValue154 Tryz.underlying154 (fun w => by kernel_rfl)
theorem af5 : bH Tryz.prog 154 0 0 := ⟨fun a w => by kernel_rfl⟩
theorem af6 : bH Tryz.prog 154 1 1 := ⟨fun a w => by kernel_rfl⟩
theorem af7 : bp Tryz.prog 154 0 0 1 false := br Tryz.underlying154 (by kernel_rfl) ty3 (by decide)
theorem af8 : bp Tryz.prog 154 1 1 3 true := br Tryz.underlying154 (by kernel_rfl) afJ (by decide)
theorem asa : TyS Tryz.prog 155 4 true := ⟨Tryz.sizeOf155, Tryz.isAgg155⟩
theorem anB : dN Tryz.prog 155 [.int .i64 0, .int .i64 0, .int .i64 0, .int .i64 0] [(0, 1), (1, 3)] := ei Tryz.zeroValue155 Tryz.underlying155 (fun w => by kernel_rfl)
theorem af9 : bH Tryz.prog 155 0 0 := ⟨fun a w => by kernel_rfl⟩
theorem aga : bH Tryz.prog 155 1 1 := ⟨fun a w => by kernel_rfl⟩
theorem agb : bp Tryz.prog 155 0 0 1 false := br Tryz.underlying155 (by kernel_rfl) ty3 (by decide)
theorem agc : bp Tryz.prog 155 1 1 3 true := br Tryz.underlying155 (by kernel_rfl) afJ (by decide)
theorem asb : TyS Tryz.prog 156 1 false := ⟨Tryz.sizeOf156, Tryz.isAgg156⟩
theorem asd : TyS Tryz.prog 165 1 false := ⟨Tryz.sizeOf165, Tryz.isAgg165⟩
theorem ase : TyS Tryz.prog 174 1 false := ⟨Tryz.sizeOf174, Tryz.isAgg174⟩
theorem asf : TyS Tryz.prog 180 1 false := ⟨Tryz.sizeOf180, Tryz.isAgg180⟩
theorem adO : TyS Tryz.prog 182 1 false := ⟨Tryz.sizeOf182, Tryz.isAgg182⟩
theorem asg : SlS Tryz.prog 182 5 1 := ⟨Tryz.underlying182, Tryz.sizeOf5⟩
theorem anC : nK Tryz.prog 182 5 1 1 := ⟨Tryz.underlying182, (by obtain ⟨i, h1, h2, h3, h4⟩ := info_parts (by kernel_rfl : (Tryz.prog.info? 5).map (fun i => (i.zero, i.size, i.bytes)) = some (some (.int .u8 0), 1, 1)); exact ⟨i, _, h1, h2, h3, h4, rfl⟩), by decide⟩
theorem anD : mP Tryz.prog 182 5 1 [.int .u8 0] := ⟨Tryz.underlying182, Tryz.sizeOf5, ze5, rfl⟩
theorem ash : TyS Tryz.prog 186 1 false := ⟨Tryz.sizeOf186, Tryz.isAgg186⟩
theorem adP : TyS Tryz.prog 194 1 false := ⟨Tryz.sizeOf194, Tryz.isAgg194⟩
theorem asi : TyS Tryz.prog 196 1 false := ⟨Tryz.sizeOf196, Tryz.isAgg196⟩
theorem asj : TyS Tryz.prog 200 2 true := ⟨Tryz.sizeOf200, Tryz.isAgg200⟩
theorem anE : dN Tryz.prog 200 [.slice none 0 0, .int .i64 0] [(0, 1), (1, 1)] := ei Tryz.zeroValue200 Tryz.underlying200 (fun w => by kernel_rfl)
theorem agd : bH Tryz.prog 200 0 0 := ⟨fun a w => by kernel_rfl⟩
theorem age : bH Tryz.prog 200 1 1 := ⟨fun a w => by kernel_rfl⟩
theorem agf : bp Tryz.prog 200 0 0 1 false := br Tryz.underlying200 (by kernel_rfl) adO (by decide)
theorem agh : bp Tryz.prog 200 1 1 1 false := br Tryz.underlying200 (by kernel_rfl) ty3 (by decide)
theorem adQ : TyS Tryz.prog 201 2 true := ⟨Tryz.sizeOf201, Tryz.isAgg201⟩
theorem anF : dN Tryz.prog 201 [.slice none 0 0, .int .i64 0] [(0, 1), (1, 1)] := ei Tryz.zeroValue201 Tryz.underlying201 (fun w => by kernel_rfl)
theorem agi : bH Tryz.prog 201 0 0 := ⟨fun a w => by kernel_rfl⟩
theorem agj : bH Tryz.prog 201 1 1 := ⟨fun a w => by kernel_rfl⟩
theorem agk : bp Tryz.prog 201 0 0 1 false := br Tryz.underlying201 (by kernel_rfl) adO (by decide)
theorem agl : bp Tryz.prog 201 1 1 1 false := br Tryz.underlying201 (by kernel_rfl) ty3 (by decide)
theorem asl : TyS Tryz.prog 207 1 false := ⟨Tryz.sizeOf207, Tryz.isAgg207⟩
theorem asm : TyS Tryz.prog 211 1 false := ⟨Tryz.sizeOf211, Tryz.isAgg211⟩
theorem asn : TyS Tryz.prog 213 2 true := ⟨Tryz.sizeOf213, Tryz.isAgg213⟩
theorem anG : dN Tryz.prog 213 [.slice none 0 0, .int .i64 0] [(0, 2)] := ei Tryz.zeroValue213 Tryz.underlying213 (fun w => by kernel_rfl)
theorem agm : bH Tryz.prog 213 0 0 := ⟨fun a w => by kernel_rfl⟩
theorem agn : bp Tryz.prog 213 0 0 2 true := br Tryz.underlying213 (by kernel_rfl) adQ (by decide)
theorem aso : TyS Tryz.prog 214 2 true := ⟨Tryz.sizeOf214, Tryz.isAgg214⟩
theorem anH : dN Tryz.prog 214 [.slice none 0 0, .int .i64 0] [(0, 2)] := ei Tryz.zeroValue214 Tryz.underlying214 (fun w => by kernel_rfl)
theorem ago : bH Tryz.prog 214 0 0 := ⟨fun a w => by kernel_rfl⟩
theorem agp : bp Tryz.prog 214 0 0 2 true := br Tryz.underlying214 (by kernel_rfl) adQ (by decide)
theorem asp : TyS Tryz.prog 220 1 false := ⟨Tryz.sizeOf220, Tryz.isAgg220⟩
theorem asq : TyS Tryz.prog 224 1 false := ⟨Tryz.sizeOf224, Tryz.isAgg224⟩
theorem asr : TyS Tryz.prog 228 1 false := ⟨Tryz.sizeOf228, Tryz.isAgg228⟩
theorem ass : TyS Tryz.prog 230 4 true := ⟨Tryz.sizeOf230, Tryz.isAgg230⟩
theorem anI : dN Tryz.prog 230 [.pointer none, .pointer none, .pointer none, .string ⟨#[]⟩] [(0, 1), (1, 1), (2, 1), (3, 1)] := ei Tryz.zeroValue230 Tryz.underlying230 (fun w => by kernel_rfl)
theorem agq : bH Tryz.prog 230 0 0 := ⟨fun a w => by kernel_rfl⟩
theorem agr : bH Tryz.prog 230 1 1 := ⟨fun a w => by kernel_rfl⟩
theorem agt : bH Tryz.prog 230 2 2 := ⟨fun a w => by kernel_rfl⟩
theorem agu : bH Tryz.prog 230 3 3 := ⟨fun a w => by kernel_rfl⟩
theorem agv : bp Tryz.prog 230 0 0 1 false := br Tryz.underlying230 (by kernel_rfl) vJ (by decide)
theorem agw : bp Tryz.prog 230 1 1 1 false := br Tryz.underlying230 (by kernel_rfl) vJ (by decide)
theorem agx : bp Tryz.prog 230 2 2 1 false := br Tryz.underlying230 (by kernel_rfl) vJ (by decide)
theorem agy : bp Tryz.prog 230 3 3 1 false := br Tryz.underlying230 (by kernel_rfl) ty9 (by decide)
theorem ast : TyS Tryz.prog 231 4 true := ⟨Tryz.sizeOf231, Tryz.isAgg231⟩
theorem anJ : dN Tryz.prog 231 [.pointer none, .pointer none, .pointer none, .string ⟨#[]⟩] [(0, 1), (1, 1), (2, 1), (3, 1)] := ei Tryz.zeroValue231 Tryz.underlying231 (fun w => by kernel_rfl)
theorem agz : bH Tryz.prog 231 0 0 := ⟨fun a w => by kernel_rfl⟩
theorem agA : bH Tryz.prog 231 1 1 := ⟨fun a w => by kernel_rfl⟩
theorem agB : bH Tryz.prog 231 2 2 := ⟨fun a w => by kernel_rfl⟩
theorem agC : bH Tryz.prog 231 3 3 := ⟨fun a w => by kernel_rfl⟩
theorem agD : bp Tryz.prog 231 0 0 1 false := br Tryz.underlying231 (by kernel_rfl) vJ (by decide)
theorem agE : bp Tryz.prog 231 1 1 1 false := br Tryz.underlying231 (by kernel_rfl) vJ (by decide)
theorem agF : bp Tryz.prog 231 2 2 1 false := br Tryz.underlying231 (by kernel_rfl) vJ (by decide)
theorem agG : bp Tryz.prog 231 3 3 1 false := br Tryz.underlying231 (by kernel_rfl) ty9 (by decide)
theorem asu : TyS Tryz.prog 232 0 true := ⟨Tryz.sizeOf232, Tryz.isAgg232⟩
theorem adR : TyS Tryz.prog 235 1 false := ⟨Tryz.sizeOf235, Tryz.isAgg235⟩
theorem adS : TyS Tryz.prog 236 1 false := ⟨Tryz.sizeOf236, Tryz.isAgg236⟩
theorem adT : TyS Tryz.prog 237 1 false := ⟨Tryz.sizeOf237, Tryz.isAgg237⟩
theorem adU : TyS Tryz.prog 238 1 false := ⟨Tryz.sizeOf238, Tryz.isAgg238⟩
theorem adV : TyS Tryz.prog 239 1 false := ⟨Tryz.sizeOf239, Tryz.isAgg239⟩
theorem adW : TyS Tryz.prog 240 1 false := ⟨Tryz.sizeOf240, Tryz.isAgg240⟩
theorem asv : TyS Tryz.prog 241 11 true := ⟨Tryz.sizeOf241, Tryz.isAgg241⟩
theorem anK : dN Tryz.prog 241 [.int .u64 0, .int .u64 0, .int .u32 0, .int .u8 0, .int .u8 0, .int .u8 0, .int .u8 0, .nilFunc, .pointer none, .int .i32 0, .int .i32 0] [(0, 1), (1, 1), (2, 1), (3, 1), (4, 1), (5, 1), (6, 1), (7, 1), (8, 1), (9, 1), (10, 1)] := ei Tryz.zeroValue241 Tryz.underlying241 (fun w => by kernel_rfl)
theorem agH : bH Tryz.prog 241 0 0 := ⟨fun a w => by kernel_rfl⟩
theorem agI : bH Tryz.prog 241 1 1 := ⟨fun a w => by kernel_rfl⟩
theorem agJ : bH Tryz.prog 241 2 2 := ⟨fun a w => by kernel_rfl⟩
theorem agK : bH Tryz.prog 241 3 3 := ⟨fun a w => by kernel_rfl⟩
theorem agL : bH Tryz.prog 241 4 4 := ⟨fun a w => by kernel_rfl⟩
theorem agM : bH Tryz.prog 241 5 5 := ⟨fun a w => by kernel_rfl⟩
theorem agN : bH Tryz.prog 241 6 6 := ⟨fun a w => by kernel_rfl⟩
theorem agO : bH Tryz.prog 241 7 7 := ⟨fun a w => by kernel_rfl⟩
theorem agP : bH Tryz.prog 241 8 8 := ⟨fun a w => by kernel_rfl⟩
theorem agQ : bH Tryz.prog 241 9 9 := ⟨fun a w => by kernel_rfl⟩
theorem aeH : bH Tryz.prog 241 10 10 := ⟨fun a w => by kernel_rfl⟩
theorem agR : bp Tryz.prog 241 0 0 1 false := br Tryz.underlying241 (by kernel_rfl) yQ (by decide)
theorem agS : bp Tryz.prog 241 1 1 1 false := br Tryz.underlying241 (by kernel_rfl) yQ (by decide)
theorem agT : bp Tryz.prog 241 2 2 1 false := br Tryz.underlying241 (by kernel_rfl) adP (by decide)
theorem agU : bp Tryz.prog 241 3 3 1 false := br Tryz.underlying241 (by kernel_rfl) adR (by decide)
theorem agV : bp Tryz.prog 241 4 4 1 false := br Tryz.underlying241 (by kernel_rfl) ty5 (by decide)
theorem agW : bp Tryz.prog 241 5 5 1 false := br Tryz.underlying241 (by kernel_rfl) ty5 (by decide)
theorem agX : bp Tryz.prog 241 6 6 1 false := br Tryz.underlying241 (by kernel_rfl) adS (by decide)
theorem agY : bp Tryz.prog 241 7 7 1 false := br Tryz.underlying241 (by kernel_rfl) adT (by decide)
theorem agZ : bp Tryz.prog 241 8 8 1 false := br Tryz.underlying241 (by kernel_rfl) adU (by decide)
theorem ag0 : bp Tryz.prog 241 9 9 1 false := br Tryz.underlying241 (by kernel_rfl) adV (by decide)
theorem aeI : bp Tryz.prog 241 10 10 1 false := br Tryz.underlying241 (by kernel_rfl) adW (by decide)
theorem asw : TyS Tryz.prog 242 11 true := ⟨Tryz.sizeOf242, Tryz.isAgg242⟩
theorem anL : dN Tryz.prog 242 [.int .u64 0, .int .u64 0, .int .u32 0, .int .u8 0, .int .u8 0, .int .u8 0, .int .u8 0, .nilFunc, .pointer none, .int .i32 0, .int .i32 0] [(0, 1), (1, 1), (2, 1), (3, 1), (4, 1), (5, 1), (6, 1), (7, 1), (8, 1), (9, 1), (10, 1)] := ei Tryz.zeroValue242 Tryz.underlying242 (fun w => by kernel_rfl)
theorem ag3 : bH Tryz.prog 242 0 0 := ⟨fun a w => by kernel_rfl⟩
theorem ag4 : bH Tryz.prog 242 1 1 := ⟨fun a w => by kernel_rfl⟩
theorem ag5 : bH Tryz.prog 242 2 2 := ⟨fun a w => by kernel_rfl⟩
theorem ag6 : bH Tryz.prog 242 3 3 := ⟨fun a w => by kernel_rfl⟩
theorem ag7 : bH Tryz.prog 242 4 4 := ⟨fun a w => by kernel_rfl⟩
theorem ag8 : bH Tryz.prog 242 5 5 := ⟨fun a w => by kernel_rfl⟩
theorem ag9 : bH Tryz.prog 242 6 6 := ⟨fun a w => by kernel_rfl⟩
theorem aha : bH Tryz.prog 242 7 7 := ⟨fun a w => by kernel_rfl⟩
theorem ahb : bH Tryz.prog 242 8 8 := ⟨fun a w => by kernel_rfl⟩
theorem ahc : bH Tryz.prog 242 9 9 := ⟨fun a w => by kernel_rfl⟩
theorem aeJ : bH Tryz.prog 242 10 10 := ⟨fun a w => by kernel_rfl⟩
theorem ahd : bp Tryz.prog 242 0 0 1 false := br Tryz.underlying242 (by kernel_rfl) yQ (by decide)
theorem ahe : bp Tryz.prog 242 1 1 1 false := br Tryz.underlying242 (by kernel_rfl) yQ (by decide)
theorem ahf : bp Tryz.prog 242 2 2 1 false := br Tryz.underlying242 (by kernel_rfl) adP (by decide)
theorem ahg : bp Tryz.prog 242 3 3 1 false := br Tryz.underlying242 (by kernel_rfl) adR (by decide)
theorem ahh : bp Tryz.prog 242 4 4 1 false := br Tryz.underlying242 (by kernel_rfl) ty5 (by decide)
theorem ahi : bp Tryz.prog 242 5 5 1 false := br Tryz.underlying242 (by kernel_rfl) ty5 (by decide)
theorem ahj : bp Tryz.prog 242 6 6 1 false := br Tryz.underlying242 (by kernel_rfl) adS (by decide)
theorem ahk : bp Tryz.prog 242 7 7 1 false := br Tryz.underlying242 (by kernel_rfl) adT (by decide)
theorem ahl : bp Tryz.prog 242 8 8 1 false := br Tryz.underlying242 (by kernel_rfl) adU (by decide)
theorem ahm : bp Tryz.prog 242 9 9 1 false := br Tryz.underlying242 (by kernel_rfl) adV (by decide)
theorem aeK : bp Tryz.prog 242 10 10 1 false := br Tryz.underlying242 (by kernel_rfl) adW (by decide)
end Go.Proofs.YtpmifmdidfgpdaaGreat
