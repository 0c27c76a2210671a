/- The types of this translation, as the rules want aes. No condition. -/
import Derived.Test.YtpmifmdidfgpdaaGreatAB
import Derived.Test.YtpmifmdidfgpdaaGreatRows
import Derived.OwnWalk
namespace Go.Proofs.YtpmifmdidfgpdaaGreat
set_option linter.all false
open Go
set_option maxRecDepth 100000
abbrev Zr (i : Nat) (c : List Value) : Prop := ∀ w, ∃ z, (zeroValue i).run Tryz.prog w = .ok z w ∧ z.cells = c.toArray
theorem zH : Tryz.prog.follows .mixedOrders = true := by kernel_rfl
theorem ze1 : Zr 1 [.nilFunc] := fun w => ⟨_, Tryz.zeroValue1 w, rfl⟩
theorem ze2 : Zr 2 [.int .i64 0] := fun w => ⟨_, Tryz.zeroValue2 w, rfl⟩
theorem ze3 : Zr 3 [.int .i64 0] := fun w => ⟨_, Tryz.zeroValue3 w, rfl⟩
theorem ze4 : Zr 4 [.bool false] := fun w => ⟨_, Tryz.zeroValue4 w, rfl⟩
theorem ze5 : Zr 5 [.int .u8 0] := fun w => ⟨_, Tryz.zeroValue5 w, rfl⟩
theorem ze6 : Zr 6 [.int .u8 0] := fun w => ⟨_, Tryz.zeroValue6 w, rfl⟩
theorem ze7 : Zr 7 [.int .i64 0, .int .i64 0, .bool false, .int .u8 0] := fun w => ⟨_, Tryz.zeroValue7 w, rfl⟩
theorem ze8 : Zr 8 [.int .i64 0, .int .i64 0, .bool false, .int .u8 0] := fun w => ⟨_, Tryz.zeroValue8 w, rfl⟩
theorem ze9 : Zr 9 [.string ⟨#[]⟩] := fun w => ⟨_, Tryz.zeroValue9 w, rfl⟩
theorem ze10 : Zr 10 [.string ⟨#[]⟩] := fun w => ⟨_, Tryz.zeroValue10 w, rfl⟩
theorem ze11 : Zr 11 [.string ⟨#[]⟩] := fun w => ⟨_, Tryz.zeroValue11 w, rfl⟩
theorem ze12 : Zr 12 [.int .u64 0] := fun w => ⟨_, Tryz.zeroValue12 w, rfl⟩
theorem ze13 : Zr 13 [.string ⟨#[]⟩, .int .u64 0] := fun w => ⟨_, Tryz.zeroValue13 w, rfl⟩
theorem ze14 : Zr 14 [.string ⟨#[]⟩, .int .u64 0] := fun w => ⟨_, Tryz.zeroValue14 w, rfl⟩
theorem ze15 : Zr 15 [.pointer none] := fun w => ⟨_, Tryz.zeroValue15 w, rfl⟩
theorem ze16 : Zr 16 [.pointer none] := fun w => ⟨_, Tryz.zeroValue16 w, rfl⟩
theorem ze17 : Zr 17 [.pointer none] := fun w => ⟨_, Tryz.zeroValue17 w, rfl⟩
theorem ze18 : Zr 18 [.pointer none] := fun w => ⟨_, Tryz.zeroValue18 w, rfl⟩
theorem ze19 : Zr 19 [.pointer none] := fun w => ⟨_, Tryz.zeroValue19 w, rfl⟩
theorem ze21 : Zr 21 [.int .i32 0] := fun w => ⟨_, Tryz.zeroValue21 w, rfl⟩
theorem ze22 : Zr 22 [.slice none 0 0] := fun w => ⟨_, Tryz.zeroValue22 w, rfl⟩
theorem anW : Zr 23 [.slice none 0 0] := fun w => ⟨_, Tryz.zeroValue23 w, rfl⟩
theorem ze24 : Zr 24 [.slice none 0 0] := fun w => ⟨_, Tryz.zeroValue24 w, rfl⟩
theorem ze25 : Zr 25 [.slice none 0 0] := fun w => ⟨_, Tryz.zeroValue25 w, rfl⟩
theorem ze26 : Zr 26 [.slice none 0 0, .slice none 0 0, .slice none 0 0] := fun w => ⟨_, Tryz.zeroValue26 w, rfl⟩
theorem anX : Zr 27 [.slice none 0 0, .slice none 0 0, .slice none 0 0] := fun w => ⟨_, Tryz.zeroValue27 w, rfl⟩
theorem ze28 : Zr 28 [.pointer none] := fun w => ⟨_, Tryz.zeroValue28 w, rfl⟩
theorem ze32 : Zr 32 [.slice none 0 0] := fun w => ⟨_, Tryz.zeroValue32 w, rfl⟩
theorem ze34 : Zr 34 [.int .i64 0] := fun w => ⟨_, Tryz.zeroValue34 w, rfl⟩
theorem ze42 : Zr 42 [.slice none 0 0] := fun w => ⟨_, Tryz.zeroValue42 w, rfl⟩
theorem ze43 : Zr 43 [.slice none 0 0, .slice none 0 0] := fun w => ⟨_, Tryz.zeroValue43 w, rfl⟩
theorem ze44 : Zr 44 [.slice none 0 0, .slice none 0 0] := fun w => ⟨_, Tryz.zeroValue44 w, rfl⟩
theorem ze47 : Zr 47 [.slice none 0 0] := fun w => ⟨_, Tryz.zeroValue47 w, rfl⟩
theorem ze48 : Zr 48 [.slice none 0 0] := fun w => ⟨_, Tryz.zeroValue48 w, rfl⟩
theorem ze49 : Zr 49 [.int .i64 0, .int .i64 0, .bool false, .slice none 0 0, .slice none 0 0] := fun w => ⟨_, Tryz.zeroValue49 w, rfl⟩
theorem anY : Zr 50 [.int .i64 0, .int .i64 0, .bool false, .slice none 0 0, .slice none 0 0] := fun w => ⟨_, Tryz.zeroValue50 w, rfl⟩
theorem ze53 : Zr 53 [.nilFunc] := fun w => ⟨_, Tryz.zeroValue53 w, rfl⟩
theorem ze58 : Zr 58 [.slice none 0 0] := fun w => ⟨_, Tryz.zeroValue58 w, rfl⟩
theorem ze59 : Zr 59 [.slice none 0 0] := fun w => ⟨_, Tryz.zeroValue59 w, rfl⟩
theorem ze60 : Zr 60 [.slice none 0 0] := fun w => ⟨_, Tryz.zeroValue60 w, rfl⟩
theorem ze61 : Zr 61 [.int .i64 0, .int .i64 0, .slice none 0 0] := fun w => ⟨_, Tryz.zeroValue61 w, rfl⟩
theorem anZ : Zr 62 [.int .i64 0, .int .i64 0, .slice none 0 0] := fun w => ⟨_, Tryz.zeroValue62 w, rfl⟩
theorem ze65 : Zr 65 [.slice none 0 0] := fun w => ⟨_, Tryz.zeroValue65 w, rfl⟩
theorem ze66 : Zr 66 [.slice none 0 0, .slice none 0 0] := fun w => ⟨_, Tryz.zeroValue66 w, rfl⟩
theorem ze67 : Zr 67 [.slice none 0 0, .slice none 0 0] := fun w => ⟨_, Tryz.zeroValue67 w, rfl⟩
theorem ze70 : Zr 70 [.slice none 0 0] := fun w => ⟨_, Tryz.zeroValue70 w, rfl⟩
theorem ze73 : Zr 73 [.slice none 0 0, .int .i64 0] := fun w => ⟨_, Tryz.zeroValue73 w, rfl⟩
theorem ze74 : Zr 74 [.slice none 0 0, .int .i64 0] := fun w => ⟨_, Tryz.zeroValue74 w, rfl⟩
theorem ze75 : Zr 75 [.nilFunc] := fun w => ⟨_, Tryz.zeroValue75 w, rfl⟩
theorem ze77 : Zr 77 [.int .i64 0, .int .i64 0, .int .i64 0, .int .i64 0, .int .i64 0] := fun w => ⟨_, Tryz.zeroValue77 w, rfl⟩
theorem an0 : Zr 78 [.int .i64 0, .int .i64 0, .int .i64 0, .int .i64 0, .int .i64 0] := fun w => ⟨_, Tryz.zeroValue78 w, rfl⟩
theorem ze80 : Zr 80 [.int .i64 0, .int .i64 0, .bool false, .slice none 0 0, .slice none 0 0] := fun w => ⟨_, Tryz.zeroValue80 w, rfl⟩
theorem an1 : Zr 81 [.int .i64 0, .int .i64 0, .bool false, .slice none 0 0, .slice none 0 0] := fun w => ⟨_, Tryz.zeroValue81 w, rfl⟩
theorem ze84 : Zr 84 [.int .i64 0, .int .i64 0, .int .i64 0] := fun w => ⟨_, Tryz.zeroValue84 w, rfl⟩
theorem an2 : Zr 85 [.int .i64 0, .int .i64 0, .int .i64 0] := fun w => ⟨_, Tryz.zeroValue85 w, rfl⟩
theorem ze86 : Zr 86 [.int .i64 0, .bool false] := fun w => ⟨_, Tryz.zeroValue86 w, rfl⟩
theorem an3 : Zr 87 [.int .i64 0, .bool false] := fun w => ⟨_, Tryz.zeroValue87 w, rfl⟩
theorem ze88 : Zr 88 [.pointer none] := fun w => ⟨_, Tryz.zeroValue88 w, rfl⟩
theorem ze90 : Zr 90 [.slice none 0 0, .slice none 0 0, .slice none 0 0] := fun w => ⟨_, Tryz.zeroValue90 w, rfl⟩
theorem ze91 : Zr 91 [.slice none 0 0, .slice none 0 0, .slice none 0 0] := fun w => ⟨_, Tryz.zeroValue91 w, rfl⟩
theorem ze92 : Zr 92 [.slice none 0 0] := fun w => ⟨_, Tryz.zeroValue92 w, rfl⟩
theorem ze95 : Zr 95 [.nilFunc] := fun w => ⟨_, Tryz.zeroValue95 w, rfl⟩
theorem aq6 : Zr 105 [.int .i64 0, .int .i64 0, .int .i64 0] := fun w => ⟨_, Tryz.zeroValue105 w, rfl⟩
theorem ajt : Zr 106 [.int .i64 0, .int .i64 0, .int .i64 0] := fun w => ⟨_, Tryz.zeroValue106 w, rfl⟩
theorem aq7 : Zr 109 [.nilFunc] := fun w => ⟨_, Tryz.zeroValue109 w, rfl⟩
theorem aq8 : Zr 119 [.int .i64 0, .int .i64 0] := fun w => ⟨_, Tryz.zeroValue119 w, rfl⟩
theorem aju : Zr 120 [.int .i64 0, .int .i64 0] := fun w => ⟨_, Tryz.zeroValue120 w, rfl⟩
theorem aq9 : Zr 123 [.nilFunc] := fun w => ⟨_, Tryz.zeroValue123 w, rfl⟩
theorem ara : Zr 124 [.pointer none] := fun w => ⟨_, Tryz.zeroValue124 w, rfl⟩
theorem arb : Zr 133 [.nilFunc] := fun w => ⟨_, Tryz.zeroValue133 w, rfl⟩
theorem arc : Zr 135 [.nilFunc] := fun w => ⟨_, Tryz.zeroValue135 w, rfl⟩
theorem ard : Zr 137 [.nilFunc] := fun w => ⟨_, Tryz.zeroValue137 w, rfl⟩
theorem arf : Zr 138 [.nilFunc] := fun w => ⟨_, Tryz.zeroValue138 w, rfl⟩
theorem arh : Zr 141 [.nilFunc] := fun w => ⟨_, Tryz.zeroValue141 w, rfl⟩
theorem ari : Zr 152 [.slice none 0 0] := fun w => ⟨_, Tryz.zeroValue152 w, rfl⟩
theorem arj : Zr 154 [.int .i64 0, .int .i64 0, .int .i64 0, .int .i64 0] := fun w => ⟨_, Tryz.zeroValue154 w, rfl⟩
theorem ajv : Zr 155 [.int .i64 0, .int .i64 0, .int .i64 0, .int .i64 0] := fun w => ⟨_, Tryz.zeroValue155 w, rfl⟩
theorem ark : Zr 156 [.nilFunc] := fun w => ⟨_, Tryz.zeroValue156 w, rfl⟩
theorem arl : Zr 165 [.int .u64 0] := fun w => ⟨_, Tryz.zeroValue165 w, rfl⟩
theorem arn : Zr 174 [.pointer none] := fun w => ⟨_, Tryz.zeroValue174 w, rfl⟩
theorem aro : Zr 180 [.nilFunc] := fun w => ⟨_, Tryz.zeroValue180 w, rfl⟩
theorem arp : Zr 182 [.slice none 0 0] := fun w => ⟨_, Tryz.zeroValue182 w, rfl⟩
theorem arq : Zr 186 [.int .i64 0] := fun w => ⟨_, Tryz.zeroValue186 w, rfl⟩
theorem ars : Zr 194 [.int .u32 0] := fun w => ⟨_, Tryz.zeroValue194 w, rfl⟩
theorem art : Zr 196 [.int .u64 0] := fun w => ⟨_, Tryz.zeroValue196 w, rfl⟩
theorem aru : Zr 200 [.slice none 0 0, .int .i64 0] := fun w => ⟨_, Tryz.zeroValue200 w, rfl⟩
theorem arv : Zr 201 [.slice none 0 0, .int .i64 0] := fun w => ⟨_, Tryz.zeroValue201 w, rfl⟩
theorem arw : Zr 207 [.int .u64 0] := fun w => ⟨_, Tryz.zeroValue207 w, rfl⟩
theorem arx : Zr 211 [.pointer none] := fun w => ⟨_, Tryz.zeroValue211 w, rfl⟩
theorem ary : Zr 213 [.slice none 0 0, .int .i64 0] := fun w => ⟨_, Tryz.zeroValue213 w, rfl⟩
theorem arz : Zr 214 [.slice none 0 0, .int .i64 0] := fun w => ⟨_, Tryz.zeroValue214 w, rfl⟩
theorem arA : Zr 220 [.pointer none] := fun w => ⟨_, Tryz.zeroValue220 w, rfl⟩
theorem arB : Zr 224 [.pointer none] := fun w => ⟨_, Tryz.zeroValue224 w, rfl⟩
theorem arC : Zr 228 [.pointer none] := fun w => ⟨_, Tryz.zeroValue228 w, rfl⟩
theorem arD : Zr 230 [.pointer none, .pointer none, .pointer none, .string ⟨#[]⟩] := fun w => ⟨_, Tryz.zeroValue230 w, rfl⟩
theorem arE : Zr 231 [.pointer none, .pointer none, .pointer none, .string ⟨#[]⟩] := fun w => ⟨_, Tryz.zeroValue231 w, rfl⟩
theorem arF : Zr 232 [] := fun w => ⟨_, Tryz.zeroValue232 w, rfl⟩
theorem arG : Zr 235 [.int .u8 0] := fun w => ⟨_, Tryz.zeroValue235 w, rfl⟩
theorem arH : Zr 236 [.int .u8 0] := fun w => ⟨_, Tryz.zeroValue236 w, rfl⟩
theorem arI : Zr 237 [.nilFunc] := fun w => ⟨_, Tryz.zeroValue237 w, rfl⟩
theorem arJ : Zr 238 [.pointer none] := fun w => ⟨_, Tryz.zeroValue238 w, rfl⟩
theorem arK : Zr 239 [.int .i32 0] := fun w => ⟨_, Tryz.zeroValue239 w, rfl⟩
theorem arL : Zr 240 [.int .i32 0] := fun w => ⟨_, Tryz.zeroValue240 w, rfl⟩
theorem arM : Zr 241 [.int .u64 0, .int .u64 0, .int .u32 0, .int .u8 0, .int .u8 0, .int .u8 0, .int .u8 0, .nilFunc, .pointer none, .int .i32 0, .int .i32 0] := fun w => ⟨_, Tryz.zeroValue241 w, rfl⟩
theorem arN : Zr 242 [.int .u64 0, .int .u64 0, .int .u32 0, .int .u8 0, .int .u8 0, .int .u8 0, .int .u8 0, .nilFunc, .pointer none, .int .i32 0, .int .i32 0] := fun w => ⟨_, Tryz.zeroValue242 w, rfl⟩
theorem ty1 : TyS Tryz.prog 1 1 false := ⟨Tryz.sizeOf1, Tryz.isAgg1⟩
theorem ty2 : TyS Tryz.prog 2 1 false := ⟨Tryz.sizeOf2, Tryz.isAgg2⟩
theorem ty3 : TyS Tryz.prog 3 1 false := ⟨Tryz.sizeOf3, Tryz.isAgg3⟩
theorem ty4 : TyS Tryz.prog 4 1 false := ⟨Tryz.sizeOf4, Tryz.isAgg4⟩
theorem ty5 : TyS Tryz.prog 5 1 false := ⟨Tryz.sizeOf5, Tryz.isAgg5⟩
theorem ty6 : TyS Tryz.prog 6 1 false := ⟨Tryz.sizeOf6, Tryz.isAgg6⟩
theorem ty7 : TyS Tryz.prog 7 4 true := ⟨Tryz.sizeOf7, Tryz.isAgg7⟩
theorem str7 : dW Tryz.prog 7 [.int .i64 0, .int .i64 0, .bool false, .int .u8 0] [(0, 1), (1, 1), (2, 1), (3, 1)] := eE Tryz.zeroValue7 Tryz.underlying7 (fun w => by kernel_rfl)
theorem an4 : bJ Tryz.prog 7 0 0 := ⟨fun a w => by kernel_rfl⟩
theorem an5 : bJ Tryz.prog 7 1 1 := ⟨fun a w => by kernel_rfl⟩
theorem an6 : bJ Tryz.prog 7 2 2 := ⟨fun a w => by kernel_rfl⟩
theorem an7 : bJ Tryz.prog 7 3 3 := ⟨fun a w => by kernel_rfl⟩
theorem an8 : bp Tryz.prog 7 0 0 1 false := bt Tryz.underlying7 (by kernel_rfl) ty2 (by decide)
theorem an9 : bp Tryz.prog 7 1 1 1 false := bt Tryz.underlying7 (by kernel_rfl) ty3 (by decide)
theorem aoa : bp Tryz.prog 7 2 2 1 false := bt Tryz.underlying7 (by kernel_rfl) ty4 (by decide)
theorem aob : bp Tryz.prog 7 3 3 1 false := bt Tryz.underlying7 (by kernel_rfl) ty6 (by decide)
theorem ty8 : TyS Tryz.prog 8 4 true := ⟨Tryz.sizeOf8, Tryz.isAgg8⟩
theorem str8 : dW Tryz.prog 8 [.int .i64 0, .int .i64 0, .bool false, .int .u8 0] [(0, 1), (1, 1), (2, 1), (3, 1)] := eE Tryz.zeroValue8 Tryz.underlying8 (fun w => by kernel_rfl)
theorem aoc : bJ Tryz.prog 8 0 0 := ⟨fun a w => by kernel_rfl⟩
theorem aod : bJ Tryz.prog 8 1 1 := ⟨fun a w => by kernel_rfl⟩
theorem aoe : bJ Tryz.prog 8 2 2 := ⟨fun a w => by kernel_rfl⟩
theorem aof : bJ Tryz.prog 8 3 3 := ⟨fun a w => by kernel_rfl⟩
theorem aog : bp Tryz.prog 8 0 0 1 false := bt Tryz.underlying8 (by kernel_rfl) ty2 (by decide)
theorem aoh : bp Tryz.prog 8 1 1 1 false := bt Tryz.underlying8 (by kernel_rfl) ty3 (by decide)
theorem aoi : bp Tryz.prog 8 2 2 1 false := bt Tryz.underlying8 (by kernel_rfl) ty4 (by decide)
theorem aoj : bp Tryz.prog 8 3 3 1 false := bt Tryz.underlying8 (by kernel_rfl) ty6 (by decide)
theorem ty9 : TyS Tryz.prog 9 1 false := ⟨Tryz.sizeOf9, Tryz.isAgg9⟩
theorem ty10 : TyS Tryz.prog 10 1 false := ⟨Tryz.sizeOf10, Tryz.isAgg10⟩
theorem ty11 : TyS Tryz.prog 11 1 false := ⟨Tryz.sizeOf11, Tryz.isAgg11⟩
theorem zI : TyS Tryz.prog 12 1 false := ⟨Tryz.sizeOf12, Tryz.isAgg12⟩
theorem ty13 : TyS Tryz.prog 13 2 true := ⟨Tryz.sizeOf13, Tryz.isAgg13⟩
theorem arO : dW Tryz.prog 13 [.string ⟨#[]⟩, .int .u64 0] [(0, 1), (1, 1)] := eE Tryz.zeroValue13 Tryz.underlying13 (fun w => by kernel_rfl)
theorem akS : bJ Tryz.prog 13 0 0 := ⟨fun a w => by kernel_rfl⟩
theorem akT : bJ Tryz.prog 13 1 1 := ⟨fun a w => by kernel_rfl⟩
theorem akU : bp Tryz.prog 13 0 0 1 false := bt Tryz.underlying13 (by kernel_rfl) ty9 (by decide)
theorem akV : bp Tryz.prog 13 1 1 1 false := bt Tryz.underlying13 (by kernel_rfl) zI (by decide)
theorem ty14 : TyS Tryz.prog 14 2 true := ⟨Tryz.sizeOf14, Tryz.isAgg14⟩
theorem arP : dW Tryz.prog 14 [.string ⟨#[]⟩, .int .u64 0] [(0, 1), (1, 1)] := eE Tryz.zeroValue14 Tryz.underlying14 (fun w => by kernel_rfl)
theorem akW : bJ Tryz.prog 14 0 0 := ⟨fun a w => by kernel_rfl⟩
theorem akX : bJ Tryz.prog 14 1 1 := ⟨fun a w => by kernel_rfl⟩
theorem akY : bp Tryz.prog 14 0 0 1 false := bt Tryz.underlying14 (by kernel_rfl) ty9 (by decide)
theorem akZ : bp Tryz.prog 14 1 1 1 false := bt Tryz.underlying14 (by kernel_rfl) zI (by decide)
theorem ty15 : TyS Tryz.prog 15 1 false := ⟨Tryz.sizeOf15, Tryz.isAgg15⟩
theorem ty16 : TyS Tryz.prog 16 1 false := ⟨Tryz.sizeOf16, Tryz.isAgg16⟩
theorem wF : TyS Tryz.prog 17 1 false := ⟨Tryz.sizeOf17, Tryz.isAgg17⟩
theorem ty18 : TyS Tryz.prog 18 1 true := ⟨Tryz.sizeOf18, Tryz.isAgg18⟩
theorem arQ : dW Tryz.prog 18 [.pointer none] [(0, 1)] := eE Tryz.zeroValue18 Tryz.underlying18 (fun w => by kernel_rfl)
theorem ak0 : bJ Tryz.prog 18 0 0 := ⟨fun a w => by kernel_rfl⟩
theorem ak1 : bp Tryz.prog 18 0 0 1 false := bt Tryz.underlying18 (by kernel_rfl) wF (by decide)
theorem ty19 : TyS Tryz.prog 19 1 true := ⟨Tryz.sizeOf19, Tryz.isAgg19⟩
theorem arR : dW Tryz.prog 19 [.pointer none] [(0, 1)] := eE Tryz.zeroValue19 Tryz.underlying19 (fun w => by kernel_rfl)
theorem ak2 : bJ Tryz.prog 19 0 0 := ⟨fun a w => by kernel_rfl⟩
theorem ak3 : bp Tryz.prog 19 0 0 1 false := bt Tryz.underlying19 (by kernel_rfl) wF (by decide)
theorem ty21 : TyS Tryz.prog 21 1 false := ⟨Tryz.sizeOf21, Tryz.isAgg21⟩
theorem acO : TyS Tryz.prog 22 1 false := ⟨Tryz.sizeOf22, Tryz.isAgg22⟩
theorem sl22 : SlS Tryz.prog 22 3 1 := ⟨Tryz.underlying22, Tryz.sizeOf3⟩
theorem arS : ow Tryz.prog 22 3 1 8 := ⟨Tryz.underlying22, (by obtain ⟨i, h1, h2, h3, h4⟩ := info_parts (by kernel_rfl : (Tryz.prog.info? 3).map (fun i => (i.zero, i.size, i.bytes)) = some (some (.int .i64 0), 1, 8)); exact ⟨i, _, h1, h2, h3, h4, rfl⟩), by decide⟩
theorem arT : nG Tryz.prog 22 3 1 [.int .i64 0] := ⟨Tryz.underlying22, Tryz.sizeOf3, ze3, rfl⟩
theorem acP : TyS Tryz.prog 23 1 false := ⟨Tryz.sizeOf23, Tryz.isAgg23⟩
theorem sl23 : SlS Tryz.prog 23 78 5 := ⟨Tryz.underlying23, Tryz.sizeOf78⟩
theorem arU : ow Tryz.prog 23 78 5 40 := ⟨Tryz.underlying23, (by obtain ⟨i, h1, h2, h3, h4⟩ := info_parts (by kernel_rfl : (Tryz.prog.info? 78).map (fun i => (i.zero, i.size, i.bytes)) = some (some (.agg #[.int .i64 0, .int .i64 0, .int .i64 0, .int .i64 0, .int .i64 0]), 5, 40)); exact ⟨i, _, h1, h2, h3, h4, rfl⟩), by decide⟩
theorem arV : nG Tryz.prog 23 78 5 [.int .i64 0, .int .i64 0, .int .i64 0, .int .i64 0, .int .i64 0] := ⟨Tryz.underlying23, Tryz.sizeOf78, an0, rfl⟩
theorem agP : TyS Tryz.prog 24 1 false := ⟨Tryz.sizeOf24, Tryz.isAgg24⟩
theorem sl24 : SlS Tryz.prog 24 81 5 := ⟨Tryz.underlying24, Tryz.sizeOf81⟩
theorem arW : ow Tryz.prog 24 81 5 72 := ⟨Tryz.underlying24, (by obtain ⟨i, h1, h2, h3, h4⟩ := info_parts (by kernel_rfl : (Tryz.prog.info? 81).map (fun i => (i.zero, i.size, i.bytes)) = some (some (.agg #[.int .i64 0, .int .i64 0, .bool false, .slice none 0 0, .slice none 0 0]), 5, 72)); exact ⟨i, _, h1, h2, h3, h4, rfl⟩), by decide⟩
theorem arX : nG Tryz.prog 24 81 5 [.int .i64 0, .int .i64 0, .bool false, .slice none 0 0, .slice none 0 0] := ⟨Tryz.underlying24, Tryz.sizeOf81, an1, rfl⟩
theorem agQ : TyS Tryz.prog 25 1 false := ⟨Tryz.sizeOf25, Tryz.isAgg25⟩
theorem sl25 : SlS Tryz.prog 25 62 3 := ⟨Tryz.underlying25, Tryz.sizeOf62⟩
theorem arY : ow Tryz.prog 25 62 3 40 := ⟨Tryz.underlying25, (by obtain ⟨i, h1, h2, h3, h4⟩ := info_parts (by kernel_rfl : (Tryz.prog.info? 62).map (fun i => (i.zero, i.size, i.bytes)) = some (some (.agg #[.int .i64 0, .int .i64 0, .slice none 0 0]), 3, 40)); exact ⟨i, _, h1, h2, h3, h4, rfl⟩), by decide⟩
theorem arZ : nG Tryz.prog 25 62 3 [.int .i64 0, .int .i64 0, .slice none 0 0] := ⟨Tryz.underlying25, Tryz.sizeOf62, anZ, rfl⟩
theorem ty26 : TyS Tryz.prog 26 3 true := ⟨Tryz.sizeOf26, Tryz.isAgg26⟩
theorem ar0 : dW Tryz.prog 26 [.slice none 0 0, .slice none 0 0, .slice none 0 0] [(0, 1), (1, 1), (2, 1)] := eE Tryz.zeroValue26 Tryz.underlying26 (fun w => by kernel_rfl)
theorem ak4 : bJ Tryz.prog 26 0 0 := ⟨fun a w => by kernel_rfl⟩
theorem ak5 : bJ Tryz.prog 26 1 1 := ⟨fun a w => by kernel_rfl⟩
theorem ak6 : bJ Tryz.prog 26 2 2 := ⟨fun a w => by kernel_rfl⟩
theorem ak7 : bp Tryz.prog 26 0 0 1 false := bt Tryz.underlying26 (by kernel_rfl) acP (by decide)
theorem ak8 : bp Tryz.prog 26 1 1 1 false := bt Tryz.underlying26 (by kernel_rfl) agP (by decide)
theorem ak9 : bp Tryz.prog 26 2 2 1 false := bt Tryz.underlying26 (by kernel_rfl) agQ (by decide)
theorem agR : TyS Tryz.prog 27 3 true := ⟨Tryz.sizeOf27, Tryz.isAgg27⟩
theorem ar1 : dW Tryz.prog 27 [.slice none 0 0, .slice none 0 0, .slice none 0 0] [(0, 1), (1, 1), (2, 1)] := eE Tryz.zeroValue27 Tryz.underlying27 (fun w => by kernel_rfl)
theorem ala : bJ Tryz.prog 27 0 0 := ⟨fun a w => by kernel_rfl⟩
theorem alb : bJ Tryz.prog 27 1 1 := ⟨fun a w => by kernel_rfl⟩
theorem alc : bJ Tryz.prog 27 2 2 := ⟨fun a w => by kernel_rfl⟩
theorem ald : bp Tryz.prog 27 0 0 1 false := bt Tryz.underlying27 (by kernel_rfl) acP (by decide)
theorem ale : bp Tryz.prog 27 1 1 1 false := bt Tryz.underlying27 (by kernel_rfl) agP (by decide)
theorem alf : bp Tryz.prog 27 2 2 1 false := bt Tryz.underlying27 (by kernel_rfl) agQ (by decide)
theorem ty28 : TyS Tryz.prog 28 1 false := ⟨Tryz.sizeOf28, Tryz.isAgg28⟩
theorem ty32 : TyS Tryz.prog 32 1 false := ⟨Tryz.sizeOf32, Tryz.isAgg32⟩
theorem sl32 : SlS Tryz.prog 32 27 3 := ⟨Tryz.underlying32, Tryz.sizeOf27⟩
theorem ar2 : ow Tryz.prog 32 27 3 72 := ⟨Tryz.underlying32, (by obtain ⟨i, h1, h2, h3, h4⟩ := info_parts (by kernel_rfl : (Tryz.prog.info? 27).map (fun i => (i.zero, i.size, i.bytes)) = some (some (.agg #[.slice none 0 0, .slice none 0 0, .slice none 0 0]), 3, 72)); exact ⟨i, _, h1, h2, h3, h4, rfl⟩), by decide⟩
theorem ar3 : nG Tryz.prog 32 27 3 [.slice none 0 0, .slice none 0 0, .slice none 0 0] := ⟨Tryz.underlying32, Tryz.sizeOf27, anX, rfl⟩
theorem ty34 : TyS Tryz.prog 34 1 false := ⟨Tryz.sizeOf34, Tryz.isAgg34⟩
theorem agS : TyS Tryz.prog 42 1 false := ⟨Tryz.sizeOf42, Tryz.isAgg42⟩
theorem sl42 : SlS Tryz.prog 42 87 2 := ⟨Tryz.underlying42, Tryz.sizeOf87⟩
theorem ar4 : ow Tryz.prog 42 87 2 16 := ⟨Tryz.underlying42, (by obtain ⟨i, h1, h2, h3, h4⟩ := info_parts (by kernel_rfl : (Tryz.prog.info? 87).map (fun i => (i.zero, i.size, i.bytes)) = some (some (.agg #[.int .i64 0, .bool false]), 2, 16)); exact ⟨i, _, h1, h2, h3, h4, rfl⟩), by decide⟩
theorem ar5 : nG Tryz.prog 42 87 2 [.int .i64 0, .bool false] := ⟨Tryz.underlying42, Tryz.sizeOf87, an3, rfl⟩
theorem ty43 : TyS Tryz.prog 43 2 true := ⟨Tryz.sizeOf43, Tryz.isAgg43⟩
theorem ar6 : dW Tryz.prog 43 [.slice none 0 0, .slice none 0 0] [(0, 1), (1, 1)] := eE Tryz.zeroValue43 Tryz.underlying43 (fun w => by kernel_rfl)
theorem alg : bJ Tryz.prog 43 0 0 := ⟨fun a w => by kernel_rfl⟩
theorem alh : bJ Tryz.prog 43 1 1 := ⟨fun a w => by kernel_rfl⟩
theorem ali : bp Tryz.prog 43 0 0 1 false := bt Tryz.underlying43 (by kernel_rfl) agS (by decide)
theorem alj : bp Tryz.prog 43 1 1 1 false := bt Tryz.underlying43 (by kernel_rfl) acP (by decide)
theorem ty44 : TyS Tryz.prog 44 2 true := ⟨Tryz.sizeOf44, Tryz.isAgg44⟩
theorem ar7 : dW Tryz.prog 44 [.slice none 0 0, .slice none 0 0] [(0, 1), (1, 1)] := eE Tryz.zeroValue44 Tryz.underlying44 (fun w => by kernel_rfl)
theorem alk : bJ Tryz.prog 44 0 0 := ⟨fun a w => by kernel_rfl⟩
theorem alm : bJ Tryz.prog 44 1 1 := ⟨fun a w => by kernel_rfl⟩
theorem aln : bp Tryz.prog 44 0 0 1 false := bt Tryz.underlying44 (by kernel_rfl) agS (by decide)
theorem alo : bp Tryz.prog 44 1 1 1 false := bt Tryz.underlying44 (by kernel_rfl) acP (by decide)
theorem agT : TyS Tryz.prog 47 1 false := ⟨Tryz.sizeOf47, Tryz.isAgg47⟩
theorem sl47 : SlS Tryz.prog 47 106 3 := ⟨Tryz.underlying47, Tryz.sizeOf106⟩
theorem ar8 : ow Tryz.prog 47 106 3 24 := ⟨Tryz.underlying47, (by obtain ⟨i, h1, h2, h3, h4⟩ := info_parts (by kernel_rfl : (Tryz.prog.info? 106).map (fun i => (i.zero, i.size, i.bytes)) = some (some (.agg #[.int .i64 0, .int .i64 0, .int .i64 0]), 3, 24)); exact ⟨i, _, h1, h2, h3, h4, rfl⟩), by decide⟩
theorem ar9 : nG Tryz.prog 47 106 3 [.int .i64 0, .int .i64 0, .int .i64 0] := ⟨Tryz.underlying47, Tryz.sizeOf106, ajt, rfl⟩
theorem acQ : TyS Tryz.prog 48 1 false := ⟨Tryz.sizeOf48, Tryz.isAgg48⟩
theorem sl48 : SlS Tryz.prog 48 85 3 := ⟨Tryz.underlying48, Tryz.sizeOf85⟩
theorem asa : ow Tryz.prog 48 85 3 24 := ⟨Tryz.underlying48, (by obtain ⟨i, h1, h2, h3, h4⟩ := info_parts (by kernel_rfl : (Tryz.prog.info? 85).map (fun i => (i.zero, i.size, i.bytes)) = some (some (.agg #[.int .i64 0, .int .i64 0, .int .i64 0]), 3, 24)); exact ⟨i, _, h1, h2, h3, h4, rfl⟩), by decide⟩
theorem asb : nG Tryz.prog 48 85 3 [.int .i64 0, .int .i64 0, .int .i64 0] := ⟨Tryz.underlying48, Tryz.sizeOf85, an2, rfl⟩
theorem ty49 : TyS Tryz.prog 49 5 true := ⟨Tryz.sizeOf49, Tryz.isAgg49⟩
theorem asd : dW Tryz.prog 49 [.int .i64 0, .int .i64 0, .bool false, .slice none 0 0, .slice none 0 0] [(0, 1), (1, 1), (2, 1), (3, 1), (4, 1)] := eE Tryz.zeroValue49 Tryz.underlying49 (fun w => by kernel_rfl)
theorem alp : bJ Tryz.prog 49 0 0 := ⟨fun a w => by kernel_rfl⟩
theorem alq : bJ Tryz.prog 49 1 1 := ⟨fun a w => by kernel_rfl⟩
theorem alr : bJ Tryz.prog 49 2 2 := ⟨fun a w => by kernel_rfl⟩
theorem als : bJ Tryz.prog 49 3 3 := ⟨fun a w => by kernel_rfl⟩
theorem alu : bJ Tryz.prog 49 4 4 := ⟨fun a w => by kernel_rfl⟩
theorem alv : bp Tryz.prog 49 0 0 1 false := bt Tryz.underlying49 (by kernel_rfl) ty3 (by decide)
theorem alw : bp Tryz.prog 49 1 1 1 false := bt Tryz.underlying49 (by kernel_rfl) ty3 (by decide)
theorem alx : bp Tryz.prog 49 2 2 1 false := bt Tryz.underlying49 (by kernel_rfl) ty4 (by decide)
theorem aly : bp Tryz.prog 49 3 3 1 false := bt Tryz.underlying49 (by kernel_rfl) agT (by decide)
theorem alz : bp Tryz.prog 49 4 4 1 false := bt Tryz.underlying49 (by kernel_rfl) acQ (by decide)
theorem ty50 : TyS Tryz.prog 50 5 true := ⟨Tryz.sizeOf50, Tryz.isAgg50⟩
theorem ase : dW Tryz.prog 50 [.int .i64 0, .int .i64 0, .bool false, .slice none 0 0, .slice none 0 0] [(0, 1), (1, 1), (2, 1), (3, 1), (4, 1)] := eE Tryz.zeroValue50 Tryz.underlying50 (fun w => by kernel_rfl)
theorem alA : bJ Tryz.prog 50 0 0 := ⟨fun a w => by kernel_rfl⟩
theorem alB : bJ Tryz.prog 50 1 1 := ⟨fun a w => by kernel_rfl⟩
theorem alC : bJ Tryz.prog 50 2 2 := ⟨fun a w => by kernel_rfl⟩
theorem alD : bJ Tryz.prog 50 3 3 := ⟨fun a w => by kernel_rfl⟩
theorem alF : bJ Tryz.prog 50 4 4 := ⟨fun a w => by kernel_rfl⟩
theorem alG : bp Tryz.prog 50 0 0 1 false := bt Tryz.underlying50 (by kernel_rfl) ty3 (by decide)
theorem alH : bp Tryz.prog 50 1 1 1 false := bt Tryz.underlying50 (by kernel_rfl) ty3 (by decide)
theorem alI : bp Tryz.prog 50 2 2 1 false := bt Tryz.underlying50 (by kernel_rfl) ty4 (by decide)
theorem alJ : bp Tryz.prog 50 3 3 1 false := bt Tryz.underlying50 (by kernel_rfl) agT (by decide)
theorem alK : bp Tryz.prog 50 4 4 1 false := bt Tryz.underlying50 (by kernel_rfl) acQ (by decide)
theorem ty53 : TyS Tryz.prog 53 1 false := ⟨Tryz.sizeOf53, Tryz.isAgg53⟩
theorem agU : TyS Tryz.prog 58 1 false := ⟨Tryz.sizeOf58, Tryz.isAgg58⟩
theorem sl58 : SlS Tryz.prog 58 50 5 := ⟨Tryz.underlying58, Tryz.sizeOf50⟩
theorem asf : ow Tryz.prog 58 50 5 72 := ⟨Tryz.underlying58, (by obtain ⟨i, h1, h2, h3, h4⟩ := info_parts (by kernel_rfl : (Tryz.prog.info? 50).map (fun i => (i.zero, i.size, i.bytes)) = some (some (.agg #[.int .i64 0, .int .i64 0, .bool false, .slice none 0 0, .slice none 0 0]), 5, 72)); exact ⟨i, _, h1, h2, h3, h4, rfl⟩), by decide⟩
theorem asg : nG Tryz.prog 58 50 5 [.int .i64 0, .int .i64 0, .bool false, .slice none 0 0, .slice none 0 0] := ⟨Tryz.underlying58, Tryz.sizeOf50, anY, rfl⟩
theorem ty59 : TyS Tryz.prog 59 1 true := ⟨Tryz.sizeOf59, Tryz.isAgg59⟩
theorem ash : dW Tryz.prog 59 [.slice none 0 0] [(0, 1)] := eE Tryz.zeroValue59 Tryz.underlying59 (fun w => by kernel_rfl)
theorem alL : bJ Tryz.prog 59 0 0 := ⟨fun a w => by kernel_rfl⟩
theorem alM : bp Tryz.prog 59 0 0 1 false := bt Tryz.underlying59 (by kernel_rfl) agU (by decide)
theorem acR : TyS Tryz.prog 60 1 true := ⟨Tryz.sizeOf60, Tryz.isAgg60⟩
theorem asi : dW Tryz.prog 60 [.slice none 0 0] [(0, 1)] := eE Tryz.zeroValue60 Tryz.underlying60 (fun w => by kernel_rfl)
theorem alN : bJ Tryz.prog 60 0 0 := ⟨fun a w => by kernel_rfl⟩
theorem alO : bp Tryz.prog 60 0 0 1 false := bt Tryz.underlying60 (by kernel_rfl) agU (by decide)
theorem ty61 : TyS Tryz.prog 61 3 true := ⟨Tryz.sizeOf61, Tryz.isAgg61⟩
theorem asj : dW Tryz.prog 61 [.int .i64 0, .int .i64 0, .slice none 0 0] [(0, 1), (1, 1), (2, 1)] := eE Tryz.zeroValue61 Tryz.underlying61 (fun w => by kernel_rfl)
theorem alP : bJ Tryz.prog 61 0 0 := ⟨fun a w => by kernel_rfl⟩
theorem alQ : bJ Tryz.prog 61 1 1 := ⟨fun a w => by kernel_rfl⟩
theorem alR : bJ Tryz.prog 61 2 2 := ⟨fun a w => by kernel_rfl⟩
theorem alS : bp Tryz.prog 61 0 0 1 false := bt Tryz.underlying61 (by kernel_rfl) ty3 (by decide)
theorem alT : bp Tryz.prog 61 1 1 1 false := bt Tryz.underlying61 (by kernel_rfl) ty3 (by decide)
theorem alU : bp Tryz.prog 61 2 2 1 true := bt Tryz.underlying61 (by kernel_rfl) acR (by decide)
theorem ty62 : TyS Tryz.prog 62 3 true := ⟨Tryz.sizeOf62, Tryz.isAgg62⟩
theorem asl : dW Tryz.prog 62 [.int .i64 0, .int .i64 0, .slice none 0 0] [(0, 1), (1, 1), (2, 1)] := eE Tryz.zeroValue62 Tryz.underlying62 (fun w => by kernel_rfl)
theorem alV : bJ Tryz.prog 62 0 0 := ⟨fun a w => by kernel_rfl⟩
theorem alW : bJ Tryz.prog 62 1 1 := ⟨fun a w => by kernel_rfl⟩
theorem alX : bJ Tryz.prog 62 2 2 := ⟨fun a w => by kernel_rfl⟩
theorem alY : bp Tryz.prog 62 0 0 1 false := bt Tryz.underlying62 (by kernel_rfl) ty3 (by decide)
theorem alZ : bp Tryz.prog 62 1 1 1 false := bt Tryz.underlying62 (by kernel_rfl) ty3 (by decide)
theorem al0 : bp Tryz.prog 62 2 2 1 true := bt Tryz.underlying62 (by kernel_rfl) acR (by decide)
theorem agV : TyS Tryz.prog 65 1 false := ⟨Tryz.sizeOf65, Tryz.isAgg65⟩
theorem sl65 : SlS Tryz.prog 65 120 2 := ⟨Tryz.underlying65, Tryz.sizeOf120⟩
theorem asm : ow Tryz.prog 65 120 2 16 := ⟨Tryz.underlying65, (by obtain ⟨i, h1, h2, h3, h4⟩ := info_parts (by kernel_rfl : (Tryz.prog.info? 120).map (fun i => (i.zero, i.size, i.bytes)) = some (some (.agg #[.int .i64 0, .int .i64 0]), 2, 16)); exact ⟨i, _, h1, h2, h3, h4, rfl⟩), by decide⟩
theorem asn : nG Tryz.prog 65 120 2 [.int .i64 0, .int .i64 0] := ⟨Tryz.underlying65, Tryz.sizeOf120, aju, rfl⟩
theorem ty66 : TyS Tryz.prog 66 2 true := ⟨Tryz.sizeOf66, Tryz.isAgg66⟩
theorem aso : dW Tryz.prog 66 [.slice none 0 0, .slice none 0 0] [(0, 1), (1, 1)] := eE Tryz.zeroValue66 Tryz.underlying66 (fun w => by kernel_rfl)
theorem al1 : bJ Tryz.prog 66 0 0 := ⟨fun a w => by kernel_rfl⟩
theorem al2 : bJ Tryz.prog 66 1 1 := ⟨fun a w => by kernel_rfl⟩
theorem al3 : bp Tryz.prog 66 0 0 1 false := bt Tryz.underlying66 (by kernel_rfl) agV (by decide)
theorem al4 : bp Tryz.prog 66 1 1 1 false := bt Tryz.underlying66 (by kernel_rfl) acO (by decide)
theorem ty67 : TyS Tryz.prog 67 2 true := ⟨Tryz.sizeOf67, Tryz.isAgg67⟩
theorem asp : dW Tryz.prog 67 [.slice none 0 0, .slice none 0 0] [(0, 1), (1, 1)] := eE Tryz.zeroValue67 Tryz.underlying67 (fun w => by kernel_rfl)
theorem al5 : bJ Tryz.prog 67 0 0 := ⟨fun a w => by kernel_rfl⟩
theorem al6 : bJ Tryz.prog 67 1 1 := ⟨fun a w => by kernel_rfl⟩
theorem al7 : bp Tryz.prog 67 0 0 1 false := bt Tryz.underlying67 (by kernel_rfl) agV (by decide)
theorem al8 : bp Tryz.prog 67 1 1 1 false := bt Tryz.underlying67 (by kernel_rfl) acO (by decide)
theorem ty70 : TyS Tryz.prog 70 1 false := ⟨Tryz.sizeOf70, Tryz.isAgg70⟩
theorem sl70 : SlS Tryz.prog 70 23 1 := ⟨Tryz.underlying70, Tryz.sizeOf23⟩
theorem asq : ow Tryz.prog 70 23 1 24 := ⟨Tryz.underlying70, (by obtain ⟨i, h1, h2, h3, h4⟩ := info_parts (by kernel_rfl : (Tryz.prog.info? 23).map (fun i => (i.zero, i.size, i.bytes)) = some (some (.slice none 0 0), 1, 24)); exact ⟨i, _, h1, h2, h3, h4, rfl⟩), by decide⟩
theorem asr : nG Tryz.prog 70 23 1 [.slice none 0 0] := ⟨Tryz.underlying70, Tryz.sizeOf23, anW, rfl⟩
theorem ty73 : TyS Tryz.prog 73 2 true := ⟨Tryz.sizeOf73, Tryz.isAgg73⟩
theorem ass : dW Tryz.prog 73 [.slice none 0 0, .int .i64 0] [(0, 1), (1, 1)] := eE Tryz.zeroValue73 Tryz.underlying73 (fun w => by kernel_rfl)
theorem al9 : bJ Tryz.prog 73 0 0 := ⟨fun a w => by kernel_rfl⟩
theorem ama : bJ Tryz.prog 73 1 1 := ⟨fun a w => by kernel_rfl⟩
theorem amb : bp Tryz.prog 73 0 0 1 false := bt Tryz.underlying73 (by kernel_rfl) acO (by decide)
theorem amc : bp Tryz.prog 73 1 1 1 false := bt Tryz.underlying73 (by kernel_rfl) ty3 (by decide)
theorem ty74 : TyS Tryz.prog 74 2 true := ⟨Tryz.sizeOf74, Tryz.isAgg74⟩
theorem ast : dW Tryz.prog 74 [.slice none 0 0, .int .i64 0] [(0, 1), (1, 1)] := eE Tryz.zeroValue74 Tryz.underlying74 (fun w => by kernel_rfl)
theorem amd : bJ Tryz.prog 74 0 0 := ⟨fun a w => by kernel_rfl⟩
theorem ame : bJ Tryz.prog 74 1 1 := ⟨fun a w => by kernel_rfl⟩
theorem amf : bp Tryz.prog 74 0 0 1 false := bt Tryz.underlying74 (by kernel_rfl) acO (by decide)
theorem amg : bp Tryz.prog 74 1 1 1 false := bt Tryz.underlying74 (by kernel_rfl) ty3 (by decide)
theorem ty75 : TyS Tryz.prog 75 1 false := ⟨Tryz.sizeOf75, Tryz.isAgg75⟩
theorem ty77 : TyS Tryz.prog 77 5 true := ⟨Tryz.sizeOf77, Tryz.isAgg77⟩
theorem asu : dW Tryz.prog 77 [.int .i64 0, .int .i64 0, .int .i64 0, .int .i64 0, .int .i64 0] [(0, 1), (1, 1), (2, 1), (3, 1), (4, 1)] := eE Tryz.zeroValue77 Tryz.underlying77 (fun w => by kernel_rfl)
theorem amh : bJ Tryz.prog 77 0 0 := ⟨fun a w => by kernel_rfl⟩
theorem ami : bJ Tryz.prog 77 1 1 := ⟨fun a w => by kernel_rfl⟩
theorem amj : bJ Tryz.prog 77 2 2 := ⟨fun a w => by kernel_rfl⟩
theorem amk : bJ Tryz.prog 77 3 3 := ⟨fun a w => by kernel_rfl⟩
theorem aml : bJ Tryz.prog 77 4 4 := ⟨fun a w => by kernel_rfl⟩
theorem amm : bp Tryz.prog 77 0 0 1 false := bt Tryz.underlying77 (by kernel_rfl) ty3 (by decide)
theorem amn : bp Tryz.prog 77 1 1 1 false := bt Tryz.underlying77 (by kernel_rfl) ty3 (by decide)
theorem amo : bp Tryz.prog 77 2 2 1 false := bt Tryz.underlying77 (by kernel_rfl) ty3 (by decide)
theorem amp : bp Tryz.prog 77 3 3 1 false := bt Tryz.underlying77 (by kernel_rfl) ty3 (by decide)
theorem amq : bp Tryz.prog 77 4 4 1 false := bt Tryz.underlying77 (by kernel_rfl) ty3 (by decide)
theorem ty78 : TyS Tryz.prog 78 5 true := ⟨Tryz.sizeOf78, Tryz.isAgg78⟩
theorem asv : dW Tryz.prog 78 [.int .i64 0, .int .i64 0, .int .i64 0, .int .i64 0, .int .i64 0] [(0, 1), (1, 1), (2, 1), (3, 1), (4, 1)] := eE Tryz.zeroValue78 Tryz.underlying78 (fun w => by kernel_rfl)
theorem amr : bJ Tryz.prog 78 0 0 := ⟨fun a w => by kernel_rfl⟩
theorem ams : bJ Tryz.prog 78 1 1 := ⟨fun a w => by kernel_rfl⟩
theorem amt : bJ Tryz.prog 78 2 2 := ⟨fun a w => by kernel_rfl⟩
theorem amu : bJ Tryz.prog 78 3 3 := ⟨fun a w => by kernel_rfl⟩
theorem amv : bJ Tryz.prog 78 4 4 := ⟨fun a w => by kernel_rfl⟩
theorem amw : bp Tryz.prog 78 0 0 1 false := bt Tryz.underlying78 (by kernel_rfl) ty3 (by decide)
theorem amx : bp Tryz.prog 78 1 1 1 false := bt Tryz.underlying78 (by kernel_rfl) ty3 (by decide)
theorem amy : bp Tryz.prog 78 2 2 1 false := bt Tryz.underlying78 (by kernel_rfl) ty3 (by decide)
theorem amz : bp Tryz.prog 78 3 3 1 false := bt Tryz.underlying78 (by kernel_rfl) ty3 (by decide)
theorem amA : bp Tryz.prog 78 4 4 1 false := bt Tryz.underlying78 (by kernel_rfl) ty3 (by decide)
theorem asw (a0 b0 : Int) (a1 b1 : Int) (a2 b2 : Int) (a3 b3 : Int) (a4 b4 : Int) (w : World) : (Op.eqFields 9999 #[.int .i64 a0, .int .i64 a1, .int .i64 a2, .int .i64 a3, .int .i64 a4] #[.int .i64 b0, .int .i64 b1, .int .i64 b2, .int .i64 b3, .int .i64 b4] (Tryz.prog.fieldsOf 78).toList).run Tryz.prog w = .ok (decide (a0 = b0) && (decide (a1 = b1) && (decide (a2 = b2) && (decide (a3 = b3) && (decide (a4 = b4) && true))))) w := by
 have hf : (Tryz.prog.fieldsOf 78).toList.map (fun f => (f.name == "_", f.type, f.offset)) = [(false, 3, 0), (false, 3, 1), (false, 3, 2), (false, 3, 3), (false, 3, 4)] := by kernel_rfl
 have q : (Op.eqFields 9999 #[.int .i64 a0, .int .i64 a1, .int .i64 a2, .int .i64 a3, .int .i64 a4] #[.int .i64 b0, .int .i64 b1, .int .i64 b2, .int .i64 b3, .int .i64 b4] (Tryz.prog.fieldsOf 78).toList).run Tryz.prog w = .ok (decide (a0 = b0) && (decide (a1 = b1) && (decide (a2 = b2) && (decide (a3 = b3) && (decide (a4 = b4) && true))))) w := by
  obtain ⟨f0, t0, e0, h0, hf⟩ := fL hf
  obtain ⟨f1, t1, e1, h1, hf⟩ := fL hf
  obtain ⟨f2, t2, e2, h2, hf⟩ := fL hf
  obtain ⟨f3, t3, e3, h3, hf⟩ := fL hf
  obtain ⟨f4, t4, e4, h4, hf⟩ := fL hf
  rw [e0, e1, e2, e3, e4, tI hf]
  exact lG h0 Tryz.isAgg3 Tryz.underlying3 rfl rfl (lG h1 Tryz.isAgg3 Tryz.underlying3 rfl rfl (lG h2 Tryz.isAgg3 Tryz.underlying3 rfl rfl (lG h3 Tryz.isAgg3 Tryz.underlying3 rfl rfl (lG h4 Tryz.isAgg3 Tryz.underlying3 rfl rfl (yA)))))
 exact q
theorem agW (x y : Operand) (a0 b0 : Int) (a1 b1 : Int) (a2 b2 : Int) (a3 b3 : Int) (a4 b4 : Int) (w : World) : (do eqGuard .neq 78 x y (.agg #[.int .i64 a0, .int .i64 a1, .int .i64 a2, .int .i64 a3, .int .i64 a4]) (.agg #[.int .i64 b0, .int .i64 b1, .int .i64 b2, .int .i64 b3, .int .i64 b4]); binOp .neq 78 (.agg #[.int .i64 a0, .int .i64 a1, .int .i64 a2, .int .i64 a3, .int .i64 a4]) (.agg #[.int .i64 b0, .int .i64 b1, .int .i64 b2, .int .i64 b3, .int .i64 b4]) : Sem Value).run Tryz.prog w = .ok (.bool (!(decide (a0 = b0) && (decide (a1 = b1) && (decide (a2 = b2) && (decide (a3 = b3) && (decide (a4 = b4) && true))))))) w := yB _ _ _ x y (by kernel_rfl) (by kernel_rfl) (by kernel_rfl) (asw a0 b0 a1 b1 a2 b2 a3 b3 a4 b4 w)
theorem ty80 : TyS Tryz.prog 80 5 true := ⟨Tryz.sizeOf80, Tryz.isAgg80⟩
theorem asx : dW Tryz.prog 80 [.int .i64 0, .int .i64 0, .bool false, .slice none 0 0, .slice none 0 0] [(0, 1), (1, 1), (2, 1), (3, 1), (4, 1)] := eE Tryz.zeroValue80 Tryz.underlying80 (fun w => by kernel_rfl)
theorem amB : bJ Tryz.prog 80 0 0 := ⟨fun a w => by kernel_rfl⟩
theorem amC : bJ Tryz.prog 80 1 1 := ⟨fun a w => by kernel_rfl⟩
theorem amD : bJ Tryz.prog 80 2 2 := ⟨fun a w => by kernel_rfl⟩
theorem amE : bJ Tryz.prog 80 3 3 := ⟨fun a w => by kernel_rfl⟩
theorem amF : bJ Tryz.prog 80 4 4 := ⟨fun a w => by kernel_rfl⟩
theorem amG : bp Tryz.prog 80 0 0 1 false := bt Tryz.underlying80 (by kernel_rfl) ty3 (by decide)
theorem amH : bp Tryz.prog 80 1 1 1 false := bt Tryz.underlying80 (by kernel_rfl) ty3 (by decide)
theorem amI : bp Tryz.prog 80 2 2 1 false := bt Tryz.underlying80 (by kernel_rfl) ty4 (by decide)
theorem amJ : bp Tryz.prog 80 3 3 1 false := bt Tryz.underlying80 (by kernel_rfl) acQ (by decide)
theorem amK : bp Tryz.prog 80 4 4 1 true := bt Tryz.underlying80 (by kernel_rfl) acR (by decide)
theorem ty81 : TyS Tryz.prog 81 5 true := ⟨Tryz.sizeOf81, Tryz.isAgg81⟩
theorem asy : dW Tryz.prog 81 [.int .i64 0, .int .i64 0, .bool false, .slice none 0 0, .slice none 0 0] [(0, 1), (1, 1), (2, 1), (3, 1), (4, 1)] := eE Tryz.zeroValue81 Tryz.underlying81 (fun w => by kernel_rfl)
theorem amL : bJ Tryz.prog 81 0 0 := ⟨fun a w => by kernel_rfl⟩
theorem amM : bJ Tryz.prog 81 1 1 := ⟨fun a w => by kernel_rfl⟩
theorem amN : bJ Tryz.prog 81 2 2 := ⟨fun a w => by kernel_rfl⟩
theorem amO : bJ Tryz.prog 81 3 3 := ⟨fun a w => by kernel_rfl⟩
theorem amP : bJ Tryz.prog 81 4 4 := ⟨fun a w => by kernel_rfl⟩
theorem amQ : bp Tryz.prog 81 0 0 1 false := bt Tryz.underlying81 (by kernel_rfl) ty3 (by decide)
theorem amR : bp Tryz.prog 81 1 1 1 false := bt Tryz.underlying81 (by kernel_rfl) ty3 (by decide)
theorem amS : bp Tryz.prog 81 2 2 1 false := bt Tryz.underlying81 (by kernel_rfl) ty4 (by decide)
theorem amT : bp Tryz.prog 81 3 3 1 false := bt Tryz.underlying81 (by kernel_rfl) acQ (by decide)
theorem amU : bp Tryz.prog 81 4 4 1 true := bt Tryz.underlying81 (by kernel_rfl) acR (by decide)
theorem ty84 : TyS Tryz.prog 84 3 true := ⟨Tryz.sizeOf84, Tryz.isAgg84⟩
theorem asz : dW Tryz.prog 84 [.int .i64 0, .int .i64 0, .int .i64 0] [(0, 1), (1, 1), (2, 1)] := eE Tryz.zeroValue84 Tryz.underlying84 (fun w => by kernel_rfl)
theorem amV : bJ Tryz.prog 84 0 0 := ⟨fun a w => by kernel_rfl⟩
theorem amW : bJ Tryz.prog 84 1 1 := ⟨fun a w => by kernel_rfl⟩
theorem amX : bJ Tryz.prog 84 2 2 := ⟨fun a w => by kernel_rfl⟩
theorem amY : bp Tryz.prog 84 0 0 1 false := bt Tryz.underlying84 (by kernel_rfl) ty3 (by decide)
theorem amZ : bp Tryz.prog 84 1 1 1 false := bt Tryz.underlying84 (by kernel_rfl) ty3 (by decide)
theorem am0 : bp Tryz.prog 84 2 2 1 false := bt Tryz.underlying84 (by kernel_rfl) ty3 (by decide)
theorem agX : TyS Tryz.prog 85 3 true := ⟨Tryz.sizeOf85, Tryz.isAgg85⟩
theorem asA : dW Tryz.prog 85 [.int .i64 0, .int .i64 0, .int .i64 0] [(0, 1), (1, 1), (2, 1)] := eE Tryz.zeroValue85 Tryz.underlying85 (fun w => by kernel_rfl)
theorem am1 : bJ Tryz.prog 85 0 0 := ⟨fun a w => by kernel_rfl⟩
theorem am2 : bJ Tryz.prog 85 1 1 := ⟨fun a w => by kernel_rfl⟩
theorem am3 : bJ Tryz.prog 85 2 2 := ⟨fun a w => by kernel_rfl⟩
theorem am4 : bp Tryz.prog 85 0 0 1 false := bt Tryz.underlying85 (by kernel_rfl) ty3 (by decide)
theorem am5 : bp Tryz.prog 85 1 1 1 false := bt Tryz.underlying85 (by kernel_rfl) ty3 (by decide)
theorem am6 : bp Tryz.prog 85 2 2 1 false := bt Tryz.underlying85 (by kernel_rfl) ty3 (by decide)
theorem asB (a0 b0 : Int) (a1 b1 : Int) (a2 b2 : Int) (w : World) : (Op.eqFields 9999 #[.int .i64 a0, .int .i64 a1, .int .i64 a2] #[.int .i64 b0, .int .i64 b1, .int .i64 b2] (Tryz.prog.fieldsOf 85).toList).run Tryz.prog w = .ok (decide (a0 = b0) && (decide (a1 = b1) && (decide (a2 = b2) && true))) w := by
 have hf : (Tryz.prog.fieldsOf 85).toList.map (fun f => (f.name == "_", f.type, f.offset)) = [(false, 3, 0), (false, 3, 1), (false, 3, 2)] := by kernel_rfl
 have q : (Op.eqFields 9999 #[.int .i64 a0, .int .i64 a1, .int .i64 a2] #[.int .i64 b0, .int .i64 b1, .int .i64 b2] (Tryz.prog.fieldsOf 85).toList).run Tryz.prog w = .ok (decide (a0 = b0) && (decide (a1 = b1) && (decide (a2 = b2) && true))) w := by
  obtain ⟨f0, t0, e0, h0, hf⟩ := fL hf
  obtain ⟨f1, t1, e1, h1, hf⟩ := fL hf
  obtain ⟨f2, t2, e2, h2, hf⟩ := fL hf
  rw [e0, e1, e2, tI hf]
  exact lG h0 Tryz.isAgg3 Tryz.underlying3 rfl rfl (lG h1 Tryz.isAgg3 Tryz.underlying3 rfl rfl (lG h2 Tryz.isAgg3 Tryz.underlying3 rfl rfl (yA)))
 exact q
theorem zJ (x y : Operand) (a0 b0 : Int) (a1 b1 : Int) (a2 b2 : Int) (w : World) : (do eqGuard .neq 85 x y (.agg #[.int .i64 a0, .int .i64 a1, .int .i64 a2]) (.agg #[.int .i64 b0, .int .i64 b1, .int .i64 b2]); binOp .neq 85 (.agg #[.int .i64 a0, .int .i64 a1, .int .i64 a2]) (.agg #[.int .i64 b0, .int .i64 b1, .int .i64 b2]) : Sem Value).run Tryz.prog w = .ok (.bool (!(decide (a0 = b0) && (decide (a1 = b1) && (decide (a2 = b2) && true))))) w := yB _ _ _ x y (by kernel_rfl) (by kernel_rfl) (by kernel_rfl) (asB a0 b0 a1 b1 a2 b2 w)
theorem ty86 : TyS Tryz.prog 86 2 true := ⟨Tryz.sizeOf86, Tryz.isAgg86⟩
theorem asC : dW Tryz.prog 86 [.int .i64 0, .bool false] [(0, 1), (1, 1)] := eE Tryz.zeroValue86 Tryz.underlying86 (fun w => by kernel_rfl)
theorem am7 : bJ Tryz.prog 86 0 0 := ⟨fun a w => by kernel_rfl⟩
theorem am8 : bJ Tryz.prog 86 1 1 := ⟨fun a w => by kernel_rfl⟩
theorem am9 : bp Tryz.prog 86 0 0 1 false := bt Tryz.underlying86 (by kernel_rfl) ty3 (by decide)
theorem ana : bp Tryz.prog 86 1 1 1 false := bt Tryz.underlying86 (by kernel_rfl) ty4 (by decide)
theorem ty87 : TyS Tryz.prog 87 2 true := ⟨Tryz.sizeOf87, Tryz.isAgg87⟩
theorem asD : dW Tryz.prog 87 [.int .i64 0, .bool false] [(0, 1), (1, 1)] := eE Tryz.zeroValue87 Tryz.underlying87 (fun w => by kernel_rfl)
theorem anb : bJ Tryz.prog 87 0 0 := ⟨fun a w => by kernel_rfl⟩
theorem anc : bJ Tryz.prog 87 1 1 := ⟨fun a w => by kernel_rfl⟩
theorem ane : bp Tryz.prog 87 0 0 1 false := bt Tryz.underlying87 (by kernel_rfl) ty3 (by decide)
theorem anf : bp Tryz.prog 87 1 1 1 false := bt Tryz.underlying87 (by kernel_rfl) ty4 (by decide)
theorem asE (a0 b0 : Int) (a1 b1 : Bool) (w : World) : (Op.eqFields 9999 #[.int .i64 a0, .bool a1] #[.int .i64 b0, .bool b1] (Tryz.prog.fieldsOf 87).toList).run Tryz.prog w = .ok (decide (a0 = b0) && ((a1 == b1) && true)) w := by
 have hf : (Tryz.prog.fieldsOf 87).toList.map (fun f => (f.name == "_", f.type, f.offset)) = [(false, 3, 0), (false, 4, 1)] := by kernel_rfl
 have q : (Op.eqFields 9999 #[.int .i64 a0, .bool a1] #[.int .i64 b0, .bool b1] (Tryz.prog.fieldsOf 87).toList).run Tryz.prog w = .ok (decide (a0 = b0) && ((a1 == b1) && true)) w := by
  obtain ⟨f0, t0, e0, h0, hf⟩ := fL hf
  obtain ⟨f1, t1, e1, h1, hf⟩ := fL hf
  rw [e0, e1, tI hf]
  exact lG h0 Tryz.isAgg3 Tryz.underlying3 rfl rfl (agO h1 Tryz.isAgg4 Tryz.underlying4 rfl rfl (yA))
 exact q
theorem agY (x y : Operand) (a0 b0 : Int) (a1 b1 : Bool) (w : World) : (do eqGuard .neq 87 x y (.agg #[.int .i64 a0, .bool a1]) (.agg #[.int .i64 b0, .bool b1]); binOp .neq 87 (.agg #[.int .i64 a0, .bool a1]) (.agg #[.int .i64 b0, .bool b1]) : Sem Value).run Tryz.prog w = .ok (.bool (!(decide (a0 = b0) && ((a1 == b1) && true)))) w := yB _ _ _ x y (by kernel_rfl) (by kernel_rfl) (by kernel_rfl) (asE a0 b0 a1 b1 w)
theorem ty88 : TyS Tryz.prog 88 1 false := ⟨Tryz.sizeOf88, Tryz.isAgg88⟩
theorem ty90 : TyS Tryz.prog 90 3 true := ⟨Tryz.sizeOf90, Tryz.isAgg90⟩
theorem asF : dW Tryz.prog 90 [.slice none 0 0, .slice none 0 0, .slice none 0 0] [(0, 3)] := eE Tryz.zeroValue90 Tryz.underlying90 (fun w => by kernel_rfl)
theorem ang : bJ Tryz.prog 90 0 0 := ⟨fun a w => by kernel_rfl⟩
theorem anh : bp Tryz.prog 90 0 0 3 true := bt Tryz.underlying90 (by kernel_rfl) agR (by decide)
theorem ty91 : TyS Tryz.prog 91 3 true := ⟨Tryz.sizeOf91, Tryz.isAgg91⟩
theorem asG : dW Tryz.prog 91 [.slice none 0 0, .slice none 0 0, .slice none 0 0] [(0, 3)] := eE Tryz.zeroValue91 Tryz.underlying91 (fun w => by kernel_rfl)
theorem ani : bJ Tryz.prog 91 0 0 := ⟨fun a w => by kernel_rfl⟩
theorem anj : bp Tryz.prog 91 0 0 3 true := bt Tryz.underlying91 (by kernel_rfl) agR (by decide)
theorem ty92 : TyS Tryz.prog 92 1 false := ⟨Tryz.sizeOf92, Tryz.isAgg92⟩
theorem sl92 : SlS Tryz.prog 92 1 1 := ⟨Tryz.underlying92, Tryz.sizeOf1⟩
theorem asH : ow Tryz.prog 92 1 1 8 := ⟨Tryz.underlying92, (by obtain ⟨i, h1, h2, h3, h4⟩ := info_parts (by kernel_rfl : (Tryz.prog.info? 1).map (fun i => (i.zero, i.size, i.bytes)) = some (some (.nilFunc), 1, 8)); exact ⟨i, _, h1, h2, h3, h4, rfl⟩), by decide⟩
theorem asI : nG Tryz.prog 92 1 1 [.nilFunc] := ⟨Tryz.underlying92, Tryz.sizeOf1, ze1, rfl⟩
theorem ty95 : TyS Tryz.prog 95 1 false := ⟨Tryz.sizeOf95, Tryz.isAgg95⟩
theorem asJ : TyS Tryz.prog 105 3 true := ⟨Tryz.sizeOf105, Tryz.isAgg105⟩
theorem aok : dW Tryz.prog 105 [.int .i64 0, .int .i64 0, .int .i64 0] [(0, 1), (1, 1), (2, 1)] := eE Tryz.zeroValue105 Tryz.underlying105 (fun w => by kernel_rfl)
theorem agZ : bJ Tryz.prog 105 0 0 := ⟨fun a w => by kernel_rfl⟩
theorem ag0 : bJ Tryz.prog 105 1 1 := ⟨fun a w => by kernel_rfl⟩
theorem ag3 : bJ Tryz.prog 105 2 2 := ⟨fun a w => by kernel_rfl⟩
theorem ag4 : bp Tryz.prog 105 0 0 1 false := bt Tryz.underlying105 (by kernel_rfl) ty3 (by decide)
theorem ag5 : bp Tryz.prog 105 1 1 1 false := bt Tryz.underlying105 (by kernel_rfl) ty3 (by decide)
theorem ag6 : bp Tryz.prog 105 2 2 1 false := bt Tryz.underlying105 (by kernel_rfl) ty3 (by decide)
theorem asK : TyS Tryz.prog 106 3 true := ⟨Tryz.sizeOf106, Tryz.isAgg106⟩
theorem aol : dW Tryz.prog 106 [.int .i64 0, .int .i64 0, .int .i64 0] [(0, 1), (1, 1), (2, 1)] := eE Tryz.zeroValue106 Tryz.underlying106 (fun w => by kernel_rfl)
theorem ag7 : bJ Tryz.prog 106 0 0 := ⟨fun a w => by kernel_rfl⟩
theorem ag8 : bJ Tryz.prog 106 1 1 := ⟨fun a w => by kernel_rfl⟩
theorem ag9 : bJ Tryz.prog 106 2 2 := ⟨fun a w => by kernel_rfl⟩
theorem aha : bp Tryz.prog 106 0 0 1 false := bt Tryz.underlying106 (by kernel_rfl) ty3 (by decide)
theorem ahb : bp Tryz.prog 106 1 1 1 false := bt Tryz.underlying106 (by kernel_rfl) ty3 (by decide)
theorem ahc : bp Tryz.prog 106 2 2 1 false := bt Tryz.underlying106 (by kernel_rfl) ty3 (by decide)
theorem aom (a0 b0 : Int) (a1 b1 : Int) (a2 b2 : Int) (w : World) : (Op.eqFields 9999 #[.int .i64 a0, .int .i64 a1, .int .i64 a2] #[.int .i64 b0, .int .i64 b1, .int .i64 b2] (Tryz.prog.fieldsOf 106).toList).run Tryz.prog w = .ok (decide (a0 = b0) && (decide (a1 = b1) && (decide (a2 = b2) && true))) w := by
 have hf : (Tryz.prog.fieldsOf 106).toList.map (fun f => (f.name == "_", f.type, f.offset)) = [(false, 3, 0), (false, 3, 1), (false, 3, 2)] := by kernel_rfl
 have q : (Op.eqFields 9999 #[.int .i64 a0, .int .i64 a1, .int .i64 a2] #[.int .i64 b0, .int .i64 b1, .int .i64 b2] (Tryz.prog.fieldsOf 106).toList).run Tryz.prog w = .ok (decide (a0 = b0) && (decide (a1 = b1) && (decide (a2 = b2) && true))) w := by
  obtain ⟨f0, t0, e0, h0, hf⟩ := fL hf
  obtain ⟨f1, t1, e1, h1, hf⟩ := fL hf
  obtain ⟨f2, t2, e2, h2, hf⟩ := fL hf
  rw [e0, e1, e2, tI hf]
  exact lG h0 Tryz.isAgg3 Tryz.underlying3 rfl rfl (lG h1 Tryz.isAgg3 Tryz.underlying3 rfl rfl (lG h2 Tryz.isAgg3 Tryz.underlying3 rfl rfl (yA)))
 exact q
theorem abT (x y : Operand) (a0 b0 : Int) (a1 b1 : Int) (a2 b2 : Int) (w : World) : (do eqGuard .neq 106 x y (.agg #[.int .i64 a0, .int .i64 a1, .int .i64 a2]) (.agg #[.int .i64 b0, .int .i64 b1, .int .i64 b2]); binOp .neq 106 (.agg #[.int .i64 a0, .int .i64 a1, .int .i64 a2]) (.agg #[.int .i64 b0, .int .i64 b1, .int .i64 b2]) : Sem Value).run Tryz.prog w = .ok (.bool (!(decide (a0 = b0) && (decide (a1 = b1) && (decide (a2 = b2) && true))))) w := yB _ _ _ x y (by kernel_rfl) (by kernel_rfl) (by kernel_rfl) (aom a0 b0 a1 b1 a2 b2 w)
theorem asL : TyS Tryz.prog 109 1 false := ⟨Tryz.sizeOf109, Tryz.isAgg109⟩
theorem asM : TyS Tryz.prog 119 2 true := ⟨Tryz.sizeOf119, Tryz.isAgg119⟩
theorem aon : dW Tryz.prog 119 [.int .i64 0, .int .i64 0] [(0, 1), (1, 1)] := eE Tryz.zeroValue119 Tryz.underlying119 (fun w => by kernel_rfl)
theorem ahd : bJ Tryz.prog 119 0 0 := ⟨fun a w => by kernel_rfl⟩
theorem ahe : bJ Tryz.prog 119 1 1 := ⟨fun a w => by kernel_rfl⟩
theorem ahf : bp Tryz.prog 119 0 0 1 false := bt Tryz.underlying119 (by kernel_rfl) ty3 (by decide)
theorem ahg : bp Tryz.prog 119 1 1 1 false := bt Tryz.underlying119 (by kernel_rfl) ty3 (by decide)
theorem asN : TyS Tryz.prog 120 2 true := ⟨Tryz.sizeOf120, Tryz.isAgg120⟩
theorem aoo : dW Tryz.prog 120 [.int .i64 0, .int .i64 0] [(0, 1), (1, 1)] := eE Tryz.zeroValue120 Tryz.underlying120 (fun w => by kernel_rfl)
theorem ahh : bJ Tryz.prog 120 0 0 := ⟨fun a w => by kernel_rfl⟩
theorem ahi : bJ Tryz.prog 120 1 1 := ⟨fun a w => by kernel_rfl⟩
theorem ahj : bp Tryz.prog 120 0 0 1 false := bt Tryz.underlying120 (by kernel_rfl) ty3 (by decide)
theorem ahk : bp Tryz.prog 120 1 1 1 false := bt Tryz.underlying120 (by kernel_rfl) ty3 (by decide)
theorem asO : TyS Tryz.prog 123 1 false := ⟨Tryz.sizeOf123, Tryz.isAgg123⟩
theorem asP : TyS Tryz.prog 124 1 false := ⟨Tryz.sizeOf124, Tryz.isAgg124⟩
theorem asQ : TyS Tryz.prog 133 1 false := ⟨Tryz.sizeOf133, Tryz.isAgg133⟩
theorem asR : TyS Tryz.prog 135 1 false := ⟨Tryz.sizeOf135, Tryz.isAgg135⟩
theorem asS : TyS Tryz.prog 137 1 false := ⟨Tryz.sizeOf137, Tryz.isAgg137⟩
theorem asT : TyS Tryz.prog 138 1 false := ⟨Tryz.sizeOf138, Tryz.isAgg138⟩
theorem asU : TyS Tryz.prog 141 1 false := ⟨Tryz.sizeOf141, Tryz.isAgg141⟩
theorem asV : TyS Tryz.prog 152 1 false := ⟨Tryz.sizeOf152, Tryz.isAgg152⟩
theorem asW : SlS Tryz.prog 152 155 4 := ⟨Tryz.underlying152, Tryz.sizeOf155⟩
theorem aop : ow Tryz.prog 152 155 4 32 := ⟨Tryz.underlying152, (by obtain ⟨i, h1, h2, h3, h4⟩ := info_parts (by kernel_rfl : (Tryz.prog.info? 155).map (fun i => (i.zero, i.size, i.bytes)) = some (some (.agg #[.int .i64 0, .int .i64 0, .int .i64 0, .int .i64 0]), 4, 32)); exact ⟨i, _, h1, h2, h3, h4, rfl⟩), by decide⟩
theorem aoq : nG Tryz.prog 152 155 4 [.int .i64 0, .int .i64 0, .int .i64 0, .int .i64 0] := ⟨Tryz.underlying152, Tryz.sizeOf155, ajv, rfl⟩
theorem asX : TyS Tryz.prog 154 4 true := ⟨Tryz.sizeOf154, Tryz.isAgg154⟩
theorem aor : dW Tryz.prog 154 [.int .i64 0, .int .i64 0, .int .i64 0, .int .i64 0] [(0, 1), (1, 3)] := eE Tryz.zeroValue154 Tryz.underlying154 (fun w => by kernel_rfl)
theorem ahl : bJ Tryz.prog 154 0 0 := ⟨fun a w => by kernel_rfl⟩
theorem ahm : bJ Tryz.prog 154 1 1 := ⟨fun a w => by kernel_rfl⟩
theorem ahn : bp Tryz.prog 154 0 0 1 false := bt Tryz.underlying154 (by kernel_rfl) ty3 (by decide)
theorem aho : bp Tryz.prog 154 1 1 3 true := bt Tryz.underlying154 (by kernel_rfl) agX (by decide)
theorem asY : TyS Tryz.prog 155 4 true := ⟨Tryz.sizeOf155, Tryz.isAgg155⟩
theorem aos : dW Tryz.prog 155 [.int .i64 0, .int .i64 0, .int .i64 0, .int .i64 0] [(0, 1), (1, 3)] := eE Tryz.zeroValue155 Tryz.underlying155 (fun w => by kernel_rfl)
theorem ahp : bJ Tryz.prog 155 0 0 := ⟨fun a w => by kernel_rfl⟩
theorem ahq : bJ Tryz.prog 155 1 1 := ⟨fun a w => by kernel_rfl⟩
theorem ahr : bp Tryz.prog 155 0 0 1 false := bt Tryz.underlying155 (by kernel_rfl) ty3 (by decide)
theorem ahs : bp Tryz.prog 155 1 1 3 true := bt Tryz.underlying155 (by kernel_rfl) agX (by decide)
theorem asZ : TyS Tryz.prog 156 1 false := ⟨Tryz.sizeOf156, Tryz.isAgg156⟩
theorem as0 : TyS Tryz.prog 165 1 false := ⟨Tryz.sizeOf165, Tryz.isAgg165⟩
theorem as1 : TyS Tryz.prog 174 1 false := ⟨Tryz.sizeOf174, Tryz.isAgg174⟩
theorem as2 : TyS Tryz.prog 180 1 false := ⟨Tryz.sizeOf180, Tryz.isAgg180⟩
theorem aeH : TyS Tryz.prog 182 1 false := ⟨Tryz.sizeOf182, Tryz.isAgg182⟩
theorem as3 : SlS Tryz.prog 182 5 1 := ⟨Tryz.underlying182, Tryz.sizeOf5⟩
theorem aot : ow Tryz.prog 182 5 1 1 := ⟨Tryz.underlying182, (by obtain ⟨i, h1, h2, h3, h4⟩ := info_parts (by kernel_rfl : (Tryz.prog.info? 5).map (fun i => (i.zero, i.size, i.bytes)) = some (some (.int .u8 0), 1, 1)); exact ⟨i, _, h1, h2, h3, h4, rfl⟩), by decide⟩
theorem aou : nG Tryz.prog 182 5 1 [.int .u8 0] := ⟨Tryz.underlying182, Tryz.sizeOf5, ze5, rfl⟩
theorem as4 : TyS Tryz.prog 186 1 false := ⟨Tryz.sizeOf186, Tryz.isAgg186⟩
theorem aeI : TyS Tryz.prog 194 1 false := ⟨Tryz.sizeOf194, Tryz.isAgg194⟩
theorem as5 : TyS Tryz.prog 196 1 false := ⟨Tryz.sizeOf196, Tryz.isAgg196⟩
theorem as6 : TyS Tryz.prog 200 2 true := ⟨Tryz.sizeOf200, Tryz.isAgg200⟩
theorem aov : dW Tryz.prog 200 [.slice none 0 0, .int .i64 0] [(0, 1), (1, 1)] := eE Tryz.zeroValue200 Tryz.underlying200 (fun w => by kernel_rfl)
theorem aht : bJ Tryz.prog 200 0 0 := ⟨fun a w => by kernel_rfl⟩
theorem ahu : bJ Tryz.prog 200 1 1 := ⟨fun a w => by kernel_rfl⟩
theorem ahv : bp Tryz.prog 200 0 0 1 false := bt Tryz.underlying200 (by kernel_rfl) aeH (by decide)
theorem ahw : bp Tryz.prog 200 1 1 1 false := bt Tryz.underlying200 (by kernel_rfl) ty3 (by decide)
theorem aeJ : TyS Tryz.prog 201 2 true := ⟨Tryz.sizeOf201, Tryz.isAgg201⟩
theorem aow : dW Tryz.prog 201 [.slice none 0 0, .int .i64 0] [(0, 1), (1, 1)] := eE Tryz.zeroValue201 Tryz.underlying201 (fun w => by kernel_rfl)
theorem ahx : bJ Tryz.prog 201 0 0 := ⟨fun a w => by kernel_rfl⟩
theorem ahy : bJ Tryz.prog 201 1 1 := ⟨fun a w => by kernel_rfl⟩
theorem ahz : bp Tryz.prog 201 0 0 1 false := bt Tryz.underlying201 (by kernel_rfl) aeH (by decide)
theorem ahA : bp Tryz.prog 201 1 1 1 false := bt Tryz.underlying201 (by kernel_rfl) ty3 (by decide)
theorem as7 : TyS Tryz.prog 207 1 false := ⟨Tryz.sizeOf207, Tryz.isAgg207⟩
theorem as8 : TyS Tryz.prog 211 1 false := ⟨Tryz.sizeOf211, Tryz.isAgg211⟩
theorem as9 : TyS Tryz.prog 213 2 true := ⟨Tryz.sizeOf213, Tryz.isAgg213⟩
theorem aox : dW Tryz.prog 213 [.slice none 0 0, .int .i64 0] [(0, 2)] := eE Tryz.zeroValue213 Tryz.underlying213 (fun w => by kernel_rfl)
theorem ahB : bJ Tryz.prog 213 0 0 := ⟨fun a w => by kernel_rfl⟩
theorem ahC : bp Tryz.prog 213 0 0 2 true := bt Tryz.underlying213 (by kernel_rfl) aeJ (by decide)
theorem ata : TyS Tryz.prog 214 2 true := ⟨Tryz.sizeOf214, Tryz.isAgg214⟩
theorem aoy : dW Tryz.prog 214 [.slice none 0 0, .int .i64 0] [(0, 2)] := eE Tryz.zeroValue214 Tryz.underlying214 (fun w => by kernel_rfl)
theorem ahD : bJ Tryz.prog 214 0 0 := ⟨fun a w => by kernel_rfl⟩
theorem ahE : bp Tryz.prog 214 0 0 2 true := bt Tryz.underlying214 (by kernel_rfl) aeJ (by decide)
theorem atb : TyS Tryz.prog 220 1 false := ⟨Tryz.sizeOf220, Tryz.isAgg220⟩
theorem atc : TyS Tryz.prog 224 1 false := ⟨Tryz.sizeOf224, Tryz.isAgg224⟩
theorem atd : TyS Tryz.prog 228 1 false := ⟨Tryz.sizeOf228, Tryz.isAgg228⟩
theorem ate : TyS Tryz.prog 230 4 true := ⟨Tryz.sizeOf230, Tryz.isAgg230⟩
theorem aoz : dW Tryz.prog 230 [.pointer none, .pointer none, .pointer none, .string ⟨#[]⟩] [(0, 1), (1, 1), (2, 1), (3, 1)] := eE Tryz.zeroValue230 Tryz.underlying230 (fun w => by kernel_rfl)
theorem ahF : bJ Tryz.prog 230 0 0 := ⟨fun a w => by kernel_rfl⟩
theorem ahG : bJ Tryz.prog 230 1 1 := ⟨fun a w => by kernel_rfl⟩
theorem ahH : bJ Tryz.prog 230 2 2 := ⟨fun a w => by kernel_rfl⟩
theorem ahI : bJ Tryz.prog 230 3 3 := ⟨fun a w => by kernel_rfl⟩
theorem ahJ : bp Tryz.prog 230 0 0 1 false := bt Tryz.underlying230 (by kernel_rfl) wF (by decide)
theorem ahK : bp Tryz.prog 230 1 1 1 false := bt Tryz.underlying230 (by kernel_rfl) wF (by decide)
theorem ahL : bp Tryz.prog 230 2 2 1 false := bt Tryz.underlying230 (by kernel_rfl) wF (by decide)
theorem ahM : bp Tryz.prog 230 3 3 1 false := bt Tryz.underlying230 (by kernel_rfl) ty9 (by decide)
theorem atf : TyS Tryz.prog 231 4 true := ⟨Tryz.sizeOf231, Tryz.isAgg231⟩
theorem aoA : dW Tryz.prog 231 [.pointer none, .pointer none, .pointer none, .string ⟨#[]⟩] [(0, 1), (1, 1), (2, 1), (3, 1)] := eE Tryz.zeroValue231 Tryz.underlying231 (fun w => by kernel_rfl)
theorem ahN : bJ Tryz.prog 231 0 0 := ⟨fun a w => by kernel_rfl⟩
theorem ahO : bJ Tryz.prog 231 1 1 := ⟨fun a w => by kernel_rfl⟩
theorem ahP : bJ Tryz.prog 231 2 2 := ⟨fun a w => by kernel_rfl⟩
theorem ahQ : bJ Tryz.prog 231 3 3 := ⟨fun a w => by kernel_rfl⟩
theorem ahR : bp Tryz.prog 231 0 0 1 false := bt Tryz.underlying231 (by kernel_rfl) wF (by decide)
theorem ahS : bp Tryz.prog 231 1 1 1 false := bt Tryz.underlying231 (by kernel_rfl) wF (by decide)
theorem ahT : bp Tryz.prog 231 2 2 1 false := bt Tryz.underlying231 (by kernel_rfl) wF (by decide)
theorem ahU : bp Tryz.prog 231 3 3 1 false := bt Tryz.underlying231 (by kernel_rfl) ty9 (by decide)
theorem atg : TyS Tryz.prog 232 0 true := ⟨Tryz.sizeOf232, Tryz.isAgg232⟩
theorem aeK : TyS Tryz.prog 235 1 false := ⟨Tryz.sizeOf235, Tryz.isAgg235⟩
theorem aeL : TyS Tryz.prog 236 1 false := ⟨Tryz.sizeOf236, Tryz.isAgg236⟩
theorem aeM : TyS Tryz.prog 237 1 false := ⟨Tryz.sizeOf237, Tryz.isAgg237⟩
theorem aeN : TyS Tryz.prog 238 1 false := ⟨Tryz.sizeOf238, Tryz.isAgg238⟩
theorem aeO : TyS Tryz.prog 239 1 false := ⟨Tryz.sizeOf239, Tryz.isAgg239⟩
theorem aeP : TyS Tryz.prog 240 1 false := ⟨Tryz.sizeOf240, Tryz.isAgg240⟩
theorem ath : TyS Tryz.prog 241 11 true := ⟨Tryz.sizeOf241, Tryz.isAgg241⟩
theorem aoB : dW Tryz.prog 241 [.int .u64 0, .int .u64 0, .int .u32 0, .int .u8 0, .int .u8 0, .int .u8 0, .int .u8 0, .nilFunc, .pointer none, .int .i32 0, .int .i32 0] [(0, 1), (1, 1), (2, 1), (3, 1), (4, 1), (5, 1), (6, 1), (7, 1), (8, 1), (9, 1), (10, 1)] := eE Tryz.zeroValue241 Tryz.underlying241 (fun w => by kernel_rfl)
theorem ahV : bJ Tryz.prog 241 0 0 := ⟨fun a w => by kernel_rfl⟩
theorem ahW : bJ Tryz.prog 241 1 1 := ⟨fun a w => by kernel_rfl⟩
theorem ahX : bJ Tryz.prog 241 2 2 := ⟨fun a w => by kernel_rfl⟩
theorem ahY : bJ Tryz.prog 241 3 3 := ⟨fun a w => by kernel_rfl⟩
theorem ahZ : bJ Tryz.prog 241 4 4 := ⟨fun a w => by kernel_rfl⟩
theorem ah0 : bJ Tryz.prog 241 5 5 := ⟨fun a w => by kernel_rfl⟩
theorem ah1 : bJ Tryz.prog 241 6 6 := ⟨fun a w => by kernel_rfl⟩
theorem ah2 : bJ Tryz.prog 241 7 7 := ⟨fun a w => by kernel_rfl⟩
theorem ah3 : bJ Tryz.prog 241 8 8 := ⟨fun a w => by kernel_rfl⟩
theorem ah4 : bJ Tryz.prog 241 9 9 := ⟨fun a w => by kernel_rfl⟩
theorem afU : bJ Tryz.prog 241 10 10 := ⟨fun a w => by kernel_rfl⟩
theorem ah5 : bp Tryz.prog 241 0 0 1 false := bt Tryz.underlying241 (by kernel_rfl) zI (by decide)
theorem ah6 : bp Tryz.prog 241 1 1 1 false := bt Tryz.underlying241 (by kernel_rfl) zI (by decide)
theorem ah7 : bp Tryz.prog 241 2 2 1 false := bt Tryz.underlying241 (by kernel_rfl) aeI (by decide)
theorem ah8 : bp Tryz.prog 241 3 3 1 false := bt Tryz.underlying241 (by kernel_rfl) aeK (by decide)
theorem ah9 : bp Tryz.prog 241 4 4 1 false := bt Tryz.underlying241 (by kernel_rfl) ty5 (by decide)
theorem aia : bp Tryz.prog 241 5 5 1 false := bt Tryz.underlying241 (by kernel_rfl) ty5 (by decide)
theorem aib : bp Tryz.prog 241 6 6 1 false := bt Tryz.underlying241 (by kernel_rfl) aeL (by decide)
theorem aic : bp Tryz.prog 241 7 7 1 false := bt Tryz.underlying241 (by kernel_rfl) aeM (by decide)
theorem aid : bp Tryz.prog 241 8 8 1 false := bt Tryz.underlying241 (by kernel_rfl) aeN (by decide)
theorem aie : bp Tryz.prog 241 9 9 1 false := bt Tryz.underlying241 (by kernel_rfl) aeO (by decide)
theorem afV : bp Tryz.prog 241 10 10 1 false := bt Tryz.underlying241 (by kernel_rfl) aeP (by decide)
theorem ati : TyS Tryz.prog 242 11 true := ⟨Tryz.sizeOf242, Tryz.isAgg242⟩
theorem aoC : dW Tryz.prog 242 [.int .u64 0, .int .u64 0, .int .u32 0, .int .u8 0, .int .u8 0, .int .u8 0, .int .u8 0, .nilFunc, .pointer none, .int .i32 0, .int .i32 0] [(0, 1), (1, 1), (2, 1), (3, 1), (4, 1), (5, 1), (6, 1), (7, 1), (8, 1), (9, 1), (10, 1)] := eE Tryz.zeroValue242 Tryz.underlying242 (fun w => by kernel_rfl)
theorem aif : bJ Tryz.prog 242 0 0 := ⟨fun a w => by kernel_rfl⟩
theorem aih : bJ Tryz.prog 242 1 1 := ⟨fun a w => by kernel_rfl⟩
theorem aii : bJ Tryz.prog 242 2 2 := ⟨fun a w => by kernel_rfl⟩
theorem aij : bJ Tryz.prog 242 3 3 := ⟨fun a w => by kernel_rfl⟩
theorem aik : bJ Tryz.prog 242 4 4 := ⟨fun a w => by kernel_rfl⟩
theorem ail : bJ Tryz.prog 242 5 5 := ⟨fun a w => by kernel_rfl⟩
theorem aim : bJ Tryz.prog 242 6 6 := ⟨fun a w => by kernel_rfl⟩
theorem ain : bJ Tryz.prog 242 7 7 := ⟨fun a w => by kernel_rfl⟩
theorem aio : bJ Tryz.prog 242 8 8 := ⟨fun a w => by kernel_rfl⟩
theorem aip : bJ Tryz.prog 242 9 9 := ⟨fun a w => by kernel_rfl⟩
theorem afW : bJ Tryz.prog 242 10 10 := ⟨fun a w => by kernel_rfl⟩
theorem aiq : bp Tryz.prog 242 0 0 1 false := bt Tryz.underlying242 (by kernel_rfl) zI (by decide)
theorem air : bp Tryz.prog 242 1 1 1 false := bt Tryz.underlying242 (by kernel_rfl) zI (by decide)
theorem ais : bp Tryz.prog 242 2 2 1 false := bt Tryz.underlying242 (by kernel_rfl) aeI (by decide)
theorem ait : bp Tryz.prog 242 3 3 1 false := bt Tryz.underlying242 (by kernel_rfl) aeK (by decide)
theorem aiu : bp Tryz.prog 242 4 4 1 false := bt Tryz.underlying242 (by kernel_rfl) ty5 (by decide)
theorem aiv : bp Tryz.prog 242 5 5 1 false := bt Tryz.underlying242 (by kernel_rfl) ty5 (by decide)
theorem aiw : bp Tryz.prog 242 6 6 1 false := bt Tryz.underlying242 (by kernel_rfl) aeL (by decide)
theorem aix : bp Tryz.prog 242 7 7 1 false := bt Tryz.underlying242 (by kernel_rfl) aeM (by decide)
theorem aiy : bp Tryz.prog 242 8 8 1 false := bt Tryz.underlying242 (by kernel_rfl) aeN (by decide)
theorem aiz : bp Tryz.prog 242 9 9 1 false := bt Tryz.underlying242 (by kernel_rfl) aeO (by decide)
theorem afX : bp Tryz.prog 242 10 10 1 false := bt Tryz.underlying242 (by kernel_rfl) aeP (by decide)
end Go.Proofs.YtpmifmdidfgpdaaGreat
