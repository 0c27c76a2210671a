/- The types of this translation, as the rules want ad4. No condition. -/
import Derived.Test.YtpmifmdidfgpdaaGreatAB
import Derived.Test.YtpmifmdidfgpdaaGreatRows
import Derived.OwnWalk
namespace Go.Proofs.YtpmifmdidfgpdaaGreat
set_option linter.all false
open Go
set_option maxRecDepth 100000
abbrev Zr (i : Nat) (c : List Value) : Prop := ∀ w, ∃ z, (zeroValue i).run Tryz.prog w = .ok z w ∧ z.cells = c.toArray
theorem zi : Tryz.prog.follows .mixedOrders = true := by kernel_rfl
theorem ze1 : Zr 1 [.nilFunc] := fun w => ⟨_, Tryz.zeroValue1 w, rfl⟩
theorem ze2 : Zr 2 [.int .i64 0] := fun w => ⟨_, Tryz.zeroValue2 w, rfl⟩
theorem ze3 : Zr 3 [.int .i64 0] := fun w => ⟨_, Tryz.zeroValue3 w, rfl⟩
theorem ze4 : Zr 4 [.bool false] := fun w => ⟨_, Tryz.zeroValue4 w, rfl⟩
theorem ze5 : Zr 5 [.int .u8 0] := fun w => ⟨_, Tryz.zeroValue5 w, rfl⟩
theorem ze6 : Zr 6 [.int .u8 0] := fun w => ⟨_, Tryz.zeroValue6 w, rfl⟩
theorem ze7 : Zr 7 [.int .i64 0, .int .i64 0, .bool false, .int .u8 0] := fun w => ⟨_, Tryz.zeroValue7 w, rfl⟩
theorem ze8 : Zr 8 [.int .i64 0, .int .i64 0, .bool false, .int .u8 0] := fun w => ⟨_, Tryz.zeroValue8 w, rfl⟩
theorem ze9 : Zr 9 [.string ⟨#[]⟩] := fun w => ⟨_, Tryz.zeroValue9 w, rfl⟩
theorem ze10 : Zr 10 [.string ⟨#[]⟩] := fun w => ⟨_, Tryz.zeroValue10 w, rfl⟩
theorem ze11 : Zr 11 [.string ⟨#[]⟩] := fun w => ⟨_, Tryz.zeroValue11 w, rfl⟩
theorem ze12 : Zr 12 [.int .u64 0] := fun w => ⟨_, Tryz.zeroValue12 w, rfl⟩
theorem ze13 : Zr 13 [.string ⟨#[]⟩, .int .u64 0] := fun w => ⟨_, Tryz.zeroValue13 w, rfl⟩
theorem ze14 : Zr 14 [.string ⟨#[]⟩, .int .u64 0] := fun w => ⟨_, Tryz.zeroValue14 w, rfl⟩
theorem ze15 : Zr 15 [.pointer none] := fun w => ⟨_, Tryz.zeroValue15 w, rfl⟩
theorem ze16 : Zr 16 [.pointer none] := fun w => ⟨_, Tryz.zeroValue16 w, rfl⟩
theorem ze17 : Zr 17 [.pointer none] := fun w => ⟨_, Tryz.zeroValue17 w, rfl⟩
theorem ze18 : Zr 18 [.pointer none] := fun w => ⟨_, Tryz.zeroValue18 w, rfl⟩
theorem ze19 : Zr 19 [.pointer none] := fun w => ⟨_, Tryz.zeroValue19 w, rfl⟩
theorem ze21 : Zr 21 [.int .i32 0] := fun w => ⟨_, Tryz.zeroValue21 w, rfl⟩
theorem ze22 : Zr 22 [.slice none 0 0] := fun w => ⟨_, Tryz.zeroValue22 w, rfl⟩
theorem anl : Zr 23 [.slice none 0 0] := fun w => ⟨_, Tryz.zeroValue23 w, rfl⟩
theorem ze24 : Zr 24 [.slice none 0 0] := fun w => ⟨_, Tryz.zeroValue24 w, rfl⟩
theorem ze25 : Zr 25 [.slice none 0 0] := fun w => ⟨_, Tryz.zeroValue25 w, rfl⟩
theorem ze26 : Zr 26 [.slice none 0 0, .slice none 0 0, .slice none 0 0] := fun w => ⟨_, Tryz.zeroValue26 w, rfl⟩
theorem anm : Zr 27 [.slice none 0 0, .slice none 0 0, .slice none 0 0] := fun w => ⟨_, Tryz.zeroValue27 w, rfl⟩
theorem ze28 : Zr 28 [.pointer none] := fun w => ⟨_, Tryz.zeroValue28 w, rfl⟩
theorem ze32 : Zr 32 [.slice none 0 0] := fun w => ⟨_, Tryz.zeroValue32 w, rfl⟩
theorem ze34 : Zr 34 [.int .i64 0] := fun w => ⟨_, Tryz.zeroValue34 w, rfl⟩
theorem ze42 : Zr 42 [.slice none 0 0] := fun w => ⟨_, Tryz.zeroValue42 w, rfl⟩
theorem ze43 : Zr 43 [.slice none 0 0, .slice none 0 0] := fun w => ⟨_, Tryz.zeroValue43 w, rfl⟩
theorem ze44 : Zr 44 [.slice none 0 0, .slice none 0 0] := fun w => ⟨_, Tryz.zeroValue44 w, rfl⟩
theorem ze47 : Zr 47 [.slice none 0 0] := fun w => ⟨_, Tryz.zeroValue47 w, rfl⟩
theorem ze48 : Zr 48 [.slice none 0 0] := fun w => ⟨_, Tryz.zeroValue48 w, rfl⟩
theorem ze49 : Zr 49 [.int .i64 0, .int .i64 0, .bool false, .slice none 0 0, .slice none 0 0] := fun w => ⟨_, Tryz.zeroValue49 w, rfl⟩
theorem ann : Zr 50 [.int .i64 0, .int .i64 0, .bool false, .slice none 0 0, .slice none 0 0] := fun w => ⟨_, Tryz.zeroValue50 w, rfl⟩
theorem ze53 : Zr 53 [.nilFunc] := fun w => ⟨_, Tryz.zeroValue53 w, rfl⟩
theorem ze58 : Zr 58 [.slice none 0 0] := fun w => ⟨_, Tryz.zeroValue58 w, rfl⟩
theorem ze59 : Zr 59 [.slice none 0 0] := fun w => ⟨_, Tryz.zeroValue59 w, rfl⟩
theorem ze60 : Zr 60 [.slice none 0 0] := fun w => ⟨_, Tryz.zeroValue60 w, rfl⟩
theorem ze61 : Zr 61 [.int .i64 0, .int .i64 0, .slice none 0 0] := fun w => ⟨_, Tryz.zeroValue61 w, rfl⟩
theorem ano : Zr 62 [.int .i64 0, .int .i64 0, .slice none 0 0] := fun w => ⟨_, Tryz.zeroValue62 w, rfl⟩
theorem ze65 : Zr 65 [.slice none 0 0] := fun w => ⟨_, Tryz.zeroValue65 w, rfl⟩
theorem ze66 : Zr 66 [.slice none 0 0, .slice none 0 0] := fun w => ⟨_, Tryz.zeroValue66 w, rfl⟩
theorem ze67 : Zr 67 [.slice none 0 0, .slice none 0 0] := fun w => ⟨_, Tryz.zeroValue67 w, rfl⟩
theorem ze70 : Zr 70 [.slice none 0 0] := fun w => ⟨_, Tryz.zeroValue70 w, rfl⟩
theorem ze73 : Zr 73 [.slice none 0 0, .int .i64 0] := fun w => ⟨_, Tryz.zeroValue73 w, rfl⟩
theorem ze74 : Zr 74 [.slice none 0 0, .int .i64 0] := fun w => ⟨_, Tryz.zeroValue74 w, rfl⟩
theorem ze75 : Zr 75 [.nilFunc] := fun w => ⟨_, Tryz.zeroValue75 w, rfl⟩
theorem ze77 : Zr 77 [.int .i64 0, .int .i64 0, .int .i64 0, .int .i64 0, .int .i64 0] := fun w => ⟨_, Tryz.zeroValue77 w, rfl⟩
theorem anp : Zr 78 [.int .i64 0, .int .i64 0, .int .i64 0, .int .i64 0, .int .i64 0] := fun w => ⟨_, Tryz.zeroValue78 w, rfl⟩
theorem ze80 : Zr 80 [.int .i64 0, .int .i64 0, .bool false, .slice none 0 0, .slice none 0 0] := fun w => ⟨_, Tryz.zeroValue80 w, rfl⟩
theorem anq : Zr 81 [.int .i64 0, .int .i64 0, .bool false, .slice none 0 0, .slice none 0 0] := fun w => ⟨_, Tryz.zeroValue81 w, rfl⟩
theorem ze84 : Zr 84 [.int .i64 0, .int .i64 0, .int .i64 0] := fun w => ⟨_, Tryz.zeroValue84 w, rfl⟩
theorem anr : Zr 85 [.int .i64 0, .int .i64 0, .int .i64 0] := fun w => ⟨_, Tryz.zeroValue85 w, rfl⟩
theorem ze86 : Zr 86 [.int .i64 0, .bool false] := fun w => ⟨_, Tryz.zeroValue86 w, rfl⟩
theorem ans : Zr 87 [.int .i64 0, .bool false] := fun w => ⟨_, Tryz.zeroValue87 w, rfl⟩
theorem ze88 : Zr 88 [.pointer none] := fun w => ⟨_, Tryz.zeroValue88 w, rfl⟩
theorem ze90 : Zr 90 [.slice none 0 0, .slice none 0 0, .slice none 0 0] := fun w => ⟨_, Tryz.zeroValue90 w, rfl⟩
theorem ze91 : Zr 91 [.slice none 0 0, .slice none 0 0, .slice none 0 0] := fun w => ⟨_, Tryz.zeroValue91 w, rfl⟩
theorem ze92 : Zr 92 [.slice none 0 0] := fun w => ⟨_, Tryz.zeroValue92 w, rfl⟩
theorem ze95 : Zr 95 [.nilFunc] := fun w => ⟨_, Tryz.zeroValue95 w, rfl⟩
theorem aqC : Zr 105 [.int .i64 0, .int .i64 0, .int .i64 0] := fun w => ⟨_, Tryz.zeroValue105 w, rfl⟩
theorem aiK : Zr 106 [.int .i64 0, .int .i64 0, .int .i64 0] := fun w => ⟨_, Tryz.zeroValue106 w, rfl⟩
theorem aqD : Zr 109 [.nilFunc] := fun w => ⟨_, Tryz.zeroValue109 w, rfl⟩
theorem aqE : Zr 119 [.int .i64 0, .int .i64 0] := fun w => ⟨_, Tryz.zeroValue119 w, rfl⟩
theorem aiL : Zr 120 [.int .i64 0, .int .i64 0] := fun w => ⟨_, Tryz.zeroValue120 w, rfl⟩
theorem aqF : Zr 123 [.nilFunc] := fun w => ⟨_, Tryz.zeroValue123 w, rfl⟩
theorem aqG : Zr 124 [.pointer none] := fun w => ⟨_, Tryz.zeroValue124 w, rfl⟩
theorem aqH : Zr 133 [.nilFunc] := fun w => ⟨_, Tryz.zeroValue133 w, rfl⟩
theorem aqI : Zr 135 [.nilFunc] := fun w => ⟨_, Tryz.zeroValue135 w, rfl⟩
theorem aqJ : Zr 137 [.nilFunc] := fun w => ⟨_, Tryz.zeroValue137 w, rfl⟩
theorem aqK : Zr 138 [.nilFunc] := fun w => ⟨_, Tryz.zeroValue138 w, rfl⟩
theorem aqL : Zr 141 [.nilFunc] := fun w => ⟨_, Tryz.zeroValue141 w, rfl⟩
theorem aqM : Zr 152 [.slice none 0 0] := fun w => ⟨_, Tryz.zeroValue152 w, rfl⟩
theorem aqN : Zr 154 [.int .i64 0, .int .i64 0, .int .i64 0, .int .i64 0] := fun w => ⟨_, Tryz.zeroValue154 w, rfl⟩
theorem aiM : Zr 155 [.int .i64 0, .int .i64 0, .int .i64 0, .int .i64 0] := fun w => ⟨_, Tryz.zeroValue155 w, rfl⟩
theorem aqO : Zr 156 [.nilFunc] := fun w => ⟨_, Tryz.zeroValue156 w, rfl⟩
theorem aqP : Zr 165 [.int .u64 0] := fun w => ⟨_, Tryz.zeroValue165 w, rfl⟩
theorem aqQ : Zr 174 [.pointer none] := fun w => ⟨_, Tryz.zeroValue174 w, rfl⟩
theorem aqR : Zr 180 [.nilFunc] := fun w => ⟨_, Tryz.zeroValue180 w, rfl⟩
theorem aqS : Zr 182 [.slice none 0 0] := fun w => ⟨_, Tryz.zeroValue182 w, rfl⟩
theorem aqT : Zr 186 [.int .i64 0] := fun w => ⟨_, Tryz.zeroValue186 w, rfl⟩
theorem aqU : Zr 194 [.int .u32 0] := fun w => ⟨_, Tryz.zeroValue194 w, rfl⟩
theorem aqV : Zr 196 [.int .u64 0] := fun w => ⟨_, Tryz.zeroValue196 w, rfl⟩
theorem aqW : Zr 200 [.slice none 0 0, .int .i64 0] := fun w => ⟨_, Tryz.zeroValue200 w, rfl⟩
theorem aqX : Zr 201 [.slice none 0 0, .int .i64 0] := fun w => ⟨_, Tryz.zeroValue201 w, rfl⟩
theorem aqY : Zr 207 [.int .u64 0] := fun w => ⟨_, Tryz.zeroValue207 w, rfl⟩
theorem aqZ : Zr 211 [.pointer none] := fun w => ⟨_, Tryz.zeroValue211 w, rfl⟩
theorem aq0 : Zr 213 [.slice none 0 0, .int .i64 0] := fun w => ⟨_, Tryz.zeroValue213 w, rfl⟩
theorem aq1 : Zr 214 [.slice none 0 0, .int .i64 0] := fun w => ⟨_, Tryz.zeroValue214 w, rfl⟩
theorem aq2 : Zr 220 [.pointer none] := fun w => ⟨_, Tryz.zeroValue220 w, rfl⟩
theorem aq3 : Zr 224 [.pointer none] := fun w => ⟨_, Tryz.zeroValue224 w, rfl⟩
theorem aq4 : Zr 228 [.pointer none] := fun w => ⟨_, Tryz.zeroValue228 w, rfl⟩
theorem aq5 : Zr 230 [.pointer none, .pointer none, .pointer none, .string ⟨#[]⟩] := fun w => ⟨_, Tryz.zeroValue230 w, rfl⟩
theorem aq6 : Zr 231 [.pointer none, .pointer none, .pointer none, .string ⟨#[]⟩] := fun w => ⟨_, Tryz.zeroValue231 w, rfl⟩
theorem aq7 : Zr 232 [] := fun w => ⟨_, Tryz.zeroValue232 w, rfl⟩
theorem aq8 : Zr 235 [.int .u8 0] := fun w => ⟨_, Tryz.zeroValue235 w, rfl⟩
theorem aq9 : Zr 236 [.int .u8 0] := fun w => ⟨_, Tryz.zeroValue236 w, rfl⟩
theorem ara : Zr 237 [.nilFunc] := fun w => ⟨_, Tryz.zeroValue237 w, rfl⟩
theorem arb : Zr 238 [.pointer none] := fun w => ⟨_, Tryz.zeroValue238 w, rfl⟩
theorem arc : Zr 239 [.int .i32 0] := fun w => ⟨_, Tryz.zeroValue239 w, rfl⟩
theorem ard : Zr 240 [.int .i32 0] := fun w => ⟨_, Tryz.zeroValue240 w, rfl⟩
theorem arf : Zr 241 [.int .u64 0, .int .u64 0, .int .u32 0, .int .u8 0, .int .u8 0, .int .u8 0, .int .u8 0, .nilFunc, .pointer none, .int .i32 0, .int .i32 0] := fun w => ⟨_, Tryz.zeroValue241 w, rfl⟩
theorem arh : Zr 242 [.int .u64 0, .int .u64 0, .int .u32 0, .int .u8 0, .int .u8 0, .int .u8 0, .int .u8 0, .nilFunc, .pointer none, .int .i32 0, .int .i32 0] := fun w => ⟨_, Tryz.zeroValue242 w, rfl⟩
theorem ty1 : TyS Tryz.prog 1 1 false := ⟨Tryz.sizeOf1, Tryz.isAgg1⟩
theorem ty2 : TyS Tryz.prog 2 1 false := ⟨Tryz.sizeOf2, Tryz.isAgg2⟩
theorem ty3 : TyS Tryz.prog 3 1 false := ⟨Tryz.sizeOf3, Tryz.isAgg3⟩
theorem ty4 : TyS Tryz.prog 4 1 false := ⟨Tryz.sizeOf4, Tryz.isAgg4⟩
theorem ty5 : TyS Tryz.prog 5 1 false := ⟨Tryz.sizeOf5, Tryz.isAgg5⟩
theorem ty6 : TyS Tryz.prog 6 1 false := ⟨Tryz.sizeOf6, Tryz.isAgg6⟩
theorem ty7 : TyS Tryz.prog 7 4 true := ⟨Tryz.sizeOf7, Tryz.isAgg7⟩
theorem str7 : dU Tryz.prog 7 [.int .i64 0, .int .i64 0, .bool false, .int .u8 0] [(0, 1), (1, 1), (2, 1), (3, 1)] := ew Tryz.zeroValue7 Tryz.underlying7 (fun w => by kernel_rfl)
theorem ant : bI Tryz.prog 7 0 0 := ⟨fun a w => by kernel_rfl⟩
theorem anu : bI Tryz.prog 7 1 1 := ⟨fun a w => by kernel_rfl⟩
theorem anv : bI Tryz.prog 7 2 2 := ⟨fun a w => by kernel_rfl⟩
theorem anw : bI Tryz.prog 7 3 3 := ⟨fun a w => by kernel_rfl⟩
theorem anx : bn Tryz.prog 7 0 0 1 false := bq Tryz.underlying7 (by kernel_rfl) ty2 (by decide)
theorem anz : bn Tryz.prog 7 1 1 1 false := bq Tryz.underlying7 (by kernel_rfl) ty3 (by decide)
theorem anA : bn Tryz.prog 7 2 2 1 false := bq Tryz.underlying7 (by kernel_rfl) ty4 (by decide)
theorem anB : bn Tryz.prog 7 3 3 1 false := bq Tryz.underlying7 (by kernel_rfl) ty6 (by decide)
theorem ty8 : TyS Tryz.prog 8 4 true := ⟨Tryz.sizeOf8, Tryz.isAgg8⟩
theorem str8 : dU Tryz.prog 8 [.int .i64 0, .int .i64 0, .bool false, .int .u8 0] [(0, 1), (1, 1), (2, 1), (3, 1)] := ew Tryz.zeroValue8 Tryz.underlying8 (fun w => by kernel_rfl)
theorem anC : bI Tryz.prog 8 0 0 := ⟨fun a w => by kernel_rfl⟩
theorem anD : bI Tryz.prog 8 1 1 := ⟨fun a w => by kernel_rfl⟩
theorem anE : bI Tryz.prog 8 2 2 := ⟨fun a w => by kernel_rfl⟩
theorem anF : bI Tryz.prog 8 3 3 := ⟨fun a w => by kernel_rfl⟩
theorem anG : bn Tryz.prog 8 0 0 1 false := bq Tryz.underlying8 (by kernel_rfl) ty2 (by decide)
theorem anH : bn Tryz.prog 8 1 1 1 false := bq Tryz.underlying8 (by kernel_rfl) ty3 (by decide)
theorem anI : bn Tryz.prog 8 2 2 1 false := bq Tryz.underlying8 (by kernel_rfl) ty4 (by decide)
theorem anJ : bn Tryz.prog 8 3 3 1 false := bq Tryz.underlying8 (by kernel_rfl) ty6 (by decide)
theorem ty9 : TyS Tryz.prog 9 1 false := ⟨Tryz.sizeOf9, Tryz.isAgg9⟩
theorem ty10 : TyS Tryz.prog 10 1 false := ⟨Tryz.sizeOf10, Tryz.isAgg10⟩
theorem ty11 : TyS Tryz.prog 11 1 false := ⟨Tryz.sizeOf11, Tryz.isAgg11⟩
theorem zj : TyS Tryz.prog 12 1 false := ⟨Tryz.sizeOf12, Tryz.isAgg12⟩
theorem ty13 : TyS Tryz.prog 13 2 true := ⟨Tryz.sizeOf13, Tryz.isAgg13⟩
theorem ari : dU Tryz.prog 13 [.string ⟨#[]⟩, .int .u64 0] [(0, 1), (1, 1)] := ew Tryz.zeroValue13 Tryz.underlying13 (fun w => by kernel_rfl)
theorem akd : bI Tryz.prog 13 0 0 := ⟨fun a w => by kernel_rfl⟩
theorem ake : bI Tryz.prog 13 1 1 := ⟨fun a w => by kernel_rfl⟩
theorem akf : bn Tryz.prog 13 0 0 1 false := bq Tryz.underlying13 (by kernel_rfl) ty9 (by decide)
theorem akg : bn Tryz.prog 13 1 1 1 false := bq Tryz.underlying13 (by kernel_rfl) zj (by decide)
theorem ty14 : TyS Tryz.prog 14 2 true := ⟨Tryz.sizeOf14, Tryz.isAgg14⟩
theorem arj : dU Tryz.prog 14 [.string ⟨#[]⟩, .int .u64 0] [(0, 1), (1, 1)] := ew Tryz.zeroValue14 Tryz.underlying14 (fun w => by kernel_rfl)
theorem akh : bI Tryz.prog 14 0 0 := ⟨fun a w => by kernel_rfl⟩
theorem aki : bI Tryz.prog 14 1 1 := ⟨fun a w => by kernel_rfl⟩
theorem akj : bn Tryz.prog 14 0 0 1 false := bq Tryz.underlying14 (by kernel_rfl) ty9 (by decide)
theorem akk : bn Tryz.prog 14 1 1 1 false := bq Tryz.underlying14 (by kernel_rfl) zj (by decide)
theorem ty15 : TyS Tryz.prog 15 1 false := ⟨Tryz.sizeOf15, Tryz.isAgg15⟩
theorem ty16 : TyS Tryz.prog 16 1 false := ⟨Tryz.sizeOf16, Tryz.isAgg16⟩
theorem wh : TyS Tryz.prog 17 1 false := ⟨Tryz.sizeOf17, Tryz.isAgg17⟩
theorem ty18 : TyS Tryz.prog 18 1 true := ⟨Tryz.sizeOf18, Tryz.isAgg18⟩
theorem ark : dU Tryz.prog 18 [.pointer none] [(0, 1)] := ew Tryz.zeroValue18 Tryz.underlying18 (fun w => by kernel_rfl)
theorem akl : bI Tryz.prog 18 0 0 := ⟨fun a w => by kernel_rfl⟩
theorem akm : bn Tryz.prog 18 0 0 1 false := bq Tryz.underlying18 (by kernel_rfl) wh (by decide)
theorem ty19 : TyS Tryz.prog 19 1 true := ⟨Tryz.sizeOf19, Tryz.isAgg19⟩
theorem arl : dU Tryz.prog 19 [.pointer none] [(0, 1)] := ew Tryz.zeroValue19 Tryz.underlying19 (fun w => by kernel_rfl)
theorem akn : bI Tryz.prog 19 0 0 := ⟨fun a w => by kernel_rfl⟩
theorem ako : bn Tryz.prog 19 0 0 1 false := bq Tryz.underlying19 (by kernel_rfl) wh (by decide)
theorem ty21 : TyS Tryz.prog 21 1 false := ⟨Tryz.sizeOf21, Tryz.isAgg21⟩
theorem acv : TyS Tryz.prog 22 1 false := ⟨Tryz.sizeOf22, Tryz.isAgg22⟩
theorem sl22 : SlS Tryz.prog 22 3 1 := ⟨Tryz.underlying22, Tryz.sizeOf3⟩
theorem arn : n5 Tryz.prog 22 3 1 8 := ⟨Tryz.underlying22, (by obtain ⟨i, h1, h2, h3, h4⟩ := info_parts (by kernel_rfl : (Tryz.prog.info? 3).map (fun i => (i.zero, i.size, i.bytes)) = some (some (.int .i64 0), 1, 8)); exact ⟨i, _, h1, h2, h3, h4, rfl⟩), by decide⟩
theorem aro : nj Tryz.prog 22 3 1 [.int .i64 0] := ⟨Tryz.underlying22, Tryz.sizeOf3, ze3, rfl⟩
theorem acw : TyS Tryz.prog 23 1 false := ⟨Tryz.sizeOf23, Tryz.isAgg23⟩
theorem sl23 : SlS Tryz.prog 23 78 5 := ⟨Tryz.underlying23, Tryz.sizeOf78⟩
theorem arp : n5 Tryz.prog 23 78 5 40 := ⟨Tryz.underlying23, (by obtain ⟨i, h1, h2, h3, h4⟩ := info_parts (by kernel_rfl : (Tryz.prog.info? 78).map (fun i => (i.zero, i.size, i.bytes)) = some (some (.agg #[.int .i64 0, .int .i64 0, .int .i64 0, .int .i64 0, .int .i64 0]), 5, 40)); exact ⟨i, _, h1, h2, h3, h4, rfl⟩), by decide⟩
theorem arq : nj Tryz.prog 23 78 5 [.int .i64 0, .int .i64 0, .int .i64 0, .int .i64 0, .int .i64 0] := ⟨Tryz.underlying23, Tryz.sizeOf78, anp, rfl⟩
theorem af5 : TyS Tryz.prog 24 1 false := ⟨Tryz.sizeOf24, Tryz.isAgg24⟩
theorem sl24 : SlS Tryz.prog 24 81 5 := ⟨Tryz.underlying24, Tryz.sizeOf81⟩
theorem ars : n5 Tryz.prog 24 81 5 72 := ⟨Tryz.underlying24, (by obtain ⟨i, h1, h2, h3, h4⟩ := info_parts (by kernel_rfl : (Tryz.prog.info? 81).map (fun i => (i.zero, i.size, i.bytes)) = some (some (.agg #[.int .i64 0, .int .i64 0, .bool false, .slice none 0 0, .slice none 0 0]), 5, 72)); exact ⟨i, _, h1, h2, h3, h4, rfl⟩), by decide⟩
theorem art : nj Tryz.prog 24 81 5 [.int .i64 0, .int .i64 0, .bool false, .slice none 0 0, .slice none 0 0] := ⟨Tryz.underlying24, Tryz.sizeOf81, anq, rfl⟩
theorem af6 : TyS Tryz.prog 25 1 false := ⟨Tryz.sizeOf25, Tryz.isAgg25⟩
theorem sl25 : SlS Tryz.prog 25 62 3 := ⟨Tryz.underlying25, Tryz.sizeOf62⟩
theorem aru : n5 Tryz.prog 25 62 3 40 := ⟨Tryz.underlying25, (by obtain ⟨i, h1, h2, h3, h4⟩ := info_parts (by kernel_rfl : (Tryz.prog.info? 62).map (fun i => (i.zero, i.size, i.bytes)) = some (some (.agg #[.int .i64 0, .int .i64 0, .slice none 0 0]), 3, 40)); exact ⟨i, _, h1, h2, h3, h4, rfl⟩), by decide⟩
theorem arv : nj Tryz.prog 25 62 3 [.int .i64 0, .int .i64 0, .slice none 0 0] := ⟨Tryz.underlying25, Tryz.sizeOf62, ano, rfl⟩
theorem ty26 : TyS Tryz.prog 26 3 true := ⟨Tryz.sizeOf26, Tryz.isAgg26⟩
theorem arw : dU Tryz.prog 26 [.slice none 0 0, .slice none 0 0, .slice none 0 0] [(0, 1), (1, 1), (2, 1)] := ew Tryz.zeroValue26 Tryz.underlying26 (fun w => by kernel_rfl)
theorem akp : bI Tryz.prog 26 0 0 := ⟨fun a w => by kernel_rfl⟩
theorem akq : bI Tryz.prog 26 1 1 := ⟨fun a w => by kernel_rfl⟩
theorem akr : bI Tryz.prog 26 2 2 := ⟨fun a w => by kernel_rfl⟩
theorem aks : bn Tryz.prog 26 0 0 1 false := bq Tryz.underlying26 (by kernel_rfl) acw (by decide)
theorem akt : bn Tryz.prog 26 1 1 1 false := bq Tryz.underlying26 (by kernel_rfl) af5 (by decide)
theorem aku : bn Tryz.prog 26 2 2 1 false := bq Tryz.underlying26 (by kernel_rfl) af6 (by decide)
theorem af7 : TyS Tryz.prog 27 3 true := ⟨Tryz.sizeOf27, Tryz.isAgg27⟩
theorem arx : dU Tryz.prog 27 [.slice none 0 0, .slice none 0 0, .slice none 0 0] [(0, 1), (1, 1), (2, 1)] := ew Tryz.zeroValue27 Tryz.underlying27 (fun w => by kernel_rfl)
theorem akv : bI Tryz.prog 27 0 0 := ⟨fun a w => by kernel_rfl⟩
theorem akw : bI Tryz.prog 27 1 1 := ⟨fun a w => by kernel_rfl⟩
theorem akx : bI Tryz.prog 27 2 2 := ⟨fun a w => by kernel_rfl⟩
theorem aky : bn Tryz.prog 27 0 0 1 false := bq Tryz.underlying27 (by kernel_rfl) acw (by decide)
theorem akz : bn Tryz.prog 27 1 1 1 false := bq Tryz.underlying27 (by kernel_rfl) af5 (by decide)
theorem akA : bn Tryz.prog 27 2 2 1 false := bq Tryz.underlying27 (by kernel_rfl) af6 (by decide)
theorem ty28 : TyS Tryz.prog 28 1 false := ⟨Tryz.sizeOf28, Tryz.isAgg28⟩
theorem ty32 : TyS Tryz.prog 32 1 false := ⟨Tryz.sizeOf32, Tryz.isAgg32⟩
theorem sl32 : SlS Tryz.prog 32 27 3 := ⟨Tryz.underlying32, Tryz.sizeOf27⟩
theorem ary : n5 Tryz.prog 32 27 3 72 := ⟨Tryz.underlying32, (by obtain ⟨i, h1, h2, h3, h4⟩ := info_parts (by kernel_rfl : (Tryz.prog.info? 27).map (fun i => (i.zero, i.size, i.bytes)) = some (some (.agg #[.slice none 0 0, .slice none 0 0, .slice none 0 0]), 3, 72)); exact ⟨i, _, h1, h2, h3, h4, rfl⟩), by decide⟩
theorem arz : nj Tryz.prog 32 27 3 [.slice none 0 0, .slice none 0 0, .slice none 0 0] := ⟨Tryz.underlying32, Tryz.sizeOf27, anm, rfl⟩
theorem ty34 : TyS Tryz.prog 34 1 false := ⟨Tryz.sizeOf34, Tryz.isAgg34⟩
theorem af8 : TyS Tryz.prog 42 1 false := ⟨Tryz.sizeOf42, Tryz.isAgg42⟩
theorem sl42 : SlS Tryz.prog 42 87 2 := ⟨Tryz.underlying42, Tryz.sizeOf87⟩
theorem arA : n5 Tryz.prog 42 87 2 16 := ⟨Tryz.underlying42, (by obtain ⟨i, h1, h2, h3, h4⟩ := info_parts (by kernel_rfl : (Tryz.prog.info? 87).map (fun i => (i.zero, i.size, i.bytes)) = some (some (.agg #[.int .i64 0, .bool false]), 2, 16)); exact ⟨i, _, h1, h2, h3, h4, rfl⟩), by decide⟩
theorem arB : nj Tryz.prog 42 87 2 [.int .i64 0, .bool false] := ⟨Tryz.underlying42, Tryz.sizeOf87, ans, rfl⟩
theorem ty43 : TyS Tryz.prog 43 2 true := ⟨Tryz.sizeOf43, Tryz.isAgg43⟩
theorem arC : dU Tryz.prog 43 [.slice none 0 0, .slice none 0 0] [(0, 1), (1, 1)] := ew Tryz.zeroValue43 Tryz.underlying43 (fun w => by kernel_rfl)
theorem akB : bI Tryz.prog 43 0 0 := ⟨fun a w => by kernel_rfl⟩
theorem akC : bI Tryz.prog 43 1 1 := ⟨fun a w => by kernel_rfl⟩
theorem akD : bn Tryz.prog 43 0 0 1 false := bq Tryz.underlying43 (by kernel_rfl) af8 (by decide)
theorem akE : bn Tryz.prog 43 1 1 1 false := bq Tryz.underlying43 (by kernel_rfl) acw (by decide)
theorem ty44 : TyS Tryz.prog 44 2 true := ⟨Tryz.sizeOf44, Tryz.isAgg44⟩
theorem arD : dU Tryz.prog 44 [.slice none 0 0, .slice none 0 0] [(0, 1), (1, 1)] := ew Tryz.zeroValue44 Tryz.underlying44 (fun w => by kernel_rfl)
theorem akF : bI Tryz.prog 44 0 0 := ⟨fun a w => by kernel_rfl⟩
theorem akG : bI Tryz.prog 44 1 1 := ⟨fun a w => by kernel_rfl⟩
theorem akH : bn Tryz.prog 44 0 0 1 false := bq Tryz.underlying44 (by kernel_rfl) af8 (by decide)
theorem akI : bn Tryz.prog 44 1 1 1 false := bq Tryz.underlying44 (by kernel_rfl) acw (by decide)
theorem af9 : TyS Tryz.prog 47 1 false := ⟨Tryz.sizeOf47, Tryz.isAgg47⟩
theorem sl47 : SlS Tryz.prog 47 106 3 := ⟨Tryz.underlying47, Tryz.sizeOf106⟩
theorem arE : n5 Tryz.prog 47 106 3 24 := ⟨Tryz.underlying47, (by obtain ⟨i, h1, h2, h3, h4⟩ := info_parts (by kernel_rfl : (Tryz.prog.info? 106).map (fun i => (i.zero, i.size, i.bytes)) = some (some (.agg #[.int .i64 0, .int .i64 0, .int .i64 0]), 3, 24)); exact ⟨i, _, h1, h2, h3, h4, rfl⟩), by decide⟩
theorem arF : nj Tryz.prog 47 106 3 [.int .i64 0, .int .i64 0, .int .i64 0] := ⟨Tryz.underlying47, Tryz.sizeOf106, aiK, rfl⟩
theorem acy : TyS Tryz.prog 48 1 false := ⟨Tryz.sizeOf48, Tryz.isAgg48⟩
theorem sl48 : SlS Tryz.prog 48 85 3 := ⟨Tryz.underlying48, Tryz.sizeOf85⟩
theorem arG : n5 Tryz.prog 48 85 3 24 := ⟨Tryz.underlying48, (by obtain ⟨i, h1, h2, h3, h4⟩ := info_parts (by kernel_rfl : (Tryz.prog.info? 85).map (fun i => (i.zero, i.size, i.bytes)) = some (some (.agg #[.int .i64 0, .int .i64 0, .int .i64 0]), 3, 24)); exact ⟨i, _, h1, h2, h3, h4, rfl⟩), by decide⟩
theorem arH : nj Tryz.prog 48 85 3 [.int .i64 0, .int .i64 0, .int .i64 0] := ⟨Tryz.underlying48, Tryz.sizeOf85, anr, rfl⟩
theorem ty49 : TyS Tryz.prog 49 5 true := ⟨Tryz.sizeOf49, Tryz.isAgg49⟩
theorem arI : dU Tryz.prog 49 [.int .i64 0, .int .i64 0, .bool false, .slice none 0 0, .slice none 0 0] [(0, 1), (1, 1), (2, 1), (3, 1), (4, 1)] := ew Tryz.zeroValue49 Tryz.underlying49 (fun w => by kernel_rfl)
theorem akJ : bI Tryz.prog 49 0 0 := ⟨fun a w => by kernel_rfl⟩
theorem akK : bI Tryz.prog 49 1 1 := ⟨fun a w => by kernel_rfl⟩
theorem akL : bI Tryz.prog 49 2 2 := ⟨fun a w => by kernel_rfl⟩
theorem akM : bI Tryz.prog 49 3 3 := ⟨fun a w => by kernel_rfl⟩
theorem akN : bI Tryz.prog 49 4 4 := ⟨fun a w => by kernel_rfl⟩
theorem akO : bn Tryz.prog 49 0 0 1 false := bq Tryz.underlying49 (by kernel_rfl) ty3 (by decide)
theorem akP : bn Tryz.prog 49 1 1 1 false := bq Tryz.underlying49 (by kernel_rfl) ty3 (by decide)
theorem akQ : bn Tryz.prog 49 2 2 1 false := bq Tryz.underlying49 (by kernel_rfl) ty4 (by decide)
theorem akR : bn Tryz.prog 49 3 3 1 false := bq Tryz.underlying49 (by kernel_rfl) af9 (by decide)
theorem akS : bn Tryz.prog 49 4 4 1 false := bq Tryz.underlying49 (by kernel_rfl) acy (by decide)
theorem ty50 : TyS Tryz.prog 50 5 true := ⟨Tryz.sizeOf50, Tryz.isAgg50⟩
theorem arJ : dU Tryz.prog 50 [.int .i64 0, .int .i64 0, .bool false, .slice none 0 0, .slice none 0 0] [(0, 1), (1, 1), (2, 1), (3, 1), (4, 1)] := ew Tryz.zeroValue50 Tryz.underlying50 (fun w => by kernel_rfl)
theorem akT : bI Tryz.prog 50 0 0 := ⟨fun a w => by kernel_rfl⟩
theorem akU : bI Tryz.prog 50 1 1 := ⟨fun a w => by kernel_rfl⟩
theorem akV : bI Tryz.prog 50 2 2 := ⟨fun a w => by kernel_rfl⟩
theorem akW : bI Tryz.prog 50 3 3 := ⟨fun a w => by kernel_rfl⟩
theorem akX : bI Tryz.prog 50 4 4 := ⟨fun a w => by kernel_rfl⟩
theorem akY : bn Tryz.prog 50 0 0 1 false := bq Tryz.underlying50 (by kernel_rfl) ty3 (by decide)
theorem akZ : bn Tryz.prog 50 1 1 1 false := bq Tryz.underlying50 (by kernel_rfl) ty3 (by decide)
theorem ak0 : bn Tryz.prog 50 2 2 1 false := bq Tryz.underlying50 (by kernel_rfl) ty4 (by decide)
theorem ak1 : bn Tryz.prog 50 3 3 1 false := bq Tryz.underlying50 (by kernel_rfl) af9 (by decide)
theorem ak2 : bn Tryz.prog 50 4 4 1 false := bq Tryz.underlying50 (by kernel_rfl) acy (by decide)
theorem ty53 : TyS Tryz.prog 53 1 false := ⟨Tryz.sizeOf53, Tryz.isAgg53⟩
theorem aga : TyS Tryz.prog 58 1 false := ⟨Tryz.sizeOf58, Tryz.isAgg58⟩
theorem sl58 : SlS Tryz.prog 58 50 5 := ⟨Tryz.underlying58, Tryz.sizeOf50⟩
theorem arK : n5 Tryz.prog 58 50 5 72 := ⟨Tryz.underlying58, (by obtain ⟨i, h1, h2, h3, h4⟩ := info_parts (by kernel_rfl : (Tryz.prog.info? 50).map (fun i => (i.zero, i.size, i.bytes)) = some (some (.agg #[.int .i64 0, .int .i64 0, .bool false, .slice none 0 0, .slice none 0 0]), 5, 72)); exact ⟨i, _, h1, h2, h3, h4, rfl⟩), by decide⟩
theorem arL : nj Tryz.prog 58 50 5 [.int .i64 0, .int .i64 0, .bool false, .slice none 0 0, .slice none 0 0] := ⟨Tryz.underlying58, Tryz.sizeOf50, ann, rfl⟩
theorem ty59 : TyS Tryz.prog 59 1 true := ⟨Tryz.sizeOf59, Tryz.isAgg59⟩
theorem arM : dU Tryz.prog 59 [.slice none 0 0] [(0, 1)] := ew Tryz.zeroValue59 Tryz.underlying59 (fun w => by kernel_rfl)
theorem ak3 : bI Tryz.prog 59 0 0 := ⟨fun a w => by kernel_rfl⟩
theorem ak4 : bn Tryz.prog 59 0 0 1 false := bq Tryz.underlying59 (by kernel_rfl) aga (by decide)
theorem acz : TyS Tryz.prog 60 1 true := ⟨Tryz.sizeOf60, Tryz.isAgg60⟩
theorem arN : dU Tryz.prog 60 [.slice none 0 0] [(0, 1)] := ew Tryz.zeroValue60 Tryz.underlying60 (fun w => by kernel_rfl)
theorem ak5 : bI Tryz.prog 60 0 0 := ⟨fun a w => by kernel_rfl⟩
theorem ak6 : bn Tryz.prog 60 0 0 1 false := bq Tryz.underlying60 (by kernel_rfl) aga (by decide)
theorem ty61 : TyS Tryz.prog 61 3 true := ⟨Tryz.sizeOf61, Tryz.isAgg61⟩
theorem arO : dU Tryz.prog 61 [.int .i64 0, .int .i64 0, .slice none 0 0] [(0, 1), (1, 1), (2, 1)] := ew Tryz.zeroValue61 Tryz.underlying61 (fun w => by kernel_rfl)
theorem ak7 : bI Tryz.prog 61 0 0 := ⟨fun a w => by kernel_rfl⟩
theorem ak8 : bI Tryz.prog 61 1 1 := ⟨fun a w => by kernel_rfl⟩
theorem ak9 : bI Tryz.prog 61 2 2 := ⟨fun a w => by kernel_rfl⟩
theorem ala : bn Tryz.prog 61 0 0 1 false := bq Tryz.underlying61 (by kernel_rfl) ty3 (by decide)
theorem alb : bn Tryz.prog 61 1 1 1 false := bq Tryz.underlying61 (by kernel_rfl) ty3 (by decide)
theorem alc : bn Tryz.prog 61 2 2 1 true := bq Tryz.underlying61 (by kernel_rfl) acz (by decide)
theorem ty62 : TyS Tryz.prog 62 3 true := ⟨Tryz.sizeOf62, Tryz.isAgg62⟩
theorem arP : dU Tryz.prog 62 [.int .i64 0, .int .i64 0, .slice none 0 0] [(0, 1), (1, 1), (2, 1)] := ew Tryz.zeroValue62 Tryz.underlying62 (fun w => by kernel_rfl)
theorem ald : bI Tryz.prog 62 0 0 := ⟨fun a w => by kernel_rfl⟩
theorem ale : bI Tryz.prog 62 1 1 := ⟨fun a w => by kernel_rfl⟩
theorem alf : bI Tryz.prog 62 2 2 := ⟨fun a w => by kernel_rfl⟩
theorem alg : bn Tryz.prog 62 0 0 1 false := bq Tryz.underlying62 (by kernel_rfl) ty3 (by decide)
theorem alh : bn Tryz.prog 62 1 1 1 false := bq Tryz.underlying62 (by kernel_rfl) ty3 (by decide)
theorem ali : bn Tryz.prog 62 2 2 1 true := bq Tryz.underlying62 (by kernel_rfl) acz (by decide)
theorem agb : TyS Tryz.prog 65 1 false := ⟨Tryz.sizeOf65, Tryz.isAgg65⟩
theorem sl65 : SlS Tryz.prog 65 120 2 := ⟨Tryz.underlying65, Tryz.sizeOf120⟩
theorem arQ : n5 Tryz.prog 65 120 2 16 := ⟨Tryz.underlying65, (by obtain ⟨i, h1, h2, h3, h4⟩ := info_parts (by kernel_rfl : (Tryz.prog.info? 120).map (fun i => (i.zero, i.size, i.bytes)) = some (some (.agg #[.int .i64 0, .int .i64 0]), 2, 16)); exact ⟨i, _, h1, h2, h3, h4, rfl⟩), by decide⟩
theorem arR : nj Tryz.prog 65 120 2 [.int .i64 0, .int .i64 0] := ⟨Tryz.underlying65, Tryz.sizeOf120, aiL, rfl⟩
theorem ty66 : TyS Tryz.prog 66 2 true := ⟨Tryz.sizeOf66, Tryz.isAgg66⟩
theorem arS : dU Tryz.prog 66 [.slice none 0 0, .slice none 0 0] [(0, 1), (1, 1)] := ew Tryz.zeroValue66 Tryz.underlying66 (fun w => by kernel_rfl)
theorem alj : bI Tryz.prog 66 0 0 := ⟨fun a w => by kernel_rfl⟩
theorem alk : bI Tryz.prog 66 1 1 := ⟨fun a w => by kernel_rfl⟩
theorem alm : bn Tryz.prog 66 0 0 1 false := bq Tryz.underlying66 (by kernel_rfl) agb (by decide)
theorem aln : bn Tryz.prog 66 1 1 1 false := bq Tryz.underlying66 (by kernel_rfl) acv (by decide)
theorem ty67 : TyS Tryz.prog 67 2 true := ⟨Tryz.sizeOf67, Tryz.isAgg67⟩
theorem arT : dU Tryz.prog 67 [.slice none 0 0, .slice none 0 0] [(0, 1), (1, 1)] := ew Tryz.zeroValue67 Tryz.underlying67 (fun w => by kernel_rfl)
theorem alo : bI Tryz.prog 67 0 0 := ⟨fun a w => by kernel_rfl⟩
theorem alp : bI Tryz.prog 67 1 1 := ⟨fun a w => by kernel_rfl⟩
theorem alq : bn Tryz.prog 67 0 0 1 false := bq Tryz.underlying67 (by kernel_rfl) agb (by decide)
theorem alr : bn Tryz.prog 67 1 1 1 false := bq Tryz.underlying67 (by kernel_rfl) acv (by decide)
theorem ty70 : TyS Tryz.prog 70 1 false := ⟨Tryz.sizeOf70, Tryz.isAgg70⟩
theorem sl70 : SlS Tryz.prog 70 23 1 := ⟨Tryz.underlying70, Tryz.sizeOf23⟩
theorem arU : n5 Tryz.prog 70 23 1 24 := ⟨Tryz.underlying70, (by obtain ⟨i, h1, h2, h3, h4⟩ := info_parts (by kernel_rfl : (Tryz.prog.info? 23).map (fun i => (i.zero, i.size, i.bytes)) = some (some (.slice none 0 0), 1, 24)); exact ⟨i, _, h1, h2, h3, h4, rfl⟩), by decide⟩
theorem arV : nj Tryz.prog 70 23 1 [.slice none 0 0] := ⟨Tryz.underlying70, Tryz.sizeOf23, anl, rfl⟩
theorem ty73 : TyS Tryz.prog 73 2 true := ⟨Tryz.sizeOf73, Tryz.isAgg73⟩
theorem arW : dU Tryz.prog 73 [.slice none 0 0, .int .i64 0] [(0, 1), (1, 1)] := ew Tryz.zeroValue73 Tryz.underlying73 (fun w => by kernel_rfl)
theorem als : bI Tryz.prog 73 0 0 := ⟨fun a w => by kernel_rfl⟩
theorem alu : bI Tryz.prog 73 1 1 := ⟨fun a w => by kernel_rfl⟩
theorem alv : bn Tryz.prog 73 0 0 1 false := bq Tryz.underlying73 (by kernel_rfl) acv (by decide)
theorem alw : bn Tryz.prog 73 1 1 1 false := bq Tryz.underlying73 (by kernel_rfl) ty3 (by decide)
theorem ty74 : TyS Tryz.prog 74 2 true := ⟨Tryz.sizeOf74, Tryz.isAgg74⟩
theorem arX : dU Tryz.prog 74 [.slice none 0 0, .int .i64 0] [(0, 1), (1, 1)] := ew Tryz.zeroValue74 Tryz.underlying74 (fun w => by kernel_rfl)
theorem alx : bI Tryz.prog 74 0 0 := ⟨fun a w => by kernel_rfl⟩
theorem aly : bI Tryz.prog 74 1 1 := ⟨fun a w => by kernel_rfl⟩
theorem alz : bn Tryz.prog 74 0 0 1 false := bq Tryz.underlying74 (by kernel_rfl) acv (by decide)
theorem alA : bn Tryz.prog 74 1 1 1 false := bq Tryz.underlying74 (by kernel_rfl) ty3 (by decide)
theorem ty75 : TyS Tryz.prog 75 1 false := ⟨Tryz.sizeOf75, Tryz.isAgg75⟩
theorem ty77 : TyS Tryz.prog 77 5 true := ⟨Tryz.sizeOf77, Tryz.isAgg77⟩
theorem arY : dU Tryz.prog 77 [.int .i64 0, .int .i64 0, .int .i64 0, .int .i64 0, .int .i64 0] [(0, 1), (1, 1), (2, 1), (3, 1), (4, 1)] := ew Tryz.zeroValue77 Tryz.underlying77 (fun w => by kernel_rfl)
theorem alB : bI Tryz.prog 77 0 0 := ⟨fun a w => by kernel_rfl⟩
theorem alC : bI Tryz.prog 77 1 1 := ⟨fun a w => by kernel_rfl⟩
theorem alD : bI Tryz.prog 77 2 2 := ⟨fun a w => by kernel_rfl⟩
theorem alF : bI Tryz.prog 77 3 3 := ⟨fun a w => by kernel_rfl⟩
theorem alG : bI Tryz.prog 77 4 4 := ⟨fun a w => by kernel_rfl⟩
theorem alH : bn Tryz.prog 77 0 0 1 false := bq Tryz.underlying77 (by kernel_rfl) ty3 (by decide)
theorem alI : bn Tryz.prog 77 1 1 1 false := bq Tryz.underlying77 (by kernel_rfl) ty3 (by decide)
theorem alJ : bn Tryz.prog 77 2 2 1 false := bq Tryz.underlying77 (by kernel_rfl) ty3 (by decide)
theorem alK : bn Tryz.prog 77 3 3 1 false := bq Tryz.underlying77 (by kernel_rfl) ty3 (by decide)
theorem alL : bn Tryz.prog 77 4 4 1 false := bq Tryz.underlying77 (by kernel_rfl) ty3 (by decide)
theorem ty78 : TyS Tryz.prog 78 5 true := ⟨Tryz.sizeOf78, Tryz.isAgg78⟩
theorem arZ : dU Tryz.prog 78 [.int .i64 0, .int .i64 0, .int .i64 0, .int .i64 0, .int .i64 0] [(0, 1), (1, 1), (2, 1), (3, 1), (4, 1)] := ew Tryz.zeroValue78 Tryz.underlying78 (fun w => by kernel_rfl)
theorem alM : bI Tryz.prog 78 0 0 := ⟨fun a w => by kernel_rfl⟩
theorem alN : bI Tryz.prog 78 1 1 := ⟨fun a w => by kernel_rfl⟩
theorem alO : bI Tryz.prog 78 2 2 := ⟨fun a w => by kernel_rfl⟩
theorem alP : bI Tryz.prog 78 3 3 := ⟨fun a w => by kernel_rfl⟩
theorem alQ : bI Tryz.prog 78 4 4 := ⟨fun a w => by kernel_rfl⟩
theorem alR : bn Tryz.prog 78 0 0 1 false := bq Tryz.underlying78 (by kernel_rfl) ty3 (by decide)
theorem alS : bn Tryz.prog 78 1 1 1 false := bq Tryz.underlying78 (by kernel_rfl) ty3 (by decide)
theorem alT : bn Tryz.prog 78 2 2 1 false := bq Tryz.underlying78 (by kernel_rfl) ty3 (by decide)
theorem alU : bn Tryz.prog 78 3 3 1 false := bq Tryz.underlying78 (by kernel_rfl) ty3 (by decide)
theorem alV : bn Tryz.prog 78 4 4 1 false := bq Tryz.underlying78 (by kernel_rfl) ty3 (by decide)
theorem ar0 (a0 b0 : Int) (a1 b1 : Int) (a2 b2 : Int) (a3 b3 : Int) (a4 b4 : Int) (w : World) : (Op.eqFields 9999 #[.int .i64 a0, .int .i64 a1, .int .i64 a2, .int .i64 a3, .int .i64 a4] #[.int .i64 b0, .int .i64 b1, .int .i64 b2, .int .i64 b3, .int .i64 b4] (Tryz.prog.fieldsOf 78).toList).run Tryz.prog w = .ok (decide (a0 = b0) && (decide (a1 = b1) && (decide (a2 = b2) && (decide (a3 = b3) && (decide (a4 = b4) && true))))) w := by
 have hf : (Tryz.prog.fieldsOf 78).toList.map (fun f => (f.name == "_", f.type, f.offset)) = [(false, 3, 0), (false, 3, 1), (false, 3, 2), (false, 3, 3), (false, 3, 4)] := by kernel_rfl
 have q : (Op.eqFields 9999 #[.int .i64 a0, .int .i64 a1, .int .i64 a2, .int .i64 a3, .int .i64 a4] #[.int .i64 b0, .int .i64 b1, .int .i64 b2, .int .i64 b3, .int .i64 b4] (Tryz.prog.fieldsOf 78).toList).run Tryz.prog w = .ok (decide (a0 = b0) && (decide (a1 = b1) && (decide (a2 = b2) && (decide (a3 = b3) && (decide (a4 = b4) && true))))) w := by
  obtain ⟨f0, t0, e0, h0, hf⟩ := fC hf
  obtain ⟨f1, t1, e1, h1, hf⟩ := fC hf
  obtain ⟨f2, t2, e2, h2, hf⟩ := fC hf
  obtain ⟨f3, t3, e3, h3, hf⟩ := fC hf
  obtain ⟨f4, t4, e4, h4, hf⟩ := fC hf
  rw [e0, e1, e2, e3, e4, tE hf]
  exact lq h0 Tryz.isAgg3 Tryz.underlying3 rfl rfl (lq h1 Tryz.isAgg3 Tryz.underlying3 rfl rfl (lq h2 Tryz.isAgg3 Tryz.underlying3 rfl rfl (lq h3 Tryz.isAgg3 Tryz.underlying3 rfl rfl (lq h4 Tryz.isAgg3 Tryz.underlying3 rfl rfl (yg)))))
 exact q
theorem agc (x y : Operand) (a0 b0 : Int) (a1 b1 : Int) (a2 b2 : Int) (a3 b3 : Int) (a4 b4 : Int) (w : World) : (do eqGuard .neq 78 x y (.agg #[.int .i64 a0, .int .i64 a1, .int .i64 a2, .int .i64 a3, .int .i64 a4]) (.agg #[.int .i64 b0, .int .i64 b1, .int .i64 b2, .int .i64 b3, .int .i64 b4]); binOp .neq 78 (.agg #[.int .i64 a0, .int .i64 a1, .int .i64 a2, .int .i64 a3, .int .i64 a4]) (.agg #[.int .i64 b0, .int .i64 b1, .int .i64 b2, .int .i64 b3, .int .i64 b4]) : Sem Value).run Tryz.prog w = .ok (.bool (!(decide (a0 = b0) && (decide (a1 = b1) && (decide (a2 = b2) && (decide (a3 = b3) && (decide (a4 = b4) && true))))))) w := yh _ _ _ x y (by kernel_rfl) (by kernel_rfl) (by kernel_rfl) (ar0 a0 b0 a1 b1 a2 b2 a3 b3 a4 b4 w)
theorem ty80 : TyS Tryz.prog 80 5 true := ⟨Tryz.sizeOf80, Tryz.isAgg80⟩
theorem ar1 : dU Tryz.prog 80 [.int .i64 0, .int .i64 0, .bool false, .slice none 0 0, .slice none 0 0] [(0, 1), (1, 1), (2, 1), (3, 1), (4, 1)] := ew Tryz.zeroValue80 Tryz.underlying80 (fun w => by kernel_rfl)
theorem alW : bI Tryz.prog 80 0 0 := ⟨fun a w => by kernel_rfl⟩
theorem alX : bI Tryz.prog 80 1 1 := ⟨fun a w => by kernel_rfl⟩
theorem alY : bI Tryz.prog 80 2 2 := ⟨fun a w => by kernel_rfl⟩
theorem alZ : bI Tryz.prog 80 3 3 := ⟨fun a w => by kernel_rfl⟩
theorem al0 : bI Tryz.prog 80 4 4 := ⟨fun a w => by kernel_rfl⟩
theorem al1 : bn Tryz.prog 80 0 0 1 false := bq Tryz.underlying80 (by kernel_rfl) ty3 (by decide)
theorem al2 : bn Tryz.prog 80 1 1 1 false := bq Tryz.underlying80 (by kernel_rfl) ty3 (by decide)
theorem al3 : bn Tryz.prog 80 2 2 1 false := bq Tryz.underlying80 (by kernel_rfl) ty4 (by decide)
theorem al4 : bn Tryz.prog 80 3 3 1 false := bq Tryz.underlying80 (by kernel_rfl) acy (by decide)
theorem al5 : bn Tryz.prog 80 4 4 1 true := bq Tryz.underlying80 (by kernel_rfl) acz (by decide)
theorem ty81 : TyS Tryz.prog 81 5 true := ⟨Tryz.sizeOf81, Tryz.isAgg81⟩
theorem ar2 : dU Tryz.prog 81 [.int .i64 0, .int .i64 0, .bool false, .slice none 0 0, .slice none 0 0] [(0, 1), (1, 1), (2, 1), (3, 1), (4, 1)] := ew Tryz.zeroValue81 Tryz.underlying81 (fun w => by kernel_rfl)
theorem al6 : bI Tryz.prog 81 0 0 := ⟨fun a w => by kernel_rfl⟩
theorem al7 : bI Tryz.prog 81 1 1 := ⟨fun a w => by kernel_rfl⟩
theorem al8 : bI Tryz.prog 81 2 2 := ⟨fun a w => by kernel_rfl⟩
theorem al9 : bI Tryz.prog 81 3 3 := ⟨fun a w => by kernel_rfl⟩
theorem ama : bI Tryz.prog 81 4 4 := ⟨fun a w => by kernel_rfl⟩
theorem amb : bn Tryz.prog 81 0 0 1 false := bq Tryz.underlying81 (by kernel_rfl) ty3 (by decide)
theorem amc : bn Tryz.prog 81 1 1 1 false := bq Tryz.underlying81 (by kernel_rfl) ty3 (by decide)
theorem amd : bn Tryz.prog 81 2 2 1 false := bq Tryz.underlying81 (by kernel_rfl) ty4 (by decide)
theorem ame : bn Tryz.prog 81 3 3 1 false := bq Tryz.underlying81 (by kernel_rfl) acy (by decide)
theorem amf : bn Tryz.prog 81 4 4 1 true := bq Tryz.underlying81 (by kernel_rfl) acz (by decide)
theorem ty84 : TyS Tryz.prog 84 3 true := ⟨Tryz.sizeOf84, Tryz.isAgg84⟩
theorem ar3 : dU Tryz.prog 84 [.int .i64 0, .int .i64 0, .int .i64 0] [(0, 1), (1, 1), (2, 1)] := ew Tryz.zeroValue84 Tryz.underlying84 (fun w => by kernel_rfl)
theorem amg : bI Tryz.prog 84 0 0 := ⟨fun a w => by kernel_rfl⟩
theorem amh : bI Tryz.prog 84 1 1 := ⟨fun a w => by kernel_rfl⟩
theorem ami : bI Tryz.prog 84 2 2 := ⟨fun a w => by kernel_rfl⟩
theorem amj : bn Tryz.prog 84 0 0 1 false := bq Tryz.underlying84 (by kernel_rfl) ty3 (by decide)
theorem amk : bn Tryz.prog 84 1 1 1 false := bq Tryz.underlying84 (by kernel_rfl) ty3 (by decide)
theorem aml : bn Tryz.prog 84 2 2 1 false := bq Tryz.underlying84 (by kernel_rfl) ty3 (by decide)
theorem agd : TyS Tryz.prog 85 3 true := ⟨Tryz.sizeOf85, Tryz.isAgg85⟩
theorem ar4 : dU Tryz.prog 85 [.int .i64 0, .int .i64 0, .int .i64 0] [(0, 1), (1, 1), (2, 1)] := ew Tryz.zeroValue85 Tryz.underlying85 (fun w => by kernel_rfl)
theorem amm : bI Tryz.prog 85 0 0 := ⟨fun a w => by kernel_rfl⟩
theorem amn : bI Tryz.prog 85 1 1 := ⟨fun a w => by kernel_rfl⟩
theorem amo : bI Tryz.prog 85 2 2 := ⟨fun a w => by kernel_rfl⟩
theorem amp : bn Tryz.prog 85 0 0 1 false := bq Tryz.underlying85 (by kernel_rfl) ty3 (by decide)
theorem amq : bn Tryz.prog 85 1 1 1 false := bq Tryz.underlying85 (by kernel_rfl) ty3 (by decide)
theorem amr : bn Tryz.prog 85 2 2 1 false := bq Tryz.underlying85 (by kernel_rfl) ty3 (by decide)
theorem ar5 (a0 b0 : Int) (a1 b1 : Int) (a2 b2 : Int) (w : World) : (Op.eqFields 9999 #[.int .i64 a0, .int .i64 a1, .int .i64 a2] #[.int .i64 b0, .int .i64 b1, .int .i64 b2] (Tryz.prog.fieldsOf 85).toList).run Tryz.prog w = .ok (decide (a0 = b0) && (decide (a1 = b1) && (decide (a2 = b2) && true))) w := by
 have hf : (Tryz.prog.fieldsOf 85).toList.map (fun f => (f.name == "_", f.type, f.offset)) = [(false, 3, 0), (false, 3, 1), (false, 3, 2)] := by kernel_rfl
 have q : (Op.eqFields 9999 #[.int .i64 a0, .int .i64 a1, .int .i64 a2] #[.int .i64 b0, .int .i64 b1, .int .i64 b2] (Tryz.prog.fieldsOf 85).toList).run Tryz.prog w = .ok (decide (a0 = b0) && (decide (a1 = b1) && (decide (a2 = b2) && true))) w := by
  obtain ⟨f0, t0, e0, h0, hf⟩ := fC hf
  obtain ⟨f1, t1, e1, h1, hf⟩ := fC hf
  obtain ⟨f2, t2, e2, h2, hf⟩ := fC hf
  rw [e0, e1, e2, tE hf]
  exact lq h0 Tryz.isAgg3 Tryz.underlying3 rfl rfl (lq h1 Tryz.isAgg3 Tryz.underlying3 rfl rfl (lq h2 Tryz.isAgg3 Tryz.underlying3 rfl rfl (yg)))
 exact q
theorem zk (x y : Operand) (a0 b0 : Int) (a1 b1 : Int) (a2 b2 : Int) (w : World) : (do eqGuard .neq 85 x y (.agg #[.int .i64 a0, .int .i64 a1, .int .i64 a2]) (.agg #[.int .i64 b0, .int .i64 b1, .int .i64 b2]); binOp .neq 85 (.agg #[.int .i64 a0, .int .i64 a1, .int .i64 a2]) (.agg #[.int .i64 b0, .int .i64 b1, .int .i64 b2]) : Sem Value).run Tryz.prog w = .ok (.bool (!(decide (a0 = b0) && (decide (a1 = b1) && (decide (a2 = b2) && true))))) w := yh _ _ _ x y (by kernel_rfl) (by kernel_rfl) (by kernel_rfl) (ar5 a0 b0 a1 b1 a2 b2 w)
theorem ty86 : TyS Tryz.prog 86 2 true := ⟨Tryz.sizeOf86, Tryz.isAgg86⟩
theorem ar6 : dU Tryz.prog 86 [.int .i64 0, .bool false] [(0, 1), (1, 1)] := ew Tryz.zeroValue86 Tryz.underlying86 (fun w => by kernel_rfl)
theorem ams : bI Tryz.prog 86 0 0 := ⟨fun a w => by kernel_rfl⟩
theorem amt : bI Tryz.prog 86 1 1 := ⟨fun a w => by kernel_rfl⟩
theorem amu : bn Tryz.prog 86 0 0 1 false := bq Tryz.underlying86 (by kernel_rfl) ty3 (by decide)
theorem amv : bn Tryz.prog 86 1 1 1 false := bq Tryz.underlying86 (by kernel_rfl) ty4 (by decide)
theorem ty87 : TyS Tryz.prog 87 2 true := ⟨Tryz.sizeOf87, Tryz.isAgg87⟩
theorem ar7 : dU Tryz.prog 87 [.int .i64 0, .bool false] [(0, 1), (1, 1)] := ew Tryz.zeroValue87 Tryz.underlying87 (fun w => by kernel_rfl)
theorem amw : bI Tryz.prog 87 0 0 := ⟨fun a w => by kernel_rfl⟩
theorem amx : bI Tryz.prog 87 1 1 := ⟨fun a w => by kernel_rfl⟩
theorem amy : bn Tryz.prog 87 0 0 1 false := bq Tryz.underlying87 (by kernel_rfl) ty3 (by decide)
theorem amz : bn Tryz.prog 87 1 1 1 false := bq Tryz.underlying87 (by kernel_rfl) ty4 (by decide)
theorem ar8 (a0 b0 : Int) (a1 b1 : Bool) (w : World) : (Op.eqFields 9999 #[.int .i64 a0, .bool a1] #[.int .i64 b0, .bool b1] (Tryz.prog.fieldsOf 87).toList).run Tryz.prog w = .ok (decide (a0 = b0) && ((a1 == b1) && true)) w := by
 have hf : (Tryz.prog.fieldsOf 87).toList.map (fun f => (f.name == "_", f.type, f.offset)) = [(false, 3, 0), (false, 4, 1)] := by kernel_rfl
 have q : (Op.eqFields 9999 #[.int .i64 a0, .bool a1] #[.int .i64 b0, .bool b1] (Tryz.prog.fieldsOf 87).toList).run Tryz.prog w = .ok (decide (a0 = b0) && ((a1 == b1) && true)) w := by
  obtain ⟨f0, t0, e0, h0, hf⟩ := fC hf
  obtain ⟨f1, t1, e1, h1, hf⟩ := fC hf
  rw [e0, e1, tE hf]
  exact lq h0 Tryz.isAgg3 Tryz.underlying3 rfl rfl (af4 h1 Tryz.isAgg4 Tryz.underlying4 rfl rfl (yg))
 exact q
theorem age (x y : Operand) (a0 b0 : Int) (a1 b1 : Bool) (w : World) : (do eqGuard .neq 87 x y (.agg #[.int .i64 a0, .bool a1]) (.agg #[.int .i64 b0, .bool b1]); binOp .neq 87 (.agg #[.int .i64 a0, .bool a1]) (.agg #[.int .i64 b0, .bool b1]) : Sem Value).run Tryz.prog w = .ok (.bool (!(decide (a0 = b0) && ((a1 == b1) && true)))) w := yh _ _ _ x y (by kernel_rfl) (by kernel_rfl) (by kernel_rfl) (ar8 a0 b0 a1 b1 w)
theorem ty88 : TyS Tryz.prog 88 1 false := ⟨Tryz.sizeOf88, Tryz.isAgg88⟩
theorem ty90 : TyS Tryz.prog 90 3 true := ⟨Tryz.sizeOf90, Tryz.isAgg90⟩
theorem ar9 : dU Tryz.prog 90 [.slice none 0 0, .slice none 0 0, .slice none 0 0] [(0, 3)] := ew Tryz.zeroValue90 Tryz.underlying90 (fun w => by kernel_rfl)
theorem amA : bI Tryz.prog 90 0 0 := ⟨fun a w => by kernel_rfl⟩
theorem amB : bn Tryz.prog 90 0 0 3 true := bq Tryz.underlying90 (by kernel_rfl) af7 (by decide)
theorem ty91 : TyS Tryz.prog 91 3 true := ⟨Tryz.sizeOf91, Tryz.isAgg91⟩
theorem asa : dU Tryz.prog 91 [.slice none 0 0, .slice none 0 0, .slice none 0 0] [(0, 3)] := ew Tryz.zeroValue91 Tryz.underlying91 (fun w => by kernel_rfl)
theorem amC : bI Tryz.prog 91 0 0 := ⟨fun a w => by kernel_rfl⟩
theorem amD : bn Tryz.prog 91 0 0 3 true := bq Tryz.underlying91 (by kernel_rfl) af7 (by decide)
theorem ty92 : TyS Tryz.prog 92 1 false := ⟨Tryz.sizeOf92, Tryz.isAgg92⟩
theorem sl92 : SlS Tryz.prog 92 1 1 := ⟨Tryz.underlying92, Tryz.sizeOf1⟩
theorem asb : n5 Tryz.prog 92 1 1 8 := ⟨Tryz.underlying92, (by obtain ⟨i, h1, h2, h3, h4⟩ := info_parts (by kernel_rfl : (Tryz.prog.info? 1).map (fun i => (i.zero, i.size, i.bytes)) = some (some (.nilFunc), 1, 8)); exact ⟨i, _, h1, h2, h3, h4, rfl⟩), by decide⟩
theorem asd : nj Tryz.prog 92 1 1 [.nilFunc] := ⟨Tryz.underlying92, Tryz.sizeOf1, ze1, rfl⟩
theorem ty95 : TyS Tryz.prog 95 1 false := ⟨Tryz.sizeOf95, Tryz.isAgg95⟩
theorem ase : TyS Tryz.prog 105 3 true := ⟨Tryz.sizeOf105, Tryz.isAgg105⟩
theorem anK : dU Tryz.prog 105 [.int .i64 0, .int .i64 0, .int .i64 0] [(0, 1), (1, 1), (2, 1)] := ew Tryz.zeroValue105 Tryz.underlying105 (fun w => by kernel_rfl)
theorem agf : bI Tryz.prog 105 0 0 := ⟨fun a w => by kernel_rfl⟩
theorem agh : bI Tryz.prog 105 1 1 := ⟨fun a w => by kernel_rfl⟩
theorem agi : bI Tryz.prog 105 2 2 := ⟨fun a w => by kernel_rfl⟩
theorem agj : bn Tryz.prog 105 0 0 1 false := bq Tryz.underlying105 (by kernel_rfl) ty3 (by decide)
theorem agk : bn Tryz.prog 105 1 1 1 false := bq Tryz.underlying105 (by kernel_rfl) ty3 (by decide)
theorem agl : bn Tryz.prog 105 2 2 1 false := bq Tryz.underlying105 (by kernel_rfl) ty3 (by decide)
theorem asf : TyS Tryz.prog 106 3 true := ⟨Tryz.sizeOf106, Tryz.isAgg106⟩
theorem anL : dU Tryz.prog 106 [.int .i64 0, .int .i64 0, .int .i64 0] [(0, 1), (1, 1), (2, 1)] := ew Tryz.zeroValue106 Tryz.underlying106 (fun w => by kernel_rfl)
theorem agm : bI Tryz.prog 106 0 0 := ⟨fun a w => by kernel_rfl⟩
theorem agn : bI Tryz.prog 106 1 1 := ⟨fun a w => by kernel_rfl⟩
theorem ago : bI Tryz.prog 106 2 2 := ⟨fun a w => by kernel_rfl⟩
theorem agp : bn Tryz.prog 106 0 0 1 false := bq Tryz.underlying106 (by kernel_rfl) ty3 (by decide)
theorem agq : bn Tryz.prog 106 1 1 1 false := bq Tryz.underlying106 (by kernel_rfl) ty3 (by decide)
theorem agr : bn Tryz.prog 106 2 2 1 false := bq Tryz.underlying106 (by kernel_rfl) ty3 (by decide)
theorem anM (a0 b0 : Int) (a1 b1 : Int) (a2 b2 : Int) (w : World) : (Op.eqFields 9999 #[.int .i64 a0, .int .i64 a1, .int .i64 a2] #[.int .i64 b0, .int .i64 b1, .int .i64 b2] (Tryz.prog.fieldsOf 106).toList).run Tryz.prog w = .ok (decide (a0 = b0) && (decide (a1 = b1) && (decide (a2 = b2) && true))) w := by
 have hf : (Tryz.prog.fieldsOf 106).toList.map (fun f => (f.name == "_", f.type, f.offset)) = [(false, 3, 0), (false, 3, 1), (false, 3, 2)] := by kernel_rfl
 have q : (Op.eqFields 9999 #[.int .i64 a0, .int .i64 a1, .int .i64 a2] #[.int .i64 b0, .int .i64 b1, .int .i64 b2] (Tryz.prog.fieldsOf 106).toList).run Tryz.prog w = .ok (decide (a0 = b0) && (decide (a1 = b1) && (decide (a2 = b2) && true))) w := by
  obtain ⟨f0, t0, e0, h0, hf⟩ := fC hf
  obtain ⟨f1, t1, e1, h1, hf⟩ := fC hf
  obtain ⟨f2, t2, e2, h2, hf⟩ := fC hf
  rw [e0, e1, e2, tE hf]
  exact lq h0 Tryz.isAgg3 Tryz.underlying3 rfl rfl (lq h1 Tryz.isAgg3 Tryz.underlying3 rfl rfl (lq h2 Tryz.isAgg3 Tryz.underlying3 rfl rfl (yg)))
 exact q
theorem abE (x y : Operand) (a0 b0 : Int) (a1 b1 : Int) (a2 b2 : Int) (w : World) : (do eqGuard .neq 106 x y (.agg #[.int .i64 a0, .int .i64 a1, .int .i64 a2]) (.agg #[.int .i64 b0, .int .i64 b1, .int .i64 b2]); binOp .neq 106 (.agg #[.int .i64 a0, .int .i64 a1, .int .i64 a2]) (.agg #[.int .i64 b0, .int .i64 b1, .int .i64 b2]) : Sem Value).run Tryz.prog w = .ok (.bool (!(decide (a0 = b0) && (decide (a1 = b1) && (decide (a2 = b2) && true))))) w := yh _ _ _ x y (by kernel_rfl) (by kernel_rfl) (by kernel_rfl) (anM a0 b0 a1 b1 a2 b2 w)
theorem asg : TyS Tryz.prog 109 1 false := ⟨Tryz.sizeOf109, Tryz.isAgg109⟩
theorem ash : TyS Tryz.prog 119 2 true := ⟨Tryz.sizeOf119, Tryz.isAgg119⟩
theorem anN : dU Tryz.prog 119 [.int .i64 0, .int .i64 0] [(0, 1), (1, 1)] := ew Tryz.zeroValue119 Tryz.underlying119 (fun w => by kernel_rfl)
theorem agt : bI Tryz.prog 119 0 0 := ⟨fun a w => by kernel_rfl⟩
theorem agu : bI Tryz.prog 119 1 1 := ⟨fun a w => by kernel_rfl⟩
theorem agv : bn Tryz.prog 119 0 0 1 false := bq Tryz.underlying119 (by kernel_rfl) ty3 (by decide)
theorem agw : bn Tryz.prog 119 1 1 1 false := bq Tryz.underlying119 (by kernel_rfl) ty3 (by decide)
theorem asi : TyS Tryz.prog 120 2 true := ⟨Tryz.sizeOf120, Tryz.isAgg120⟩
theorem anO : dU Tryz.prog 120 [.int .i64 0, .int .i64 0] [(0, 1), (1, 1)] := ew Tryz.zeroValue120 Tryz.underlying120 (fun w => by kernel_rfl)
theorem agx : bI Tryz.prog 120 0 0 := ⟨fun a w => by kernel_rfl⟩
theorem agy : bI Tryz.prog 120 1 1 := ⟨fun a w => by kernel_rfl⟩
theorem agz : bn Tryz.prog 120 0 0 1 false := bq Tryz.underlying120 (by kernel_rfl) ty3 (by decide)
theorem agA : bn Tryz.prog 120 1 1 1 false := bq Tryz.underlying120 (by kernel_rfl) ty3 (by decide)
theorem asj : TyS Tryz.prog 123 1 false := ⟨Tryz.sizeOf123, Tryz.isAgg123⟩
theorem asl : TyS Tryz.prog 124 1 false := ⟨Tryz.sizeOf124, Tryz.isAgg124⟩
theorem asm : TyS Tryz.prog 133 1 false := ⟨Tryz.sizeOf133, Tryz.isAgg133⟩
theorem asn : TyS Tryz.prog 135 1 false := ⟨Tryz.sizeOf135, Tryz.isAgg135⟩
theorem aso : TyS Tryz.prog 137 1 false := ⟨Tryz.sizeOf137, Tryz.isAgg137⟩
theorem asp : TyS Tryz.prog 138 1 false := ⟨Tryz.sizeOf138, Tryz.isAgg138⟩
theorem asq : TyS Tryz.prog 141 1 false := ⟨Tryz.sizeOf141, Tryz.isAgg141⟩
theorem asr : TyS Tryz.prog 152 1 false := ⟨Tryz.sizeOf152, Tryz.isAgg152⟩
theorem ass : SlS Tryz.prog 152 155 4 := ⟨Tryz.underlying152, Tryz.sizeOf155⟩
theorem anP : n5 Tryz.prog 152 155 4 32 := ⟨Tryz.underlying152, (by obtain ⟨i, h1, h2, h3, h4⟩ := info_parts (by kernel_rfl : (Tryz.prog.info? 155).map (fun i => (i.zero, i.size, i.bytes)) = some (some (.agg #[.int .i64 0, .int .i64 0, .int .i64 0, .int .i64 0]), 4, 32)); exact ⟨i, _, h1, h2, h3, h4, rfl⟩), by decide⟩
theorem anQ : nj Tryz.prog 152 155 4 [.int .i64 0, .int .i64 0, .int .i64 0, .int .i64 0] := ⟨Tryz.underlying152, Tryz.sizeOf155, aiM, rfl⟩
theorem ast : TyS Tryz.prog 154 4 true := ⟨Tryz.sizeOf154, Tryz.isAgg154⟩
theorem anR : dU Tryz.prog 154 [.int .i64 0, .int .i64 0, .int .i64 0, .int .i64 0] [(0, 1), (1, 3)] := ew Tryz.zeroValue154 Tryz.underlying154 (fun w => by kernel_rfl)
theorem agB : bI Tryz.prog 154 0 0 := ⟨fun a w => by kernel_rfl⟩
theorem agC : bI Tryz.prog 154 1 1 := ⟨fun a w => by kernel_rfl⟩
theorem agD : bn Tryz.prog 154 0 0 1 false := bq Tryz.underlying154 (by kernel_rfl) ty3 (by decide)
theorem agE : bn Tryz.prog 154 1 1 3 true := bq Tryz.underlying154 (by kernel_rfl) agd (by decide)
theorem asu : TyS Tryz.prog 155 4 true := ⟨Tryz.sizeOf155, Tryz.isAgg155⟩
theorem anS : dU Tryz.prog 155 [.int .i64 0, .int .i64 0, .int .i64 0, .int .i64 0] [(0, 1), (1, 3)] := ew Tryz.zeroValue155 Tryz.underlying155 (fun w => by kernel_rfl)
theorem agF : bI Tryz.prog 155 0 0 := ⟨fun a w => by kernel_rfl⟩
theorem agG : bI Tryz.prog 155 1 1 := ⟨fun a w => by kernel_rfl⟩
theorem agH : bn Tryz.prog 155 0 0 1 false := bq Tryz.underlying155 (by kernel_rfl) ty3 (by decide)
theorem agI : bn Tryz.prog 155 1 1 3 true := bq Tryz.underlying155 (by kernel_rfl) agd (by decide)
theorem asv : TyS Tryz.prog 156 1 false := ⟨Tryz.sizeOf156, Tryz.isAgg156⟩
theorem asw : TyS Tryz.prog 165 1 false := ⟨Tryz.sizeOf165, Tryz.isAgg165⟩
theorem asx : TyS Tryz.prog 174 1 false := ⟨Tryz.sizeOf174, Tryz.isAgg174⟩
theorem asy : TyS Tryz.prog 180 1 false := ⟨Tryz.sizeOf180, Tryz.isAgg180⟩
theorem aej : TyS Tryz.prog 182 1 false := ⟨Tryz.sizeOf182, Tryz.isAgg182⟩
theorem asz : SlS Tryz.prog 182 5 1 := ⟨Tryz.underlying182, Tryz.sizeOf5⟩
theorem anT : n5 Tryz.prog 182 5 1 1 := ⟨Tryz.underlying182, (by obtain ⟨i, h1, h2, h3, h4⟩ := info_parts (by kernel_rfl : (Tryz.prog.info? 5).map (fun i => (i.zero, i.size, i.bytes)) = some (some (.int .u8 0), 1, 1)); exact ⟨i, _, h1, h2, h3, h4, rfl⟩), by decide⟩
theorem anU : nj Tryz.prog 182 5 1 [.int .u8 0] := ⟨Tryz.underlying182, Tryz.sizeOf5, ze5, rfl⟩
theorem asA : TyS Tryz.prog 186 1 false := ⟨Tryz.sizeOf186, Tryz.isAgg186⟩
theorem aek : TyS Tryz.prog 194 1 false := ⟨Tryz.sizeOf194, Tryz.isAgg194⟩
theorem asB : TyS Tryz.prog 196 1 false := ⟨Tryz.sizeOf196, Tryz.isAgg196⟩
theorem asC : TyS Tryz.prog 200 2 true := ⟨Tryz.sizeOf200, Tryz.isAgg200⟩
theorem anV : dU Tryz.prog 200 [.slice none 0 0, .int .i64 0] [(0, 1), (1, 1)] := ew Tryz.zeroValue200 Tryz.underlying200 (fun w => by kernel_rfl)
theorem agJ : bI Tryz.prog 200 0 0 := ⟨fun a w => by kernel_rfl⟩
theorem agK : bI Tryz.prog 200 1 1 := ⟨fun a w => by kernel_rfl⟩
theorem agL : bn Tryz.prog 200 0 0 1 false := bq Tryz.underlying200 (by kernel_rfl) aej (by decide)
theorem agM : bn Tryz.prog 200 1 1 1 false := bq Tryz.underlying200 (by kernel_rfl) ty3 (by decide)
theorem ael : TyS Tryz.prog 201 2 true := ⟨Tryz.sizeOf201, Tryz.isAgg201⟩
theorem anW : dU Tryz.prog 201 [.slice none 0 0, .int .i64 0] [(0, 1), (1, 1)] := ew Tryz.zeroValue201 Tryz.underlying201 (fun w => by kernel_rfl)
theorem agN : bI Tryz.prog 201 0 0 := ⟨fun a w => by kernel_rfl⟩
theorem agO : bI Tryz.prog 201 1 1 := ⟨fun a w => by kernel_rfl⟩
theorem agP : bn Tryz.prog 201 0 0 1 false := bq Tryz.underlying201 (by kernel_rfl) aej (by decide)
theorem agQ : bn Tryz.prog 201 1 1 1 false := bq Tryz.underlying201 (by kernel_rfl) ty3 (by decide)
theorem asD : TyS Tryz.prog 207 1 false := ⟨Tryz.sizeOf207, Tryz.isAgg207⟩
theorem asE : TyS Tryz.prog 211 1 false := ⟨Tryz.sizeOf211, Tryz.isAgg211⟩
theorem asF : TyS Tryz.prog 213 2 true := ⟨Tryz.sizeOf213, Tryz.isAgg213⟩
theorem anX : dU Tryz.prog 213 [.slice none 0 0, .int .i64 0] [(0, 2)] := ew Tryz.zeroValue213 Tryz.underlying213 (fun w => by kernel_rfl)
theorem agR : bI Tryz.prog 213 0 0 := ⟨fun a w => by kernel_rfl⟩
theorem agS : bn Tryz.prog 213 0 0 2 true := bq Tryz.underlying213 (by kernel_rfl) ael (by decide)
theorem asG : TyS Tryz.prog 214 2 true := ⟨Tryz.sizeOf214, Tryz.isAgg214⟩
theorem anY : dU Tryz.prog 214 [.slice none 0 0, .int .i64 0] [(0, 2)] := ew Tryz.zeroValue214 Tryz.underlying214 (fun w => by kernel_rfl)
theorem agT : bI Tryz.prog 214 0 0 := ⟨fun a w => by kernel_rfl⟩
theorem agU : bn Tryz.prog 214 0 0 2 true := bq Tryz.underlying214 (by kernel_rfl) ael (by decide)
theorem asH : TyS Tryz.prog 220 1 false := ⟨Tryz.sizeOf220, Tryz.isAgg220⟩
theorem asI : TyS Tryz.prog 224 1 false := ⟨Tryz.sizeOf224, Tryz.isAgg224⟩
theorem asJ : TyS Tryz.prog 228 1 false := ⟨Tryz.sizeOf228, Tryz.isAgg228⟩
theorem asK : TyS Tryz.prog 230 4 true := ⟨Tryz.sizeOf230, Tryz.isAgg230⟩
theorem anZ : dU Tryz.prog 230 [.pointer none, .pointer none, .pointer none, .string ⟨#[]⟩] [(0, 1), (1, 1), (2, 1), (3, 1)] := ew Tryz.zeroValue230 Tryz.underlying230 (fun w => by kernel_rfl)
theorem agV : bI Tryz.prog 230 0 0 := ⟨fun a w => by kernel_rfl⟩
theorem agW : bI Tryz.prog 230 1 1 := ⟨fun a w => by kernel_rfl⟩
theorem agX : bI Tryz.prog 230 2 2 := ⟨fun a w => by kernel_rfl⟩
theorem agY : bI Tryz.prog 230 3 3 := ⟨fun a w => by kernel_rfl⟩
theorem agZ : bn Tryz.prog 230 0 0 1 false := bq Tryz.underlying230 (by kernel_rfl) wh (by decide)
theorem ag0 : bn Tryz.prog 230 1 1 1 false := bq Tryz.underlying230 (by kernel_rfl) wh (by decide)
theorem ag3 : bn Tryz.prog 230 2 2 1 false := bq Tryz.underlying230 (by kernel_rfl) wh (by decide)
theorem ag4 : bn Tryz.prog 230 3 3 1 false := bq Tryz.underlying230 (by kernel_rfl) ty9 (by decide)
theorem asL : TyS Tryz.prog 231 4 true := ⟨Tryz.sizeOf231, Tryz.isAgg231⟩
theorem an0 : dU Tryz.prog 231 [.pointer none, .pointer none, .pointer none, .string ⟨#[]⟩] [(0, 1), (1, 1), (2, 1), (3, 1)] := ew Tryz.zeroValue231 Tryz.underlying231 (fun w => by kernel_rfl)
theorem ag5 : bI Tryz.prog 231 0 0 := ⟨fun a w => by kernel_rfl⟩
theorem ag6 : bI Tryz.prog 231 1 1 := ⟨fun a w => by kernel_rfl⟩
theorem ag7 : bI Tryz.prog 231 2 2 := ⟨fun a w => by kernel_rfl⟩
theorem ag8 : bI Tryz.prog 231 3 3 := ⟨fun a w => by kernel_rfl⟩
theorem ag9 : bn Tryz.prog 231 0 0 1 false := bq Tryz.underlying231 (by kernel_rfl) wh (by decide)
theorem aha : bn Tryz.prog 231 1 1 1 false := bq Tryz.underlying231 (by kernel_rfl) wh (by decide)
theorem ahb : bn Tryz.prog 231 2 2 1 false := bq Tryz.underlying231 (by kernel_rfl) wh (by decide)
theorem ahc : bn Tryz.prog 231 3 3 1 false := bq Tryz.underlying231 (by kernel_rfl) ty9 (by decide)
theorem asM : TyS Tryz.prog 232 0 true := ⟨Tryz.sizeOf232, Tryz.isAgg232⟩
theorem aem : TyS Tryz.prog 235 1 false := ⟨Tryz.sizeOf235, Tryz.isAgg235⟩
theorem aen : TyS Tryz.prog 236 1 false := ⟨Tryz.sizeOf236, Tryz.isAgg236⟩
theorem aeo : TyS Tryz.prog 237 1 false := ⟨Tryz.sizeOf237, Tryz.isAgg237⟩
theorem aep : TyS Tryz.prog 238 1 false := ⟨Tryz.sizeOf238, Tryz.isAgg238⟩
theorem aeq : TyS Tryz.prog 239 1 false := ⟨Tryz.sizeOf239, Tryz.isAgg239⟩
theorem aer : TyS Tryz.prog 240 1 false := ⟨Tryz.sizeOf240, Tryz.isAgg240⟩
theorem asN : TyS Tryz.prog 241 11 true := ⟨Tryz.sizeOf241, Tryz.isAgg241⟩
theorem an1 : dU Tryz.prog 241 [.int .u64 0, .int .u64 0, .int .u32 0, .int .u8 0, .int .u8 0, .int .u8 0, .int .u8 0, .nilFunc, .pointer none, .int .i32 0, .int .i32 0] [(0, 1), (1, 1), (2, 1), (3, 1), (4, 1), (5, 1), (6, 1), (7, 1), (8, 1), (9, 1), (10, 1)] := ew Tryz.zeroValue241 Tryz.underlying241 (fun w => by kernel_rfl)
theorem ahd : bI Tryz.prog 241 0 0 := ⟨fun a w => by kernel_rfl⟩
theorem ahe : bI Tryz.prog 241 1 1 := ⟨fun a w => by kernel_rfl⟩
theorem ahf : bI Tryz.prog 241 2 2 := ⟨fun a w => by kernel_rfl⟩
theorem ahg : bI Tryz.prog 241 3 3 := ⟨fun a w => by kernel_rfl⟩
theorem ahh : bI Tryz.prog 241 4 4 := ⟨fun a w => by kernel_rfl⟩
theorem ahi : bI Tryz.prog 241 5 5 := ⟨fun a w => by kernel_rfl⟩
theorem ahj : bI Tryz.prog 241 6 6 := ⟨fun a w => by kernel_rfl⟩
theorem ahk : bI Tryz.prog 241 7 7 := ⟨fun a w => by kernel_rfl⟩
theorem ahl : bI Tryz.prog 241 8 8 := ⟨fun a w => by kernel_rfl⟩
theorem ahm : bI Tryz.prog 241 9 9 := ⟨fun a w => by kernel_rfl⟩
theorem afb : bI Tryz.prog 241 10 10 := ⟨fun a w => by kernel_rfl⟩
theorem ahn : bn Tryz.prog 241 0 0 1 false := bq Tryz.underlying241 (by kernel_rfl) zj (by decide)
theorem aho : bn Tryz.prog 241 1 1 1 false := bq Tryz.underlying241 (by kernel_rfl) zj (by decide)
theorem ahp : bn Tryz.prog 241 2 2 1 false := bq Tryz.underlying241 (by kernel_rfl) aek (by decide)
theorem ahq : bn Tryz.prog 241 3 3 1 false := bq Tryz.underlying241 (by kernel_rfl) aem (by decide)
theorem ahr : bn Tryz.prog 241 4 4 1 false := bq Tryz.underlying241 (by kernel_rfl) ty5 (by decide)
theorem ahs : bn Tryz.prog 241 5 5 1 false := bq Tryz.underlying241 (by kernel_rfl) ty5 (by decide)
theorem aht : bn Tryz.prog 241 6 6 1 false := bq Tryz.underlying241 (by kernel_rfl) aen (by decide)
theorem ahu : bn Tryz.prog 241 7 7 1 false := bq Tryz.underlying241 (by kernel_rfl) aeo (by decide)
theorem ahv : bn Tryz.prog 241 8 8 1 false := bq Tryz.underlying241 (by kernel_rfl) aep (by decide)
theorem ahw : bn Tryz.prog 241 9 9 1 false := bq Tryz.underlying241 (by kernel_rfl) aeq (by decide)
theorem afc : bn Tryz.prog 241 10 10 1 false := bq Tryz.underlying241 (by kernel_rfl) aer (by decide)
theorem asO : TyS Tryz.prog 242 11 true := ⟨Tryz.sizeOf242, Tryz.isAgg242⟩
theorem an2 : dU Tryz.prog 242 [.int .u64 0, .int .u64 0, .int .u32 0, .int .u8 0, .int .u8 0, .int .u8 0, .int .u8 0, .nilFunc, .pointer none, .int .i32 0, .int .i32 0] [(0, 1), (1, 1), (2, 1), (3, 1), (4, 1), (5, 1), (6, 1), (7, 1), (8, 1), (9, 1), (10, 1)] := ew Tryz.zeroValue242 Tryz.underlying242 (fun w => by kernel_rfl)
theorem ahx : bI Tryz.prog 242 0 0 := ⟨fun a w => by kernel_rfl⟩
theorem ahy : bI Tryz.prog 242 1 1 := ⟨fun a w => by kernel_rfl⟩
theorem ahz : bI Tryz.prog 242 2 2 := ⟨fun a w => by kernel_rfl⟩
theorem ahA : bI Tryz.prog 242 3 3 := ⟨fun a w => by kernel_rfl⟩
theorem ahB : bI Tryz.prog 242 4 4 := ⟨fun a w => by kernel_rfl⟩
theorem ahC : bI Tryz.prog 242 5 5 := ⟨fun a w => by kernel_rfl⟩
theorem ahD : bI Tryz.prog 242 6 6 := ⟨fun a w => by kernel_rfl⟩
theorem ahE : bI Tryz.prog 242 7 7 := ⟨fun a w => by kernel_rfl⟩
theorem ahF : bI Tryz.prog 242 8 8 := ⟨fun a w => by kernel_rfl⟩
theorem ahG : bI Tryz.prog 242 9 9 := ⟨fun a w => by kernel_rfl⟩
theorem afd : bI Tryz.prog 242 10 10 := ⟨fun a w => by kernel_rfl⟩
theorem ahH : bn Tryz.prog 242 0 0 1 false := bq Tryz.underlying242 (by kernel_rfl) zj (by decide)
theorem ahI : bn Tryz.prog 242 1 1 1 false := bq Tryz.underlying242 (by kernel_rfl) zj (by decide)
theorem ahJ : bn Tryz.prog 242 2 2 1 false := bq Tryz.underlying242 (by kernel_rfl) aek (by decide)
theorem ahK : bn Tryz.prog 242 3 3 1 false := bq Tryz.underlying242 (by kernel_rfl) aem (by decide)
theorem ahL : bn Tryz.prog 242 4 4 1 false := bq Tryz.underlying242 (by kernel_rfl) ty5 (by decide)
theorem ahM : bn Tryz.prog 242 5 5 1 false := bq Tryz.underlying242 (by kernel_rfl) ty5 (by decide)
theorem ahN : bn Tryz.prog 242 6 6 1 false := bq Tryz.underlying242 (by kernel_rfl) aen (by decide)
theorem ahO : bn Tryz.prog 242 7 7 1 false := bq Tryz.underlying242 (by kernel_rfl) aeo (by decide)
theorem ahP : bn Tryz.prog 242 8 8 1 false := bq Tryz.underlying242 (by kernel_rfl) aep (by decide)
theorem ahQ : bn Tryz.prog 242 9 9 1 false := bq Tryz.underlying242 (by kernel_rfl) aeq (by decide)
theorem afe : bn Tryz.prog 242 10 10 1 false := bq Tryz.underlying242 (by kernel_rfl) aer (by decide)
end Go.Proofs.YtpmifmdidfgpdaaGreat
