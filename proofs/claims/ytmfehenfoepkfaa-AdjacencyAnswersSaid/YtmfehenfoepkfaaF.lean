/- The types of this translation, as the rules want ado. No condition. -/
import Derived.Test.YtmfehenfoepkfaaAB
import Derived.Test.YtmfehenfoepkfaaRows
import Derived.OwnWalk
namespace Go.Proofs.Ytmfehenfoepkfaa
set_option linter.all false
open Go
set_option maxRecDepth 100000
abbrev Zr (i : Nat) (c : List Value) : Prop := ∀ w, ∃ z, (zeroValue i).run Try.prog w = .ok z w ∧ z.cells = c.toArray
theorem hmix : Try.prog.follows .mixedOrders = true := by kernel_rfl
theorem ze2 : Zr 2 [.int .i64 0] := fun w => ⟨_, Try.zeroValue2 w, rfl⟩
theorem ze3 : Zr 3 [.int .i64 0] := fun w => ⟨_, Try.zeroValue3 w, rfl⟩
theorem ze4 : Zr 4 [.bool false] := fun w => ⟨_, Try.zeroValue4 w, rfl⟩
theorem ze5 : Zr 5 [.int .u8 0] := fun w => ⟨_, Try.zeroValue5 w, rfl⟩
theorem ze6 : Zr 6 [.int .u8 0] := fun w => ⟨_, Try.zeroValue6 w, rfl⟩
theorem ze7 : Zr 7 [.int .i64 0, .int .i64 0, .bool false, .int .u8 0] := fun w => ⟨_, Try.zeroValue7 w, rfl⟩
theorem ze8 : Zr 8 [.int .i64 0, .int .i64 0, .bool false, .int .u8 0] := fun w => ⟨_, Try.zeroValue8 w, rfl⟩
theorem ze9 : Zr 9 [.string ⟨#[]⟩] := fun w => ⟨_, Try.zeroValue9 w, rfl⟩
theorem ze10 : Zr 10 [.string ⟨#[]⟩] := fun w => ⟨_, Try.zeroValue10 w, rfl⟩
theorem ze11 : Zr 11 [.string ⟨#[]⟩] := fun w => ⟨_, Try.zeroValue11 w, rfl⟩
theorem ze12 : Zr 12 [.int .u64 0] := fun w => ⟨_, Try.zeroValue12 w, rfl⟩
theorem ze13 : Zr 13 [.string ⟨#[]⟩, .int .u64 0] := fun w => ⟨_, Try.zeroValue13 w, rfl⟩
theorem ze14 : Zr 14 [.string ⟨#[]⟩, .int .u64 0] := fun w => ⟨_, Try.zeroValue14 w, rfl⟩
theorem ze15 : Zr 15 [.pointer none] := fun w => ⟨_, Try.zeroValue15 w, rfl⟩
theorem ze16 : Zr 16 [.pointer none] := fun w => ⟨_, Try.zeroValue16 w, rfl⟩
theorem ze17 : Zr 17 [.pointer none] := fun w => ⟨_, Try.zeroValue17 w, rfl⟩
theorem ze18 : Zr 18 [.pointer none] := fun w => ⟨_, Try.zeroValue18 w, rfl⟩
theorem ze19 : Zr 19 [.pointer none] := fun w => ⟨_, Try.zeroValue19 w, rfl⟩
theorem ze21 : Zr 21 [.int .i32 0] := fun w => ⟨_, Try.zeroValue21 w, rfl⟩
theorem aiU : Zr 22 [.slice none 0 0] := fun w => ⟨_, Try.zeroValue22 w, rfl⟩
theorem ze23 : Zr 23 [.slice none 0 0] := fun w => ⟨_, Try.zeroValue23 w, rfl⟩
theorem ze24 : Zr 24 [.int .i64 0, .slice none 0 0] := fun w => ⟨_, Try.zeroValue24 w, rfl⟩
theorem aiV : Zr 25 [.int .i64 0, .slice none 0 0] := fun w => ⟨_, Try.zeroValue25 w, rfl⟩
theorem ze27 : Zr 27 [.pointer none] := fun w => ⟨_, Try.zeroValue27 w, rfl⟩
theorem ze29 : Zr 29 [.slice none 0 0] := fun w => ⟨_, Try.zeroValue29 w, rfl⟩
theorem ze30 : Zr 30 [.slice none 0 0] := fun w => ⟨_, Try.zeroValue30 w, rfl⟩
theorem ze31 : Zr 31 [.slice none 0 0, .slice none 0 0] := fun w => ⟨_, Try.zeroValue31 w, rfl⟩
theorem aiW : Zr 32 [.slice none 0 0, .slice none 0 0] := fun w => ⟨_, Try.zeroValue32 w, rfl⟩
theorem ze34 : Zr 34 [.slice none 0 0] := fun w => ⟨_, Try.zeroValue34 w, rfl⟩
theorem ze35 : Zr 35 [.int .i64 0, .slice none 0 0] := fun w => ⟨_, Try.zeroValue35 w, rfl⟩
theorem aiX : Zr 36 [.int .i64 0, .slice none 0 0] := fun w => ⟨_, Try.zeroValue36 w, rfl⟩
theorem ze41 : Zr 41 [.slice none 0 0] := fun w => ⟨_, Try.zeroValue41 w, rfl⟩
theorem aiY : Zr 42 [.int .i64 0] := fun w => ⟨_, Try.zeroValue42 w, rfl⟩
theorem ze47 : Zr 47 [.slice none 0 0] := fun w => ⟨_, Try.zeroValue47 w, rfl⟩
theorem ze49 : Zr 49 [.slice none 0 0] := fun w => ⟨_, Try.zeroValue49 w, rfl⟩
theorem ze50 : Zr 50 [.int .u64 0] := fun w => ⟨_, Try.zeroValue50 w, rfl⟩
theorem ze56 : Zr 56 [.int .i64 0, .bool false] := fun w => ⟨_, Try.zeroValue56 w, rfl⟩
theorem aiZ : Zr 57 [.int .i64 0, .bool false] := fun w => ⟨_, Try.zeroValue57 w, rfl⟩
theorem ze59 : Zr 59 [.int .u64 0] := fun w => ⟨_, Try.zeroValue59 w, rfl⟩
theorem ze63 : Zr 63 [.int .i64 0, .int .i64 0, .int .i64 0, .int .i64 0] := fun w => ⟨_, Try.zeroValue63 w, rfl⟩
theorem ai0 : Zr 64 [.int .i64 0, .int .i64 0, .int .i64 0, .int .i64 0] := fun w => ⟨_, Try.zeroValue64 w, rfl⟩
theorem ze73 : Zr 73 [.slice none 0 0] := fun w => ⟨_, Try.zeroValue73 w, rfl⟩
theorem ze78 : Zr 78 [.int .i64 0, .int .i64 0] := fun w => ⟨_, Try.zeroValue78 w, rfl⟩
theorem ai1 : Zr 79 [.int .i64 0, .int .i64 0] := fun w => ⟨_, Try.zeroValue79 w, rfl⟩
theorem ze80 : Zr 80 [.slice none 0 0, .int .i64 0] := fun w => ⟨_, Try.zeroValue80 w, rfl⟩
theorem ze81 : Zr 81 [.slice none 0 0, .int .i64 0] := fun w => ⟨_, Try.zeroValue81 w, rfl⟩
theorem ze82 : Zr 82 [.slice none 0 0] := fun w => ⟨_, Try.zeroValue82 w, rfl⟩
theorem ai2 : Zr 83 [.slice none 0 0] := fun w => ⟨_, Try.zeroValue83 w, rfl⟩
theorem ze84 : Zr 84 [.int .i64 0, .int .i64 0, .int .i64 0, .int .i64 0, .int .i64 0] := fun w => ⟨_, Try.zeroValue84 w, rfl⟩
theorem ai3 : Zr 85 [.int .i64 0, .int .i64 0, .int .i64 0, .int .i64 0, .int .i64 0] := fun w => ⟨_, Try.zeroValue85 w, rfl⟩
theorem ze88 : Zr 88 [.pointer none] := fun w => ⟨_, Try.zeroValue88 w, rfl⟩
theorem ze89 : Zr 89 [.nilFunc] := fun w => ⟨_, Try.zeroValue89 w, rfl⟩
theorem ze90 : Zr 90 [.map none] := fun w => ⟨_, Try.zeroValue90 w, rfl⟩
theorem ze94 : Zr 94 [.pointer none] := fun w => ⟨_, Try.zeroValue94 w, rfl⟩
theorem ze96 : Zr 96 [.slice none 0 0] := fun w => ⟨_, Try.zeroValue96 w, rfl⟩
theorem ze98 : Zr 98 [.int .i64 0, .int .i64 0, .int .i64 0] := fun w => ⟨_, Try.zeroValue98 w, rfl⟩
theorem ai4 : Zr 99 [.int .i64 0, .int .i64 0, .int .i64 0] := fun w => ⟨_, Try.zeroValue99 w, rfl⟩
theorem alP : Zr 102 [.nilFunc] := fun w => ⟨_, Try.zeroValue102 w, rfl⟩
theorem alQ : Zr 112 [.slice none 0 0] := fun w => ⟨_, Try.zeroValue112 w, rfl⟩
theorem alR : Zr 115 [.nilFunc] := fun w => ⟨_, Try.zeroValue115 w, rfl⟩
theorem alS : Zr 118 [.nilFunc] := fun w => ⟨_, Try.zeroValue118 w, rfl⟩
theorem alT : Zr 120 [.nilFunc] := fun w => ⟨_, Try.zeroValue120 w, rfl⟩
theorem alU : Zr 122 [.nilFunc] := fun w => ⟨_, Try.zeroValue122 w, rfl⟩
theorem alV : Zr 123 [.nilFunc] := fun w => ⟨_, Try.zeroValue123 w, rfl⟩
theorem alW : Zr 128 [.int .i64 0] := fun w => ⟨_, Try.zeroValue128 w, rfl⟩
theorem alX : Zr 135 [.int .u32 0] := fun w => ⟨_, Try.zeroValue135 w, rfl⟩
theorem alY : Zr 139 [.int .u64 0] := fun w => ⟨_, Try.zeroValue139 w, rfl⟩
theorem alZ : Zr 143 [.pointer none] := fun w => ⟨_, Try.zeroValue143 w, rfl⟩
theorem al0 : Zr 145 [.pointer none] := fun w => ⟨_, Try.zeroValue145 w, rfl⟩
theorem al1 : Zr 149 [.pointer none, .pointer none, .pointer none, .string ⟨#[]⟩] := fun w => ⟨_, Try.zeroValue149 w, rfl⟩
theorem al2 : Zr 150 [.pointer none, .pointer none, .pointer none, .string ⟨#[]⟩] := fun w => ⟨_, Try.zeroValue150 w, rfl⟩
theorem al3 : Zr 151 [] := fun w => ⟨_, Try.zeroValue151 w, rfl⟩
theorem al4 : Zr 154 [.int .u8 0] := fun w => ⟨_, Try.zeroValue154 w, rfl⟩
theorem al5 : Zr 155 [.int .u8 0] := fun w => ⟨_, Try.zeroValue155 w, rfl⟩
theorem al6 : Zr 156 [.nilFunc] := fun w => ⟨_, Try.zeroValue156 w, rfl⟩
theorem al7 : Zr 157 [.pointer none] := fun w => ⟨_, Try.zeroValue157 w, rfl⟩
theorem al8 : Zr 158 [.int .i32 0] := fun w => ⟨_, Try.zeroValue158 w, rfl⟩
theorem al9 : Zr 159 [.int .i32 0] := fun w => ⟨_, Try.zeroValue159 w, rfl⟩
theorem ama : Zr 160 [.int .u64 0, .int .u64 0, .int .u32 0, .int .u8 0, .int .u8 0, .int .u8 0, .int .u8 0, .nilFunc, .pointer none, .int .i32 0, .int .i32 0] := fun w => ⟨_, Try.zeroValue160 w, rfl⟩
theorem amb : Zr 161 [.int .u64 0, .int .u64 0, .int .u32 0, .int .u8 0, .int .u8 0, .int .u8 0, .int .u8 0, .nilFunc, .pointer none, .int .i32 0, .int .i32 0] := fun w => ⟨_, Try.zeroValue161 w, rfl⟩
theorem ty2 : TyS Try.prog 2 1 false := ⟨Try.sizeOf2, Try.isAgg2⟩
theorem ty3 : TyS Try.prog 3 1 false := ⟨Try.sizeOf3, Try.isAgg3⟩
theorem ty4 : TyS Try.prog 4 1 false := ⟨Try.sizeOf4, Try.isAgg4⟩
theorem ty5 : TyS Try.prog 5 1 false := ⟨Try.sizeOf5, Try.isAgg5⟩
theorem ty6 : TyS Try.prog 6 1 false := ⟨Try.sizeOf6, Try.isAgg6⟩
theorem ty7 : TyS Try.prog 7 4 true := ⟨Try.sizeOf7, Try.isAgg7⟩
theorem str7 : fC Try.prog 7 [.int .i64 0, .int .i64 0, .bool false, .int .u8 0] [(0, 1), (1, 1), (2, 1), (3, 1)] := gJ Try.zeroValue7 Try.underlying7 (fun w => by kernel_rfl)
theorem ai5 : bM Try.prog 7 0 0 := ⟨fun a w => by kernel_rfl⟩
theorem ai6 : bM Try.prog 7 1 1 := ⟨fun a w => by kernel_rfl⟩
theorem ai7 : bM Try.prog 7 2 2 := ⟨fun a w => by kernel_rfl⟩
theorem ai8 : bM Try.prog 7 3 3 := ⟨fun a w => by kernel_rfl⟩
theorem ai9 : bA Try.prog 7 0 0 1 false := bG Try.underlying7 (by kernel_rfl) ty2 (by decide)
theorem aja : bA Try.prog 7 1 1 1 false := bG Try.underlying7 (by kernel_rfl) ty3 (by decide)
theorem ajb : bA Try.prog 7 2 2 1 false := bG Try.underlying7 (by kernel_rfl) ty4 (by decide)
theorem ajc : bA Try.prog 7 3 3 1 false := bG Try.underlying7 (by kernel_rfl) ty6 (by decide)
theorem ty8 : TyS Try.prog 8 4 true := ⟨Try.sizeOf8, Try.isAgg8⟩
theorem str8 : fC Try.prog 8 [.int .i64 0, .int .i64 0, .bool false, .int .u8 0] [(0, 1), (1, 1), (2, 1), (3, 1)] := gJ Try.zeroValue8 Try.underlying8 (fun w => by kernel_rfl)
theorem ajd : bM Try.prog 8 0 0 := ⟨fun a w => by kernel_rfl⟩
theorem aje : bM Try.prog 8 1 1 := ⟨fun a w => by kernel_rfl⟩
theorem ajf : bM Try.prog 8 2 2 := ⟨fun a w => by kernel_rfl⟩
theorem ajg : bM Try.prog 8 3 3 := ⟨fun a w => by kernel_rfl⟩
theorem ajh : bA Try.prog 8 0 0 1 false := bG Try.underlying8 (by kernel_rfl) ty2 (by decide)
theorem aji : bA Try.prog 8 1 1 1 false := bG Try.underlying8 (by kernel_rfl) ty3 (by decide)
theorem ajj : bA Try.prog 8 2 2 1 false := bG Try.underlying8 (by kernel_rfl) ty4 (by decide)
theorem ajk : bA Try.prog 8 3 3 1 false := bG Try.underlying8 (by kernel_rfl) ty6 (by decide)
theorem ty9 : TyS Try.prog 9 1 false := ⟨Try.sizeOf9, Try.isAgg9⟩
theorem ty10 : TyS Try.prog 10 1 false := ⟨Try.sizeOf10, Try.isAgg10⟩
theorem ty11 : TyS Try.prog 11 1 false := ⟨Try.sizeOf11, Try.isAgg11⟩
theorem wT : TyS Try.prog 12 1 false := ⟨Try.sizeOf12, Try.isAgg12⟩
theorem ty13 : TyS Try.prog 13 2 true := ⟨Try.sizeOf13, Try.isAgg13⟩
theorem amc : fC Try.prog 13 [.string ⟨#[]⟩, .int .u64 0] [(0, 1), (1, 1)] := gJ Try.zeroValue13 Try.underlying13 (fun w => by kernel_rfl)
theorem agp : bM Try.prog 13 0 0 := ⟨fun a w => by kernel_rfl⟩
theorem agq : bM Try.prog 13 1 1 := ⟨fun a w => by kernel_rfl⟩
theorem agr : bA Try.prog 13 0 0 1 false := bG Try.underlying13 (by kernel_rfl) ty9 (by decide)
theorem agt : bA Try.prog 13 1 1 1 false := bG Try.underlying13 (by kernel_rfl) wT (by decide)
theorem ty14 : TyS Try.prog 14 2 true := ⟨Try.sizeOf14, Try.isAgg14⟩
theorem amd : fC Try.prog 14 [.string ⟨#[]⟩, .int .u64 0] [(0, 1), (1, 1)] := gJ Try.zeroValue14 Try.underlying14 (fun w => by kernel_rfl)
theorem agu : bM Try.prog 14 0 0 := ⟨fun a w => by kernel_rfl⟩
theorem agv : bM Try.prog 14 1 1 := ⟨fun a w => by kernel_rfl⟩
theorem agw : bA Try.prog 14 0 0 1 false := bG Try.underlying14 (by kernel_rfl) ty9 (by decide)
theorem agx : bA Try.prog 14 1 1 1 false := bG Try.underlying14 (by kernel_rfl) wT (by decide)
theorem ty15 : TyS Try.prog 15 1 false := ⟨Try.sizeOf15, Try.isAgg15⟩
theorem ty16 : TyS Try.prog 16 1 false := ⟨Try.sizeOf16, Try.isAgg16⟩
theorem tL : TyS Try.prog 17 1 false := ⟨Try.sizeOf17, Try.isAgg17⟩
theorem ty18 : TyS Try.prog 18 1 true := ⟨Try.sizeOf18, Try.isAgg18⟩
theorem ame : fC Try.prog 18 [.pointer none] [(0, 1)] := gJ Try.zeroValue18 Try.underlying18 (fun w => by kernel_rfl)
theorem agy : bM Try.prog 18 0 0 := ⟨fun a w => by kernel_rfl⟩
theorem agz : bA Try.prog 18 0 0 1 false := bG Try.underlying18 (by kernel_rfl) tL (by decide)
theorem ty19 : TyS Try.prog 19 1 true := ⟨Try.sizeOf19, Try.isAgg19⟩
theorem amf : fC Try.prog 19 [.pointer none] [(0, 1)] := gJ Try.zeroValue19 Try.underlying19 (fun w => by kernel_rfl)
theorem agA : bM Try.prog 19 0 0 := ⟨fun a w => by kernel_rfl⟩
theorem agB : bA Try.prog 19 0 0 1 false := bG Try.underlying19 (by kernel_rfl) tL (by decide)
theorem ty21 : TyS Try.prog 21 1 false := ⟨Try.sizeOf21, Try.isAgg21⟩
theorem adw : TyS Try.prog 22 1 false := ⟨Try.sizeOf22, Try.isAgg22⟩
theorem sl22 : SlS Try.prog 22 3 1 := ⟨Try.underlying22, Try.sizeOf3⟩
theorem afy : iT Try.prog 22 3 1 8 := ⟨Try.underlying22, (by obtain ⟨i, h1, h2, h3, h4⟩ := info_parts (by kernel_rfl : (Try.prog.info? 3).map (fun i => (i.zero, i.size, i.bytes)) = some (some (.int .i64 0), 1, 8)); exact ⟨i, _, h1, h2, h3, h4, rfl⟩), by decide⟩
theorem amg : jD Try.prog 22 3 1 [.int .i64 0] := ⟨Try.underlying22, Try.sizeOf3, ze3, rfl⟩
theorem adx : TyS Try.prog 23 1 false := ⟨Try.sizeOf23, Try.isAgg23⟩
theorem sl23 : SlS Try.prog 23 79 2 := ⟨Try.underlying23, Try.sizeOf79⟩
theorem afz : iT Try.prog 23 79 2 16 := ⟨Try.underlying23, (by obtain ⟨i, h1, h2, h3, h4⟩ := info_parts (by kernel_rfl : (Try.prog.info? 79).map (fun i => (i.zero, i.size, i.bytes)) = some (some (.agg #[.int .i64 0, .int .i64 0]), 2, 16)); exact ⟨i, _, h1, h2, h3, h4, rfl⟩), by decide⟩
theorem amh : jD Try.prog 23 79 2 [.int .i64 0, .int .i64 0] := ⟨Try.underlying23, Try.sizeOf79, ai1, rfl⟩
theorem ty24 : TyS Try.prog 24 2 true := ⟨Try.sizeOf24, Try.isAgg24⟩
theorem ami : fC Try.prog 24 [.int .i64 0, .slice none 0 0] [(0, 1), (1, 1)] := gJ Try.zeroValue24 Try.underlying24 (fun w => by kernel_rfl)
theorem agC : bM Try.prog 24 0 0 := ⟨fun a w => by kernel_rfl⟩
theorem agD : bM Try.prog 24 1 1 := ⟨fun a w => by kernel_rfl⟩
theorem agE : bA Try.prog 24 0 0 1 false := bG Try.underlying24 (by kernel_rfl) ty3 (by decide)
theorem agF : bA Try.prog 24 1 1 1 false := bG Try.underlying24 (by kernel_rfl) adx (by decide)
theorem ty25 : TyS Try.prog 25 2 true := ⟨Try.sizeOf25, Try.isAgg25⟩
theorem amj : fC Try.prog 25 [.int .i64 0, .slice none 0 0] [(0, 1), (1, 1)] := gJ Try.zeroValue25 Try.underlying25 (fun w => by kernel_rfl)
theorem agG : bM Try.prog 25 0 0 := ⟨fun a w => by kernel_rfl⟩
theorem agH : bM Try.prog 25 1 1 := ⟨fun a w => by kernel_rfl⟩
theorem agI : bA Try.prog 25 0 0 1 false := bG Try.underlying25 (by kernel_rfl) ty3 (by decide)
theorem agJ : bA Try.prog 25 1 1 1 false := bG Try.underlying25 (by kernel_rfl) adx (by decide)
theorem ty27 : TyS Try.prog 27 1 false := ⟨Try.sizeOf27, Try.isAgg27⟩
theorem ady : TyS Try.prog 29 1 false := ⟨Try.sizeOf29, Try.isAgg29⟩
theorem sl29 : SlS Try.prog 29 57 2 := ⟨Try.underlying29, Try.sizeOf57⟩
theorem amk : iT Try.prog 29 57 2 16 := ⟨Try.underlying29, (by obtain ⟨i, h1, h2, h3, h4⟩ := info_parts (by kernel_rfl : (Try.prog.info? 57).map (fun i => (i.zero, i.size, i.bytes)) = some (some (.agg #[.int .i64 0, .bool false]), 2, 16)); exact ⟨i, _, h1, h2, h3, h4, rfl⟩), by decide⟩
theorem aml : jD Try.prog 29 57 2 [.int .i64 0, .bool false] := ⟨Try.underlying29, Try.sizeOf57, aiZ, rfl⟩
theorem adz : TyS Try.prog 30 1 false := ⟨Try.sizeOf30, Try.isAgg30⟩
theorem sl30 : SlS Try.prog 30 85 5 := ⟨Try.underlying30, Try.sizeOf85⟩
theorem amm : iT Try.prog 30 85 5 40 := ⟨Try.underlying30, (by obtain ⟨i, h1, h2, h3, h4⟩ := info_parts (by kernel_rfl : (Try.prog.info? 85).map (fun i => (i.zero, i.size, i.bytes)) = some (some (.agg #[.int .i64 0, .int .i64 0, .int .i64 0, .int .i64 0, .int .i64 0]), 5, 40)); exact ⟨i, _, h1, h2, h3, h4, rfl⟩), by decide⟩
theorem amn : jD Try.prog 30 85 5 [.int .i64 0, .int .i64 0, .int .i64 0, .int .i64 0, .int .i64 0] := ⟨Try.underlying30, Try.sizeOf85, ai3, rfl⟩
theorem ty31 : TyS Try.prog 31 2 true := ⟨Try.sizeOf31, Try.isAgg31⟩
theorem amo : fC Try.prog 31 [.slice none 0 0, .slice none 0 0] [(0, 1), (1, 1)] := gJ Try.zeroValue31 Try.underlying31 (fun w => by kernel_rfl)
theorem agK : bM Try.prog 31 0 0 := ⟨fun a w => by kernel_rfl⟩
theorem agL : bM Try.prog 31 1 1 := ⟨fun a w => by kernel_rfl⟩
theorem agM : bA Try.prog 31 0 0 1 false := bG Try.underlying31 (by kernel_rfl) ady (by decide)
theorem agN : bA Try.prog 31 1 1 1 false := bG Try.underlying31 (by kernel_rfl) adz (by decide)
theorem ty32 : TyS Try.prog 32 2 true := ⟨Try.sizeOf32, Try.isAgg32⟩
theorem amp : fC Try.prog 32 [.slice none 0 0, .slice none 0 0] [(0, 1), (1, 1)] := gJ Try.zeroValue32 Try.underlying32 (fun w => by kernel_rfl)
theorem agO : bM Try.prog 32 0 0 := ⟨fun a w => by kernel_rfl⟩
theorem agP : bM Try.prog 32 1 1 := ⟨fun a w => by kernel_rfl⟩
theorem agQ : bA Try.prog 32 0 0 1 false := bG Try.underlying32 (by kernel_rfl) ady (by decide)
theorem agR : bA Try.prog 32 1 1 1 false := bG Try.underlying32 (by kernel_rfl) adz (by decide)
theorem adA : TyS Try.prog 34 1 false := ⟨Try.sizeOf34, Try.isAgg34⟩
theorem abA : SlS Try.prog 34 64 4 := ⟨Try.underlying34, Try.sizeOf64⟩
theorem amq : iT Try.prog 34 64 4 32 := ⟨Try.underlying34, (by obtain ⟨i, h1, h2, h3, h4⟩ := info_parts (by kernel_rfl : (Try.prog.info? 64).map (fun i => (i.zero, i.size, i.bytes)) = some (some (.agg #[.int .i64 0, .int .i64 0, .int .i64 0, .int .i64 0]), 4, 32)); exact ⟨i, _, h1, h2, h3, h4, rfl⟩), by decide⟩
theorem amr : jD Try.prog 34 64 4 [.int .i64 0, .int .i64 0, .int .i64 0, .int .i64 0] := ⟨Try.underlying34, Try.sizeOf64, ai0, rfl⟩
theorem ty35 : TyS Try.prog 35 2 true := ⟨Try.sizeOf35, Try.isAgg35⟩
theorem ams : fC Try.prog 35 [.int .i64 0, .slice none 0 0] [(0, 1), (1, 1)] := gJ Try.zeroValue35 Try.underlying35 (fun w => by kernel_rfl)
theorem agS : bM Try.prog 35 0 0 := ⟨fun a w => by kernel_rfl⟩
theorem agT : bM Try.prog 35 1 1 := ⟨fun a w => by kernel_rfl⟩
theorem agU : bA Try.prog 35 0 0 1 false := bG Try.underlying35 (by kernel_rfl) ty3 (by decide)
theorem agV : bA Try.prog 35 1 1 1 false := bG Try.underlying35 (by kernel_rfl) adA (by decide)
theorem ty36 : TyS Try.prog 36 2 true := ⟨Try.sizeOf36, Try.isAgg36⟩
theorem amt : fC Try.prog 36 [.int .i64 0, .slice none 0 0] [(0, 1), (1, 1)] := gJ Try.zeroValue36 Try.underlying36 (fun w => by kernel_rfl)
theorem agW : bM Try.prog 36 0 0 := ⟨fun a w => by kernel_rfl⟩
theorem agX : bM Try.prog 36 1 1 := ⟨fun a w => by kernel_rfl⟩
theorem agY : bA Try.prog 36 0 0 1 false := bG Try.underlying36 (by kernel_rfl) ty3 (by decide)
theorem agZ : bA Try.prog 36 1 1 1 false := bG Try.underlying36 (by kernel_rfl) adA (by decide)
theorem ty41 : TyS Try.prog 41 1 false := ⟨Try.sizeOf41, Try.isAgg41⟩
theorem sl41 : SlS Try.prog 41 25 2 := ⟨Try.underlying41, Try.sizeOf25⟩
theorem amu : iT Try.prog 41 25 2 32 := ⟨Try.underlying41, (by obtain ⟨i, h1, h2, h3, h4⟩ := info_parts (by kernel_rfl : (Try.prog.info? 25).map (fun i => (i.zero, i.size, i.bytes)) = some (some (.agg #[.int .i64 0, .slice none 0 0]), 2, 32)); exact ⟨i, _, h1, h2, h3, h4, rfl⟩), by decide⟩
theorem amv : jD Try.prog 41 25 2 [.int .i64 0, .slice none 0 0] := ⟨Try.underlying41, Try.sizeOf25, aiV, rfl⟩
theorem ty42 : TyS Try.prog 42 1 false := ⟨Try.sizeOf42, Try.isAgg42⟩
theorem ty47 : TyS Try.prog 47 1 false := ⟨Try.sizeOf47, Try.isAgg47⟩
theorem sl47 : SlS Try.prog 47 22 1 := ⟨Try.underlying47, Try.sizeOf22⟩
theorem amw : iT Try.prog 47 22 1 24 := ⟨Try.underlying47, (by obtain ⟨i, h1, h2, h3, h4⟩ := info_parts (by kernel_rfl : (Try.prog.info? 22).map (fun i => (i.zero, i.size, i.bytes)) = some (some (.slice none 0 0), 1, 24)); exact ⟨i, _, h1, h2, h3, h4, rfl⟩), by decide⟩
theorem amx : jD Try.prog 47 22 1 [.slice none 0 0] := ⟨Try.underlying47, Try.sizeOf22, aiU, rfl⟩
theorem ty49 : TyS Try.prog 49 1 false := ⟨Try.sizeOf49, Try.isAgg49⟩
theorem sl49 : SlS Try.prog 49 36 2 := ⟨Try.underlying49, Try.sizeOf36⟩
theorem amy : iT Try.prog 49 36 2 32 := ⟨Try.underlying49, (by obtain ⟨i, h1, h2, h3, h4⟩ := info_parts (by kernel_rfl : (Try.prog.info? 36).map (fun i => (i.zero, i.size, i.bytes)) = some (some (.agg #[.int .i64 0, .slice none 0 0]), 2, 32)); exact ⟨i, _, h1, h2, h3, h4, rfl⟩), by decide⟩
theorem amz : jD Try.prog 49 36 2 [.int .i64 0, .slice none 0 0] := ⟨Try.underlying49, Try.sizeOf36, aiX, rfl⟩
theorem ty50 : TyS Try.prog 50 1 false := ⟨Try.sizeOf50, Try.isAgg50⟩
theorem ty56 : TyS Try.prog 56 2 true := ⟨Try.sizeOf56, Try.isAgg56⟩
theorem amA : fC Try.prog 56 [.int .i64 0, .bool false] [(0, 1), (1, 1)] := gJ Try.zeroValue56 Try.underlying56 (fun w => by kernel_rfl)
theorem ag0 : bM Try.prog 56 0 0 := ⟨fun a w => by kernel_rfl⟩
theorem ag1 : bM Try.prog 56 1 1 := ⟨fun a w => by kernel_rfl⟩
theorem ag3 : bA Try.prog 56 0 0 1 false := bG Try.underlying56 (by kernel_rfl) ty3 (by decide)
theorem ag4 : bA Try.prog 56 1 1 1 false := bG Try.underlying56 (by kernel_rfl) ty4 (by decide)
theorem ty57 : TyS Try.prog 57 2 true := ⟨Try.sizeOf57, Try.isAgg57⟩
theorem amB : fC Try.prog 57 [.int .i64 0, .bool false] [(0, 1), (1, 1)] := gJ Try.zeroValue57 Try.underlying57 (fun w => by kernel_rfl)
theorem ag5 : bM Try.prog 57 0 0 := ⟨fun a w => by kernel_rfl⟩
theorem ag6 : bM Try.prog 57 1 1 := ⟨fun a w => by kernel_rfl⟩
theorem ag7 : bA Try.prog 57 0 0 1 false := bG Try.underlying57 (by kernel_rfl) ty3 (by decide)
theorem ag8 : bA Try.prog 57 1 1 1 false := bG Try.underlying57 (by kernel_rfl) ty4 (by decide)
theorem ty59 : TyS Try.prog 59 1 false := ⟨Try.sizeOf59, Try.isAgg59⟩
theorem ty63 : TyS Try.prog 63 4 true := ⟨Try.sizeOf63, Try.isAgg63⟩
theorem amC : fC Try.prog 63 [.int .i64 0, .int .i64 0, .int .i64 0, .int .i64 0] [(0, 1), (1, 1), (2, 1), (3, 1)] := gJ Try.zeroValue63 Try.underlying63 (fun w => by kernel_rfl)
theorem ag9 : bM Try.prog 63 0 0 := ⟨fun a w => by kernel_rfl⟩
theorem aha : bM Try.prog 63 1 1 := ⟨fun a w => by kernel_rfl⟩
theorem ahb : bM Try.prog 63 2 2 := ⟨fun a w => by kernel_rfl⟩
theorem ahc : bM Try.prog 63 3 3 := ⟨fun a w => by kernel_rfl⟩
theorem ahd : bA Try.prog 63 0 0 1 false := bG Try.underlying63 (by kernel_rfl) ty3 (by decide)
theorem ahe : bA Try.prog 63 1 1 1 false := bG Try.underlying63 (by kernel_rfl) ty3 (by decide)
theorem ahf : bA Try.prog 63 2 2 1 false := bG Try.underlying63 (by kernel_rfl) ty3 (by decide)
theorem ahg : bA Try.prog 63 3 3 1 false := bG Try.underlying63 (by kernel_rfl) ty3 (by decide)
theorem ty64 : TyS Try.prog 64 4 true := ⟨Try.sizeOf64, Try.isAgg64⟩
theorem amD : fC Try.prog 64 [.int .i64 0, .int .i64 0, .int .i64 0, .int .i64 0] [(0, 1), (1, 1), (2, 1), (3, 1)] := gJ Try.zeroValue64 Try.underlying64 (fun w => by kernel_rfl)
theorem ahh : bM Try.prog 64 0 0 := ⟨fun a w => by kernel_rfl⟩
theorem ahi : bM Try.prog 64 1 1 := ⟨fun a w => by kernel_rfl⟩
theorem ahj : bM Try.prog 64 2 2 := ⟨fun a w => by kernel_rfl⟩
theorem ahk : bM Try.prog 64 3 3 := ⟨fun a w => by kernel_rfl⟩
theorem ahl : bA Try.prog 64 0 0 1 false := bG Try.underlying64 (by kernel_rfl) ty3 (by decide)
theorem ahm : bA Try.prog 64 1 1 1 false := bG Try.underlying64 (by kernel_rfl) ty3 (by decide)
theorem ahn : bA Try.prog 64 2 2 1 false := bG Try.underlying64 (by kernel_rfl) ty3 (by decide)
theorem aho : bA Try.prog 64 3 3 1 false := bG Try.underlying64 (by kernel_rfl) ty3 (by decide)
theorem afA (a0 b0 : Int) (a1 b1 : Int) (a2 b2 : Int) (a3 b3 : Int) (w : World) : (Op.eqFields 9999 #[.int .i64 a0, .int .i64 a1, .int .i64 a2, .int .i64 a3] #[.int .i64 b0, .int .i64 b1, .int .i64 b2, .int .i64 b3] (Try.prog.fieldsOf 64).toList).run Try.prog w = .ok (decide (a0 = b0) && (decide (a1 = b1) && (decide (a2 = b2) && (decide (a3 = b3) && true)))) w := by
 have hf : (Try.prog.fieldsOf 64).toList.map (fun f => (f.name == "_", f.type, f.offset)) = [(false, 3, 0), (false, 3, 1), (false, 3, 2), (false, 3, 3)] := by kernel_rfl
 have q : (Op.eqFields 9999 #[.int .i64 a0, .int .i64 a1, .int .i64 a2, .int .i64 a3] #[.int .i64 b0, .int .i64 b1, .int .i64 b2, .int .i64 b3] (Try.prog.fieldsOf 64).toList).run Try.prog w = .ok (decide (a0 = b0) && (decide (a1 = b1) && (decide (a2 = b2) && (decide (a3 = b3) && true)))) w := by
  obtain ⟨f0, t0, e0, h0, hf⟩ := gZ hf
  obtain ⟨f1, t1, e1, h1, hf⟩ := gZ hf
  obtain ⟨f2, t2, e2, h2, hf⟩ := gZ hf
  obtain ⟨f3, t3, e3, h3, hf⟩ := gZ hf
  rw [e0, e1, e2, e3, tJ hf]
  exact nk h0 Try.isAgg3 Try.underlying3 rfl rfl (nk h1 Try.isAgg3 Try.underlying3 rfl rfl (nk h2 Try.isAgg3 Try.underlying3 rfl rfl (nk h3 Try.isAgg3 Try.underlying3 rfl rfl (yA))))
 exact q
theorem zZ (x y : Operand) (a0 b0 : Int) (a1 b1 : Int) (a2 b2 : Int) (a3 b3 : Int) (w : World) : (do eqGuard .eql 64 x y (.agg #[.int .i64 a0, .int .i64 a1, .int .i64 a2, .int .i64 a3]) (.agg #[.int .i64 b0, .int .i64 b1, .int .i64 b2, .int .i64 b3]); binOp .eql 64 (.agg #[.int .i64 a0, .int .i64 a1, .int .i64 a2, .int .i64 a3]) (.agg #[.int .i64 b0, .int .i64 b1, .int .i64 b2, .int .i64 b3]) : Sem Value).run Try.prog w = .ok (.bool (decide (a0 = b0) && (decide (a1 = b1) && (decide (a2 = b2) && (decide (a3 = b3) && true))))) w := aa4 _ _ _ x y (by kernel_rfl) (by kernel_rfl) (by kernel_rfl) (afA a0 b0 a1 b1 a2 b2 a3 b3 w)
theorem z6 (x y : Operand) (a0 b0 : Int) (a1 b1 : Int) (a2 b2 : Int) (a3 b3 : Int) (w : World) : (do eqGuard .neq 64 x y (.agg #[.int .i64 a0, .int .i64 a1, .int .i64 a2, .int .i64 a3]) (.agg #[.int .i64 b0, .int .i64 b1, .int .i64 b2, .int .i64 b3]); binOp .neq 64 (.agg #[.int .i64 a0, .int .i64 a1, .int .i64 a2, .int .i64 a3]) (.agg #[.int .i64 b0, .int .i64 b1, .int .i64 b2, .int .i64 b3]) : Sem Value).run Try.prog w = .ok (.bool (!(decide (a0 = b0) && (decide (a1 = b1) && (decide (a2 = b2) && (decide (a3 = b3) && true)))))) w := aa5 _ _ _ x y (by kernel_rfl) (by kernel_rfl) (by kernel_rfl) (afA a0 b0 a1 b1 a2 b2 a3 b3 w)
theorem ty73 : TyS Try.prog 73 1 false := ⟨Try.sizeOf73, Try.isAgg73⟩
theorem sl73 : SlS Try.prog 73 32 2 := ⟨Try.underlying73, Try.sizeOf32⟩
theorem amE : iT Try.prog 73 32 2 48 := ⟨Try.underlying73, (by obtain ⟨i, h1, h2, h3, h4⟩ := info_parts (by kernel_rfl : (Try.prog.info? 32).map (fun i => (i.zero, i.size, i.bytes)) = some (some (.agg #[.slice none 0 0, .slice none 0 0]), 2, 48)); exact ⟨i, _, h1, h2, h3, h4, rfl⟩), by decide⟩
theorem amF : jD Try.prog 73 32 2 [.slice none 0 0, .slice none 0 0] := ⟨Try.underlying73, Try.sizeOf32, aiW, rfl⟩
theorem ty78 : TyS Try.prog 78 2 true := ⟨Try.sizeOf78, Try.isAgg78⟩
theorem amG : fC Try.prog 78 [.int .i64 0, .int .i64 0] [(0, 1), (1, 1)] := gJ Try.zeroValue78 Try.underlying78 (fun w => by kernel_rfl)
theorem ahp : bM Try.prog 78 0 0 := ⟨fun a w => by kernel_rfl⟩
theorem ahq : bM Try.prog 78 1 1 := ⟨fun a w => by kernel_rfl⟩
theorem ahr : bA Try.prog 78 0 0 1 false := bG Try.underlying78 (by kernel_rfl) ty3 (by decide)
theorem ahs : bA Try.prog 78 1 1 1 false := bG Try.underlying78 (by kernel_rfl) ty3 (by decide)
theorem ty79 : TyS Try.prog 79 2 true := ⟨Try.sizeOf79, Try.isAgg79⟩
theorem amH : fC Try.prog 79 [.int .i64 0, .int .i64 0] [(0, 1), (1, 1)] := gJ Try.zeroValue79 Try.underlying79 (fun w => by kernel_rfl)
theorem aht : bM Try.prog 79 0 0 := ⟨fun a w => by kernel_rfl⟩
theorem ahu : bM Try.prog 79 1 1 := ⟨fun a w => by kernel_rfl⟩
theorem ahv : bA Try.prog 79 0 0 1 false := bG Try.underlying79 (by kernel_rfl) ty3 (by decide)
theorem ahw : bA Try.prog 79 1 1 1 false := bG Try.underlying79 (by kernel_rfl) ty3 (by decide)
theorem amI (a0 b0 : Int) (a1 b1 : Int) (w : World) : (Op.eqFields 9999 #[.int .i64 a0, .int .i64 a1] #[.int .i64 b0, .int .i64 b1] (Try.prog.fieldsOf 79).toList).run Try.prog w = .ok (decide (a0 = b0) && (decide (a1 = b1) && true)) w := by
 have hf : (Try.prog.fieldsOf 79).toList.map (fun f => (f.name == "_", f.type, f.offset)) = [(false, 3, 0), (false, 3, 1)] := by kernel_rfl
 have q : (Op.eqFields 9999 #[.int .i64 a0, .int .i64 a1] #[.int .i64 b0, .int .i64 b1] (Try.prog.fieldsOf 79).toList).run Try.prog w = .ok (decide (a0 = b0) && (decide (a1 = b1) && true)) w := by
  obtain ⟨f0, t0, e0, h0, hf⟩ := gZ hf
  obtain ⟨f1, t1, e1, h1, hf⟩ := gZ hf
  rw [e0, e1, tJ hf]
  exact nk h0 Try.isAgg3 Try.underlying3 rfl rfl (nk h1 Try.isAgg3 Try.underlying3 rfl rfl (yA))
 exact q
theorem adB (x y : Operand) (a0 b0 : Int) (a1 b1 : Int) (w : World) : (do eqGuard .neq 79 x y (.agg #[.int .i64 a0, .int .i64 a1]) (.agg #[.int .i64 b0, .int .i64 b1]); binOp .neq 79 (.agg #[.int .i64 a0, .int .i64 a1]) (.agg #[.int .i64 b0, .int .i64 b1]) : Sem Value).run Try.prog w = .ok (.bool (!(decide (a0 = b0) && (decide (a1 = b1) && true)))) w := aa5 _ _ _ x y (by kernel_rfl) (by kernel_rfl) (by kernel_rfl) (amI a0 b0 a1 b1 w)
theorem ty80 : TyS Try.prog 80 2 true := ⟨Try.sizeOf80, Try.isAgg80⟩
theorem amJ : fC Try.prog 80 [.slice none 0 0, .int .i64 0] [(0, 1), (1, 1)] := gJ Try.zeroValue80 Try.underlying80 (fun w => by kernel_rfl)
theorem ahx : bM Try.prog 80 0 0 := ⟨fun a w => by kernel_rfl⟩
theorem ahy : bM Try.prog 80 1 1 := ⟨fun a w => by kernel_rfl⟩
theorem ahz : bA Try.prog 80 0 0 1 false := bG Try.underlying80 (by kernel_rfl) adw (by decide)
theorem ahA : bA Try.prog 80 1 1 1 false := bG Try.underlying80 (by kernel_rfl) ty3 (by decide)
theorem ty81 : TyS Try.prog 81 2 true := ⟨Try.sizeOf81, Try.isAgg81⟩
theorem amK : fC Try.prog 81 [.slice none 0 0, .int .i64 0] [(0, 1), (1, 1)] := gJ Try.zeroValue81 Try.underlying81 (fun w => by kernel_rfl)
theorem ahB : bM Try.prog 81 0 0 := ⟨fun a w => by kernel_rfl⟩
theorem ahC : bM Try.prog 81 1 1 := ⟨fun a w => by kernel_rfl⟩
theorem ahD : bA Try.prog 81 0 0 1 false := bG Try.underlying81 (by kernel_rfl) adw (by decide)
theorem ahE : bA Try.prog 81 1 1 1 false := bG Try.underlying81 (by kernel_rfl) ty3 (by decide)
theorem ty82 : TyS Try.prog 82 1 false := ⟨Try.sizeOf82, Try.isAgg82⟩
theorem uY : SlS Try.prog 82 83 1 := ⟨Try.underlying82, Try.sizeOf83⟩
theorem afB : iT Try.prog 82 83 1 24 := ⟨Try.underlying82, (by obtain ⟨i, h1, h2, h3, h4⟩ := info_parts (by kernel_rfl : (Try.prog.info? 83).map (fun i => (i.zero, i.size, i.bytes)) = some (some (.slice none 0 0), 1, 24)); exact ⟨i, _, h1, h2, h3, h4, rfl⟩), by decide⟩
theorem afC : jD Try.prog 82 83 1 [.slice none 0 0] := ⟨Try.underlying82, Try.sizeOf83, ai2, rfl⟩
theorem z7 : TyS Try.prog 83 1 false := ⟨Try.sizeOf83, Try.isAgg83⟩
theorem sl83 : SlS Try.prog 83 4 1 := ⟨Try.underlying83, Try.sizeOf4⟩
theorem afD : iT Try.prog 83 4 1 1 := ⟨Try.underlying83, (by obtain ⟨i, h1, h2, h3, h4⟩ := info_parts (by kernel_rfl : (Try.prog.info? 4).map (fun i => (i.zero, i.size, i.bytes)) = some (some (.bool false), 1, 1)); exact ⟨i, _, h1, h2, h3, h4, rfl⟩), by decide⟩
theorem afE : jD Try.prog 83 4 1 [.bool false] := ⟨Try.underlying83, Try.sizeOf4, ze4, rfl⟩
theorem ty84 : TyS Try.prog 84 5 true := ⟨Try.sizeOf84, Try.isAgg84⟩
theorem amL : fC Try.prog 84 [.int .i64 0, .int .i64 0, .int .i64 0, .int .i64 0, .int .i64 0] [(0, 1), (1, 1), (2, 1), (3, 1), (4, 1)] := gJ Try.zeroValue84 Try.underlying84 (fun w => by kernel_rfl)
theorem ahF : bM Try.prog 84 0 0 := ⟨fun a w => by kernel_rfl⟩
theorem ahG : bM Try.prog 84 1 1 := ⟨fun a w => by kernel_rfl⟩
theorem ahH : bM Try.prog 84 2 2 := ⟨fun a w => by kernel_rfl⟩
theorem ahI : bM Try.prog 84 3 3 := ⟨fun a w => by kernel_rfl⟩
theorem ahJ : bM Try.prog 84 4 4 := ⟨fun a w => by kernel_rfl⟩
theorem ahK : bA Try.prog 84 0 0 1 false := bG Try.underlying84 (by kernel_rfl) ty3 (by decide)
theorem ahL : bA Try.prog 84 1 1 1 false := bG Try.underlying84 (by kernel_rfl) ty3 (by decide)
theorem ahM : bA Try.prog 84 2 2 1 false := bG Try.underlying84 (by kernel_rfl) ty3 (by decide)
theorem ahN : bA Try.prog 84 3 3 1 false := bG Try.underlying84 (by kernel_rfl) ty3 (by decide)
theorem ahO : bA Try.prog 84 4 4 1 false := bG Try.underlying84 (by kernel_rfl) ty3 (by decide)
theorem ty85 : TyS Try.prog 85 5 true := ⟨Try.sizeOf85, Try.isAgg85⟩
theorem amM : fC Try.prog 85 [.int .i64 0, .int .i64 0, .int .i64 0, .int .i64 0, .int .i64 0] [(0, 1), (1, 1), (2, 1), (3, 1), (4, 1)] := gJ Try.zeroValue85 Try.underlying85 (fun w => by kernel_rfl)
theorem ahP : bM Try.prog 85 0 0 := ⟨fun a w => by kernel_rfl⟩
theorem ahQ : bM Try.prog 85 1 1 := ⟨fun a w => by kernel_rfl⟩
theorem ahR : bM Try.prog 85 2 2 := ⟨fun a w => by kernel_rfl⟩
theorem ahS : bM Try.prog 85 3 3 := ⟨fun a w => by kernel_rfl⟩
theorem ahT : bM Try.prog 85 4 4 := ⟨fun a w => by kernel_rfl⟩
theorem ahU : bA Try.prog 85 0 0 1 false := bG Try.underlying85 (by kernel_rfl) ty3 (by decide)
theorem ahV : bA Try.prog 85 1 1 1 false := bG Try.underlying85 (by kernel_rfl) ty3 (by decide)
theorem ahW : bA Try.prog 85 2 2 1 false := bG Try.underlying85 (by kernel_rfl) ty3 (by decide)
theorem ahX : bA Try.prog 85 3 3 1 false := bG Try.underlying85 (by kernel_rfl) ty3 (by decide)
theorem ahY : bA Try.prog 85 4 4 1 false := bG Try.underlying85 (by kernel_rfl) ty3 (by decide)
theorem ty88 : TyS Try.prog 88 1 false := ⟨Try.sizeOf88, Try.isAgg88⟩
theorem ty89 : TyS Try.prog 89 1 false := ⟨Try.sizeOf89, Try.isAgg89⟩
theorem ty90 : TyS Try.prog 90 1 false := ⟨Try.sizeOf90, Try.isAgg90⟩
theorem afF : qm Try.prog 90 3 4 .i64 := ⟨Try.underlying90, Try.underlying3⟩
theorem ty94 : TyS Try.prog 94 1 false := ⟨Try.sizeOf94, Try.isAgg94⟩
theorem ty96 : TyS Try.prog 96 1 false := ⟨Try.sizeOf96, Try.isAgg96⟩
theorem sl96 : SlS Try.prog 96 99 3 := ⟨Try.underlying96, Try.sizeOf99⟩
theorem amN : iT Try.prog 96 99 3 24 := ⟨Try.underlying96, (by obtain ⟨i, h1, h2, h3, h4⟩ := info_parts (by kernel_rfl : (Try.prog.info? 99).map (fun i => (i.zero, i.size, i.bytes)) = some (some (.agg #[.int .i64 0, .int .i64 0, .int .i64 0]), 3, 24)); exact ⟨i, _, h1, h2, h3, h4, rfl⟩), by decide⟩
theorem amO : jD Try.prog 96 99 3 [.int .i64 0, .int .i64 0, .int .i64 0] := ⟨Try.underlying96, Try.sizeOf99, ai4, rfl⟩
theorem ty98 : TyS Try.prog 98 3 true := ⟨Try.sizeOf98, Try.isAgg98⟩
theorem amP : fC Try.prog 98 [.int .i64 0, .int .i64 0, .int .i64 0] [(0, 1), (1, 1), (2, 1)] := gJ Try.zeroValue98 Try.underlying98 (fun w => by kernel_rfl)
theorem ahZ : bM Try.prog 98 0 0 := ⟨fun a w => by kernel_rfl⟩
theorem ah0 : bM Try.prog 98 1 1 := ⟨fun a w => by kernel_rfl⟩
theorem ah1 : bM Try.prog 98 2 2 := ⟨fun a w => by kernel_rfl⟩
theorem ah2 : bA Try.prog 98 0 0 1 false := bG Try.underlying98 (by kernel_rfl) ty3 (by decide)
theorem ah3 : bA Try.prog 98 1 1 1 false := bG Try.underlying98 (by kernel_rfl) ty3 (by decide)
theorem ah4 : bA Try.prog 98 2 2 1 false := bG Try.underlying98 (by kernel_rfl) ty3 (by decide)
theorem ty99 : TyS Try.prog 99 3 true := ⟨Try.sizeOf99, Try.isAgg99⟩
theorem amQ : fC Try.prog 99 [.int .i64 0, .int .i64 0, .int .i64 0] [(0, 1), (1, 1), (2, 1)] := gJ Try.zeroValue99 Try.underlying99 (fun w => by kernel_rfl)
theorem ah5 : bM Try.prog 99 0 0 := ⟨fun a w => by kernel_rfl⟩
theorem ah6 : bM Try.prog 99 1 1 := ⟨fun a w => by kernel_rfl⟩
theorem ah7 : bM Try.prog 99 2 2 := ⟨fun a w => by kernel_rfl⟩
theorem ah8 : bA Try.prog 99 0 0 1 false := bG Try.underlying99 (by kernel_rfl) ty3 (by decide)
theorem ah9 : bA Try.prog 99 1 1 1 false := bG Try.underlying99 (by kernel_rfl) ty3 (by decide)
theorem aia : bA Try.prog 99 2 2 1 false := bG Try.underlying99 (by kernel_rfl) ty3 (by decide)
theorem afG (a0 b0 : Int) (a1 b1 : Int) (a2 b2 : Int) (w : World) : (Op.eqFields 9999 #[.int .i64 a0, .int .i64 a1, .int .i64 a2] #[.int .i64 b0, .int .i64 b1, .int .i64 b2] (Try.prog.fieldsOf 99).toList).run Try.prog w = .ok (decide (a0 = b0) && (decide (a1 = b1) && (decide (a2 = b2) && true))) w := by
 have hf : (Try.prog.fieldsOf 99).toList.map (fun f => (f.name == "_", f.type, f.offset)) = [(false, 3, 0), (false, 3, 1), (false, 3, 2)] := by kernel_rfl
 have q : (Op.eqFields 9999 #[.int .i64 a0, .int .i64 a1, .int .i64 a2] #[.int .i64 b0, .int .i64 b1, .int .i64 b2] (Try.prog.fieldsOf 99).toList).run Try.prog w = .ok (decide (a0 = b0) && (decide (a1 = b1) && (decide (a2 = b2) && true))) w := by
  obtain ⟨f0, t0, e0, h0, hf⟩ := gZ hf
  obtain ⟨f1, t1, e1, h1, hf⟩ := gZ hf
  obtain ⟨f2, t2, e2, h2, hf⟩ := gZ hf
  rw [e0, e1, e2, tJ hf]
  exact nk h0 Try.isAgg3 Try.underlying3 rfl rfl (nk h1 Try.isAgg3 Try.underlying3 rfl rfl (nk h2 Try.isAgg3 Try.underlying3 rfl rfl (yA)))
 exact q
theorem adC (x y : Operand) (a0 b0 : Int) (a1 b1 : Int) (a2 b2 : Int) (w : World) : (do eqGuard .eql 99 x y (.agg #[.int .i64 a0, .int .i64 a1, .int .i64 a2]) (.agg #[.int .i64 b0, .int .i64 b1, .int .i64 b2]); binOp .eql 99 (.agg #[.int .i64 a0, .int .i64 a1, .int .i64 a2]) (.agg #[.int .i64 b0, .int .i64 b1, .int .i64 b2]) : Sem Value).run Try.prog w = .ok (.bool (decide (a0 = b0) && (decide (a1 = b1) && (decide (a2 = b2) && true)))) w := aa4 _ _ _ x y (by kernel_rfl) (by kernel_rfl) (by kernel_rfl) (afG a0 b0 a1 b1 a2 b2 w)
theorem amR : TyS Try.prog 102 1 false := ⟨Try.sizeOf102, Try.isAgg102⟩
theorem amS : TyS Try.prog 112 1 false := ⟨Try.sizeOf112, Try.isAgg112⟩
theorem amT : SlS Try.prog 112 42 1 := ⟨Try.underlying112, Try.sizeOf42⟩
theorem ajl : iT Try.prog 112 42 1 8 := ⟨Try.underlying112, (by obtain ⟨i, h1, h2, h3, h4⟩ := info_parts (by kernel_rfl : (Try.prog.info? 42).map (fun i => (i.zero, i.size, i.bytes)) = some (some (.int .i64 0), 1, 8)); exact ⟨i, _, h1, h2, h3, h4, rfl⟩), by decide⟩
theorem ajm : jD Try.prog 112 42 1 [.int .i64 0] := ⟨Try.underlying112, Try.sizeOf42, aiY, rfl⟩
theorem amU : TyS Try.prog 115 1 false := ⟨Try.sizeOf115, Try.isAgg115⟩
theorem amV : TyS Try.prog 118 1 false := ⟨Try.sizeOf118, Try.isAgg118⟩
theorem amW : TyS Try.prog 120 1 false := ⟨Try.sizeOf120, Try.isAgg120⟩
theorem amX : TyS Try.prog 122 1 false := ⟨Try.sizeOf122, Try.isAgg122⟩
theorem amY : TyS Try.prog 123 1 false := ⟨Try.sizeOf123, Try.isAgg123⟩
theorem amZ : TyS Try.prog 128 1 false := ⟨Try.sizeOf128, Try.isAgg128⟩
theorem abB : TyS Try.prog 135 1 false := ⟨Try.sizeOf135, Try.isAgg135⟩
theorem am0 : TyS Try.prog 139 1 false := ⟨Try.sizeOf139, Try.isAgg139⟩
theorem am1 : TyS Try.prog 143 1 false := ⟨Try.sizeOf143, Try.isAgg143⟩
theorem am2 : TyS Try.prog 145 1 false := ⟨Try.sizeOf145, Try.isAgg145⟩
theorem am3 : TyS Try.prog 149 4 true := ⟨Try.sizeOf149, Try.isAgg149⟩
theorem ajn : fC Try.prog 149 [.pointer none, .pointer none, .pointer none, .string ⟨#[]⟩] [(0, 1), (1, 1), (2, 1), (3, 1)] := gJ Try.zeroValue149 Try.underlying149 (fun w => by kernel_rfl)
theorem adD : bM Try.prog 149 0 0 := ⟨fun a w => by kernel_rfl⟩
theorem adE : bM Try.prog 149 1 1 := ⟨fun a w => by kernel_rfl⟩
theorem adF : bM Try.prog 149 2 2 := ⟨fun a w => by kernel_rfl⟩
theorem adG : bM Try.prog 149 3 3 := ⟨fun a w => by kernel_rfl⟩
theorem adH : bA Try.prog 149 0 0 1 false := bG Try.underlying149 (by kernel_rfl) tL (by decide)
theorem adI : bA Try.prog 149 1 1 1 false := bG Try.underlying149 (by kernel_rfl) tL (by decide)
theorem adJ : bA Try.prog 149 2 2 1 false := bG Try.underlying149 (by kernel_rfl) tL (by decide)
theorem adK : bA Try.prog 149 3 3 1 false := bG Try.underlying149 (by kernel_rfl) ty9 (by decide)
theorem am4 : TyS Try.prog 150 4 true := ⟨Try.sizeOf150, Try.isAgg150⟩
theorem ajo : fC Try.prog 150 [.pointer none, .pointer none, .pointer none, .string ⟨#[]⟩] [(0, 1), (1, 1), (2, 1), (3, 1)] := gJ Try.zeroValue150 Try.underlying150 (fun w => by kernel_rfl)
theorem adL : bM Try.prog 150 0 0 := ⟨fun a w => by kernel_rfl⟩
theorem adM : bM Try.prog 150 1 1 := ⟨fun a w => by kernel_rfl⟩
theorem adN : bM Try.prog 150 2 2 := ⟨fun a w => by kernel_rfl⟩
theorem adO : bM Try.prog 150 3 3 := ⟨fun a w => by kernel_rfl⟩
theorem adP : bA Try.prog 150 0 0 1 false := bG Try.underlying150 (by kernel_rfl) tL (by decide)
theorem adQ : bA Try.prog 150 1 1 1 false := bG Try.underlying150 (by kernel_rfl) tL (by decide)
theorem adR : bA Try.prog 150 2 2 1 false := bG Try.underlying150 (by kernel_rfl) tL (by decide)
theorem adS : bA Try.prog 150 3 3 1 false := bG Try.underlying150 (by kernel_rfl) ty9 (by decide)
theorem am5 : TyS Try.prog 151 0 true := ⟨Try.sizeOf151, Try.isAgg151⟩
theorem abC : TyS Try.prog 154 1 false := ⟨Try.sizeOf154, Try.isAgg154⟩
theorem abD : TyS Try.prog 155 1 false := ⟨Try.sizeOf155, Try.isAgg155⟩
theorem abE : TyS Try.prog 156 1 false := ⟨Try.sizeOf156, Try.isAgg156⟩
theorem abF : TyS Try.prog 157 1 false := ⟨Try.sizeOf157, Try.isAgg157⟩
theorem abG : TyS Try.prog 158 1 false := ⟨Try.sizeOf158, Try.isAgg158⟩
theorem abH : TyS Try.prog 159 1 false := ⟨Try.sizeOf159, Try.isAgg159⟩
theorem am6 : TyS Try.prog 160 11 true := ⟨Try.sizeOf160, Try.isAgg160⟩
theorem ajp : fC Try.prog 160 [.int .u64 0, .int .u64 0, .int .u32 0, .int .u8 0, .int .u8 0, .int .u8 0, .int .u8 0, .nilFunc, .pointer none, .int .i32 0, .int .i32 0] [(0, 1), (1, 1), (2, 1), (3, 1), (4, 1), (5, 1), (6, 1), (7, 1), (8, 1), (9, 1), (10, 1)] := gJ Try.zeroValue160 Try.underlying160 (fun w => by kernel_rfl)
theorem adT : bM Try.prog 160 0 0 := ⟨fun a w => by kernel_rfl⟩
theorem adU : bM Try.prog 160 1 1 := ⟨fun a w => by kernel_rfl⟩
theorem adV : bM Try.prog 160 2 2 := ⟨fun a w => by kernel_rfl⟩
theorem adW : bM Try.prog 160 3 3 := ⟨fun a w => by kernel_rfl⟩
theorem adX : bM Try.prog 160 4 4 := ⟨fun a w => by kernel_rfl⟩
theorem adY : bM Try.prog 160 5 5 := ⟨fun a w => by kernel_rfl⟩
theorem adZ : bM Try.prog 160 6 6 := ⟨fun a w => by kernel_rfl⟩
theorem ad0 : bM Try.prog 160 7 7 := ⟨fun a w => by kernel_rfl⟩
theorem ad1 : bM Try.prog 160 8 8 := ⟨fun a w => by kernel_rfl⟩
theorem ad2 : bM Try.prog 160 9 9 := ⟨fun a w => by kernel_rfl⟩
theorem acH : bM Try.prog 160 10 10 := ⟨fun a w => by kernel_rfl⟩
theorem ad3 : bA Try.prog 160 0 0 1 false := bG Try.underlying160 (by kernel_rfl) wT (by decide)
theorem ad4 : bA Try.prog 160 1 1 1 false := bG Try.underlying160 (by kernel_rfl) wT (by decide)
theorem ad5 : bA Try.prog 160 2 2 1 false := bG Try.underlying160 (by kernel_rfl) abB (by decide)
theorem ad6 : bA Try.prog 160 3 3 1 false := bG Try.underlying160 (by kernel_rfl) abC (by decide)
theorem ad7 : bA Try.prog 160 4 4 1 false := bG Try.underlying160 (by kernel_rfl) ty5 (by decide)
theorem ad8 : bA Try.prog 160 5 5 1 false := bG Try.underlying160 (by kernel_rfl) ty5 (by decide)
theorem ad9 : bA Try.prog 160 6 6 1 false := bG Try.underlying160 (by kernel_rfl) abD (by decide)
theorem aea : bA Try.prog 160 7 7 1 false := bG Try.underlying160 (by kernel_rfl) abE (by decide)
theorem aeb : bA Try.prog 160 8 8 1 false := bG Try.underlying160 (by kernel_rfl) abF (by decide)
theorem aec : bA Try.prog 160 9 9 1 false := bG Try.underlying160 (by kernel_rfl) abG (by decide)
theorem acI : bA Try.prog 160 10 10 1 false := bG Try.underlying160 (by kernel_rfl) abH (by decide)
theorem am7 : TyS Try.prog 161 11 true := ⟨Try.sizeOf161, Try.isAgg161⟩
theorem ajq : fC Try.prog 161 [.int .u64 0, .int .u64 0, .int .u32 0, .int .u8 0, .int .u8 0, .int .u8 0, .int .u8 0, .nilFunc, .pointer none, .int .i32 0, .int .i32 0] [(0, 1), (1, 1), (2, 1), (3, 1), (4, 1), (5, 1), (6, 1), (7, 1), (8, 1), (9, 1), (10, 1)] := gJ Try.zeroValue161 Try.underlying161 (fun w => by kernel_rfl)
theorem aed : bM Try.prog 161 0 0 := ⟨fun a w => by kernel_rfl⟩
theorem aee : bM Try.prog 161 1 1 := ⟨fun a w => by kernel_rfl⟩
theorem aef : bM Try.prog 161 2 2 := ⟨fun a w => by kernel_rfl⟩
theorem aeg : bM Try.prog 161 3 3 := ⟨fun a w => by kernel_rfl⟩
theorem aeh : bM Try.prog 161 4 4 := ⟨fun a w => by kernel_rfl⟩
theorem aei : bM Try.prog 161 5 5 := ⟨fun a w => by kernel_rfl⟩
theorem aej : bM Try.prog 161 6 6 := ⟨fun a w => by kernel_rfl⟩
theorem aek : bM Try.prog 161 7 7 := ⟨fun a w => by kernel_rfl⟩
theorem ael : bM Try.prog 161 8 8 := ⟨fun a w => by kernel_rfl⟩
theorem aem : bM Try.prog 161 9 9 := ⟨fun a w => by kernel_rfl⟩
theorem acJ : bM Try.prog 161 10 10 := ⟨fun a w => by kernel_rfl⟩
theorem aen : bA Try.prog 161 0 0 1 false := bG Try.underlying161 (by kernel_rfl) wT (by decide)
theorem aeo : bA Try.prog 161 1 1 1 false := bG Try.underlying161 (by kernel_rfl) wT (by decide)
theorem aep : bA Try.prog 161 2 2 1 false := bG Try.underlying161 (by kernel_rfl) abB (by decide)
theorem aeq : bA Try.prog 161 3 3 1 false := bG Try.underlying161 (by kernel_rfl) abC (by decide)
theorem aer : bA Try.prog 161 4 4 1 false := bG Try.underlying161 (by kernel_rfl) ty5 (by decide)
theorem aes : bA Try.prog 161 5 5 1 false := bG Try.underlying161 (by kernel_rfl) ty5 (by decide)
theorem aet : bA Try.prog 161 6 6 1 false := bG Try.underlying161 (by kernel_rfl) abD (by decide)
theorem aeu : bA Try.prog 161 7 7 1 false := bG Try.underlying161 (by kernel_rfl) abE (by decide)
theorem aev : bA Try.prog 161 8 8 1 false := bG Try.underlying161 (by kernel_rfl) abF (by decide)
theorem aew : bA Try.prog 161 9 9 1 false := bG Try.underlying161 (by kernel_rfl) abG (by decide)
theorem acK : bA Try.prog 161 10 10 1 false := bG Try.underlying161 (by kernel_rfl) abH (by decide)
end Go.Proofs.Ytmfehenfoepkfaa
