/- The types of this translation, as the rules want them. No condition. -/
import Derived.Test.YtflifgcoleknlaaAB
import Derived.Test.YtflifgcoleknlaaRows
import Derived.OwnWalk
namespace Go.Proofs.Ytflifgcoleknlaa
set_option linter.all false
open Go
set_option maxRecDepth 100000
abbrev Zr (i : Nat) (c : List Value) : Prop := ∀ w, ∃ z, (zeroValue i).run Try.prog w = .ok z w ∧ z.cells = c.toArray
theorem hmix : Try.prog.follows .mixedOrders = true := by kernel_rfl
theorem ze2 : Zr 2 [.int .i64 0] := fun w => ⟨_, Try.zeroValue2 w, rfl⟩
theorem ze3 : Zr 3 [.int .i64 0] := fun w => ⟨_, Try.zeroValue3 w, rfl⟩
theorem ze4 : Zr 4 [.bool false] := fun w => ⟨_, Try.zeroValue4 w, rfl⟩
theorem ze5 : Zr 5 [.int .u8 0] := fun w => ⟨_, Try.zeroValue5 w, rfl⟩
theorem ze6 : Zr 6 [.int .u8 0] := fun w => ⟨_, Try.zeroValue6 w, rfl⟩
theorem ze7 : Zr 7 [.int .i64 0, .int .i64 0, .bool false, .int .u8 0] := fun w => ⟨_, Try.zeroValue7 w, rfl⟩
theorem ze8 : Zr 8 [.int .i64 0, .int .i64 0, .bool false, .int .u8 0] := fun w => ⟨_, Try.zeroValue8 w, rfl⟩
theorem ze9 : Zr 9 [.string ⟨#[]⟩] := fun w => ⟨_, Try.zeroValue9 w, rfl⟩
theorem ze10 : Zr 10 [.string ⟨#[]⟩] := fun w => ⟨_, Try.zeroValue10 w, rfl⟩
theorem ze11 : Zr 11 [.string ⟨#[]⟩] := fun w => ⟨_, Try.zeroValue11 w, rfl⟩
theorem ze12 : Zr 12 [.int .u64 0] := fun w => ⟨_, Try.zeroValue12 w, rfl⟩
theorem ze13 : Zr 13 [.string ⟨#[]⟩, .int .u64 0] := fun w => ⟨_, Try.zeroValue13 w, rfl⟩
theorem ze14 : Zr 14 [.string ⟨#[]⟩, .int .u64 0] := fun w => ⟨_, Try.zeroValue14 w, rfl⟩
theorem ze15 : Zr 15 [.pointer none] := fun w => ⟨_, Try.zeroValue15 w, rfl⟩
theorem ze16 : Zr 16 [.pointer none] := fun w => ⟨_, Try.zeroValue16 w, rfl⟩
theorem ze17 : Zr 17 [.pointer none] := fun w => ⟨_, Try.zeroValue17 w, rfl⟩
theorem ze18 : Zr 18 [.pointer none] := fun w => ⟨_, Try.zeroValue18 w, rfl⟩
theorem ze19 : Zr 19 [.pointer none] := fun w => ⟨_, Try.zeroValue19 w, rfl⟩
theorem ze21 : Zr 21 [.int .i32 0] := fun w => ⟨_, Try.zeroValue21 w, rfl⟩
theorem ze22 : Zr 22 [.slice none 0 0] := fun w => ⟨_, Try.zeroValue22 w, rfl⟩
theorem ze23 : Zr 23 [.pointer none] := fun w => ⟨_, Try.zeroValue23 w, rfl⟩
theorem ze25 : Zr 25 [.slice none 0 0] := fun w => ⟨_, Try.zeroValue25 w, rfl⟩
theorem ze26 : Zr 26 [.slice none 0 0] := fun w => ⟨_, Try.zeroValue26 w, rfl⟩
theorem ze27 : Zr 27 [.slice none 0 0, .slice none 0 0] := fun w => ⟨_, Try.zeroValue27 w, rfl⟩
theorem ze28 : Zr 28 [.slice none 0 0, .slice none 0 0] := fun w => ⟨_, Try.zeroValue28 w, rfl⟩
theorem ze30 : Zr 30 [.int .i64 0, .int .i64 0] := fun w => ⟨_, Try.zeroValue30 w, rfl⟩
theorem ze32 : Zr 32 [.int .i64 0, .int .i64 0, .int .i64 0, .int .i64 0, .int .i64 0, .int .i64 0] := fun w => ⟨_, Try.zeroValue32 w, rfl⟩
theorem ze38 : Zr 38 [.int .i64 0, .int .i64 0] := fun w => ⟨_, Try.zeroValue38 w, rfl⟩
theorem ze39 : Zr 39 [.int .i64 0, .int .i64 0] := fun w => ⟨_, Try.zeroValue39 w, rfl⟩
theorem ze41 : Zr 41 [.int .i64 0, .int .i64 0, .int .i64 0, .int .i64 0, .int .i64 0] := fun w => ⟨_, Try.zeroValue41 w, rfl⟩
theorem ze42 : Zr 42 [.int .i64 0, .int .i64 0, .int .i64 0, .int .i64 0, .int .i64 0] := fun w => ⟨_, Try.zeroValue42 w, rfl⟩
theorem ze55 : Zr 55 [.slice none 0 0] := fun w => ⟨_, Try.zeroValue55 w, rfl⟩
theorem ze56 : Zr 56 [.slice none 0 0, .slice none 0 0] := fun w => ⟨_, Try.zeroValue56 w, rfl⟩
theorem ze57 : Zr 57 [.slice none 0 0, .slice none 0 0] := fun w => ⟨_, Try.zeroValue57 w, rfl⟩
theorem ze59 : Zr 59 [.slice none 0 0] := fun w => ⟨_, Try.zeroValue59 w, rfl⟩
theorem ze61 : Zr 61 [.int .i64 0, .int .i64 0] := fun w => ⟨_, Try.zeroValue61 w, rfl⟩
theorem ze62 : Zr 62 [.int .i64 0, .int .i64 0] := fun w => ⟨_, Try.zeroValue62 w, rfl⟩
theorem ze63 : Zr 63 [.slice none 0 0, .int .i64 0] := fun w => ⟨_, Try.zeroValue63 w, rfl⟩
theorem ze64 : Zr 64 [.slice none 0 0, .int .i64 0] := fun w => ⟨_, Try.zeroValue64 w, rfl⟩
theorem ze66 : Zr 66 [.int .i64 0, .bool false] := fun w => ⟨_, Try.zeroValue66 w, rfl⟩
theorem ze67 : Zr 67 [.int .i64 0, .bool false] := fun w => ⟨_, Try.zeroValue67 w, rfl⟩
theorem ze69 : Zr 69 [.nilFunc] := fun w => ⟨_, Try.zeroValue69 w, rfl⟩
theorem ze72 : Zr 72 [.map none] := fun w => ⟨_, Try.zeroValue72 w, rfl⟩
theorem ze73 : Zr 73 [.map none, .map none] := fun w => ⟨_, Try.zeroValue73 w, rfl⟩
theorem ze74 : Zr 74 [.map none, .map none] := fun w => ⟨_, Try.zeroValue74 w, rfl⟩
theorem ze77 : Zr 77 [.map none] := fun w => ⟨_, Try.zeroValue77 w, rfl⟩
theorem ze83 : Zr 83 [.int .i64 0] := fun w => ⟨_, Try.zeroValue83 w, rfl⟩
theorem ze86 : Zr 86 [.slice none 0 0] := fun w => ⟨_, Try.zeroValue86 w, rfl⟩
theorem ze87 : Zr 87 [.int .i64 0, .int .i64 0] := fun w => ⟨_, Try.zeroValue87 w, rfl⟩
theorem ze88 : Zr 88 [.int .i64 0, .int .i64 0] := fun w => ⟨_, Try.zeroValue88 w, rfl⟩
theorem ze90 : Zr 90 [.nilFunc] := fun w => ⟨_, Try.zeroValue90 w, rfl⟩
theorem ze95 : Zr 95 [.nilFunc] := fun w => ⟨_, Try.zeroValue95 w, rfl⟩
theorem ze99 : Zr 99 [.nilFunc] := fun w => ⟨_, Try.zeroValue99 w, rfl⟩
theorem ze101 : Zr 101 [.nilFunc] := fun w => ⟨_, Try.zeroValue101 w, rfl⟩
theorem ze103 : Zr 103 [.nilFunc] := fun w => ⟨_, Try.zeroValue103 w, rfl⟩
theorem ze106 : Zr 106 [.int .u64 0] := fun w => ⟨_, Try.zeroValue106 w, rfl⟩
theorem ze111 : Zr 111 [.int .i64 0] := fun w => ⟨_, Try.zeroValue111 w, rfl⟩
theorem ze118 : Zr 118 [.int .u32 0] := fun w => ⟨_, Try.zeroValue118 w, rfl⟩
theorem ze120 : Zr 120 [.int .u64 0] := fun w => ⟨_, Try.zeroValue120 w, rfl⟩
theorem ze121 : Zr 121 [.int .u64 0] := fun w => ⟨_, Try.zeroValue121 w, rfl⟩
theorem ze125 : Zr 125 [.pointer none] := fun w => ⟨_, Try.zeroValue125 w, rfl⟩
theorem ze127 : Zr 127 [.pointer none] := fun w => ⟨_, Try.zeroValue127 w, rfl⟩
theorem ze131 : Zr 131 [.pointer none, .pointer none, .pointer none, .string ⟨#[]⟩] := fun w => ⟨_, Try.zeroValue131 w, rfl⟩
theorem ze132 : Zr 132 [.pointer none, .pointer none, .pointer none, .string ⟨#[]⟩] := fun w => ⟨_, Try.zeroValue132 w, rfl⟩
theorem ze133 : Zr 133 [] := fun w => ⟨_, Try.zeroValue133 w, rfl⟩
theorem ze136 : Zr 136 [.int .u8 0] := fun w => ⟨_, Try.zeroValue136 w, rfl⟩
theorem ze137 : Zr 137 [.int .u8 0] := fun w => ⟨_, Try.zeroValue137 w, rfl⟩
theorem ze138 : Zr 138 [.nilFunc] := fun w => ⟨_, Try.zeroValue138 w, rfl⟩
theorem ze139 : Zr 139 [.pointer none] := fun w => ⟨_, Try.zeroValue139 w, rfl⟩
theorem ze140 : Zr 140 [.int .i32 0] := fun w => ⟨_, Try.zeroValue140 w, rfl⟩
theorem ze141 : Zr 141 [.int .i32 0] := fun w => ⟨_, Try.zeroValue141 w, rfl⟩
theorem ze142 : Zr 142 [.int .u64 0, .int .u64 0, .int .u32 0, .int .u8 0, .int .u8 0, .int .u8 0, .int .u8 0, .nilFunc, .pointer none, .int .i32 0, .int .i32 0] := fun w => ⟨_, Try.zeroValue142 w, rfl⟩
theorem ze143 : Zr 143 [.int .u64 0, .int .u64 0, .int .u32 0, .int .u8 0, .int .u8 0, .int .u8 0, .int .u8 0, .nilFunc, .pointer none, .int .i32 0, .int .i32 0] := fun w => ⟨_, Try.zeroValue143 w, rfl⟩
theorem ty2 : TyS Try.prog 2 1 false := ⟨Try.sizeOf2, Try.isAgg2⟩
theorem ty3 : TyS Try.prog 3 1 false := ⟨Try.sizeOf3, Try.isAgg3⟩
theorem ty4 : TyS Try.prog 4 1 false := ⟨Try.sizeOf4, Try.isAgg4⟩
theorem ty5 : TyS Try.prog 5 1 false := ⟨Try.sizeOf5, Try.isAgg5⟩
theorem ty6 : TyS Try.prog 6 1 false := ⟨Try.sizeOf6, Try.isAgg6⟩
theorem ty7 : TyS Try.prog 7 4 true := ⟨Try.sizeOf7, Try.isAgg7⟩
theorem str7 : StrS Try.prog 7 [.int .i64 0, .int .i64 0, .bool false, .int .u8 0] [(0, 1), (1, 1), (2, 1), (3, 1)] := strS Try.zeroValue7 Try.underlying7 (fun w => by kernel_rfl)
theorem fld7_0 : FldS Try.prog 7 0 0 := ⟨fun a w => by kernel_rfl⟩
theorem fld7_1 : FldS Try.prog 7 1 1 := ⟨fun a w => by kernel_rfl⟩
theorem fld7_2 : FldS Try.prog 7 2 2 := ⟨fun a w => by kernel_rfl⟩
theorem fld7_3 : FldS Try.prog 7 3 3 := ⟨fun a w => by kernel_rfl⟩
theorem prt7_0 : PartS Try.prog 7 0 0 1 false := partS Try.underlying7 (by kernel_rfl) ty2 (by decide)
theorem prt7_1 : PartS Try.prog 7 1 1 1 false := partS Try.underlying7 (by kernel_rfl) ty3 (by decide)
theorem prt7_2 : PartS Try.prog 7 2 2 1 false := partS Try.underlying7 (by kernel_rfl) ty4 (by decide)
theorem prt7_3 : PartS Try.prog 7 3 3 1 false := partS Try.underlying7 (by kernel_rfl) ty6 (by decide)
theorem ty8 : TyS Try.prog 8 4 true := ⟨Try.sizeOf8, Try.isAgg8⟩
theorem str8 : StrS Try.prog 8 [.int .i64 0, .int .i64 0, .bool false, .int .u8 0] [(0, 1), (1, 1), (2, 1), (3, 1)] := strS Try.zeroValue8 Try.underlying8 (fun w => by kernel_rfl)
theorem fld8_0 : FldS Try.prog 8 0 0 := ⟨fun a w => by kernel_rfl⟩
theorem fld8_1 : FldS Try.prog 8 1 1 := ⟨fun a w => by kernel_rfl⟩
theorem fld8_2 : FldS Try.prog 8 2 2 := ⟨fun a w => by kernel_rfl⟩
theorem fld8_3 : FldS Try.prog 8 3 3 := ⟨fun a w => by kernel_rfl⟩
theorem prt8_0 : PartS Try.prog 8 0 0 1 false := partS Try.underlying8 (by kernel_rfl) ty2 (by decide)
theorem prt8_1 : PartS Try.prog 8 1 1 1 false := partS Try.underlying8 (by kernel_rfl) ty3 (by decide)
theorem prt8_2 : PartS Try.prog 8 2 2 1 false := partS Try.underlying8 (by kernel_rfl) ty4 (by decide)
theorem prt8_3 : PartS Try.prog 8 3 3 1 false := partS Try.underlying8 (by kernel_rfl) ty6 (by decide)
theorem ty9 : TyS Try.prog 9 1 false := ⟨Try.sizeOf9, Try.isAgg9⟩
theorem ty10 : TyS Try.prog 10 1 false := ⟨Try.sizeOf10, Try.isAgg10⟩
theorem ty11 : TyS Try.prog 11 1 false := ⟨Try.sizeOf11, Try.isAgg11⟩
theorem ty12 : TyS Try.prog 12 1 false := ⟨Try.sizeOf12, Try.isAgg12⟩
theorem ty13 : TyS Try.prog 13 2 true := ⟨Try.sizeOf13, Try.isAgg13⟩
theorem str13 : StrS Try.prog 13 [.string ⟨#[]⟩, .int .u64 0] [(0, 1), (1, 1)] := strS Try.zeroValue13 Try.underlying13 (fun w => by kernel_rfl)
theorem fld13_0 : FldS Try.prog 13 0 0 := ⟨fun a w => by kernel_rfl⟩
theorem fld13_1 : FldS Try.prog 13 1 1 := ⟨fun a w => by kernel_rfl⟩
theorem prt13_0 : PartS Try.prog 13 0 0 1 false := partS Try.underlying13 (by kernel_rfl) ty9 (by decide)
theorem prt13_1 : PartS Try.prog 13 1 1 1 false := partS Try.underlying13 (by kernel_rfl) ty12 (by decide)
theorem ty14 : TyS Try.prog 14 2 true := ⟨Try.sizeOf14, Try.isAgg14⟩
theorem str14 : StrS Try.prog 14 [.string ⟨#[]⟩, .int .u64 0] [(0, 1), (1, 1)] := strS Try.zeroValue14 Try.underlying14 (fun w => by kernel_rfl)
theorem fld14_0 : FldS Try.prog 14 0 0 := ⟨fun a w => by kernel_rfl⟩
theorem fld14_1 : FldS Try.prog 14 1 1 := ⟨fun a w => by kernel_rfl⟩
theorem prt14_0 : PartS Try.prog 14 0 0 1 false := partS Try.underlying14 (by kernel_rfl) ty9 (by decide)
theorem prt14_1 : PartS Try.prog 14 1 1 1 false := partS Try.underlying14 (by kernel_rfl) ty12 (by decide)
theorem ty15 : TyS Try.prog 15 1 false := ⟨Try.sizeOf15, Try.isAgg15⟩
theorem ty16 : TyS Try.prog 16 1 false := ⟨Try.sizeOf16, Try.isAgg16⟩
theorem ty17 : TyS Try.prog 17 1 false := ⟨Try.sizeOf17, Try.isAgg17⟩
theorem ty18 : TyS Try.prog 18 1 true := ⟨Try.sizeOf18, Try.isAgg18⟩
theorem str18 : StrS Try.prog 18 [.pointer none] [(0, 1)] := strS Try.zeroValue18 Try.underlying18 (fun w => by kernel_rfl)
theorem fld18_0 : FldS Try.prog 18 0 0 := ⟨fun a w => by kernel_rfl⟩
theorem prt18_0 : PartS Try.prog 18 0 0 1 false := partS Try.underlying18 (by kernel_rfl) ty17 (by decide)
theorem ty19 : TyS Try.prog 19 1 true := ⟨Try.sizeOf19, Try.isAgg19⟩
theorem str19 : StrS Try.prog 19 [.pointer none] [(0, 1)] := strS Try.zeroValue19 Try.underlying19 (fun w => by kernel_rfl)
theorem fld19_0 : FldS Try.prog 19 0 0 := ⟨fun a w => by kernel_rfl⟩
theorem prt19_0 : PartS Try.prog 19 0 0 1 false := partS Try.underlying19 (by kernel_rfl) ty17 (by decide)
theorem ty21 : TyS Try.prog 21 1 false := ⟨Try.sizeOf21, Try.isAgg21⟩
theorem ty22 : TyS Try.prog 22 1 false := ⟨Try.sizeOf22, Try.isAgg22⟩
theorem sl22 : SlS Try.prog 22 3 1 := ⟨Try.underlying22, Try.sizeOf3⟩
theorem app22 : AppS Try.prog 22 3 1 8 := ⟨Try.underlying22, (by obtain ⟨i, h1, h2, h3, h4⟩ := info_parts (by kernel_rfl : (Try.prog.info? 3).map (fun i => (i.zero, i.size, i.bytes)) = some (some (.int .i64 0), 1, 8)); exact ⟨i, _, h1, h2, h3, h4, rfl⟩), by decide⟩
theorem sli22 : SliS Try.prog 22 3 1 [.int .i64 0] := ⟨Try.underlying22, Try.sizeOf3, ze3, rfl⟩
theorem ty23 : TyS Try.prog 23 1 false := ⟨Try.sizeOf23, Try.isAgg23⟩
theorem ty25 : TyS Try.prog 25 1 false := ⟨Try.sizeOf25, Try.isAgg25⟩
theorem sl25 : SlS Try.prog 25 67 2 := ⟨Try.underlying25, Try.sizeOf67⟩
theorem app25 : AppS Try.prog 25 67 2 16 := ⟨Try.underlying25, (by obtain ⟨i, h1, h2, h3, h4⟩ := info_parts (by kernel_rfl : (Try.prog.info? 67).map (fun i => (i.zero, i.size, i.bytes)) = some (some (.agg #[.int .i64 0, .bool false]), 2, 16)); exact ⟨i, _, h1, h2, h3, h4, rfl⟩), by decide⟩
theorem sli25 : SliS Try.prog 25 67 2 [.int .i64 0, .bool false] := ⟨Try.underlying25, Try.sizeOf67, ze67, rfl⟩
theorem ty26 : TyS Try.prog 26 1 false := ⟨Try.sizeOf26, Try.isAgg26⟩
theorem sl26 : SlS Try.prog 26 42 5 := ⟨Try.underlying26, Try.sizeOf42⟩
theorem app26 : AppS Try.prog 26 42 5 40 := ⟨Try.underlying26, (by obtain ⟨i, h1, h2, h3, h4⟩ := info_parts (by kernel_rfl : (Try.prog.info? 42).map (fun i => (i.zero, i.size, i.bytes)) = some (some (.agg #[.int .i64 0, .int .i64 0, .int .i64 0, .int .i64 0, .int .i64 0]), 5, 40)); exact ⟨i, _, h1, h2, h3, h4, rfl⟩), by decide⟩
theorem sli26 : SliS Try.prog 26 42 5 [.int .i64 0, .int .i64 0, .int .i64 0, .int .i64 0, .int .i64 0] := ⟨Try.underlying26, Try.sizeOf42, ze42, rfl⟩
theorem ty27 : TyS Try.prog 27 2 true := ⟨Try.sizeOf27, Try.isAgg27⟩
theorem str27 : StrS Try.prog 27 [.slice none 0 0, .slice none 0 0] [(0, 1), (1, 1)] := strS Try.zeroValue27 Try.underlying27 (fun w => by kernel_rfl)
theorem fld27_0 : FldS Try.prog 27 0 0 := ⟨fun a w => by kernel_rfl⟩
theorem fld27_1 : FldS Try.prog 27 1 1 := ⟨fun a w => by kernel_rfl⟩
theorem prt27_0 : PartS Try.prog 27 0 0 1 false := partS Try.underlying27 (by kernel_rfl) ty25 (by decide)
theorem prt27_1 : PartS Try.prog 27 1 1 1 false := partS Try.underlying27 (by kernel_rfl) ty26 (by decide)
theorem ty28 : TyS Try.prog 28 2 true := ⟨Try.sizeOf28, Try.isAgg28⟩
theorem str28 : StrS Try.prog 28 [.slice none 0 0, .slice none 0 0] [(0, 1), (1, 1)] := strS Try.zeroValue28 Try.underlying28 (fun w => by kernel_rfl)
theorem fld28_0 : FldS Try.prog 28 0 0 := ⟨fun a w => by kernel_rfl⟩
theorem fld28_1 : FldS Try.prog 28 1 1 := ⟨fun a w => by kernel_rfl⟩
theorem prt28_0 : PartS Try.prog 28 0 0 1 false := partS Try.underlying28 (by kernel_rfl) ty25 (by decide)
theorem prt28_1 : PartS Try.prog 28 1 1 1 false := partS Try.underlying28 (by kernel_rfl) ty26 (by decide)
theorem ty30 : TyS Try.prog 30 2 true := ⟨Try.sizeOf30, Try.isAgg30⟩
theorem ty32 : TyS Try.prog 32 6 true := ⟨Try.sizeOf32, Try.isAgg32⟩
theorem ty38 : TyS Try.prog 38 2 true := ⟨Try.sizeOf38, Try.isAgg38⟩
theorem str38 : StrS Try.prog 38 [.int .i64 0, .int .i64 0] [(0, 1), (1, 1)] := strS Try.zeroValue38 Try.underlying38 (fun w => by kernel_rfl)
theorem fld38_0 : FldS Try.prog 38 0 0 := ⟨fun a w => by kernel_rfl⟩
theorem fld38_1 : FldS Try.prog 38 1 1 := ⟨fun a w => by kernel_rfl⟩
theorem prt38_0 : PartS Try.prog 38 0 0 1 false := partS Try.underlying38 (by kernel_rfl) ty3 (by decide)
theorem prt38_1 : PartS Try.prog 38 1 1 1 false := partS Try.underlying38 (by kernel_rfl) ty3 (by decide)
theorem ty39 : TyS Try.prog 39 2 true := ⟨Try.sizeOf39, Try.isAgg39⟩
theorem str39 : StrS Try.prog 39 [.int .i64 0, .int .i64 0] [(0, 1), (1, 1)] := strS Try.zeroValue39 Try.underlying39 (fun w => by kernel_rfl)
theorem fld39_0 : FldS Try.prog 39 0 0 := ⟨fun a w => by kernel_rfl⟩
theorem fld39_1 : FldS Try.prog 39 1 1 := ⟨fun a w => by kernel_rfl⟩
theorem prt39_0 : PartS Try.prog 39 0 0 1 false := partS Try.underlying39 (by kernel_rfl) ty3 (by decide)
theorem prt39_1 : PartS Try.prog 39 1 1 1 false := partS Try.underlying39 (by kernel_rfl) ty3 (by decide)
theorem ty41 : TyS Try.prog 41 5 true := ⟨Try.sizeOf41, Try.isAgg41⟩
theorem str41 : StrS Try.prog 41 [.int .i64 0, .int .i64 0, .int .i64 0, .int .i64 0, .int .i64 0] [(0, 1), (1, 1), (2, 1), (3, 1), (4, 1)] := strS Try.zeroValue41 Try.underlying41 (fun w => by kernel_rfl)
theorem fld41_0 : FldS Try.prog 41 0 0 := ⟨fun a w => by kernel_rfl⟩
theorem fld41_1 : FldS Try.prog 41 1 1 := ⟨fun a w => by kernel_rfl⟩
theorem fld41_2 : FldS Try.prog 41 2 2 := ⟨fun a w => by kernel_rfl⟩
theorem fld41_3 : FldS Try.prog 41 3 3 := ⟨fun a w => by kernel_rfl⟩
theorem fld41_4 : FldS Try.prog 41 4 4 := ⟨fun a w => by kernel_rfl⟩
theorem prt41_0 : PartS Try.prog 41 0 0 1 false := partS Try.underlying41 (by kernel_rfl) ty3 (by decide)
theorem prt41_1 : PartS Try.prog 41 1 1 1 false := partS Try.underlying41 (by kernel_rfl) ty3 (by decide)
theorem prt41_2 : PartS Try.prog 41 2 2 1 false := partS Try.underlying41 (by kernel_rfl) ty3 (by decide)
theorem prt41_3 : PartS Try.prog 41 3 3 1 false := partS Try.underlying41 (by kernel_rfl) ty3 (by decide)
theorem prt41_4 : PartS Try.prog 41 4 4 1 false := partS Try.underlying41 (by kernel_rfl) ty3 (by decide)
theorem ty42 : TyS Try.prog 42 5 true := ⟨Try.sizeOf42, Try.isAgg42⟩
theorem str42 : StrS Try.prog 42 [.int .i64 0, .int .i64 0, .int .i64 0, .int .i64 0, .int .i64 0] [(0, 1), (1, 1), (2, 1), (3, 1), (4, 1)] := strS Try.zeroValue42 Try.underlying42 (fun w => by kernel_rfl)
theorem fld42_0 : FldS Try.prog 42 0 0 := ⟨fun a w => by kernel_rfl⟩
theorem fld42_1 : FldS Try.prog 42 1 1 := ⟨fun a w => by kernel_rfl⟩
theorem fld42_2 : FldS Try.prog 42 2 2 := ⟨fun a w => by kernel_rfl⟩
theorem fld42_3 : FldS Try.prog 42 3 3 := ⟨fun a w => by kernel_rfl⟩
theorem fld42_4 : FldS Try.prog 42 4 4 := ⟨fun a w => by kernel_rfl⟩
theorem prt42_0 : PartS Try.prog 42 0 0 1 false := partS Try.underlying42 (by kernel_rfl) ty3 (by decide)
theorem prt42_1 : PartS Try.prog 42 1 1 1 false := partS Try.underlying42 (by kernel_rfl) ty3 (by decide)
theorem prt42_2 : PartS Try.prog 42 2 2 1 false := partS Try.underlying42 (by kernel_rfl) ty3 (by decide)
theorem prt42_3 : PartS Try.prog 42 3 3 1 false := partS Try.underlying42 (by kernel_rfl) ty3 (by decide)
theorem prt42_4 : PartS Try.prog 42 4 4 1 false := partS Try.underlying42 (by kernel_rfl) ty3 (by decide)
theorem ty55 : TyS Try.prog 55 1 false := ⟨Try.sizeOf55, Try.isAgg55⟩
theorem sl55 : SlS Try.prog 55 39 2 := ⟨Try.underlying55, Try.sizeOf39⟩
theorem app55 : AppS Try.prog 55 39 2 16 := ⟨Try.underlying55, (by obtain ⟨i, h1, h2, h3, h4⟩ := info_parts (by kernel_rfl : (Try.prog.info? 39).map (fun i => (i.zero, i.size, i.bytes)) = some (some (.agg #[.int .i64 0, .int .i64 0]), 2, 16)); exact ⟨i, _, h1, h2, h3, h4, rfl⟩), by decide⟩
theorem sli55 : SliS Try.prog 55 39 2 [.int .i64 0, .int .i64 0] := ⟨Try.underlying55, Try.sizeOf39, ze39, rfl⟩
theorem ty56 : TyS Try.prog 56 2 true := ⟨Try.sizeOf56, Try.isAgg56⟩
theorem str56 : StrS Try.prog 56 [.slice none 0 0, .slice none 0 0] [(0, 1), (1, 1)] := strS Try.zeroValue56 Try.underlying56 (fun w => by kernel_rfl)
theorem fld56_0 : FldS Try.prog 56 0 0 := ⟨fun a w => by kernel_rfl⟩
theorem fld56_1 : FldS Try.prog 56 1 1 := ⟨fun a w => by kernel_rfl⟩
theorem prt56_0 : PartS Try.prog 56 0 0 1 false := partS Try.underlying56 (by kernel_rfl) ty55 (by decide)
theorem prt56_1 : PartS Try.prog 56 1 1 1 false := partS Try.underlying56 (by kernel_rfl) ty22 (by decide)
theorem ty57 : TyS Try.prog 57 2 true := ⟨Try.sizeOf57, Try.isAgg57⟩
theorem str57 : StrS Try.prog 57 [.slice none 0 0, .slice none 0 0] [(0, 1), (1, 1)] := strS Try.zeroValue57 Try.underlying57 (fun w => by kernel_rfl)
theorem fld57_0 : FldS Try.prog 57 0 0 := ⟨fun a w => by kernel_rfl⟩
theorem fld57_1 : FldS Try.prog 57 1 1 := ⟨fun a w => by kernel_rfl⟩
theorem prt57_0 : PartS Try.prog 57 0 0 1 false := partS Try.underlying57 (by kernel_rfl) ty55 (by decide)
theorem prt57_1 : PartS Try.prog 57 1 1 1 false := partS Try.underlying57 (by kernel_rfl) ty22 (by decide)
theorem ty59 : TyS Try.prog 59 1 false := ⟨Try.sizeOf59, Try.isAgg59⟩
theorem sl59 : SlS Try.prog 59 62 2 := ⟨Try.underlying59, Try.sizeOf62⟩
theorem app59 : AppS Try.prog 59 62 2 16 := ⟨Try.underlying59, (by obtain ⟨i, h1, h2, h3, h4⟩ := info_parts (by kernel_rfl : (Try.prog.info? 62).map (fun i => (i.zero, i.size, i.bytes)) = some (some (.agg #[.int .i64 0, .int .i64 0]), 2, 16)); exact ⟨i, _, h1, h2, h3, h4, rfl⟩), by decide⟩
theorem sli59 : SliS Try.prog 59 62 2 [.int .i64 0, .int .i64 0] := ⟨Try.underlying59, Try.sizeOf62, ze62, rfl⟩
theorem ty61 : TyS Try.prog 61 2 true := ⟨Try.sizeOf61, Try.isAgg61⟩
theorem str61 : StrS Try.prog 61 [.int .i64 0, .int .i64 0] [(0, 1), (1, 1)] := strS Try.zeroValue61 Try.underlying61 (fun w => by kernel_rfl)
theorem fld61_0 : FldS Try.prog 61 0 0 := ⟨fun a w => by kernel_rfl⟩
theorem fld61_1 : FldS Try.prog 61 1 1 := ⟨fun a w => by kernel_rfl⟩
theorem prt61_0 : PartS Try.prog 61 0 0 1 false := partS Try.underlying61 (by kernel_rfl) ty3 (by decide)
theorem prt61_1 : PartS Try.prog 61 1 1 1 false := partS Try.underlying61 (by kernel_rfl) ty3 (by decide)
theorem ty62 : TyS Try.prog 62 2 true := ⟨Try.sizeOf62, Try.isAgg62⟩
theorem str62 : StrS Try.prog 62 [.int .i64 0, .int .i64 0] [(0, 1), (1, 1)] := strS Try.zeroValue62 Try.underlying62 (fun w => by kernel_rfl)
theorem fld62_0 : FldS Try.prog 62 0 0 := ⟨fun a w => by kernel_rfl⟩
theorem fld62_1 : FldS Try.prog 62 1 1 := ⟨fun a w => by kernel_rfl⟩
theorem prt62_0 : PartS Try.prog 62 0 0 1 false := partS Try.underlying62 (by kernel_rfl) ty3 (by decide)
theorem prt62_1 : PartS Try.prog 62 1 1 1 false := partS Try.underlying62 (by kernel_rfl) ty3 (by decide)
theorem ty63 : TyS Try.prog 63 2 true := ⟨Try.sizeOf63, Try.isAgg63⟩
theorem str63 : StrS Try.prog 63 [.slice none 0 0, .int .i64 0] [(0, 1), (1, 1)] := strS Try.zeroValue63 Try.underlying63 (fun w => by kernel_rfl)
theorem fld63_0 : FldS Try.prog 63 0 0 := ⟨fun a w => by kernel_rfl⟩
theorem fld63_1 : FldS Try.prog 63 1 1 := ⟨fun a w => by kernel_rfl⟩
theorem prt63_0 : PartS Try.prog 63 0 0 1 false := partS Try.underlying63 (by kernel_rfl) ty22 (by decide)
theorem prt63_1 : PartS Try.prog 63 1 1 1 false := partS Try.underlying63 (by kernel_rfl) ty3 (by decide)
theorem ty64 : TyS Try.prog 64 2 true := ⟨Try.sizeOf64, Try.isAgg64⟩
theorem str64 : StrS Try.prog 64 [.slice none 0 0, .int .i64 0] [(0, 1), (1, 1)] := strS Try.zeroValue64 Try.underlying64 (fun w => by kernel_rfl)
theorem fld64_0 : FldS Try.prog 64 0 0 := ⟨fun a w => by kernel_rfl⟩
theorem fld64_1 : FldS Try.prog 64 1 1 := ⟨fun a w => by kernel_rfl⟩
theorem prt64_0 : PartS Try.prog 64 0 0 1 false := partS Try.underlying64 (by kernel_rfl) ty22 (by decide)
theorem prt64_1 : PartS Try.prog 64 1 1 1 false := partS Try.underlying64 (by kernel_rfl) ty3 (by decide)
theorem ty66 : TyS Try.prog 66 2 true := ⟨Try.sizeOf66, Try.isAgg66⟩
theorem str66 : StrS Try.prog 66 [.int .i64 0, .bool false] [(0, 1), (1, 1)] := strS Try.zeroValue66 Try.underlying66 (fun w => by kernel_rfl)
theorem fld66_0 : FldS Try.prog 66 0 0 := ⟨fun a w => by kernel_rfl⟩
theorem fld66_1 : FldS Try.prog 66 1 1 := ⟨fun a w => by kernel_rfl⟩
theorem prt66_0 : PartS Try.prog 66 0 0 1 false := partS Try.underlying66 (by kernel_rfl) ty3 (by decide)
theorem prt66_1 : PartS Try.prog 66 1 1 1 false := partS Try.underlying66 (by kernel_rfl) ty4 (by decide)
theorem ty67 : TyS Try.prog 67 2 true := ⟨Try.sizeOf67, Try.isAgg67⟩
theorem str67 : StrS Try.prog 67 [.int .i64 0, .bool false] [(0, 1), (1, 1)] := strS Try.zeroValue67 Try.underlying67 (fun w => by kernel_rfl)
theorem fld67_0 : FldS Try.prog 67 0 0 := ⟨fun a w => by kernel_rfl⟩
theorem fld67_1 : FldS Try.prog 67 1 1 := ⟨fun a w => by kernel_rfl⟩
theorem prt67_0 : PartS Try.prog 67 0 0 1 false := partS Try.underlying67 (by kernel_rfl) ty3 (by decide)
theorem prt67_1 : PartS Try.prog 67 1 1 1 false := partS Try.underlying67 (by kernel_rfl) ty4 (by decide)
theorem ty69 : TyS Try.prog 69 1 false := ⟨Try.sizeOf69, Try.isAgg69⟩
theorem ty72 : TyS Try.prog 72 1 false := ⟨Try.sizeOf72, Try.isAgg72⟩
theorem map72 : MapS Try.prog 72 3 86 .i64 := ⟨Try.underlying72, Try.underlying3⟩
theorem ty73 : TyS Try.prog 73 2 true := ⟨Try.sizeOf73, Try.isAgg73⟩
theorem str73 : StrS Try.prog 73 [.map none, .map none] [(0, 1), (1, 1)] := strS Try.zeroValue73 Try.underlying73 (fun w => by kernel_rfl)
theorem fld73_0 : FldS Try.prog 73 0 0 := ⟨fun a w => by kernel_rfl⟩
theorem fld73_1 : FldS Try.prog 73 1 1 := ⟨fun a w => by kernel_rfl⟩
theorem prt73_0 : PartS Try.prog 73 0 0 1 false := partS Try.underlying73 (by kernel_rfl) ty72 (by decide)
theorem prt73_1 : PartS Try.prog 73 1 1 1 false := partS Try.underlying73 (by kernel_rfl) ty72 (by decide)
theorem ty74 : TyS Try.prog 74 2 true := ⟨Try.sizeOf74, Try.isAgg74⟩
theorem str74 : StrS Try.prog 74 [.map none, .map none] [(0, 1), (1, 1)] := strS Try.zeroValue74 Try.underlying74 (fun w => by kernel_rfl)
theorem fld74_0 : FldS Try.prog 74 0 0 := ⟨fun a w => by kernel_rfl⟩
theorem fld74_1 : FldS Try.prog 74 1 1 := ⟨fun a w => by kernel_rfl⟩
theorem prt74_0 : PartS Try.prog 74 0 0 1 false := partS Try.underlying74 (by kernel_rfl) ty72 (by decide)
theorem prt74_1 : PartS Try.prog 74 1 1 1 false := partS Try.underlying74 (by kernel_rfl) ty72 (by decide)
theorem ty77 : TyS Try.prog 77 1 false := ⟨Try.sizeOf77, Try.isAgg77⟩
theorem map77 : MapS Try.prog 77 3 3 .i64 := ⟨Try.underlying77, Try.underlying3⟩
theorem ty83 : TyS Try.prog 83 1 false := ⟨Try.sizeOf83, Try.isAgg83⟩
theorem ty86 : TyS Try.prog 86 1 false := ⟨Try.sizeOf86, Try.isAgg86⟩
theorem sl86 : SlS Try.prog 86 88 2 := ⟨Try.underlying86, Try.sizeOf88⟩
theorem app86 : AppS Try.prog 86 88 2 16 := ⟨Try.underlying86, (by obtain ⟨i, h1, h2, h3, h4⟩ := info_parts (by kernel_rfl : (Try.prog.info? 88).map (fun i => (i.zero, i.size, i.bytes)) = some (some (.agg #[.int .i64 0, .int .i64 0]), 2, 16)); exact ⟨i, _, h1, h2, h3, h4, rfl⟩), by decide⟩
theorem sli86 : SliS Try.prog 86 88 2 [.int .i64 0, .int .i64 0] := ⟨Try.underlying86, Try.sizeOf88, ze88, rfl⟩
theorem ty87 : TyS Try.prog 87 2 true := ⟨Try.sizeOf87, Try.isAgg87⟩
theorem str87 : StrS Try.prog 87 [.int .i64 0, .int .i64 0] [(0, 1), (1, 1)] := strS Try.zeroValue87 Try.underlying87 (fun w => by kernel_rfl)
theorem fld87_0 : FldS Try.prog 87 0 0 := ⟨fun a w => by kernel_rfl⟩
theorem fld87_1 : FldS Try.prog 87 1 1 := ⟨fun a w => by kernel_rfl⟩
theorem prt87_0 : PartS Try.prog 87 0 0 1 false := partS Try.underlying87 (by kernel_rfl) ty3 (by decide)
theorem prt87_1 : PartS Try.prog 87 1 1 1 false := partS Try.underlying87 (by kernel_rfl) ty3 (by decide)
theorem ty88 : TyS Try.prog 88 2 true := ⟨Try.sizeOf88, Try.isAgg88⟩
theorem str88 : StrS Try.prog 88 [.int .i64 0, .int .i64 0] [(0, 1), (1, 1)] := strS Try.zeroValue88 Try.underlying88 (fun w => by kernel_rfl)
theorem fld88_0 : FldS Try.prog 88 0 0 := ⟨fun a w => by kernel_rfl⟩
theorem fld88_1 : FldS Try.prog 88 1 1 := ⟨fun a w => by kernel_rfl⟩
theorem prt88_0 : PartS Try.prog 88 0 0 1 false := partS Try.underlying88 (by kernel_rfl) ty3 (by decide)
theorem prt88_1 : PartS Try.prog 88 1 1 1 false := partS Try.underlying88 (by kernel_rfl) ty3 (by decide)
theorem ty90 : TyS Try.prog 90 1 false := ⟨Try.sizeOf90, Try.isAgg90⟩
theorem ty95 : TyS Try.prog 95 1 false := ⟨Try.sizeOf95, Try.isAgg95⟩
theorem ty99 : TyS Try.prog 99 1 false := ⟨Try.sizeOf99, Try.isAgg99⟩
theorem ty101 : TyS Try.prog 101 1 false := ⟨Try.sizeOf101, Try.isAgg101⟩
theorem ty103 : TyS Try.prog 103 1 false := ⟨Try.sizeOf103, Try.isAgg103⟩
theorem ty106 : TyS Try.prog 106 1 false := ⟨Try.sizeOf106, Try.isAgg106⟩
theorem ty111 : TyS Try.prog 111 1 false := ⟨Try.sizeOf111, Try.isAgg111⟩
theorem ty118 : TyS Try.prog 118 1 false := ⟨Try.sizeOf118, Try.isAgg118⟩
theorem ty120 : TyS Try.prog 120 1 false := ⟨Try.sizeOf120, Try.isAgg120⟩
theorem ty121 : TyS Try.prog 121 1 false := ⟨Try.sizeOf121, Try.isAgg121⟩
theorem ty125 : TyS Try.prog 125 1 false := ⟨Try.sizeOf125, Try.isAgg125⟩
theorem ty127 : TyS Try.prog 127 1 false := ⟨Try.sizeOf127, Try.isAgg127⟩
theorem ty131 : TyS Try.prog 131 4 true := ⟨Try.sizeOf131, Try.isAgg131⟩
theorem str131 : StrS Try.prog 131 [.pointer none, .pointer none, .pointer none, .string ⟨#[]⟩] [(0, 1), (1, 1), (2, 1), (3, 1)] := strS Try.zeroValue131 Try.underlying131 (fun w => by kernel_rfl)
theorem fld131_0 : FldS Try.prog 131 0 0 := ⟨fun a w => by kernel_rfl⟩
theorem fld131_1 : FldS Try.prog 131 1 1 := ⟨fun a w => by kernel_rfl⟩
theorem fld131_2 : FldS Try.prog 131 2 2 := ⟨fun a w => by kernel_rfl⟩
theorem fld131_3 : FldS Try.prog 131 3 3 := ⟨fun a w => by kernel_rfl⟩
theorem prt131_0 : PartS Try.prog 131 0 0 1 false := partS Try.underlying131 (by kernel_rfl) ty17 (by decide)
theorem prt131_1 : PartS Try.prog 131 1 1 1 false := partS Try.underlying131 (by kernel_rfl) ty17 (by decide)
theorem prt131_2 : PartS Try.prog 131 2 2 1 false := partS Try.underlying131 (by kernel_rfl) ty17 (by decide)
theorem prt131_3 : PartS Try.prog 131 3 3 1 false := partS Try.underlying131 (by kernel_rfl) ty9 (by decide)
theorem ty132 : TyS Try.prog 132 4 true := ⟨Try.sizeOf132, Try.isAgg132⟩
theorem str132 : StrS Try.prog 132 [.pointer none, .pointer none, .pointer none, .string ⟨#[]⟩] [(0, 1), (1, 1), (2, 1), (3, 1)] := strS Try.zeroValue132 Try.underlying132 (fun w => by kernel_rfl)
theorem fld132_0 : FldS Try.prog 132 0 0 := ⟨fun a w => by kernel_rfl⟩
theorem fld132_1 : FldS Try.prog 132 1 1 := ⟨fun a w => by kernel_rfl⟩
theorem fld132_2 : FldS Try.prog 132 2 2 := ⟨fun a w => by kernel_rfl⟩
theorem fld132_3 : FldS Try.prog 132 3 3 := ⟨fun a w => by kernel_rfl⟩
theorem prt132_0 : PartS Try.prog 132 0 0 1 false := partS Try.underlying132 (by kernel_rfl) ty17 (by decide)
theorem prt132_1 : PartS Try.prog 132 1 1 1 false := partS Try.underlying132 (by kernel_rfl) ty17 (by decide)
theorem prt132_2 : PartS Try.prog 132 2 2 1 false := partS Try.underlying132 (by kernel_rfl) ty17 (by decide)
theorem prt132_3 : PartS Try.prog 132 3 3 1 false := partS Try.underlying132 (by kernel_rfl) ty9 (by decide)
theorem ty133 : TyS Try.prog 133 0 true := ⟨Try.sizeOf133, Try.isAgg133⟩
theorem ty136 : TyS Try.prog 136 1 false := ⟨Try.sizeOf136, Try.isAgg136⟩
theorem ty137 : TyS Try.prog 137 1 false := ⟨Try.sizeOf137, Try.isAgg137⟩
theorem ty138 : TyS Try.prog 138 1 false := ⟨Try.sizeOf138, Try.isAgg138⟩
theorem ty139 : TyS Try.prog 139 1 false := ⟨Try.sizeOf139, Try.isAgg139⟩
theorem ty140 : TyS Try.prog 140 1 false := ⟨Try.sizeOf140, Try.isAgg140⟩
theorem ty141 : TyS Try.prog 141 1 false := ⟨Try.sizeOf141, Try.isAgg141⟩
theorem ty142 : TyS Try.prog 142 11 true := ⟨Try.sizeOf142, Try.isAgg142⟩
theorem str142 : StrS Try.prog 142 [.int .u64 0, .int .u64 0, .int .u32 0, .int .u8 0, .int .u8 0, .int .u8 0, .int .u8 0, .nilFunc, .pointer none, .int .i32 0, .int .i32 0] [(0, 1), (1, 1), (2, 1), (3, 1), (4, 1), (5, 1), (6, 1), (7, 1), (8, 1), (9, 1), (10, 1)] := strS Try.zeroValue142 Try.underlying142 (fun w => by kernel_rfl)
theorem fld142_0 : FldS Try.prog 142 0 0 := ⟨fun a w => by kernel_rfl⟩
theorem fld142_1 : FldS Try.prog 142 1 1 := ⟨fun a w => by kernel_rfl⟩
theorem fld142_2 : FldS Try.prog 142 2 2 := ⟨fun a w => by kernel_rfl⟩
theorem fld142_3 : FldS Try.prog 142 3 3 := ⟨fun a w => by kernel_rfl⟩
theorem fld142_4 : FldS Try.prog 142 4 4 := ⟨fun a w => by kernel_rfl⟩
theorem fld142_5 : FldS Try.prog 142 5 5 := ⟨fun a w => by kernel_rfl⟩
theorem fld142_6 : FldS Try.prog 142 6 6 := ⟨fun a w => by kernel_rfl⟩
theorem fld142_7 : FldS Try.prog 142 7 7 := ⟨fun a w => by kernel_rfl⟩
theorem fld142_8 : FldS Try.prog 142 8 8 := ⟨fun a w => by kernel_rfl⟩
theorem fld142_9 : FldS Try.prog 142 9 9 := ⟨fun a w => by kernel_rfl⟩
theorem fld142_10 : FldS Try.prog 142 10 10 := ⟨fun a w => by kernel_rfl⟩
theorem prt142_0 : PartS Try.prog 142 0 0 1 false := partS Try.underlying142 (by kernel_rfl) ty12 (by decide)
theorem prt142_1 : PartS Try.prog 142 1 1 1 false := partS Try.underlying142 (by kernel_rfl) ty12 (by decide)
theorem prt142_2 : PartS Try.prog 142 2 2 1 false := partS Try.underlying142 (by kernel_rfl) ty118 (by decide)
theorem prt142_3 : PartS Try.prog 142 3 3 1 false := partS Try.underlying142 (by kernel_rfl) ty136 (by decide)
theorem prt142_4 : PartS Try.prog 142 4 4 1 false := partS Try.underlying142 (by kernel_rfl) ty5 (by decide)
theorem prt142_5 : PartS Try.prog 142 5 5 1 false := partS Try.underlying142 (by kernel_rfl) ty5 (by decide)
theorem prt142_6 : PartS Try.prog 142 6 6 1 false := partS Try.underlying142 (by kernel_rfl) ty137 (by decide)
theorem prt142_7 : PartS Try.prog 142 7 7 1 false := partS Try.underlying142 (by kernel_rfl) ty138 (by decide)
theorem prt142_8 : PartS Try.prog 142 8 8 1 false := partS Try.underlying142 (by kernel_rfl) ty139 (by decide)
theorem prt142_9 : PartS Try.prog 142 9 9 1 false := partS Try.underlying142 (by kernel_rfl) ty140 (by decide)
theorem prt142_10 : PartS Try.prog 142 10 10 1 false := partS Try.underlying142 (by kernel_rfl) ty141 (by decide)
theorem ty143 : TyS Try.prog 143 11 true := ⟨Try.sizeOf143, Try.isAgg143⟩
theorem str143 : StrS Try.prog 143 [.int .u64 0, .int .u64 0, .int .u32 0, .int .u8 0, .int .u8 0, .int .u8 0, .int .u8 0, .nilFunc, .pointer none, .int .i32 0, .int .i32 0] [(0, 1), (1, 1), (2, 1), (3, 1), (4, 1), (5, 1), (6, 1), (7, 1), (8, 1), (9, 1), (10, 1)] := strS Try.zeroValue143 Try.underlying143 (fun w => by kernel_rfl)
theorem fld143_0 : FldS Try.prog 143 0 0 := ⟨fun a w => by kernel_rfl⟩
theorem fld143_1 : FldS Try.prog 143 1 1 := ⟨fun a w => by kernel_rfl⟩
theorem fld143_2 : FldS Try.prog 143 2 2 := ⟨fun a w => by kernel_rfl⟩
theorem fld143_3 : FldS Try.prog 143 3 3 := ⟨fun a w => by kernel_rfl⟩
theorem fld143_4 : FldS Try.prog 143 4 4 := ⟨fun a w => by kernel_rfl⟩
theorem fld143_5 : FldS Try.prog 143 5 5 := ⟨fun a w => by kernel_rfl⟩
theorem fld143_6 : FldS Try.prog 143 6 6 := ⟨fun a w => by kernel_rfl⟩
theorem fld143_7 : FldS Try.prog 143 7 7 := ⟨fun a w => by kernel_rfl⟩
theorem fld143_8 : FldS Try.prog 143 8 8 := ⟨fun a w => by kernel_rfl⟩
theorem fld143_9 : FldS Try.prog 143 9 9 := ⟨fun a w => by kernel_rfl⟩
theorem fld143_10 : FldS Try.prog 143 10 10 := ⟨fun a w => by kernel_rfl⟩
theorem prt143_0 : PartS Try.prog 143 0 0 1 false := partS Try.underlying143 (by kernel_rfl) ty12 (by decide)
theorem prt143_1 : PartS Try.prog 143 1 1 1 false := partS Try.underlying143 (by kernel_rfl) ty12 (by decide)
theorem prt143_2 : PartS Try.prog 143 2 2 1 false := partS Try.underlying143 (by kernel_rfl) ty118 (by decide)
theorem prt143_3 : PartS Try.prog 143 3 3 1 false := partS Try.underlying143 (by kernel_rfl) ty136 (by decide)
theorem prt143_4 : PartS Try.prog 143 4 4 1 false := partS Try.underlying143 (by kernel_rfl) ty5 (by decide)
theorem prt143_5 : PartS Try.prog 143 5 5 1 false := partS Try.underlying143 (by kernel_rfl) ty5 (by decide)
theorem prt143_6 : PartS Try.prog 143 6 6 1 false := partS Try.underlying143 (by kernel_rfl) ty137 (by decide)
theorem prt143_7 : PartS Try.prog 143 7 7 1 false := partS Try.underlying143 (by kernel_rfl) ty138 (by decide)
theorem prt143_8 : PartS Try.prog 143 8 8 1 false := partS Try.underlying143 (by kernel_rfl) ty139 (by decide)
theorem prt143_9 : PartS Try.prog 143 9 9 1 false := partS Try.underlying143 (by kernel_rfl) ty140 (by decide)
theorem prt143_10 : PartS Try.prog 143 10 10 1 false := partS Try.underlying143 (by kernel_rfl) ty141 (by decide)
end Go.Proofs.Ytflifgcoleknlaa
