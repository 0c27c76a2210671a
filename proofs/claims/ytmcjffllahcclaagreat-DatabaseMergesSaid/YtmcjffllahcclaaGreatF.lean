/- The types of this translation, as the rules want them. No condition. -/
import Derived.Test.YtmcjffllahcclaaGreatAB
import Derived.Test.YtmcjffllahcclaaGreatRows
import Derived.OwnWalk
namespace Go.Proofs.YtmcjffllahcclaaGreat
set_option linter.all false
open Go
set_option maxRecDepth 100000
theorem hmix : Tryz.prog.follows .mixedOrders = true := by kernel_rfl
theorem ze1 : ∀ w, ∃ z, (zeroValue 1).run Tryz.prog w = .ok z w ∧ z.cells = [.nilFunc].toArray := fun w => ⟨_, Tryz.zeroValue1 w, rfl⟩
theorem ze2 : ∀ w, ∃ z, (zeroValue 2).run Tryz.prog w = .ok z w ∧ z.cells = [.int .i64 0].toArray := fun w => ⟨_, Tryz.zeroValue2 w, rfl⟩
theorem ze3 : ∀ w, ∃ z, (zeroValue 3).run Tryz.prog w = .ok z w ∧ z.cells = [.int .i64 0].toArray := fun w => ⟨_, Tryz.zeroValue3 w, rfl⟩
theorem ze4 : ∀ w, ∃ z, (zeroValue 4).run Tryz.prog w = .ok z w ∧ z.cells = [.bool false].toArray := fun w => ⟨_, Tryz.zeroValue4 w, rfl⟩
theorem ze5 : ∀ w, ∃ z, (zeroValue 5).run Tryz.prog w = .ok z w ∧ z.cells = [.int .u8 0].toArray := fun w => ⟨_, Tryz.zeroValue5 w, rfl⟩
theorem ze6 : ∀ w, ∃ z, (zeroValue 6).run Tryz.prog w = .ok z w ∧ z.cells = [.int .u8 0].toArray := fun w => ⟨_, Tryz.zeroValue6 w, rfl⟩
theorem ze7 : ∀ w, ∃ z, (zeroValue 7).run Tryz.prog w = .ok z w ∧ z.cells = [.int .i64 0, .int .i64 0, .bool false, .int .u8 0].toArray := fun w => ⟨_, Tryz.zeroValue7 w, rfl⟩
theorem ze8 : ∀ w, ∃ z, (zeroValue 8).run Tryz.prog w = .ok z w ∧ z.cells = [.int .i64 0, .int .i64 0, .bool false, .int .u8 0].toArray := fun w => ⟨_, Tryz.zeroValue8 w, rfl⟩
theorem ze9 : ∀ w, ∃ z, (zeroValue 9).run Tryz.prog w = .ok z w ∧ z.cells = [.string ⟨#[]⟩].toArray := fun w => ⟨_, Tryz.zeroValue9 w, rfl⟩
theorem ze10 : ∀ w, ∃ z, (zeroValue 10).run Tryz.prog w = .ok z w ∧ z.cells = [.string ⟨#[]⟩].toArray := fun w => ⟨_, Tryz.zeroValue10 w, rfl⟩
theorem ze11 : ∀ w, ∃ z, (zeroValue 11).run Tryz.prog w = .ok z w ∧ z.cells = [.string ⟨#[]⟩].toArray := fun w => ⟨_, Tryz.zeroValue11 w, rfl⟩
theorem ze12 : ∀ w, ∃ z, (zeroValue 12).run Tryz.prog w = .ok z w ∧ z.cells = [.int .u64 0].toArray := fun w => ⟨_, Tryz.zeroValue12 w, rfl⟩
theorem ze13 : ∀ w, ∃ z, (zeroValue 13).run Tryz.prog w = .ok z w ∧ z.cells = [.string ⟨#[]⟩, .int .u64 0].toArray := fun w => ⟨_, Tryz.zeroValue13 w, rfl⟩
theorem ze14 : ∀ w, ∃ z, (zeroValue 14).run Tryz.prog w = .ok z w ∧ z.cells = [.string ⟨#[]⟩, .int .u64 0].toArray := fun w => ⟨_, Tryz.zeroValue14 w, rfl⟩
theorem ze15 : ∀ w, ∃ z, (zeroValue 15).run Tryz.prog w = .ok z w ∧ z.cells = [.pointer none].toArray := fun w => ⟨_, Tryz.zeroValue15 w, rfl⟩
theorem ze16 : ∀ w, ∃ z, (zeroValue 16).run Tryz.prog w = .ok z w ∧ z.cells = [.pointer none].toArray := fun w => ⟨_, Tryz.zeroValue16 w, rfl⟩
theorem ze17 : ∀ w, ∃ z, (zeroValue 17).run Tryz.prog w = .ok z w ∧ z.cells = [.pointer none].toArray := fun w => ⟨_, Tryz.zeroValue17 w, rfl⟩
theorem ze18 : ∀ w, ∃ z, (zeroValue 18).run Tryz.prog w = .ok z w ∧ z.cells = [.pointer none].toArray := fun w => ⟨_, Tryz.zeroValue18 w, rfl⟩
theorem ze19 : ∀ w, ∃ z, (zeroValue 19).run Tryz.prog w = .ok z w ∧ z.cells = [.pointer none].toArray := fun w => ⟨_, Tryz.zeroValue19 w, rfl⟩
theorem ze21 : ∀ w, ∃ z, (zeroValue 21).run Tryz.prog w = .ok z w ∧ z.cells = [.int .i32 0].toArray := fun w => ⟨_, Tryz.zeroValue21 w, rfl⟩
theorem ze22 : ∀ w, ∃ z, (zeroValue 22).run Tryz.prog w = .ok z w ∧ z.cells = [.slice none 0 0].toArray := fun w => ⟨_, Tryz.zeroValue22 w, rfl⟩
theorem ze23 : ∀ w, ∃ z, (zeroValue 23).run Tryz.prog w = .ok z w ∧ z.cells = [.slice none 0 0].toArray := fun w => ⟨_, Tryz.zeroValue23 w, rfl⟩
theorem ze24 : ∀ w, ∃ z, (zeroValue 24).run Tryz.prog w = .ok z w ∧ z.cells = [.slice none 0 0].toArray := fun w => ⟨_, Tryz.zeroValue24 w, rfl⟩
theorem ze25 : ∀ w, ∃ z, (zeroValue 25).run Tryz.prog w = .ok z w ∧ z.cells = [.slice none 0 0].toArray := fun w => ⟨_, Tryz.zeroValue25 w, rfl⟩
theorem ze26 : ∀ w, ∃ z, (zeroValue 26).run Tryz.prog w = .ok z w ∧ z.cells = [.slice none 0 0].toArray := fun w => ⟨_, Tryz.zeroValue26 w, rfl⟩
theorem ze27 : ∀ w, ∃ z, (zeroValue 27).run Tryz.prog w = .ok z w ∧ z.cells = [.slice none 0 0].toArray := fun w => ⟨_, Tryz.zeroValue27 w, rfl⟩
theorem ze28 : ∀ w, ∃ z, (zeroValue 28).run Tryz.prog w = .ok z w ∧ z.cells = [.int .i64 0, .int .i64 0, .bool false, .slice none 0 0, .slice none 0 0].toArray := fun w => ⟨_, Tryz.zeroValue28 w, rfl⟩
theorem ze29 : ∀ w, ∃ z, (zeroValue 29).run Tryz.prog w = .ok z w ∧ z.cells = [.int .i64 0, .int .i64 0, .bool false, .slice none 0 0, .slice none 0 0].toArray := fun w => ⟨_, Tryz.zeroValue29 w, rfl⟩
theorem ze30 : ∀ w, ∃ z, (zeroValue 30).run Tryz.prog w = .ok z w ∧ z.cells = [.pointer none].toArray := fun w => ⟨_, Tryz.zeroValue30 w, rfl⟩
theorem ze31 : ∀ w, ∃ z, (zeroValue 31).run Tryz.prog w = .ok z w ∧ z.cells = [.nilFunc].toArray := fun w => ⟨_, Tryz.zeroValue31 w, rfl⟩
theorem ze32 : ∀ w, ∃ z, (zeroValue 32).run Tryz.prog w = .ok z w ∧ z.cells = [.nilFunc].toArray := fun w => ⟨_, Tryz.zeroValue32 w, rfl⟩
theorem ze33 : ∀ w, ∃ z, (zeroValue 33).run Tryz.prog w = .ok z w ∧ z.cells = [.nilFunc].toArray := fun w => ⟨_, Tryz.zeroValue33 w, rfl⟩
theorem ze34 : ∀ w, ∃ z, (zeroValue 34).run Tryz.prog w = .ok z w ∧ z.cells = [.nilFunc].toArray := fun w => ⟨_, Tryz.zeroValue34 w, rfl⟩
theorem ze35 : ∀ w, ∃ z, (zeroValue 35).run Tryz.prog w = .ok z w ∧ z.cells = [.nilFunc].toArray := fun w => ⟨_, Tryz.zeroValue35 w, rfl⟩
theorem ze36 : ∀ w, ∃ z, (zeroValue 36).run Tryz.prog w = .ok z w ∧ z.cells = [.nilFunc].toArray := fun w => ⟨_, Tryz.zeroValue36 w, rfl⟩
theorem ze38 : ∀ w, ∃ z, (zeroValue 38).run Tryz.prog w = .ok z w ∧ z.cells = [.nilFunc].toArray := fun w => ⟨_, Tryz.zeroValue38 w, rfl⟩
theorem ze39 : ∀ w, ∃ z, (zeroValue 39).run Tryz.prog w = .ok z w ∧ z.cells = [.nilFunc].toArray := fun w => ⟨_, Tryz.zeroValue39 w, rfl⟩
theorem ze40 : ∀ w, ∃ z, (zeroValue 40).run Tryz.prog w = .ok z w ∧ z.cells = [.nilFunc].toArray := fun w => ⟨_, Tryz.zeroValue40 w, rfl⟩
theorem ze41 : ∀ w, ∃ z, (zeroValue 41).run Tryz.prog w = .ok z w ∧ z.cells = [.nilFunc].toArray := fun w => ⟨_, Tryz.zeroValue41 w, rfl⟩
theorem ze42 : ∀ w, ∃ z, (zeroValue 42).run Tryz.prog w = .ok z w ∧ z.cells = [.nilFunc].toArray := fun w => ⟨_, Tryz.zeroValue42 w, rfl⟩
theorem ze43 : ∀ w, ∃ z, (zeroValue 43).run Tryz.prog w = .ok z w ∧ z.cells = [.slice none 0 0].toArray := fun w => ⟨_, Tryz.zeroValue43 w, rfl⟩
theorem ze44 : ∀ w, ∃ z, (zeroValue 44).run Tryz.prog w = .ok z w ∧ z.cells = [.slice none 0 0].toArray := fun w => ⟨_, Tryz.zeroValue44 w, rfl⟩
theorem ze45 : ∀ w, ∃ z, (zeroValue 45).run Tryz.prog w = .ok z w ∧ z.cells = [.slice none 0 0, .slice none 0 0].toArray := fun w => ⟨_, Tryz.zeroValue45 w, rfl⟩
theorem ze46 : ∀ w, ∃ z, (zeroValue 46).run Tryz.prog w = .ok z w ∧ z.cells = [.slice none 0 0, .slice none 0 0].toArray := fun w => ⟨_, Tryz.zeroValue46 w, rfl⟩
theorem ze47 : ∀ w, ∃ z, (zeroValue 47).run Tryz.prog w = .ok z w ∧ z.cells = [.nilFunc].toArray := fun w => ⟨_, Tryz.zeroValue47 w, rfl⟩
theorem ze48 : ∀ w, ∃ z, (zeroValue 48).run Tryz.prog w = .ok z w ∧ z.cells = [.int .i64 0].toArray := fun w => ⟨_, Tryz.zeroValue48 w, rfl⟩
theorem ze50 : ∀ w, ∃ z, (zeroValue 50).run Tryz.prog w = .ok z w ∧ z.cells = [.nilFunc].toArray := fun w => ⟨_, Tryz.zeroValue50 w, rfl⟩
theorem ze51 : ∀ w, ∃ z, (zeroValue 51).run Tryz.prog w = .ok z w ∧ z.cells = [.int .i64 0, .bool false].toArray := fun w => ⟨_, Tryz.zeroValue51 w, rfl⟩
theorem ze52 : ∀ w, ∃ z, (zeroValue 52).run Tryz.prog w = .ok z w ∧ z.cells = [.int .i64 0, .bool false].toArray := fun w => ⟨_, Tryz.zeroValue52 w, rfl⟩
theorem ze53 : ∀ w, ∃ z, (zeroValue 53).run Tryz.prog w = .ok z w ∧ z.cells = [.nilFunc].toArray := fun w => ⟨_, Tryz.zeroValue53 w, rfl⟩
theorem ze54 : ∀ w, ∃ z, (zeroValue 54).run Tryz.prog w = .ok z w ∧ z.cells = [.nilFunc].toArray := fun w => ⟨_, Tryz.zeroValue54 w, rfl⟩
theorem ze55 : ∀ w, ∃ z, (zeroValue 55).run Tryz.prog w = .ok z w ∧ z.cells = [.nilFunc].toArray := fun w => ⟨_, Tryz.zeroValue55 w, rfl⟩
theorem ze56 : ∀ w, ∃ z, (zeroValue 56).run Tryz.prog w = .ok z w ∧ z.cells = [.nilFunc].toArray := fun w => ⟨_, Tryz.zeroValue56 w, rfl⟩
theorem ze57 : ∀ w, ∃ z, (zeroValue 57).run Tryz.prog w = .ok z w ∧ z.cells = [.nilFunc].toArray := fun w => ⟨_, Tryz.zeroValue57 w, rfl⟩
theorem ze58 : ∀ w, ∃ z, (zeroValue 58).run Tryz.prog w = .ok z w ∧ z.cells = [.nilFunc].toArray := fun w => ⟨_, Tryz.zeroValue58 w, rfl⟩
theorem ze59 : ∀ w, ∃ z, (zeroValue 59).run Tryz.prog w = .ok z w ∧ z.cells = [.slice none 0 0].toArray := fun w => ⟨_, Tryz.zeroValue59 w, rfl⟩
theorem ze60 : ∀ w, ∃ z, (zeroValue 60).run Tryz.prog w = .ok z w ∧ z.cells = [.slice none 0 0, .slice none 0 0].toArray := fun w => ⟨_, Tryz.zeroValue60 w, rfl⟩
theorem ze61 : ∀ w, ∃ z, (zeroValue 61).run Tryz.prog w = .ok z w ∧ z.cells = [.slice none 0 0, .slice none 0 0].toArray := fun w => ⟨_, Tryz.zeroValue61 w, rfl⟩
theorem ze62 : ∀ w, ∃ z, (zeroValue 62).run Tryz.prog w = .ok z w ∧ z.cells = [.nilFunc].toArray := fun w => ⟨_, Tryz.zeroValue62 w, rfl⟩
theorem ze64 : ∀ w, ∃ z, (zeroValue 64).run Tryz.prog w = .ok z w ∧ z.cells = [.nilFunc].toArray := fun w => ⟨_, Tryz.zeroValue64 w, rfl⟩
theorem ze65 : ∀ w, ∃ z, (zeroValue 65).run Tryz.prog w = .ok z w ∧ z.cells = [.slice none 0 0].toArray := fun w => ⟨_, Tryz.zeroValue65 w, rfl⟩
theorem ze67 : ∀ w, ∃ z, (zeroValue 67).run Tryz.prog w = .ok z w ∧ z.cells = [.nilFunc].toArray := fun w => ⟨_, Tryz.zeroValue67 w, rfl⟩
theorem ze68 : ∀ w, ∃ z, (zeroValue 68).run Tryz.prog w = .ok z w ∧ z.cells = [.nilFunc].toArray := fun w => ⟨_, Tryz.zeroValue68 w, rfl⟩
theorem ze69 : ∀ w, ∃ z, (zeroValue 69).run Tryz.prog w = .ok z w ∧ z.cells = [.nilFunc].toArray := fun w => ⟨_, Tryz.zeroValue69 w, rfl⟩
theorem ze70 : ∀ w, ∃ z, (zeroValue 70).run Tryz.prog w = .ok z w ∧ z.cells = [.slice none 0 0, .int .i64 0].toArray := fun w => ⟨_, Tryz.zeroValue70 w, rfl⟩
theorem ze71 : ∀ w, ∃ z, (zeroValue 71).run Tryz.prog w = .ok z w ∧ z.cells = [.slice none 0 0, .int .i64 0].toArray := fun w => ⟨_, Tryz.zeroValue71 w, rfl⟩
theorem ze72 : ∀ w, ∃ z, (zeroValue 72).run Tryz.prog w = .ok z w ∧ z.cells = [.nilFunc].toArray := fun w => ⟨_, Tryz.zeroValue72 w, rfl⟩
theorem ze73 : ∀ w, ∃ z, (zeroValue 73).run Tryz.prog w = .ok z w ∧ z.cells = [.int .i64 0, .int .i64 0, .int .i64 0].toArray := fun w => ⟨_, Tryz.zeroValue73 w, rfl⟩
theorem ze74 : ∀ w, ∃ z, (zeroValue 74).run Tryz.prog w = .ok z w ∧ z.cells = [.int .i64 0, .int .i64 0, .int .i64 0].toArray := fun w => ⟨_, Tryz.zeroValue74 w, rfl⟩
theorem ze75 : ∀ w, ∃ z, (zeroValue 75).run Tryz.prog w = .ok z w ∧ z.cells = [.nilFunc].toArray := fun w => ⟨_, Tryz.zeroValue75 w, rfl⟩
theorem ze76 : ∀ w, ∃ z, (zeroValue 76).run Tryz.prog w = .ok z w ∧ z.cells = [.int .i64 0, .int .i64 0, .int .i64 0].toArray := fun w => ⟨_, Tryz.zeroValue76 w, rfl⟩
theorem ze77 : ∀ w, ∃ z, (zeroValue 77).run Tryz.prog w = .ok z w ∧ z.cells = [.int .i64 0, .int .i64 0, .int .i64 0].toArray := fun w => ⟨_, Tryz.zeroValue77 w, rfl⟩
theorem ze78 : ∀ w, ∃ z, (zeroValue 78).run Tryz.prog w = .ok z w ∧ z.cells = [.nilFunc].toArray := fun w => ⟨_, Tryz.zeroValue78 w, rfl⟩
theorem ze79 : ∀ w, ∃ z, (zeroValue 79).run Tryz.prog w = .ok z w ∧ z.cells = [.nilFunc].toArray := fun w => ⟨_, Tryz.zeroValue79 w, rfl⟩
theorem ze80 : ∀ w, ∃ z, (zeroValue 80).run Tryz.prog w = .ok z w ∧ z.cells = [.nilFunc].toArray := fun w => ⟨_, Tryz.zeroValue80 w, rfl⟩
theorem ze81 : ∀ w, ∃ z, (zeroValue 81).run Tryz.prog w = .ok z w ∧ z.cells = [.pointer none].toArray := fun w => ⟨_, Tryz.zeroValue81 w, rfl⟩
theorem ze82 : ∀ w, ∃ z, (zeroValue 82).run Tryz.prog w = .ok z w ∧ z.cells = [.nilFunc].toArray := fun w => ⟨_, Tryz.zeroValue82 w, rfl⟩
theorem ze83 : ∀ w, ∃ z, (zeroValue 83).run Tryz.prog w = .ok z w ∧ z.cells = [.int .i64 0, .int .i64 0, .int .i64 0, .int .i64 0, .int .i64 0].toArray := fun w => ⟨_, Tryz.zeroValue83 w, rfl⟩
theorem ze84 : ∀ w, ∃ z, (zeroValue 84).run Tryz.prog w = .ok z w ∧ z.cells = [.int .i64 0, .int .i64 0, .int .i64 0, .int .i64 0, .int .i64 0].toArray := fun w => ⟨_, Tryz.zeroValue84 w, rfl⟩
theorem ze85 : ∀ w, ∃ z, (zeroValue 85).run Tryz.prog w = .ok z w ∧ z.cells = [.nilFunc].toArray := fun w => ⟨_, Tryz.zeroValue85 w, rfl⟩
theorem ze86 : ∀ w, ∃ z, (zeroValue 86).run Tryz.prog w = .ok z w ∧ z.cells = [.nilFunc].toArray := fun w => ⟨_, Tryz.zeroValue86 w, rfl⟩
theorem ze87 : ∀ w, ∃ z, (zeroValue 87).run Tryz.prog w = .ok z w ∧ z.cells = [.nilFunc].toArray := fun w => ⟨_, Tryz.zeroValue87 w, rfl⟩
theorem ze89 : ∀ w, ∃ z, (zeroValue 89).run Tryz.prog w = .ok z w ∧ z.cells = [.nilFunc].toArray := fun w => ⟨_, Tryz.zeroValue89 w, rfl⟩
theorem ze90 : ∀ w, ∃ z, (zeroValue 90).run Tryz.prog w = .ok z w ∧ z.cells = [.nilFunc].toArray := fun w => ⟨_, Tryz.zeroValue90 w, rfl⟩
theorem ze91 : ∀ w, ∃ z, (zeroValue 91).run Tryz.prog w = .ok z w ∧ z.cells = [.map none].toArray := fun w => ⟨_, Tryz.zeroValue91 w, rfl⟩
theorem ze93 : ∀ w, ∃ z, (zeroValue 93).run Tryz.prog w = .ok z w ∧ z.cells = [.nilFunc].toArray := fun w => ⟨_, Tryz.zeroValue93 w, rfl⟩
theorem ze94 : ∀ w, ∃ z, (zeroValue 94).run Tryz.prog w = .ok z w ∧ z.cells = [.nilFunc].toArray := fun w => ⟨_, Tryz.zeroValue94 w, rfl⟩
theorem ze95 : ∀ w, ∃ z, (zeroValue 95).run Tryz.prog w = .ok z w ∧ z.cells = [.nilFunc].toArray := fun w => ⟨_, Tryz.zeroValue95 w, rfl⟩
theorem ze96 : ∀ w, ∃ z, (zeroValue 96).run Tryz.prog w = .ok z w ∧ z.cells = [.nilFunc].toArray := fun w => ⟨_, Tryz.zeroValue96 w, rfl⟩
theorem ze97 : ∀ w, ∃ z, (zeroValue 97).run Tryz.prog w = .ok z w ∧ z.cells = [.nilFunc].toArray := fun w => ⟨_, Tryz.zeroValue97 w, rfl⟩
theorem ze98 : ∀ w, ∃ z, (zeroValue 98).run Tryz.prog w = .ok z w ∧ z.cells = [.nilFunc].toArray := fun w => ⟨_, Tryz.zeroValue98 w, rfl⟩
theorem ze99 : ∀ w, ∃ z, (zeroValue 99).run Tryz.prog w = .ok z w ∧ z.cells = [.nilFunc].toArray := fun w => ⟨_, Tryz.zeroValue99 w, rfl⟩
theorem ze100 : ∀ w, ∃ z, (zeroValue 100).run Tryz.prog w = .ok z w ∧ z.cells = [.nilFunc].toArray := fun w => ⟨_, Tryz.zeroValue100 w, rfl⟩
theorem ze101 : ∀ w, ∃ z, (zeroValue 101).run Tryz.prog w = .ok z w ∧ z.cells = [.slice none 0 0].toArray := fun w => ⟨_, Tryz.zeroValue101 w, rfl⟩
theorem ze103 : ∀ w, ∃ z, (zeroValue 103).run Tryz.prog w = .ok z w ∧ z.cells = [.nilFunc].toArray := fun w => ⟨_, Tryz.zeroValue103 w, rfl⟩
theorem ze104 : ∀ w, ∃ z, (zeroValue 104).run Tryz.prog w = .ok z w ∧ z.cells = [.nilFunc].toArray := fun w => ⟨_, Tryz.zeroValue104 w, rfl⟩
theorem ze105 : ∀ w, ∃ z, (zeroValue 105).run Tryz.prog w = .ok z w ∧ z.cells = [.nilFunc].toArray := fun w => ⟨_, Tryz.zeroValue105 w, rfl⟩
theorem ze106 : ∀ w, ∃ z, (zeroValue 106).run Tryz.prog w = .ok z w ∧ z.cells = [.nilFunc].toArray := fun w => ⟨_, Tryz.zeroValue106 w, rfl⟩
theorem ze107 : ∀ w, ∃ z, (zeroValue 107).run Tryz.prog w = .ok z w ∧ z.cells = [.nilFunc].toArray := fun w => ⟨_, Tryz.zeroValue107 w, rfl⟩
theorem ze108 : ∀ w, ∃ z, (zeroValue 108).run Tryz.prog w = .ok z w ∧ z.cells = [.nilFunc].toArray := fun w => ⟨_, Tryz.zeroValue108 w, rfl⟩
theorem ze109 : ∀ w, ∃ z, (zeroValue 109).run Tryz.prog w = .ok z w ∧ z.cells = [.nilFunc].toArray := fun w => ⟨_, Tryz.zeroValue109 w, rfl⟩
theorem ze110 : ∀ w, ∃ z, (zeroValue 110).run Tryz.prog w = .ok z w ∧ z.cells = [.nilFunc].toArray := fun w => ⟨_, Tryz.zeroValue110 w, rfl⟩
theorem ze111 : ∀ w, ∃ z, (zeroValue 111).run Tryz.prog w = .ok z w ∧ z.cells = [.nilFunc].toArray := fun w => ⟨_, Tryz.zeroValue111 w, rfl⟩
theorem ze112 : ∀ w, ∃ z, (zeroValue 112).run Tryz.prog w = .ok z w ∧ z.cells = [.nilFunc].toArray := fun w => ⟨_, Tryz.zeroValue112 w, rfl⟩
theorem ze113 : ∀ w, ∃ z, (zeroValue 113).run Tryz.prog w = .ok z w ∧ z.cells = [.int .u64 0].toArray := fun w => ⟨_, Tryz.zeroValue113 w, rfl⟩
theorem ze114 : ∀ w, ∃ z, (zeroValue 114).run Tryz.prog w = .ok z w ∧ z.cells = [.nilFunc].toArray := fun w => ⟨_, Tryz.zeroValue114 w, rfl⟩
theorem ze115 : ∀ w, ∃ z, (zeroValue 115).run Tryz.prog w = .ok z w ∧ z.cells = [.nilFunc].toArray := fun w => ⟨_, Tryz.zeroValue115 w, rfl⟩
theorem ze116 : ∀ w, ∃ z, (zeroValue 116).run Tryz.prog w = .ok z w ∧ z.cells = [.nilFunc].toArray := fun w => ⟨_, Tryz.zeroValue116 w, rfl⟩
theorem ze117 : ∀ w, ∃ z, (zeroValue 117).run Tryz.prog w = .ok z w ∧ z.cells = [.nilFunc].toArray := fun w => ⟨_, Tryz.zeroValue117 w, rfl⟩
theorem ze118 : ∀ w, ∃ z, (zeroValue 118).run Tryz.prog w = .ok z w ∧ z.cells = [.nilFunc].toArray := fun w => ⟨_, Tryz.zeroValue118 w, rfl⟩
theorem ze119 : ∀ w, ∃ z, (zeroValue 119).run Tryz.prog w = .ok z w ∧ z.cells = [.nilFunc].toArray := fun w => ⟨_, Tryz.zeroValue119 w, rfl⟩
theorem ze120 : ∀ w, ∃ z, (zeroValue 120).run Tryz.prog w = .ok z w ∧ z.cells = [.nilFunc].toArray := fun w => ⟨_, Tryz.zeroValue120 w, rfl⟩
theorem ze121 : ∀ w, ∃ z, (zeroValue 121).run Tryz.prog w = .ok z w ∧ z.cells = [.int .i64 0, .int .i64 0].toArray := fun w => ⟨_, Tryz.zeroValue121 w, rfl⟩
theorem ze122 : ∀ w, ∃ z, (zeroValue 122).run Tryz.prog w = .ok z w ∧ z.cells = [.int .i64 0, .int .i64 0].toArray := fun w => ⟨_, Tryz.zeroValue122 w, rfl⟩
theorem ze123 : ∀ w, ∃ z, (zeroValue 123).run Tryz.prog w = .ok z w ∧ z.cells = [.nilFunc].toArray := fun w => ⟨_, Tryz.zeroValue123 w, rfl⟩
theorem ze124 : ∀ w, ∃ z, (zeroValue 124).run Tryz.prog w = .ok z w ∧ z.cells = [.nilFunc].toArray := fun w => ⟨_, Tryz.zeroValue124 w, rfl⟩
theorem ze125 : ∀ w, ∃ z, (zeroValue 125).run Tryz.prog w = .ok z w ∧ z.cells = [.slice none 0 0, .int .i64 0].toArray := fun w => ⟨_, Tryz.zeroValue125 w, rfl⟩
theorem ze126 : ∀ w, ∃ z, (zeroValue 126).run Tryz.prog w = .ok z w ∧ z.cells = [.slice none 0 0, .int .i64 0].toArray := fun w => ⟨_, Tryz.zeroValue126 w, rfl⟩
theorem ze127 : ∀ w, ∃ z, (zeroValue 127).run Tryz.prog w = .ok z w ∧ z.cells = [.nilFunc].toArray := fun w => ⟨_, Tryz.zeroValue127 w, rfl⟩
theorem ze128 : ∀ w, ∃ z, (zeroValue 128).run Tryz.prog w = .ok z w ∧ z.cells = [.int .u64 0].toArray := fun w => ⟨_, Tryz.zeroValue128 w, rfl⟩
theorem ze130 : ∀ w, ∃ z, (zeroValue 130).run Tryz.prog w = .ok z w ∧ z.cells = [.nilFunc].toArray := fun w => ⟨_, Tryz.zeroValue130 w, rfl⟩
theorem ze132 : ∀ w, ∃ z, (zeroValue 132).run Tryz.prog w = .ok z w ∧ z.cells = [.nilFunc].toArray := fun w => ⟨_, Tryz.zeroValue132 w, rfl⟩
theorem ze133 : ∀ w, ∃ z, (zeroValue 133).run Tryz.prog w = .ok z w ∧ z.cells = [.nilFunc].toArray := fun w => ⟨_, Tryz.zeroValue133 w, rfl⟩
theorem ze134 : ∀ w, ∃ z, (zeroValue 134).run Tryz.prog w = .ok z w ∧ z.cells = [.nilFunc].toArray := fun w => ⟨_, Tryz.zeroValue134 w, rfl⟩
theorem ze135 : ∀ w, ∃ z, (zeroValue 135).run Tryz.prog w = .ok z w ∧ z.cells = [.nilFunc].toArray := fun w => ⟨_, Tryz.zeroValue135 w, rfl⟩
theorem ze136 : ∀ w, ∃ z, (zeroValue 136).run Tryz.prog w = .ok z w ∧ z.cells = [.nilFunc].toArray := fun w => ⟨_, Tryz.zeroValue136 w, rfl⟩
theorem ze137 : ∀ w, ∃ z, (zeroValue 137).run Tryz.prog w = .ok z w ∧ z.cells = [.nilFunc].toArray := fun w => ⟨_, Tryz.zeroValue137 w, rfl⟩
theorem ze138 : ∀ w, ∃ z, (zeroValue 138).run Tryz.prog w = .ok z w ∧ z.cells = [.int .i64 0].toArray := fun w => ⟨_, Tryz.zeroValue138 w, rfl⟩
theorem ze140 : ∀ w, ∃ z, (zeroValue 140).run Tryz.prog w = .ok z w ∧ z.cells = [.nilFunc].toArray := fun w => ⟨_, Tryz.zeroValue140 w, rfl⟩
theorem ze141 : ∀ w, ∃ z, (zeroValue 141).run Tryz.prog w = .ok z w ∧ z.cells = [.nilFunc].toArray := fun w => ⟨_, Tryz.zeroValue141 w, rfl⟩
theorem ze142 : ∀ w, ∃ z, (zeroValue 142).run Tryz.prog w = .ok z w ∧ z.cells = [.nilFunc].toArray := fun w => ⟨_, Tryz.zeroValue142 w, rfl⟩
theorem ze143 : ∀ w, ∃ z, (zeroValue 143).run Tryz.prog w = .ok z w ∧ z.cells = [.nilFunc].toArray := fun w => ⟨_, Tryz.zeroValue143 w, rfl⟩
theorem ze144 : ∀ w, ∃ z, (zeroValue 144).run Tryz.prog w = .ok z w ∧ z.cells = [.nilFunc].toArray := fun w => ⟨_, Tryz.zeroValue144 w, rfl⟩
theorem ze145 : ∀ w, ∃ z, (zeroValue 145).run Tryz.prog w = .ok z w ∧ z.cells = [.int .u32 0].toArray := fun w => ⟨_, Tryz.zeroValue145 w, rfl⟩
theorem ze146 : ∀ w, ∃ z, (zeroValue 146).run Tryz.prog w = .ok z w ∧ z.cells = [.nilFunc].toArray := fun w => ⟨_, Tryz.zeroValue146 w, rfl⟩
theorem ze147 : ∀ w, ∃ z, (zeroValue 147).run Tryz.prog w = .ok z w ∧ z.cells = [.nilFunc].toArray := fun w => ⟨_, Tryz.zeroValue147 w, rfl⟩
theorem ze148 : ∀ w, ∃ z, (zeroValue 148).run Tryz.prog w = .ok z w ∧ z.cells = [.nilFunc].toArray := fun w => ⟨_, Tryz.zeroValue148 w, rfl⟩
theorem ze149 : ∀ w, ∃ z, (zeroValue 149).run Tryz.prog w = .ok z w ∧ z.cells = [.nilFunc].toArray := fun w => ⟨_, Tryz.zeroValue149 w, rfl⟩
theorem ze150 : ∀ w, ∃ z, (zeroValue 150).run Tryz.prog w = .ok z w ∧ z.cells = [.nilFunc].toArray := fun w => ⟨_, Tryz.zeroValue150 w, rfl⟩
theorem ze151 : ∀ w, ∃ z, (zeroValue 151).run Tryz.prog w = .ok z w ∧ z.cells = [.nilFunc].toArray := fun w => ⟨_, Tryz.zeroValue151 w, rfl⟩
theorem ze152 : ∀ w, ∃ z, (zeroValue 152).run Tryz.prog w = .ok z w ∧ z.cells = [.nilFunc].toArray := fun w => ⟨_, Tryz.zeroValue152 w, rfl⟩
theorem ze153 : ∀ w, ∃ z, (zeroValue 153).run Tryz.prog w = .ok z w ∧ z.cells = [.nilFunc].toArray := fun w => ⟨_, Tryz.zeroValue153 w, rfl⟩
theorem ze154 : ∀ w, ∃ z, (zeroValue 154).run Tryz.prog w = .ok z w ∧ z.cells = [.nilFunc].toArray := fun w => ⟨_, Tryz.zeroValue154 w, rfl⟩
theorem ze155 : ∀ w, ∃ z, (zeroValue 155).run Tryz.prog w = .ok z w ∧ z.cells = [.nilFunc].toArray := fun w => ⟨_, Tryz.zeroValue155 w, rfl⟩
theorem ze156 : ∀ w, ∃ z, (zeroValue 156).run Tryz.prog w = .ok z w ∧ z.cells = [.nilFunc].toArray := fun w => ⟨_, Tryz.zeroValue156 w, rfl⟩
theorem ze157 : ∀ w, ∃ z, (zeroValue 157).run Tryz.prog w = .ok z w ∧ z.cells = [.nilFunc].toArray := fun w => ⟨_, Tryz.zeroValue157 w, rfl⟩
theorem ze158 : ∀ w, ∃ z, (zeroValue 158).run Tryz.prog w = .ok z w ∧ z.cells = [.slice none 0 0, .int .i64 0].toArray := fun w => ⟨_, Tryz.zeroValue158 w, rfl⟩
theorem ze159 : ∀ w, ∃ z, (zeroValue 159).run Tryz.prog w = .ok z w ∧ z.cells = [.slice none 0 0, .int .i64 0].toArray := fun w => ⟨_, Tryz.zeroValue159 w, rfl⟩
theorem ze160 : ∀ w, ∃ z, (zeroValue 160).run Tryz.prog w = .ok z w ∧ z.cells = [.nilFunc].toArray := fun w => ⟨_, Tryz.zeroValue160 w, rfl⟩
theorem ze161 : ∀ w, ∃ z, (zeroValue 161).run Tryz.prog w = .ok z w ∧ z.cells = [.int .u64 0].toArray := fun w => ⟨_, Tryz.zeroValue161 w, rfl⟩
theorem ze162 : ∀ w, ∃ z, (zeroValue 162).run Tryz.prog w = .ok z w ∧ z.cells = [.nilFunc].toArray := fun w => ⟨_, Tryz.zeroValue162 w, rfl⟩
theorem ze163 : ∀ w, ∃ z, (zeroValue 163).run Tryz.prog w = .ok z w ∧ z.cells = [.nilFunc].toArray := fun w => ⟨_, Tryz.zeroValue163 w, rfl⟩
theorem ze164 : ∀ w, ∃ z, (zeroValue 164).run Tryz.prog w = .ok z w ∧ z.cells = [.nilFunc].toArray := fun w => ⟨_, Tryz.zeroValue164 w, rfl⟩
theorem ze165 : ∀ w, ∃ z, (zeroValue 165).run Tryz.prog w = .ok z w ∧ z.cells = [.pointer none].toArray := fun w => ⟨_, Tryz.zeroValue165 w, rfl⟩
theorem ze166 : ∀ w, ∃ z, (zeroValue 166).run Tryz.prog w = .ok z w ∧ z.cells = [.nilFunc].toArray := fun w => ⟨_, Tryz.zeroValue166 w, rfl⟩
theorem ze167 : ∀ w, ∃ z, (zeroValue 167).run Tryz.prog w = .ok z w ∧ z.cells = [.nilFunc].toArray := fun w => ⟨_, Tryz.zeroValue167 w, rfl⟩
theorem ze168 : ∀ w, ∃ z, (zeroValue 168).run Tryz.prog w = .ok z w ∧ z.cells = [.nilFunc].toArray := fun w => ⟨_, Tryz.zeroValue168 w, rfl⟩
theorem ze169 : ∀ w, ∃ z, (zeroValue 169).run Tryz.prog w = .ok z w ∧ z.cells = [.nilFunc].toArray := fun w => ⟨_, Tryz.zeroValue169 w, rfl⟩
theorem ze170 : ∀ w, ∃ z, (zeroValue 170).run Tryz.prog w = .ok z w ∧ z.cells = [.pointer none].toArray := fun w => ⟨_, Tryz.zeroValue170 w, rfl⟩
theorem ze171 : ∀ w, ∃ z, (zeroValue 171).run Tryz.prog w = .ok z w ∧ z.cells = [.nilFunc].toArray := fun w => ⟨_, Tryz.zeroValue171 w, rfl⟩
theorem ze172 : ∀ w, ∃ z, (zeroValue 172).run Tryz.prog w = .ok z w ∧ z.cells = [.pointer none].toArray := fun w => ⟨_, Tryz.zeroValue172 w, rfl⟩
theorem ze174 : ∀ w, ∃ z, (zeroValue 174).run Tryz.prog w = .ok z w ∧ z.cells = [.nilFunc].toArray := fun w => ⟨_, Tryz.zeroValue174 w, rfl⟩
theorem ze175 : ∀ w, ∃ z, (zeroValue 175).run Tryz.prog w = .ok z w ∧ z.cells = [.nilFunc].toArray := fun w => ⟨_, Tryz.zeroValue175 w, rfl⟩
theorem ze176 : ∀ w, ∃ z, (zeroValue 176).run Tryz.prog w = .ok z w ∧ z.cells = [.nilFunc].toArray := fun w => ⟨_, Tryz.zeroValue176 w, rfl⟩
theorem ze177 : ∀ w, ∃ z, (zeroValue 177).run Tryz.prog w = .ok z w ∧ z.cells = [.nilFunc].toArray := fun w => ⟨_, Tryz.zeroValue177 w, rfl⟩
theorem ze178 : ∀ w, ∃ z, (zeroValue 178).run Tryz.prog w = .ok z w ∧ z.cells = [.pointer none].toArray := fun w => ⟨_, Tryz.zeroValue178 w, rfl⟩
theorem ze179 : ∀ w, ∃ z, (zeroValue 179).run Tryz.prog w = .ok z w ∧ z.cells = [.nilFunc].toArray := fun w => ⟨_, Tryz.zeroValue179 w, rfl⟩
theorem ze180 : ∀ w, ∃ z, (zeroValue 180).run Tryz.prog w = .ok z w ∧ z.cells = [.pointer none, .pointer none, .pointer none, .string ⟨#[]⟩].toArray := fun w => ⟨_, Tryz.zeroValue180 w, rfl⟩
theorem ze181 : ∀ w, ∃ z, (zeroValue 181).run Tryz.prog w = .ok z w ∧ z.cells = [.pointer none, .pointer none, .pointer none, .string ⟨#[]⟩].toArray := fun w => ⟨_, Tryz.zeroValue181 w, rfl⟩
theorem ze182 : ∀ w, ∃ z, (zeroValue 182).run Tryz.prog w = .ok z w ∧ z.cells = [].toArray := fun w => ⟨_, Tryz.zeroValue182 w, rfl⟩
theorem ze185 : ∀ w, ∃ z, (zeroValue 185).run Tryz.prog w = .ok z w ∧ z.cells = [.int .u8 0].toArray := fun w => ⟨_, Tryz.zeroValue185 w, rfl⟩
theorem ze186 : ∀ w, ∃ z, (zeroValue 186).run Tryz.prog w = .ok z w ∧ z.cells = [.int .u8 0].toArray := fun w => ⟨_, Tryz.zeroValue186 w, rfl⟩
theorem ze187 : ∀ w, ∃ z, (zeroValue 187).run Tryz.prog w = .ok z w ∧ z.cells = [.nilFunc].toArray := fun w => ⟨_, Tryz.zeroValue187 w, rfl⟩
theorem ze188 : ∀ w, ∃ z, (zeroValue 188).run Tryz.prog w = .ok z w ∧ z.cells = [.pointer none].toArray := fun w => ⟨_, Tryz.zeroValue188 w, rfl⟩
theorem ze189 : ∀ w, ∃ z, (zeroValue 189).run Tryz.prog w = .ok z w ∧ z.cells = [.int .i32 0].toArray := fun w => ⟨_, Tryz.zeroValue189 w, rfl⟩
theorem ze190 : ∀ w, ∃ z, (zeroValue 190).run Tryz.prog w = .ok z w ∧ z.cells = [.int .i32 0].toArray := fun w => ⟨_, Tryz.zeroValue190 w, rfl⟩
theorem ze191 : ∀ w, ∃ z, (zeroValue 191).run Tryz.prog w = .ok z w ∧ z.cells = [.int .u64 0, .int .u64 0, .int .u32 0, .int .u8 0, .int .u8 0, .int .u8 0, .int .u8 0, .nilFunc, .pointer none, .int .i32 0, .int .i32 0].toArray := fun w => ⟨_, Tryz.zeroValue191 w, rfl⟩
theorem ze192 : ∀ w, ∃ z, (zeroValue 192).run Tryz.prog w = .ok z w ∧ z.cells = [.int .u64 0, .int .u64 0, .int .u32 0, .int .u8 0, .int .u8 0, .int .u8 0, .int .u8 0, .nilFunc, .pointer none, .int .i32 0, .int .i32 0].toArray := fun w => ⟨_, Tryz.zeroValue192 w, rfl⟩
theorem ty1 : TyS Tryz.prog 1 1 false := ⟨Tryz.sizeOf1, Tryz.isAgg1⟩
theorem ty2 : TyS Tryz.prog 2 1 false := ⟨Tryz.sizeOf2, Tryz.isAgg2⟩
theorem ty3 : TyS Tryz.prog 3 1 false := ⟨Tryz.sizeOf3, Tryz.isAgg3⟩
theorem ty4 : TyS Tryz.prog 4 1 false := ⟨Tryz.sizeOf4, Tryz.isAgg4⟩
theorem ty5 : TyS Tryz.prog 5 1 false := ⟨Tryz.sizeOf5, Tryz.isAgg5⟩
theorem ty6 : TyS Tryz.prog 6 1 false := ⟨Tryz.sizeOf6, Tryz.isAgg6⟩
theorem ty7 : TyS Tryz.prog 7 4 true := ⟨Tryz.sizeOf7, Tryz.isAgg7⟩
theorem str7 : StrS Tryz.prog 7 [.int .i64 0, .int .i64 0, .bool false, .int .u8 0] [(0, 1), (1, 1), (2, 1), (3, 1)] := strS Tryz.zeroValue7 Tryz.underlying7 (fun w => by kernel_rfl)
theorem fld7_0 : FldS Tryz.prog 7 0 0 := ⟨fun a w => by kernel_rfl⟩
theorem fld7_1 : FldS Tryz.prog 7 1 1 := ⟨fun a w => by kernel_rfl⟩
theorem fld7_2 : FldS Tryz.prog 7 2 2 := ⟨fun a w => by kernel_rfl⟩
theorem fld7_3 : FldS Tryz.prog 7 3 3 := ⟨fun a w => by kernel_rfl⟩
theorem prt7_0 : PartS Tryz.prog 7 0 0 1 false := partS Tryz.underlying7 (by kernel_rfl) ty2 (by decide)
theorem prt7_1 : PartS Tryz.prog 7 1 1 1 false := partS Tryz.underlying7 (by kernel_rfl) ty3 (by decide)
theorem prt7_2 : PartS Tryz.prog 7 2 2 1 false := partS Tryz.underlying7 (by kernel_rfl) ty4 (by decide)
theorem prt7_3 : PartS Tryz.prog 7 3 3 1 false := partS Tryz.underlying7 (by kernel_rfl) ty6 (by decide)
theorem ty8 : TyS Tryz.prog 8 4 true := ⟨Tryz.sizeOf8, Tryz.isAgg8⟩
theorem str8 : StrS Tryz.prog 8 [.int .i64 0, .int .i64 0, .bool false, .int .u8 0] [(0, 1), (1, 1), (2, 1), (3, 1)] := strS Tryz.zeroValue8 Tryz.underlying8 (fun w => by kernel_rfl)
theorem fld8_0 : FldS Tryz.prog 8 0 0 := ⟨fun a w => by kernel_rfl⟩
theorem fld8_1 : FldS Tryz.prog 8 1 1 := ⟨fun a w => by kernel_rfl⟩
theorem fld8_2 : FldS Tryz.prog 8 2 2 := ⟨fun a w => by kernel_rfl⟩
theorem fld8_3 : FldS Tryz.prog 8 3 3 := ⟨fun a w => by kernel_rfl⟩
theorem prt8_0 : PartS Tryz.prog 8 0 0 1 false := partS Tryz.underlying8 (by kernel_rfl) ty2 (by decide)
theorem prt8_1 : PartS Tryz.prog 8 1 1 1 false := partS Tryz.underlying8 (by kernel_rfl) ty3 (by decide)
theorem prt8_2 : PartS Tryz.prog 8 2 2 1 false := partS Tryz.underlying8 (by kernel_rfl) ty4 (by decide)
theorem prt8_3 : PartS Tryz.prog 8 3 3 1 false := partS Tryz.underlying8 (by kernel_rfl) ty6 (by decide)
theorem ty9 : TyS Tryz.prog 9 1 false := ⟨Tryz.sizeOf9, Tryz.isAgg9⟩
theorem ty10 : TyS Tryz.prog 10 1 false := ⟨Tryz.sizeOf10, Tryz.isAgg10⟩
theorem ty11 : TyS Tryz.prog 11 1 false := ⟨Tryz.sizeOf11, Tryz.isAgg11⟩
theorem ty12 : TyS Tryz.prog 12 1 false := ⟨Tryz.sizeOf12, Tryz.isAgg12⟩
theorem ty13 : TyS Tryz.prog 13 2 true := ⟨Tryz.sizeOf13, Tryz.isAgg13⟩
theorem str13 : StrS Tryz.prog 13 [.string ⟨#[]⟩, .int .u64 0] [(0, 1), (1, 1)] := strS Tryz.zeroValue13 Tryz.underlying13 (fun w => by kernel_rfl)
theorem fld13_0 : FldS Tryz.prog 13 0 0 := ⟨fun a w => by kernel_rfl⟩
theorem fld13_1 : FldS Tryz.prog 13 1 1 := ⟨fun a w => by kernel_rfl⟩
theorem prt13_0 : PartS Tryz.prog 13 0 0 1 false := partS Tryz.underlying13 (by kernel_rfl) ty9 (by decide)
theorem prt13_1 : PartS Tryz.prog 13 1 1 1 false := partS Tryz.underlying13 (by kernel_rfl) ty12 (by decide)
theorem ty14 : TyS Tryz.prog 14 2 true := ⟨Tryz.sizeOf14, Tryz.isAgg14⟩
theorem str14 : StrS Tryz.prog 14 [.string ⟨#[]⟩, .int .u64 0] [(0, 1), (1, 1)] := strS Tryz.zeroValue14 Tryz.underlying14 (fun w => by kernel_rfl)
theorem fld14_0 : FldS Tryz.prog 14 0 0 := ⟨fun a w => by kernel_rfl⟩
theorem fld14_1 : FldS Tryz.prog 14 1 1 := ⟨fun a w => by kernel_rfl⟩
theorem prt14_0 : PartS Tryz.prog 14 0 0 1 false := partS Tryz.underlying14 (by kernel_rfl) ty9 (by decide)
theorem prt14_1 : PartS Tryz.prog 14 1 1 1 false := partS Tryz.underlying14 (by kernel_rfl) ty12 (by decide)
theorem ty15 : TyS Tryz.prog 15 1 false := ⟨Tryz.sizeOf15, Tryz.isAgg15⟩
theorem ty16 : TyS Tryz.prog 16 1 false := ⟨Tryz.sizeOf16, Tryz.isAgg16⟩
theorem ty17 : TyS Tryz.prog 17 1 false := ⟨Tryz.sizeOf17, Tryz.isAgg17⟩
theorem ty18 : TyS Tryz.prog 18 1 true := ⟨Tryz.sizeOf18, Tryz.isAgg18⟩
theorem str18 : StrS Tryz.prog 18 [.pointer none] [(0, 1)] := strS Tryz.zeroValue18 Tryz.underlying18 (fun w => by kernel_rfl)
theorem fld18_0 : FldS Tryz.prog 18 0 0 := ⟨fun a w => by kernel_rfl⟩
theorem prt18_0 : PartS Tryz.prog 18 0 0 1 false := partS Tryz.underlying18 (by kernel_rfl) ty17 (by decide)
theorem ty19 : TyS Tryz.prog 19 1 true := ⟨Tryz.sizeOf19, Tryz.isAgg19⟩
theorem str19 : StrS Tryz.prog 19 [.pointer none] [(0, 1)] := strS Tryz.zeroValue19 Tryz.underlying19 (fun w => by kernel_rfl)
theorem fld19_0 : FldS Tryz.prog 19 0 0 := ⟨fun a w => by kernel_rfl⟩
theorem prt19_0 : PartS Tryz.prog 19 0 0 1 false := partS Tryz.underlying19 (by kernel_rfl) ty17 (by decide)
theorem ty21 : TyS Tryz.prog 21 1 false := ⟨Tryz.sizeOf21, Tryz.isAgg21⟩
theorem ty22 : TyS Tryz.prog 22 1 false := ⟨Tryz.sizeOf22, Tryz.isAgg22⟩
theorem sl22 : SlS Tryz.prog 22 3 1 := ⟨Tryz.underlying22, Tryz.sizeOf3⟩
theorem app22 : AppS Tryz.prog 22 3 1 8 := ⟨Tryz.underlying22, (by obtain ⟨i, h1, h2, h3, h4⟩ := info_parts (by kernel_rfl : (Tryz.prog.info? 3).map (fun i => (i.zero, i.size, i.bytes)) = some (some (.int .i64 0), 1, 8)); exact ⟨i, _, h1, h2, h3, h4, rfl⟩), by decide⟩
theorem sli22 : SliS Tryz.prog 22 3 1 [.int .i64 0] := ⟨Tryz.underlying22, Tryz.sizeOf3, ze3, rfl⟩
theorem ty23 : TyS Tryz.prog 23 1 false := ⟨Tryz.sizeOf23, Tryz.isAgg23⟩
theorem sl23 : SlS Tryz.prog 23 29 5 := ⟨Tryz.underlying23, Tryz.sizeOf29⟩
theorem app23 : AppS Tryz.prog 23 29 5 72 := ⟨Tryz.underlying23, (by obtain ⟨i, h1, h2, h3, h4⟩ := info_parts (by kernel_rfl : (Tryz.prog.info? 29).map (fun i => (i.zero, i.size, i.bytes)) = some (some (.agg #[.int .i64 0, .int .i64 0, .bool false, .slice none 0 0, .slice none 0 0]), 5, 72)); exact ⟨i, _, h1, h2, h3, h4, rfl⟩), by decide⟩
theorem sli23 : SliS Tryz.prog 23 29 5 [.int .i64 0, .int .i64 0, .bool false, .slice none 0 0, .slice none 0 0] := ⟨Tryz.underlying23, Tryz.sizeOf29, ze29, rfl⟩
theorem ty24 : TyS Tryz.prog 24 1 true := ⟨Tryz.sizeOf24, Tryz.isAgg24⟩
theorem str24 : StrS Tryz.prog 24 [.slice none 0 0] [(0, 1)] := strS Tryz.zeroValue24 Tryz.underlying24 (fun w => by kernel_rfl)
theorem fld24_0 : FldS Tryz.prog 24 0 0 := ⟨fun a w => by kernel_rfl⟩
theorem prt24_0 : PartS Tryz.prog 24 0 0 1 false := partS Tryz.underlying24 (by kernel_rfl) ty23 (by decide)
theorem ty25 : TyS Tryz.prog 25 1 true := ⟨Tryz.sizeOf25, Tryz.isAgg25⟩
theorem str25 : StrS Tryz.prog 25 [.slice none 0 0] [(0, 1)] := strS Tryz.zeroValue25 Tryz.underlying25 (fun w => by kernel_rfl)
theorem fld25_0 : FldS Tryz.prog 25 0 0 := ⟨fun a w => by kernel_rfl⟩
theorem prt25_0 : PartS Tryz.prog 25 0 0 1 false := partS Tryz.underlying25 (by kernel_rfl) ty23 (by decide)
theorem ty26 : TyS Tryz.prog 26 1 false := ⟨Tryz.sizeOf26, Tryz.isAgg26⟩
theorem sl26 : SlS Tryz.prog 26 74 3 := ⟨Tryz.underlying26, Tryz.sizeOf74⟩
theorem app26 : AppS Tryz.prog 26 74 3 24 := ⟨Tryz.underlying26, (by obtain ⟨i, h1, h2, h3, h4⟩ := info_parts (by kernel_rfl : (Tryz.prog.info? 74).map (fun i => (i.zero, i.size, i.bytes)) = some (some (.agg #[.int .i64 0, .int .i64 0, .int .i64 0]), 3, 24)); exact ⟨i, _, h1, h2, h3, h4, rfl⟩), by decide⟩
theorem sli26 : SliS Tryz.prog 26 74 3 [.int .i64 0, .int .i64 0, .int .i64 0] := ⟨Tryz.underlying26, Tryz.sizeOf74, ze74, rfl⟩
theorem ty27 : TyS Tryz.prog 27 1 false := ⟨Tryz.sizeOf27, Tryz.isAgg27⟩
theorem sl27 : SlS Tryz.prog 27 77 3 := ⟨Tryz.underlying27, Tryz.sizeOf77⟩
theorem app27 : AppS Tryz.prog 27 77 3 24 := ⟨Tryz.underlying27, (by obtain ⟨i, h1, h2, h3, h4⟩ := info_parts (by kernel_rfl : (Tryz.prog.info? 77).map (fun i => (i.zero, i.size, i.bytes)) = some (some (.agg #[.int .i64 0, .int .i64 0, .int .i64 0]), 3, 24)); exact ⟨i, _, h1, h2, h3, h4, rfl⟩), by decide⟩
theorem sli27 : SliS Tryz.prog 27 77 3 [.int .i64 0, .int .i64 0, .int .i64 0] := ⟨Tryz.underlying27, Tryz.sizeOf77, ze77, rfl⟩
theorem ty28 : TyS Tryz.prog 28 5 true := ⟨Tryz.sizeOf28, Tryz.isAgg28⟩
theorem str28 : StrS Tryz.prog 28 [.int .i64 0, .int .i64 0, .bool false, .slice none 0 0, .slice none 0 0] [(0, 1), (1, 1), (2, 1), (3, 1), (4, 1)] := strS Tryz.zeroValue28 Tryz.underlying28 (fun w => by kernel_rfl)
theorem fld28_0 : FldS Tryz.prog 28 0 0 := ⟨fun a w => by kernel_rfl⟩
theorem fld28_1 : FldS Tryz.prog 28 1 1 := ⟨fun a w => by kernel_rfl⟩
theorem fld28_2 : FldS Tryz.prog 28 2 2 := ⟨fun a w => by kernel_rfl⟩
theorem fld28_3 : FldS Tryz.prog 28 3 3 := ⟨fun a w => by kernel_rfl⟩
theorem fld28_4 : FldS Tryz.prog 28 4 4 := ⟨fun a w => by kernel_rfl⟩
theorem prt28_0 : PartS Tryz.prog 28 0 0 1 false := partS Tryz.underlying28 (by kernel_rfl) ty3 (by decide)
theorem prt28_1 : PartS Tryz.prog 28 1 1 1 false := partS Tryz.underlying28 (by kernel_rfl) ty3 (by decide)
theorem prt28_2 : PartS Tryz.prog 28 2 2 1 false := partS Tryz.underlying28 (by kernel_rfl) ty4 (by decide)
theorem prt28_3 : PartS Tryz.prog 28 3 3 1 false := partS Tryz.underlying28 (by kernel_rfl) ty26 (by decide)
theorem prt28_4 : PartS Tryz.prog 28 4 4 1 false := partS Tryz.underlying28 (by kernel_rfl) ty27 (by decide)
theorem ty29 : TyS Tryz.prog 29 5 true := ⟨Tryz.sizeOf29, Tryz.isAgg29⟩
theorem str29 : StrS Tryz.prog 29 [.int .i64 0, .int .i64 0, .bool false, .slice none 0 0, .slice none 0 0] [(0, 1), (1, 1), (2, 1), (3, 1), (4, 1)] := strS Tryz.zeroValue29 Tryz.underlying29 (fun w => by kernel_rfl)
theorem fld29_0 : FldS Tryz.prog 29 0 0 := ⟨fun a w => by kernel_rfl⟩
theorem fld29_1 : FldS Tryz.prog 29 1 1 := ⟨fun a w => by kernel_rfl⟩
theorem fld29_2 : FldS Tryz.prog 29 2 2 := ⟨fun a w => by kernel_rfl⟩
theorem fld29_3 : FldS Tryz.prog 29 3 3 := ⟨fun a w => by kernel_rfl⟩
theorem fld29_4 : FldS Tryz.prog 29 4 4 := ⟨fun a w => by kernel_rfl⟩
theorem prt29_0 : PartS Tryz.prog 29 0 0 1 false := partS Tryz.underlying29 (by kernel_rfl) ty3 (by decide)
theorem prt29_1 : PartS Tryz.prog 29 1 1 1 false := partS Tryz.underlying29 (by kernel_rfl) ty3 (by decide)
theorem prt29_2 : PartS Tryz.prog 29 2 2 1 false := partS Tryz.underlying29 (by kernel_rfl) ty4 (by decide)
theorem prt29_3 : PartS Tryz.prog 29 3 3 1 false := partS Tryz.underlying29 (by kernel_rfl) ty26 (by decide)
theorem prt29_4 : PartS Tryz.prog 29 4 4 1 false := partS Tryz.underlying29 (by kernel_rfl) ty27 (by decide)
theorem ty30 : TyS Tryz.prog 30 1 false := ⟨Tryz.sizeOf30, Tryz.isAgg30⟩
theorem ty31 : TyS Tryz.prog 31 1 false := ⟨Tryz.sizeOf31, Tryz.isAgg31⟩
theorem ty32 : TyS Tryz.prog 32 1 false := ⟨Tryz.sizeOf32, Tryz.isAgg32⟩
theorem ty33 : TyS Tryz.prog 33 1 false := ⟨Tryz.sizeOf33, Tryz.isAgg33⟩
theorem ty34 : TyS Tryz.prog 34 1 false := ⟨Tryz.sizeOf34, Tryz.isAgg34⟩
theorem ty35 : TyS Tryz.prog 35 1 false := ⟨Tryz.sizeOf35, Tryz.isAgg35⟩
theorem ty36 : TyS Tryz.prog 36 1 false := ⟨Tryz.sizeOf36, Tryz.isAgg36⟩
theorem ty38 : TyS Tryz.prog 38 1 false := ⟨Tryz.sizeOf38, Tryz.isAgg38⟩
theorem ty39 : TyS Tryz.prog 39 1 false := ⟨Tryz.sizeOf39, Tryz.isAgg39⟩
theorem ty40 : TyS Tryz.prog 40 1 false := ⟨Tryz.sizeOf40, Tryz.isAgg40⟩
theorem ty41 : TyS Tryz.prog 41 1 false := ⟨Tryz.sizeOf41, Tryz.isAgg41⟩
theorem ty42 : TyS Tryz.prog 42 1 false := ⟨Tryz.sizeOf42, Tryz.isAgg42⟩
theorem ty43 : TyS Tryz.prog 43 1 false := ⟨Tryz.sizeOf43, Tryz.isAgg43⟩
theorem sl43 : SlS Tryz.prog 43 52 2 := ⟨Tryz.underlying43, Tryz.sizeOf52⟩
theorem app43 : AppS Tryz.prog 43 52 2 16 := ⟨Tryz.underlying43, (by obtain ⟨i, h1, h2, h3, h4⟩ := info_parts (by kernel_rfl : (Tryz.prog.info? 52).map (fun i => (i.zero, i.size, i.bytes)) = some (some (.agg #[.int .i64 0, .bool false]), 2, 16)); exact ⟨i, _, h1, h2, h3, h4, rfl⟩), by decide⟩
theorem sli43 : SliS Tryz.prog 43 52 2 [.int .i64 0, .bool false] := ⟨Tryz.underlying43, Tryz.sizeOf52, ze52, rfl⟩
theorem ty44 : TyS Tryz.prog 44 1 false := ⟨Tryz.sizeOf44, Tryz.isAgg44⟩
theorem sl44 : SlS Tryz.prog 44 84 5 := ⟨Tryz.underlying44, Tryz.sizeOf84⟩
theorem app44 : AppS Tryz.prog 44 84 5 40 := ⟨Tryz.underlying44, (by obtain ⟨i, h1, h2, h3, h4⟩ := info_parts (by kernel_rfl : (Tryz.prog.info? 84).map (fun i => (i.zero, i.size, i.bytes)) = some (some (.agg #[.int .i64 0, .int .i64 0, .int .i64 0, .int .i64 0, .int .i64 0]), 5, 40)); exact ⟨i, _, h1, h2, h3, h4, rfl⟩), by decide⟩
theorem sli44 : SliS Tryz.prog 44 84 5 [.int .i64 0, .int .i64 0, .int .i64 0, .int .i64 0, .int .i64 0] := ⟨Tryz.underlying44, Tryz.sizeOf84, ze84, rfl⟩
theorem ty45 : TyS Tryz.prog 45 2 true := ⟨Tryz.sizeOf45, Tryz.isAgg45⟩
theorem str45 : StrS Tryz.prog 45 [.slice none 0 0, .slice none 0 0] [(0, 1), (1, 1)] := strS Tryz.zeroValue45 Tryz.underlying45 (fun w => by kernel_rfl)
theorem fld45_0 : FldS Tryz.prog 45 0 0 := ⟨fun a w => by kernel_rfl⟩
theorem fld45_1 : FldS Tryz.prog 45 1 1 := ⟨fun a w => by kernel_rfl⟩
theorem prt45_0 : PartS Tryz.prog 45 0 0 1 false := partS Tryz.underlying45 (by kernel_rfl) ty43 (by decide)
theorem prt45_1 : PartS Tryz.prog 45 1 1 1 false := partS Tryz.underlying45 (by kernel_rfl) ty44 (by decide)
theorem ty46 : TyS Tryz.prog 46 2 true := ⟨Tryz.sizeOf46, Tryz.isAgg46⟩
theorem str46 : StrS Tryz.prog 46 [.slice none 0 0, .slice none 0 0] [(0, 1), (1, 1)] := strS Tryz.zeroValue46 Tryz.underlying46 (fun w => by kernel_rfl)
theorem fld46_0 : FldS Tryz.prog 46 0 0 := ⟨fun a w => by kernel_rfl⟩
theorem fld46_1 : FldS Tryz.prog 46 1 1 := ⟨fun a w => by kernel_rfl⟩
theorem prt46_0 : PartS Tryz.prog 46 0 0 1 false := partS Tryz.underlying46 (by kernel_rfl) ty43 (by decide)
theorem prt46_1 : PartS Tryz.prog 46 1 1 1 false := partS Tryz.underlying46 (by kernel_rfl) ty44 (by decide)
theorem ty47 : TyS Tryz.prog 47 1 false := ⟨Tryz.sizeOf47, Tryz.isAgg47⟩
theorem ty48 : TyS Tryz.prog 48 1 false := ⟨Tryz.sizeOf48, Tryz.isAgg48⟩
theorem ty50 : TyS Tryz.prog 50 1 false := ⟨Tryz.sizeOf50, Tryz.isAgg50⟩
theorem ty51 : TyS Tryz.prog 51 2 true := ⟨Tryz.sizeOf51, Tryz.isAgg51⟩
theorem str51 : StrS Tryz.prog 51 [.int .i64 0, .bool false] [(0, 1), (1, 1)] := strS Tryz.zeroValue51 Tryz.underlying51 (fun w => by kernel_rfl)
theorem fld51_0 : FldS Tryz.prog 51 0 0 := ⟨fun a w => by kernel_rfl⟩
theorem fld51_1 : FldS Tryz.prog 51 1 1 := ⟨fun a w => by kernel_rfl⟩
theorem prt51_0 : PartS Tryz.prog 51 0 0 1 false := partS Tryz.underlying51 (by kernel_rfl) ty3 (by decide)
theorem prt51_1 : PartS Tryz.prog 51 1 1 1 false := partS Tryz.underlying51 (by kernel_rfl) ty4 (by decide)
theorem ty52 : TyS Tryz.prog 52 2 true := ⟨Tryz.sizeOf52, Tryz.isAgg52⟩
theorem str52 : StrS Tryz.prog 52 [.int .i64 0, .bool false] [(0, 1), (1, 1)] := strS Tryz.zeroValue52 Tryz.underlying52 (fun w => by kernel_rfl)
theorem fld52_0 : FldS Tryz.prog 52 0 0 := ⟨fun a w => by kernel_rfl⟩
theorem fld52_1 : FldS Tryz.prog 52 1 1 := ⟨fun a w => by kernel_rfl⟩
theorem prt52_0 : PartS Tryz.prog 52 0 0 1 false := partS Tryz.underlying52 (by kernel_rfl) ty3 (by decide)
theorem prt52_1 : PartS Tryz.prog 52 1 1 1 false := partS Tryz.underlying52 (by kernel_rfl) ty4 (by decide)
theorem ty53 : TyS Tryz.prog 53 1 false := ⟨Tryz.sizeOf53, Tryz.isAgg53⟩
theorem ty54 : TyS Tryz.prog 54 1 false := ⟨Tryz.sizeOf54, Tryz.isAgg54⟩
theorem ty55 : TyS Tryz.prog 55 1 false := ⟨Tryz.sizeOf55, Tryz.isAgg55⟩
theorem ty56 : TyS Tryz.prog 56 1 false := ⟨Tryz.sizeOf56, Tryz.isAgg56⟩
theorem ty57 : TyS Tryz.prog 57 1 false := ⟨Tryz.sizeOf57, Tryz.isAgg57⟩
theorem ty58 : TyS Tryz.prog 58 1 false := ⟨Tryz.sizeOf58, Tryz.isAgg58⟩
theorem ty59 : TyS Tryz.prog 59 1 false := ⟨Tryz.sizeOf59, Tryz.isAgg59⟩
theorem sl59 : SlS Tryz.prog 59 122 2 := ⟨Tryz.underlying59, Tryz.sizeOf122⟩
theorem app59 : AppS Tryz.prog 59 122 2 16 := ⟨Tryz.underlying59, (by obtain ⟨i, h1, h2, h3, h4⟩ := info_parts (by kernel_rfl : (Tryz.prog.info? 122).map (fun i => (i.zero, i.size, i.bytes)) = some (some (.agg #[.int .i64 0, .int .i64 0]), 2, 16)); exact ⟨i, _, h1, h2, h3, h4, rfl⟩), by decide⟩
theorem sli59 : SliS Tryz.prog 59 122 2 [.int .i64 0, .int .i64 0] := ⟨Tryz.underlying59, Tryz.sizeOf122, ze122, rfl⟩
theorem ty60 : TyS Tryz.prog 60 2 true := ⟨Tryz.sizeOf60, Tryz.isAgg60⟩
theorem str60 : StrS Tryz.prog 60 [.slice none 0 0, .slice none 0 0] [(0, 1), (1, 1)] := strS Tryz.zeroValue60 Tryz.underlying60 (fun w => by kernel_rfl)
theorem fld60_0 : FldS Tryz.prog 60 0 0 := ⟨fun a w => by kernel_rfl⟩
theorem fld60_1 : FldS Tryz.prog 60 1 1 := ⟨fun a w => by kernel_rfl⟩
theorem prt60_0 : PartS Tryz.prog 60 0 0 1 false := partS Tryz.underlying60 (by kernel_rfl) ty59 (by decide)
theorem prt60_1 : PartS Tryz.prog 60 1 1 1 false := partS Tryz.underlying60 (by kernel_rfl) ty22 (by decide)
theorem ty61 : TyS Tryz.prog 61 2 true := ⟨Tryz.sizeOf61, Tryz.isAgg61⟩
theorem str61 : StrS Tryz.prog 61 [.slice none 0 0, .slice none 0 0] [(0, 1), (1, 1)] := strS Tryz.zeroValue61 Tryz.underlying61 (fun w => by kernel_rfl)
theorem fld61_0 : FldS Tryz.prog 61 0 0 := ⟨fun a w => by kernel_rfl⟩
theorem fld61_1 : FldS Tryz.prog 61 1 1 := ⟨fun a w => by kernel_rfl⟩
theorem prt61_0 : PartS Tryz.prog 61 0 0 1 false := partS Tryz.underlying61 (by kernel_rfl) ty59 (by decide)
theorem prt61_1 : PartS Tryz.prog 61 1 1 1 false := partS Tryz.underlying61 (by kernel_rfl) ty22 (by decide)
theorem ty62 : TyS Tryz.prog 62 1 false := ⟨Tryz.sizeOf62, Tryz.isAgg62⟩
theorem ty64 : TyS Tryz.prog 64 1 false := ⟨Tryz.sizeOf64, Tryz.isAgg64⟩
theorem ty65 : TyS Tryz.prog 65 1 false := ⟨Tryz.sizeOf65, Tryz.isAgg65⟩
theorem sl65 : SlS Tryz.prog 65 25 1 := ⟨Tryz.underlying65, Tryz.sizeOf25⟩
theorem app65 : AppS Tryz.prog 65 25 1 24 := ⟨Tryz.underlying65, (by obtain ⟨i, h1, h2, h3, h4⟩ := info_parts (by kernel_rfl : (Tryz.prog.info? 25).map (fun i => (i.zero, i.size, i.bytes)) = some (some (.agg #[.slice none 0 0]), 1, 24)); exact ⟨i, _, h1, h2, h3, h4, rfl⟩), by decide⟩
theorem sli65 : SliS Tryz.prog 65 25 1 [.slice none 0 0] := ⟨Tryz.underlying65, Tryz.sizeOf25, ze25, rfl⟩
theorem ty67 : TyS Tryz.prog 67 1 false := ⟨Tryz.sizeOf67, Tryz.isAgg67⟩
theorem ty68 : TyS Tryz.prog 68 1 false := ⟨Tryz.sizeOf68, Tryz.isAgg68⟩
theorem ty69 : TyS Tryz.prog 69 1 false := ⟨Tryz.sizeOf69, Tryz.isAgg69⟩
theorem ty70 : TyS Tryz.prog 70 2 true := ⟨Tryz.sizeOf70, Tryz.isAgg70⟩
theorem str70 : StrS Tryz.prog 70 [.slice none 0 0, .int .i64 0] [(0, 1), (1, 1)] := strS Tryz.zeroValue70 Tryz.underlying70 (fun w => by kernel_rfl)
theorem fld70_0 : FldS Tryz.prog 70 0 0 := ⟨fun a w => by kernel_rfl⟩
theorem fld70_1 : FldS Tryz.prog 70 1 1 := ⟨fun a w => by kernel_rfl⟩
theorem prt70_0 : PartS Tryz.prog 70 0 0 1 false := partS Tryz.underlying70 (by kernel_rfl) ty22 (by decide)
theorem prt70_1 : PartS Tryz.prog 70 1 1 1 false := partS Tryz.underlying70 (by kernel_rfl) ty3 (by decide)
theorem ty71 : TyS Tryz.prog 71 2 true := ⟨Tryz.sizeOf71, Tryz.isAgg71⟩
theorem str71 : StrS Tryz.prog 71 [.slice none 0 0, .int .i64 0] [(0, 1), (1, 1)] := strS Tryz.zeroValue71 Tryz.underlying71 (fun w => by kernel_rfl)
theorem fld71_0 : FldS Tryz.prog 71 0 0 := ⟨fun a w => by kernel_rfl⟩
theorem fld71_1 : FldS Tryz.prog 71 1 1 := ⟨fun a w => by kernel_rfl⟩
theorem prt71_0 : PartS Tryz.prog 71 0 0 1 false := partS Tryz.underlying71 (by kernel_rfl) ty22 (by decide)
theorem prt71_1 : PartS Tryz.prog 71 1 1 1 false := partS Tryz.underlying71 (by kernel_rfl) ty3 (by decide)
theorem ty72 : TyS Tryz.prog 72 1 false := ⟨Tryz.sizeOf72, Tryz.isAgg72⟩
theorem ty73 : TyS Tryz.prog 73 3 true := ⟨Tryz.sizeOf73, Tryz.isAgg73⟩
theorem str73 : StrS Tryz.prog 73 [.int .i64 0, .int .i64 0, .int .i64 0] [(0, 1), (1, 1), (2, 1)] := strS Tryz.zeroValue73 Tryz.underlying73 (fun w => by kernel_rfl)
theorem fld73_0 : FldS Tryz.prog 73 0 0 := ⟨fun a w => by kernel_rfl⟩
theorem fld73_1 : FldS Tryz.prog 73 1 1 := ⟨fun a w => by kernel_rfl⟩
theorem fld73_2 : FldS Tryz.prog 73 2 2 := ⟨fun a w => by kernel_rfl⟩
theorem prt73_0 : PartS Tryz.prog 73 0 0 1 false := partS Tryz.underlying73 (by kernel_rfl) ty3 (by decide)
theorem prt73_1 : PartS Tryz.prog 73 1 1 1 false := partS Tryz.underlying73 (by kernel_rfl) ty3 (by decide)
theorem prt73_2 : PartS Tryz.prog 73 2 2 1 false := partS Tryz.underlying73 (by kernel_rfl) ty3 (by decide)
theorem ty74 : TyS Tryz.prog 74 3 true := ⟨Tryz.sizeOf74, Tryz.isAgg74⟩
theorem str74 : StrS Tryz.prog 74 [.int .i64 0, .int .i64 0, .int .i64 0] [(0, 1), (1, 1), (2, 1)] := strS Tryz.zeroValue74 Tryz.underlying74 (fun w => by kernel_rfl)
theorem fld74_0 : FldS Tryz.prog 74 0 0 := ⟨fun a w => by kernel_rfl⟩
theorem fld74_1 : FldS Tryz.prog 74 1 1 := ⟨fun a w => by kernel_rfl⟩
theorem fld74_2 : FldS Tryz.prog 74 2 2 := ⟨fun a w => by kernel_rfl⟩
theorem prt74_0 : PartS Tryz.prog 74 0 0 1 false := partS Tryz.underlying74 (by kernel_rfl) ty3 (by decide)
theorem prt74_1 : PartS Tryz.prog 74 1 1 1 false := partS Tryz.underlying74 (by kernel_rfl) ty3 (by decide)
theorem prt74_2 : PartS Tryz.prog 74 2 2 1 false := partS Tryz.underlying74 (by kernel_rfl) ty3 (by decide)
theorem eqf74 (a0 b0 : Int) (a1 b1 : Int) (a2 b2 : Int) (w : World) : (Op.eqFields 9999 #[.int .i64 a0, .int .i64 a1, .int .i64 a2] #[.int .i64 b0, .int .i64 b1, .int .i64 b2] (Tryz.prog.fieldsOf 74).toList).run Tryz.prog w = .ok (decide (a0 = b0) && (decide (a1 = b1) && (decide (a2 = b2) && true))) w := by
  have hf : (Tryz.prog.fieldsOf 74).toList.map (fun f => (f.name == "_", f.type, f.offset)) = [(false, 3, 0), (false, 3, 1), (false, 3, 2)] := by kernel_rfl
  have q : (Op.eqFields 9999 #[.int .i64 a0, .int .i64 a1, .int .i64 a2] #[.int .i64 b0, .int .i64 b1, .int .i64 b2] (Tryz.prog.fieldsOf 74).toList).run Tryz.prog w = .ok (decide (a0 = b0) && (decide (a1 = b1) && (decide (a2 = b2) && true))) w := by
    obtain ⟨f0, t0, e0, h0, hf⟩ := fields_cons hf
    obtain ⟨f1, t1, e1, h1, hf⟩ := fields_cons hf
    obtain ⟨f2, t2, e2, h2, hf⟩ := fields_cons hf
    rw [e0, e1, e2, fields_nil hf]
    exact eqF_int h0 Tryz.isAgg3 Tryz.underlying3 rfl rfl (eqF_int h1 Tryz.isAgg3 Tryz.underlying3 rfl rfl (eqF_int h2 Tryz.isAgg3 Tryz.underlying3 rfl rfl (eqF_nil)))
  exact q
theorem eq74_neq (x y : Operand) (a0 b0 : Int) (a1 b1 : Int) (a2 b2 : Int) (w : World) : (do eqGuard .neq 74 x y (.agg #[.int .i64 a0, .int .i64 a1, .int .i64 a2]) (.agg #[.int .i64 b0, .int .i64 b1, .int .i64 b2]); binOp .neq 74 (.agg #[.int .i64 a0, .int .i64 a1, .int .i64 a2]) (.agg #[.int .i64 b0, .int .i64 b1, .int .i64 b2]) : Sem Value).run Tryz.prog w = .ok (.bool (!(decide (a0 = b0) && (decide (a1 = b1) && (decide (a2 = b2) && true))))) w := eqS_neq _ _ _ x y (by kernel_rfl) (by kernel_rfl) (by kernel_rfl) (eqf74 a0 b0 a1 b1 a2 b2 w)
theorem ty75 : TyS Tryz.prog 75 1 false := ⟨Tryz.sizeOf75, Tryz.isAgg75⟩
theorem ty76 : TyS Tryz.prog 76 3 true := ⟨Tryz.sizeOf76, Tryz.isAgg76⟩
theorem str76 : StrS Tryz.prog 76 [.int .i64 0, .int .i64 0, .int .i64 0] [(0, 1), (1, 1), (2, 1)] := strS Tryz.zeroValue76 Tryz.underlying76 (fun w => by kernel_rfl)
theorem fld76_0 : FldS Tryz.prog 76 0 0 := ⟨fun a w => by kernel_rfl⟩
theorem fld76_1 : FldS Tryz.prog 76 1 1 := ⟨fun a w => by kernel_rfl⟩
theorem fld76_2 : FldS Tryz.prog 76 2 2 := ⟨fun a w => by kernel_rfl⟩
theorem prt76_0 : PartS Tryz.prog 76 0 0 1 false := partS Tryz.underlying76 (by kernel_rfl) ty3 (by decide)
theorem prt76_1 : PartS Tryz.prog 76 1 1 1 false := partS Tryz.underlying76 (by kernel_rfl) ty3 (by decide)
theorem prt76_2 : PartS Tryz.prog 76 2 2 1 false := partS Tryz.underlying76 (by kernel_rfl) ty3 (by decide)
theorem ty77 : TyS Tryz.prog 77 3 true := ⟨Tryz.sizeOf77, Tryz.isAgg77⟩
theorem str77 : StrS Tryz.prog 77 [.int .i64 0, .int .i64 0, .int .i64 0] [(0, 1), (1, 1), (2, 1)] := strS Tryz.zeroValue77 Tryz.underlying77 (fun w => by kernel_rfl)
theorem fld77_0 : FldS Tryz.prog 77 0 0 := ⟨fun a w => by kernel_rfl⟩
theorem fld77_1 : FldS Tryz.prog 77 1 1 := ⟨fun a w => by kernel_rfl⟩
theorem fld77_2 : FldS Tryz.prog 77 2 2 := ⟨fun a w => by kernel_rfl⟩
theorem prt77_0 : PartS Tryz.prog 77 0 0 1 false := partS Tryz.underlying77 (by kernel_rfl) ty3 (by decide)
theorem prt77_1 : PartS Tryz.prog 77 1 1 1 false := partS Tryz.underlying77 (by kernel_rfl) ty3 (by decide)
theorem prt77_2 : PartS Tryz.prog 77 2 2 1 false := partS Tryz.underlying77 (by kernel_rfl) ty3 (by decide)
theorem eqf77 (a0 b0 : Int) (a1 b1 : Int) (a2 b2 : Int) (w : World) : (Op.eqFields 9999 #[.int .i64 a0, .int .i64 a1, .int .i64 a2] #[.int .i64 b0, .int .i64 b1, .int .i64 b2] (Tryz.prog.fieldsOf 77).toList).run Tryz.prog w = .ok (decide (a0 = b0) && (decide (a1 = b1) && (decide (a2 = b2) && true))) w := by
  have hf : (Tryz.prog.fieldsOf 77).toList.map (fun f => (f.name == "_", f.type, f.offset)) = [(false, 3, 0), (false, 3, 1), (false, 3, 2)] := by kernel_rfl
  have q : (Op.eqFields 9999 #[.int .i64 a0, .int .i64 a1, .int .i64 a2] #[.int .i64 b0, .int .i64 b1, .int .i64 b2] (Tryz.prog.fieldsOf 77).toList).run Tryz.prog w = .ok (decide (a0 = b0) && (decide (a1 = b1) && (decide (a2 = b2) && true))) w := by
    obtain ⟨f0, t0, e0, h0, hf⟩ := fields_cons hf
    obtain ⟨f1, t1, e1, h1, hf⟩ := fields_cons hf
    obtain ⟨f2, t2, e2, h2, hf⟩ := fields_cons hf
    rw [e0, e1, e2, fields_nil hf]
    exact eqF_int h0 Tryz.isAgg3 Tryz.underlying3 rfl rfl (eqF_int h1 Tryz.isAgg3 Tryz.underlying3 rfl rfl (eqF_int h2 Tryz.isAgg3 Tryz.underlying3 rfl rfl (eqF_nil)))
  exact q
theorem eq77_neq (x y : Operand) (a0 b0 : Int) (a1 b1 : Int) (a2 b2 : Int) (w : World) : (do eqGuard .neq 77 x y (.agg #[.int .i64 a0, .int .i64 a1, .int .i64 a2]) (.agg #[.int .i64 b0, .int .i64 b1, .int .i64 b2]); binOp .neq 77 (.agg #[.int .i64 a0, .int .i64 a1, .int .i64 a2]) (.agg #[.int .i64 b0, .int .i64 b1, .int .i64 b2]) : Sem Value).run Tryz.prog w = .ok (.bool (!(decide (a0 = b0) && (decide (a1 = b1) && (decide (a2 = b2) && true))))) w := eqS_neq _ _ _ x y (by kernel_rfl) (by kernel_rfl) (by kernel_rfl) (eqf77 a0 b0 a1 b1 a2 b2 w)
theorem ty78 : TyS Tryz.prog 78 1 false := ⟨Tryz.sizeOf78, Tryz.isAgg78⟩
theorem ty79 : TyS Tryz.prog 79 1 false := ⟨Tryz.sizeOf79, Tryz.isAgg79⟩
theorem ty80 : TyS Tryz.prog 80 1 false := ⟨Tryz.sizeOf80, Tryz.isAgg80⟩
theorem ty81 : TyS Tryz.prog 81 1 false := ⟨Tryz.sizeOf81, Tryz.isAgg81⟩
theorem ty82 : TyS Tryz.prog 82 1 false := ⟨Tryz.sizeOf82, Tryz.isAgg82⟩
theorem ty83 : TyS Tryz.prog 83 5 true := ⟨Tryz.sizeOf83, Tryz.isAgg83⟩
theorem str83 : StrS Tryz.prog 83 [.int .i64 0, .int .i64 0, .int .i64 0, .int .i64 0, .int .i64 0] [(0, 1), (1, 1), (2, 1), (3, 1), (4, 1)] := strS Tryz.zeroValue83 Tryz.underlying83 (fun w => by kernel_rfl)
theorem fld83_0 : FldS Tryz.prog 83 0 0 := ⟨fun a w => by kernel_rfl⟩
theorem fld83_1 : FldS Tryz.prog 83 1 1 := ⟨fun a w => by kernel_rfl⟩
theorem fld83_2 : FldS Tryz.prog 83 2 2 := ⟨fun a w => by kernel_rfl⟩
theorem fld83_3 : FldS Tryz.prog 83 3 3 := ⟨fun a w => by kernel_rfl⟩
theorem fld83_4 : FldS Tryz.prog 83 4 4 := ⟨fun a w => by kernel_rfl⟩
theorem prt83_0 : PartS Tryz.prog 83 0 0 1 false := partS Tryz.underlying83 (by kernel_rfl) ty3 (by decide)
theorem prt83_1 : PartS Tryz.prog 83 1 1 1 false := partS Tryz.underlying83 (by kernel_rfl) ty3 (by decide)
theorem prt83_2 : PartS Tryz.prog 83 2 2 1 false := partS Tryz.underlying83 (by kernel_rfl) ty3 (by decide)
theorem prt83_3 : PartS Tryz.prog 83 3 3 1 false := partS Tryz.underlying83 (by kernel_rfl) ty3 (by decide)
theorem prt83_4 : PartS Tryz.prog 83 4 4 1 false := partS Tryz.underlying83 (by kernel_rfl) ty3 (by decide)
theorem ty84 : TyS Tryz.prog 84 5 true := ⟨Tryz.sizeOf84, Tryz.isAgg84⟩
theorem str84 : StrS Tryz.prog 84 [.int .i64 0, .int .i64 0, .int .i64 0, .int .i64 0, .int .i64 0] [(0, 1), (1, 1), (2, 1), (3, 1), (4, 1)] := strS Tryz.zeroValue84 Tryz.underlying84 (fun w => by kernel_rfl)
theorem fld84_0 : FldS Tryz.prog 84 0 0 := ⟨fun a w => by kernel_rfl⟩
theorem fld84_1 : FldS Tryz.prog 84 1 1 := ⟨fun a w => by kernel_rfl⟩
theorem fld84_2 : FldS Tryz.prog 84 2 2 := ⟨fun a w => by kernel_rfl⟩
theorem fld84_3 : FldS Tryz.prog 84 3 3 := ⟨fun a w => by kernel_rfl⟩
theorem fld84_4 : FldS Tryz.prog 84 4 4 := ⟨fun a w => by kernel_rfl⟩
theorem prt84_0 : PartS Tryz.prog 84 0 0 1 false := partS Tryz.underlying84 (by kernel_rfl) ty3 (by decide)
theorem prt84_1 : PartS Tryz.prog 84 1 1 1 false := partS Tryz.underlying84 (by kernel_rfl) ty3 (by decide)
theorem prt84_2 : PartS Tryz.prog 84 2 2 1 false := partS Tryz.underlying84 (by kernel_rfl) ty3 (by decide)
theorem prt84_3 : PartS Tryz.prog 84 3 3 1 false := partS Tryz.underlying84 (by kernel_rfl) ty3 (by decide)
theorem prt84_4 : PartS Tryz.prog 84 4 4 1 false := partS Tryz.underlying84 (by kernel_rfl) ty3 (by decide)
theorem eqf84 (a0 b0 : Int) (a1 b1 : Int) (a2 b2 : Int) (a3 b3 : Int) (a4 b4 : Int) (w : World) : (Op.eqFields 9999 #[.int .i64 a0, .int .i64 a1, .int .i64 a2, .int .i64 a3, .int .i64 a4] #[.int .i64 b0, .int .i64 b1, .int .i64 b2, .int .i64 b3, .int .i64 b4] (Tryz.prog.fieldsOf 84).toList).run Tryz.prog w = .ok (decide (a0 = b0) && (decide (a1 = b1) && (decide (a2 = b2) && (decide (a3 = b3) && (decide (a4 = b4) && true))))) w := by
  have hf : (Tryz.prog.fieldsOf 84).toList.map (fun f => (f.name == "_", f.type, f.offset)) = [(false, 3, 0), (false, 3, 1), (false, 3, 2), (false, 3, 3), (false, 3, 4)] := by kernel_rfl
  have q : (Op.eqFields 9999 #[.int .i64 a0, .int .i64 a1, .int .i64 a2, .int .i64 a3, .int .i64 a4] #[.int .i64 b0, .int .i64 b1, .int .i64 b2, .int .i64 b3, .int .i64 b4] (Tryz.prog.fieldsOf 84).toList).run Tryz.prog w = .ok (decide (a0 = b0) && (decide (a1 = b1) && (decide (a2 = b2) && (decide (a3 = b3) && (decide (a4 = b4) && true))))) w := by
    obtain ⟨f0, t0, e0, h0, hf⟩ := fields_cons hf
    obtain ⟨f1, t1, e1, h1, hf⟩ := fields_cons hf
    obtain ⟨f2, t2, e2, h2, hf⟩ := fields_cons hf
    obtain ⟨f3, t3, e3, h3, hf⟩ := fields_cons hf
    obtain ⟨f4, t4, e4, h4, hf⟩ := fields_cons hf
    rw [e0, e1, e2, e3, e4, fields_nil hf]
    exact eqF_int h0 Tryz.isAgg3 Tryz.underlying3 rfl rfl (eqF_int h1 Tryz.isAgg3 Tryz.underlying3 rfl rfl (eqF_int h2 Tryz.isAgg3 Tryz.underlying3 rfl rfl (eqF_int h3 Tryz.isAgg3 Tryz.underlying3 rfl rfl (eqF_int h4 Tryz.isAgg3 Tryz.underlying3 rfl rfl (eqF_nil)))))
  exact q
theorem eq84_eql (x y : Operand) (a0 b0 : Int) (a1 b1 : Int) (a2 b2 : Int) (a3 b3 : Int) (a4 b4 : Int) (w : World) : (do eqGuard .eql 84 x y (.agg #[.int .i64 a0, .int .i64 a1, .int .i64 a2, .int .i64 a3, .int .i64 a4]) (.agg #[.int .i64 b0, .int .i64 b1, .int .i64 b2, .int .i64 b3, .int .i64 b4]); binOp .eql 84 (.agg #[.int .i64 a0, .int .i64 a1, .int .i64 a2, .int .i64 a3, .int .i64 a4]) (.agg #[.int .i64 b0, .int .i64 b1, .int .i64 b2, .int .i64 b3, .int .i64 b4]) : Sem Value).run Tryz.prog w = .ok (.bool (decide (a0 = b0) && (decide (a1 = b1) && (decide (a2 = b2) && (decide (a3 = b3) && (decide (a4 = b4) && true)))))) w := eqS_eql _ _ _ x y (by kernel_rfl) (by kernel_rfl) (by kernel_rfl) (eqf84 a0 b0 a1 b1 a2 b2 a3 b3 a4 b4 w)
theorem ty85 : TyS Tryz.prog 85 1 false := ⟨Tryz.sizeOf85, Tryz.isAgg85⟩
theorem ty86 : TyS Tryz.prog 86 1 false := ⟨Tryz.sizeOf86, Tryz.isAgg86⟩
theorem ty87 : TyS Tryz.prog 87 1 false := ⟨Tryz.sizeOf87, Tryz.isAgg87⟩
theorem ty89 : TyS Tryz.prog 89 1 false := ⟨Tryz.sizeOf89, Tryz.isAgg89⟩
theorem ty90 : TyS Tryz.prog 90 1 false := ⟨Tryz.sizeOf90, Tryz.isAgg90⟩
theorem ty91 : TyS Tryz.prog 91 1 false := ⟨Tryz.sizeOf91, Tryz.isAgg91⟩
theorem map91 : MapS Tryz.prog 91 3 4 .i64 := ⟨Tryz.underlying91, Tryz.underlying3⟩
theorem ty93 : TyS Tryz.prog 93 1 false := ⟨Tryz.sizeOf93, Tryz.isAgg93⟩
theorem ty94 : TyS Tryz.prog 94 1 false := ⟨Tryz.sizeOf94, Tryz.isAgg94⟩
theorem ty95 : TyS Tryz.prog 95 1 false := ⟨Tryz.sizeOf95, Tryz.isAgg95⟩
theorem ty96 : TyS Tryz.prog 96 1 false := ⟨Tryz.sizeOf96, Tryz.isAgg96⟩
theorem ty97 : TyS Tryz.prog 97 1 false := ⟨Tryz.sizeOf97, Tryz.isAgg97⟩
theorem ty98 : TyS Tryz.prog 98 1 false := ⟨Tryz.sizeOf98, Tryz.isAgg98⟩
theorem ty99 : TyS Tryz.prog 99 1 false := ⟨Tryz.sizeOf99, Tryz.isAgg99⟩
theorem ty100 : TyS Tryz.prog 100 1 false := ⟨Tryz.sizeOf100, Tryz.isAgg100⟩
theorem ty101 : TyS Tryz.prog 101 1 false := ⟨Tryz.sizeOf101, Tryz.isAgg101⟩
theorem sl101 : SlS Tryz.prog 101 5 1 := ⟨Tryz.underlying101, Tryz.sizeOf5⟩
theorem app101 : AppS Tryz.prog 101 5 1 1 := ⟨Tryz.underlying101, (by obtain ⟨i, h1, h2, h3, h4⟩ := info_parts (by kernel_rfl : (Tryz.prog.info? 5).map (fun i => (i.zero, i.size, i.bytes)) = some (some (.int .u8 0), 1, 1)); exact ⟨i, _, h1, h2, h3, h4, rfl⟩), by decide⟩
theorem sli101 : SliS Tryz.prog 101 5 1 [.int .u8 0] := ⟨Tryz.underlying101, Tryz.sizeOf5, ze5, rfl⟩
theorem ty103 : TyS Tryz.prog 103 1 false := ⟨Tryz.sizeOf103, Tryz.isAgg103⟩
theorem ty104 : TyS Tryz.prog 104 1 false := ⟨Tryz.sizeOf104, Tryz.isAgg104⟩
theorem ty105 : TyS Tryz.prog 105 1 false := ⟨Tryz.sizeOf105, Tryz.isAgg105⟩
theorem ty106 : TyS Tryz.prog 106 1 false := ⟨Tryz.sizeOf106, Tryz.isAgg106⟩
theorem ty107 : TyS Tryz.prog 107 1 false := ⟨Tryz.sizeOf107, Tryz.isAgg107⟩
theorem ty108 : TyS Tryz.prog 108 1 false := ⟨Tryz.sizeOf108, Tryz.isAgg108⟩
theorem ty109 : TyS Tryz.prog 109 1 false := ⟨Tryz.sizeOf109, Tryz.isAgg109⟩
theorem ty110 : TyS Tryz.prog 110 1 false := ⟨Tryz.sizeOf110, Tryz.isAgg110⟩
theorem ty111 : TyS Tryz.prog 111 1 false := ⟨Tryz.sizeOf111, Tryz.isAgg111⟩
theorem ty112 : TyS Tryz.prog 112 1 false := ⟨Tryz.sizeOf112, Tryz.isAgg112⟩
theorem ty113 : TyS Tryz.prog 113 1 false := ⟨Tryz.sizeOf113, Tryz.isAgg113⟩
theorem ty114 : TyS Tryz.prog 114 1 false := ⟨Tryz.sizeOf114, Tryz.isAgg114⟩
theorem ty115 : TyS Tryz.prog 115 1 false := ⟨Tryz.sizeOf115, Tryz.isAgg115⟩
theorem ty116 : TyS Tryz.prog 116 1 false := ⟨Tryz.sizeOf116, Tryz.isAgg116⟩
theorem ty117 : TyS Tryz.prog 117 1 false := ⟨Tryz.sizeOf117, Tryz.isAgg117⟩
theorem ty118 : TyS Tryz.prog 118 1 false := ⟨Tryz.sizeOf118, Tryz.isAgg118⟩
theorem ty119 : TyS Tryz.prog 119 1 false := ⟨Tryz.sizeOf119, Tryz.isAgg119⟩
theorem ty120 : TyS Tryz.prog 120 1 false := ⟨Tryz.sizeOf120, Tryz.isAgg120⟩
theorem ty121 : TyS Tryz.prog 121 2 true := ⟨Tryz.sizeOf121, Tryz.isAgg121⟩
theorem str121 : StrS Tryz.prog 121 [.int .i64 0, .int .i64 0] [(0, 1), (1, 1)] := strS Tryz.zeroValue121 Tryz.underlying121 (fun w => by kernel_rfl)
theorem fld121_0 : FldS Tryz.prog 121 0 0 := ⟨fun a w => by kernel_rfl⟩
theorem fld121_1 : FldS Tryz.prog 121 1 1 := ⟨fun a w => by kernel_rfl⟩
theorem prt121_0 : PartS Tryz.prog 121 0 0 1 false := partS Tryz.underlying121 (by kernel_rfl) ty3 (by decide)
theorem prt121_1 : PartS Tryz.prog 121 1 1 1 false := partS Tryz.underlying121 (by kernel_rfl) ty3 (by decide)
theorem ty122 : TyS Tryz.prog 122 2 true := ⟨Tryz.sizeOf122, Tryz.isAgg122⟩
theorem str122 : StrS Tryz.prog 122 [.int .i64 0, .int .i64 0] [(0, 1), (1, 1)] := strS Tryz.zeroValue122 Tryz.underlying122 (fun w => by kernel_rfl)
theorem fld122_0 : FldS Tryz.prog 122 0 0 := ⟨fun a w => by kernel_rfl⟩
theorem fld122_1 : FldS Tryz.prog 122 1 1 := ⟨fun a w => by kernel_rfl⟩
theorem prt122_0 : PartS Tryz.prog 122 0 0 1 false := partS Tryz.underlying122 (by kernel_rfl) ty3 (by decide)
theorem prt122_1 : PartS Tryz.prog 122 1 1 1 false := partS Tryz.underlying122 (by kernel_rfl) ty3 (by decide)
theorem ty123 : TyS Tryz.prog 123 1 false := ⟨Tryz.sizeOf123, Tryz.isAgg123⟩
theorem ty124 : TyS Tryz.prog 124 1 false := ⟨Tryz.sizeOf124, Tryz.isAgg124⟩
theorem ty125 : TyS Tryz.prog 125 2 true := ⟨Tryz.sizeOf125, Tryz.isAgg125⟩
theorem str125 : StrS Tryz.prog 125 [.slice none 0 0, .int .i64 0] [(0, 1), (1, 1)] := strS Tryz.zeroValue125 Tryz.underlying125 (fun w => by kernel_rfl)
theorem fld125_0 : FldS Tryz.prog 125 0 0 := ⟨fun a w => by kernel_rfl⟩
theorem fld125_1 : FldS Tryz.prog 125 1 1 := ⟨fun a w => by kernel_rfl⟩
theorem prt125_0 : PartS Tryz.prog 125 0 0 1 false := partS Tryz.underlying125 (by kernel_rfl) ty101 (by decide)
theorem prt125_1 : PartS Tryz.prog 125 1 1 1 false := partS Tryz.underlying125 (by kernel_rfl) ty3 (by decide)
theorem ty126 : TyS Tryz.prog 126 2 true := ⟨Tryz.sizeOf126, Tryz.isAgg126⟩
theorem str126 : StrS Tryz.prog 126 [.slice none 0 0, .int .i64 0] [(0, 1), (1, 1)] := strS Tryz.zeroValue126 Tryz.underlying126 (fun w => by kernel_rfl)
theorem fld126_0 : FldS Tryz.prog 126 0 0 := ⟨fun a w => by kernel_rfl⟩
theorem fld126_1 : FldS Tryz.prog 126 1 1 := ⟨fun a w => by kernel_rfl⟩
theorem prt126_0 : PartS Tryz.prog 126 0 0 1 false := partS Tryz.underlying126 (by kernel_rfl) ty101 (by decide)
theorem prt126_1 : PartS Tryz.prog 126 1 1 1 false := partS Tryz.underlying126 (by kernel_rfl) ty3 (by decide)
theorem ty127 : TyS Tryz.prog 127 1 false := ⟨Tryz.sizeOf127, Tryz.isAgg127⟩
theorem ty128 : TyS Tryz.prog 128 1 false := ⟨Tryz.sizeOf128, Tryz.isAgg128⟩
theorem ty130 : TyS Tryz.prog 130 1 false := ⟨Tryz.sizeOf130, Tryz.isAgg130⟩
theorem ty132 : TyS Tryz.prog 132 1 false := ⟨Tryz.sizeOf132, Tryz.isAgg132⟩
theorem ty133 : TyS Tryz.prog 133 1 false := ⟨Tryz.sizeOf133, Tryz.isAgg133⟩
theorem ty134 : TyS Tryz.prog 134 1 false := ⟨Tryz.sizeOf134, Tryz.isAgg134⟩
theorem ty135 : TyS Tryz.prog 135 1 false := ⟨Tryz.sizeOf135, Tryz.isAgg135⟩
theorem ty136 : TyS Tryz.prog 136 1 false := ⟨Tryz.sizeOf136, Tryz.isAgg136⟩
theorem ty137 : TyS Tryz.prog 137 1 false := ⟨Tryz.sizeOf137, Tryz.isAgg137⟩
theorem ty138 : TyS Tryz.prog 138 1 false := ⟨Tryz.sizeOf138, Tryz.isAgg138⟩
theorem ty140 : TyS Tryz.prog 140 1 false := ⟨Tryz.sizeOf140, Tryz.isAgg140⟩
theorem ty141 : TyS Tryz.prog 141 1 false := ⟨Tryz.sizeOf141, Tryz.isAgg141⟩
theorem ty142 : TyS Tryz.prog 142 1 false := ⟨Tryz.sizeOf142, Tryz.isAgg142⟩
theorem ty143 : TyS Tryz.prog 143 1 false := ⟨Tryz.sizeOf143, Tryz.isAgg143⟩
theorem ty144 : TyS Tryz.prog 144 1 false := ⟨Tryz.sizeOf144, Tryz.isAgg144⟩
theorem ty145 : TyS Tryz.prog 145 1 false := ⟨Tryz.sizeOf145, Tryz.isAgg145⟩
theorem ty146 : TyS Tryz.prog 146 1 false := ⟨Tryz.sizeOf146, Tryz.isAgg146⟩
theorem ty147 : TyS Tryz.prog 147 1 false := ⟨Tryz.sizeOf147, Tryz.isAgg147⟩
theorem ty148 : TyS Tryz.prog 148 1 false := ⟨Tryz.sizeOf148, Tryz.isAgg148⟩
theorem ty149 : TyS Tryz.prog 149 1 false := ⟨Tryz.sizeOf149, Tryz.isAgg149⟩
theorem ty150 : TyS Tryz.prog 150 1 false := ⟨Tryz.sizeOf150, Tryz.isAgg150⟩
theorem ty151 : TyS Tryz.prog 151 1 false := ⟨Tryz.sizeOf151, Tryz.isAgg151⟩
theorem ty152 : TyS Tryz.prog 152 1 false := ⟨Tryz.sizeOf152, Tryz.isAgg152⟩
theorem ty153 : TyS Tryz.prog 153 1 false := ⟨Tryz.sizeOf153, Tryz.isAgg153⟩
theorem ty154 : TyS Tryz.prog 154 1 false := ⟨Tryz.sizeOf154, Tryz.isAgg154⟩
theorem ty155 : TyS Tryz.prog 155 1 false := ⟨Tryz.sizeOf155, Tryz.isAgg155⟩
theorem ty156 : TyS Tryz.prog 156 1 false := ⟨Tryz.sizeOf156, Tryz.isAgg156⟩
theorem ty157 : TyS Tryz.prog 157 1 false := ⟨Tryz.sizeOf157, Tryz.isAgg157⟩
theorem ty158 : TyS Tryz.prog 158 2 true := ⟨Tryz.sizeOf158, Tryz.isAgg158⟩
theorem str158 : StrS Tryz.prog 158 [.slice none 0 0, .int .i64 0] [(0, 2)] := strS Tryz.zeroValue158 Tryz.underlying158 (fun w => by kernel_rfl)
theorem fld158_0 : FldS Tryz.prog 158 0 0 := ⟨fun a w => by kernel_rfl⟩
theorem prt158_0 : PartS Tryz.prog 158 0 0 2 true := partS Tryz.underlying158 (by kernel_rfl) ty126 (by decide)
theorem ty159 : TyS Tryz.prog 159 2 true := ⟨Tryz.sizeOf159, Tryz.isAgg159⟩
theorem str159 : StrS Tryz.prog 159 [.slice none 0 0, .int .i64 0] [(0, 2)] := strS Tryz.zeroValue159 Tryz.underlying159 (fun w => by kernel_rfl)
theorem fld159_0 : FldS Tryz.prog 159 0 0 := ⟨fun a w => by kernel_rfl⟩
theorem prt159_0 : PartS Tryz.prog 159 0 0 2 true := partS Tryz.underlying159 (by kernel_rfl) ty126 (by decide)
theorem ty160 : TyS Tryz.prog 160 1 false := ⟨Tryz.sizeOf160, Tryz.isAgg160⟩
theorem ty161 : TyS Tryz.prog 161 1 false := ⟨Tryz.sizeOf161, Tryz.isAgg161⟩
theorem ty162 : TyS Tryz.prog 162 1 false := ⟨Tryz.sizeOf162, Tryz.isAgg162⟩
theorem ty163 : TyS Tryz.prog 163 1 false := ⟨Tryz.sizeOf163, Tryz.isAgg163⟩
theorem ty164 : TyS Tryz.prog 164 1 false := ⟨Tryz.sizeOf164, Tryz.isAgg164⟩
theorem ty165 : TyS Tryz.prog 165 1 false := ⟨Tryz.sizeOf165, Tryz.isAgg165⟩
theorem ty166 : TyS Tryz.prog 166 1 false := ⟨Tryz.sizeOf166, Tryz.isAgg166⟩
theorem ty167 : TyS Tryz.prog 167 1 false := ⟨Tryz.sizeOf167, Tryz.isAgg167⟩
theorem ty168 : TyS Tryz.prog 168 1 false := ⟨Tryz.sizeOf168, Tryz.isAgg168⟩
theorem ty169 : TyS Tryz.prog 169 1 false := ⟨Tryz.sizeOf169, Tryz.isAgg169⟩
theorem ty170 : TyS Tryz.prog 170 1 false := ⟨Tryz.sizeOf170, Tryz.isAgg170⟩
theorem ty171 : TyS Tryz.prog 171 1 false := ⟨Tryz.sizeOf171, Tryz.isAgg171⟩
theorem ty172 : TyS Tryz.prog 172 1 false := ⟨Tryz.sizeOf172, Tryz.isAgg172⟩
theorem ty174 : TyS Tryz.prog 174 1 false := ⟨Tryz.sizeOf174, Tryz.isAgg174⟩
theorem ty175 : TyS Tryz.prog 175 1 false := ⟨Tryz.sizeOf175, Tryz.isAgg175⟩
theorem ty176 : TyS Tryz.prog 176 1 false := ⟨Tryz.sizeOf176, Tryz.isAgg176⟩
theorem ty177 : TyS Tryz.prog 177 1 false := ⟨Tryz.sizeOf177, Tryz.isAgg177⟩
theorem ty178 : TyS Tryz.prog 178 1 false := ⟨Tryz.sizeOf178, Tryz.isAgg178⟩
theorem ty179 : TyS Tryz.prog 179 1 false := ⟨Tryz.sizeOf179, Tryz.isAgg179⟩
theorem ty180 : TyS Tryz.prog 180 4 true := ⟨Tryz.sizeOf180, Tryz.isAgg180⟩
theorem str180 : StrS Tryz.prog 180 [.pointer none, .pointer none, .pointer none, .string ⟨#[]⟩] [(0, 1), (1, 1), (2, 1), (3, 1)] := strS Tryz.zeroValue180 Tryz.underlying180 (fun w => by kernel_rfl)
theorem fld180_0 : FldS Tryz.prog 180 0 0 := ⟨fun a w => by kernel_rfl⟩
theorem fld180_1 : FldS Tryz.prog 180 1 1 := ⟨fun a w => by kernel_rfl⟩
theorem fld180_2 : FldS Tryz.prog 180 2 2 := ⟨fun a w => by kernel_rfl⟩
theorem fld180_3 : FldS Tryz.prog 180 3 3 := ⟨fun a w => by kernel_rfl⟩
theorem prt180_0 : PartS Tryz.prog 180 0 0 1 false := partS Tryz.underlying180 (by kernel_rfl) ty17 (by decide)
theorem prt180_1 : PartS Tryz.prog 180 1 1 1 false := partS Tryz.underlying180 (by kernel_rfl) ty17 (by decide)
theorem prt180_2 : PartS Tryz.prog 180 2 2 1 false := partS Tryz.underlying180 (by kernel_rfl) ty17 (by decide)
theorem prt180_3 : PartS Tryz.prog 180 3 3 1 false := partS Tryz.underlying180 (by kernel_rfl) ty9 (by decide)
theorem ty181 : TyS Tryz.prog 181 4 true := ⟨Tryz.sizeOf181, Tryz.isAgg181⟩
theorem str181 : StrS Tryz.prog 181 [.pointer none, .pointer none, .pointer none, .string ⟨#[]⟩] [(0, 1), (1, 1), (2, 1), (3, 1)] := strS Tryz.zeroValue181 Tryz.underlying181 (fun w => by kernel_rfl)
theorem fld181_0 : FldS Tryz.prog 181 0 0 := ⟨fun a w => by kernel_rfl⟩
theorem fld181_1 : FldS Tryz.prog 181 1 1 := ⟨fun a w => by kernel_rfl⟩
theorem fld181_2 : FldS Tryz.prog 181 2 2 := ⟨fun a w => by kernel_rfl⟩
theorem fld181_3 : FldS Tryz.prog 181 3 3 := ⟨fun a w => by kernel_rfl⟩
theorem prt181_0 : PartS Tryz.prog 181 0 0 1 false := partS Tryz.underlying181 (by kernel_rfl) ty17 (by decide)
theorem prt181_1 : PartS Tryz.prog 181 1 1 1 false := partS Tryz.underlying181 (by kernel_rfl) ty17 (by decide)
theorem prt181_2 : PartS Tryz.prog 181 2 2 1 false := partS Tryz.underlying181 (by kernel_rfl) ty17 (by decide)
theorem prt181_3 : PartS Tryz.prog 181 3 3 1 false := partS Tryz.underlying181 (by kernel_rfl) ty9 (by decide)
theorem ty182 : TyS Tryz.prog 182 0 true := ⟨Tryz.sizeOf182, Tryz.isAgg182⟩
theorem ty185 : TyS Tryz.prog 185 1 false := ⟨Tryz.sizeOf185, Tryz.isAgg185⟩
theorem ty186 : TyS Tryz.prog 186 1 false := ⟨Tryz.sizeOf186, Tryz.isAgg186⟩
theorem ty187 : TyS Tryz.prog 187 1 false := ⟨Tryz.sizeOf187, Tryz.isAgg187⟩
theorem ty188 : TyS Tryz.prog 188 1 false := ⟨Tryz.sizeOf188, Tryz.isAgg188⟩
theorem ty189 : TyS Tryz.prog 189 1 false := ⟨Tryz.sizeOf189, Tryz.isAgg189⟩
theorem ty190 : TyS Tryz.prog 190 1 false := ⟨Tryz.sizeOf190, Tryz.isAgg190⟩
theorem ty191 : TyS Tryz.prog 191 11 true := ⟨Tryz.sizeOf191, Tryz.isAgg191⟩
theorem str191 : StrS Tryz.prog 191 [.int .u64 0, .int .u64 0, .int .u32 0, .int .u8 0, .int .u8 0, .int .u8 0, .int .u8 0, .nilFunc, .pointer none, .int .i32 0, .int .i32 0] [(0, 1), (1, 1), (2, 1), (3, 1), (4, 1), (5, 1), (6, 1), (7, 1), (8, 1), (9, 1), (10, 1)] := strS Tryz.zeroValue191 Tryz.underlying191 (fun w => by kernel_rfl)
theorem fld191_0 : FldS Tryz.prog 191 0 0 := ⟨fun a w => by kernel_rfl⟩
theorem fld191_1 : FldS Tryz.prog 191 1 1 := ⟨fun a w => by kernel_rfl⟩
theorem fld191_2 : FldS Tryz.prog 191 2 2 := ⟨fun a w => by kernel_rfl⟩
theorem fld191_3 : FldS Tryz.prog 191 3 3 := ⟨fun a w => by kernel_rfl⟩
theorem fld191_4 : FldS Tryz.prog 191 4 4 := ⟨fun a w => by kernel_rfl⟩
theorem fld191_5 : FldS Tryz.prog 191 5 5 := ⟨fun a w => by kernel_rfl⟩
theorem fld191_6 : FldS Tryz.prog 191 6 6 := ⟨fun a w => by kernel_rfl⟩
theorem fld191_7 : FldS Tryz.prog 191 7 7 := ⟨fun a w => by kernel_rfl⟩
theorem fld191_8 : FldS Tryz.prog 191 8 8 := ⟨fun a w => by kernel_rfl⟩
theorem fld191_9 : FldS Tryz.prog 191 9 9 := ⟨fun a w => by kernel_rfl⟩
theorem fld191_10 : FldS Tryz.prog 191 10 10 := ⟨fun a w => by kernel_rfl⟩
theorem prt191_0 : PartS Tryz.prog 191 0 0 1 false := partS Tryz.underlying191 (by kernel_rfl) ty12 (by decide)
theorem prt191_1 : PartS Tryz.prog 191 1 1 1 false := partS Tryz.underlying191 (by kernel_rfl) ty12 (by decide)
theorem prt191_2 : PartS Tryz.prog 191 2 2 1 false := partS Tryz.underlying191 (by kernel_rfl) ty145 (by decide)
theorem prt191_3 : PartS Tryz.prog 191 3 3 1 false := partS Tryz.underlying191 (by kernel_rfl) ty185 (by decide)
theorem prt191_4 : PartS Tryz.prog 191 4 4 1 false := partS Tryz.underlying191 (by kernel_rfl) ty5 (by decide)
theorem prt191_5 : PartS Tryz.prog 191 5 5 1 false := partS Tryz.underlying191 (by kernel_rfl) ty5 (by decide)
theorem prt191_6 : PartS Tryz.prog 191 6 6 1 false := partS Tryz.underlying191 (by kernel_rfl) ty186 (by decide)
theorem prt191_7 : PartS Tryz.prog 191 7 7 1 false := partS Tryz.underlying191 (by kernel_rfl) ty187 (by decide)
theorem prt191_8 : PartS Tryz.prog 191 8 8 1 false := partS Tryz.underlying191 (by kernel_rfl) ty188 (by decide)
theorem prt191_9 : PartS Tryz.prog 191 9 9 1 false := partS Tryz.underlying191 (by kernel_rfl) ty189 (by decide)
theorem prt191_10 : PartS Tryz.prog 191 10 10 1 false := partS Tryz.underlying191 (by kernel_rfl) ty190 (by decide)
theorem ty192 : TyS Tryz.prog 192 11 true := ⟨Tryz.sizeOf192, Tryz.isAgg192⟩
theorem str192 : StrS Tryz.prog 192 [.int .u64 0, .int .u64 0, .int .u32 0, .int .u8 0, .int .u8 0, .int .u8 0, .int .u8 0, .nilFunc, .pointer none, .int .i32 0, .int .i32 0] [(0, 1), (1, 1), (2, 1), (3, 1), (4, 1), (5, 1), (6, 1), (7, 1), (8, 1), (9, 1), (10, 1)] := strS Tryz.zeroValue192 Tryz.underlying192 (fun w => by kernel_rfl)
theorem fld192_0 : FldS Tryz.prog 192 0 0 := ⟨fun a w => by kernel_rfl⟩
theorem fld192_1 : FldS Tryz.prog 192 1 1 := ⟨fun a w => by kernel_rfl⟩
theorem fld192_2 : FldS Tryz.prog 192 2 2 := ⟨fun a w => by kernel_rfl⟩
theorem fld192_3 : FldS Tryz.prog 192 3 3 := ⟨fun a w => by kernel_rfl⟩
theorem fld192_4 : FldS Tryz.prog 192 4 4 := ⟨fun a w => by kernel_rfl⟩
theorem fld192_5 : FldS Tryz.prog 192 5 5 := ⟨fun a w => by kernel_rfl⟩
theorem fld192_6 : FldS Tryz.prog 192 6 6 := ⟨fun a w => by kernel_rfl⟩
theorem fld192_7 : FldS Tryz.prog 192 7 7 := ⟨fun a w => by kernel_rfl⟩
theorem fld192_8 : FldS Tryz.prog 192 8 8 := ⟨fun a w => by kernel_rfl⟩
theorem fld192_9 : FldS Tryz.prog 192 9 9 := ⟨fun a w => by kernel_rfl⟩
theorem fld192_10 : FldS Tryz.prog 192 10 10 := ⟨fun a w => by kernel_rfl⟩
theorem prt192_0 : PartS Tryz.prog 192 0 0 1 false := partS Tryz.underlying192 (by kernel_rfl) ty12 (by decide)
theorem prt192_1 : PartS Tryz.prog 192 1 1 1 false := partS Tryz.underlying192 (by kernel_rfl) ty12 (by decide)
theorem prt192_2 : PartS Tryz.prog 192 2 2 1 false := partS Tryz.underlying192 (by kernel_rfl) ty145 (by decide)
theorem prt192_3 : PartS Tryz.prog 192 3 3 1 false := partS Tryz.underlying192 (by kernel_rfl) ty185 (by decide)
theorem prt192_4 : PartS Tryz.prog 192 4 4 1 false := partS Tryz.underlying192 (by kernel_rfl) ty5 (by decide)
theorem prt192_5 : PartS Tryz.prog 192 5 5 1 false := partS Tryz.underlying192 (by kernel_rfl) ty5 (by decide)
theorem prt192_6 : PartS Tryz.prog 192 6 6 1 false := partS Tryz.underlying192 (by kernel_rfl) ty186 (by decide)
theorem prt192_7 : PartS Tryz.prog 192 7 7 1 false := partS Tryz.underlying192 (by kernel_rfl) ty187 (by decide)
theorem prt192_8 : PartS Tryz.prog 192 8 8 1 false := partS Tryz.underlying192 (by kernel_rfl) ty188 (by decide)
theorem prt192_9 : PartS Tryz.prog 192 9 9 1 false := partS Tryz.underlying192 (by kernel_rfl) ty189 (by decide)
theorem prt192_10 : PartS Tryz.prog 192 10 10 1 false := partS Tryz.underlying192 (by kernel_rfl) ty190 (by decide)
end Go.Proofs.YtmcjffllahcclaaGreat
