/- The types of this translation, as the rules want them. No condition. -/
import Derived.Test.YtmcjffllahcclaaAB
import Derived.Test.YtmcjffllahcclaaRows
import Derived.OwnWalk
namespace Go.Proofs.Ytmcjffllahcclaa
set_option linter.all false
open Go
set_option maxRecDepth 100000
theorem hmix : Try.prog.follows .mixedOrders = true := by kernel_rfl
theorem ze1 : ∀ w, ∃ z, (zeroValue 1).run Try.prog w = .ok z w ∧ z.cells = [.nilFunc].toArray := fun w => ⟨_, Try.zeroValue1 w, rfl⟩
theorem ze2 : ∀ w, ∃ z, (zeroValue 2).run Try.prog w = .ok z w ∧ z.cells = [.int .i64 0].toArray := fun w => ⟨_, Try.zeroValue2 w, rfl⟩
theorem ze3 : ∀ w, ∃ z, (zeroValue 3).run Try.prog w = .ok z w ∧ z.cells = [.int .i64 0].toArray := fun w => ⟨_, Try.zeroValue3 w, rfl⟩
theorem ze4 : ∀ w, ∃ z, (zeroValue 4).run Try.prog w = .ok z w ∧ z.cells = [.bool false].toArray := fun w => ⟨_, Try.zeroValue4 w, rfl⟩
theorem ze5 : ∀ w, ∃ z, (zeroValue 5).run Try.prog w = .ok z w ∧ z.cells = [.int .u8 0].toArray := fun w => ⟨_, Try.zeroValue5 w, rfl⟩
theorem ze6 : ∀ w, ∃ z, (zeroValue 6).run Try.prog w = .ok z w ∧ z.cells = [.int .u8 0].toArray := fun w => ⟨_, Try.zeroValue6 w, rfl⟩
theorem ze7 : ∀ w, ∃ z, (zeroValue 7).run Try.prog w = .ok z w ∧ z.cells = [.int .i64 0, .int .i64 0, .bool false, .int .u8 0].toArray := fun w => ⟨_, Try.zeroValue7 w, rfl⟩
theorem ze8 : ∀ w, ∃ z, (zeroValue 8).run Try.prog w = .ok z w ∧ z.cells = [.int .i64 0, .int .i64 0, .bool false, .int .u8 0].toArray := fun w => ⟨_, Try.zeroValue8 w, rfl⟩
theorem ze9 : ∀ w, ∃ z, (zeroValue 9).run Try.prog w = .ok z w ∧ z.cells = [.string ⟨#[]⟩].toArray := fun w => ⟨_, Try.zeroValue9 w, rfl⟩
theorem ze10 : ∀ w, ∃ z, (zeroValue 10).run Try.prog w = .ok z w ∧ z.cells = [.string ⟨#[]⟩].toArray := fun w => ⟨_, Try.zeroValue10 w, rfl⟩
theorem ze11 : ∀ w, ∃ z, (zeroValue 11).run Try.prog w = .ok z w ∧ z.cells = [.string ⟨#[]⟩].toArray := fun w => ⟨_, Try.zeroValue11 w, rfl⟩
theorem ze12 : ∀ w, ∃ z, (zeroValue 12).run Try.prog w = .ok z w ∧ z.cells = [.int .u64 0].toArray := fun w => ⟨_, Try.zeroValue12 w, rfl⟩
theorem ze13 : ∀ w, ∃ z, (zeroValue 13).run Try.prog w = .ok z w ∧ z.cells = [.string ⟨#[]⟩, .int .u64 0].toArray := fun w => ⟨_, Try.zeroValue13 w, rfl⟩
theorem ze14 : ∀ w, ∃ z, (zeroValue 14).run Try.prog w = .ok z w ∧ z.cells = [.string ⟨#[]⟩, .int .u64 0].toArray := fun w => ⟨_, Try.zeroValue14 w, rfl⟩
theorem ze15 : ∀ w, ∃ z, (zeroValue 15).run Try.prog w = .ok z w ∧ z.cells = [.pointer none].toArray := fun w => ⟨_, Try.zeroValue15 w, rfl⟩
theorem ze16 : ∀ w, ∃ z, (zeroValue 16).run Try.prog w = .ok z w ∧ z.cells = [.pointer none].toArray := fun w => ⟨_, Try.zeroValue16 w, rfl⟩
theorem ze17 : ∀ w, ∃ z, (zeroValue 17).run Try.prog w = .ok z w ∧ z.cells = [.pointer none].toArray := fun w => ⟨_, Try.zeroValue17 w, rfl⟩
theorem ze18 : ∀ w, ∃ z, (zeroValue 18).run Try.prog w = .ok z w ∧ z.cells = [.pointer none].toArray := fun w => ⟨_, Try.zeroValue18 w, rfl⟩
theorem ze19 : ∀ w, ∃ z, (zeroValue 19).run Try.prog w = .ok z w ∧ z.cells = [.pointer none].toArray := fun w => ⟨_, Try.zeroValue19 w, rfl⟩
theorem ze21 : ∀ w, ∃ z, (zeroValue 21).run Try.prog w = .ok z w ∧ z.cells = [.int .i32 0].toArray := fun w => ⟨_, Try.zeroValue21 w, rfl⟩
theorem ze22 : ∀ w, ∃ z, (zeroValue 22).run Try.prog w = .ok z w ∧ z.cells = [.slice none 0 0].toArray := fun w => ⟨_, Try.zeroValue22 w, rfl⟩
theorem ze23 : ∀ w, ∃ z, (zeroValue 23).run Try.prog w = .ok z w ∧ z.cells = [.pointer none].toArray := fun w => ⟨_, Try.zeroValue23 w, rfl⟩
theorem ze24 : ∀ w, ∃ z, (zeroValue 24).run Try.prog w = .ok z w ∧ z.cells = [.nilFunc].toArray := fun w => ⟨_, Try.zeroValue24 w, rfl⟩
theorem ze25 : ∀ w, ∃ z, (zeroValue 25).run Try.prog w = .ok z w ∧ z.cells = [.slice none 0 0].toArray := fun w => ⟨_, Try.zeroValue25 w, rfl⟩
theorem ze26 : ∀ w, ∃ z, (zeroValue 26).run Try.prog w = .ok z w ∧ z.cells = [.slice none 0 0].toArray := fun w => ⟨_, Try.zeroValue26 w, rfl⟩
theorem ze27 : ∀ w, ∃ z, (zeroValue 27).run Try.prog w = .ok z w ∧ z.cells = [.slice none 0 0].toArray := fun w => ⟨_, Try.zeroValue27 w, rfl⟩
theorem ze28 : ∀ w, ∃ z, (zeroValue 28).run Try.prog w = .ok z w ∧ z.cells = [.nilFunc].toArray := fun w => ⟨_, Try.zeroValue28 w, rfl⟩
theorem ze29 : ∀ w, ∃ z, (zeroValue 29).run Try.prog w = .ok z w ∧ z.cells = [.slice none 0 0].toArray := fun w => ⟨_, Try.zeroValue29 w, rfl⟩
theorem ze30 : ∀ w, ∃ z, (zeroValue 30).run Try.prog w = .ok z w ∧ z.cells = [.slice none 0 0].toArray := fun w => ⟨_, Try.zeroValue30 w, rfl⟩
theorem ze31 : ∀ w, ∃ z, (zeroValue 31).run Try.prog w = .ok z w ∧ z.cells = [.int .i64 0, .int .i64 0, .bool false, .slice none 0 0, .slice none 0 0].toArray := fun w => ⟨_, Try.zeroValue31 w, rfl⟩
theorem ze32 : ∀ w, ∃ z, (zeroValue 32).run Try.prog w = .ok z w ∧ z.cells = [.int .i64 0, .int .i64 0, .bool false, .slice none 0 0, .slice none 0 0].toArray := fun w => ⟨_, Try.zeroValue32 w, rfl⟩
theorem ze33 : ∀ w, ∃ z, (zeroValue 33).run Try.prog w = .ok z w ∧ z.cells = [.nilFunc].toArray := fun w => ⟨_, Try.zeroValue33 w, rfl⟩
theorem ze35 : ∀ w, ∃ z, (zeroValue 35).run Try.prog w = .ok z w ∧ z.cells = [.nilFunc].toArray := fun w => ⟨_, Try.zeroValue35 w, rfl⟩
theorem ze36 : ∀ w, ∃ z, (zeroValue 36).run Try.prog w = .ok z w ∧ z.cells = [.nilFunc].toArray := fun w => ⟨_, Try.zeroValue36 w, rfl⟩
theorem ze37 : ∀ w, ∃ z, (zeroValue 37).run Try.prog w = .ok z w ∧ z.cells = [.slice none 0 0].toArray := fun w => ⟨_, Try.zeroValue37 w, rfl⟩
theorem ze38 : ∀ w, ∃ z, (zeroValue 38).run Try.prog w = .ok z w ∧ z.cells = [.slice none 0 0].toArray := fun w => ⟨_, Try.zeroValue38 w, rfl⟩
theorem ze39 : ∀ w, ∃ z, (zeroValue 39).run Try.prog w = .ok z w ∧ z.cells = [.slice none 0 0, .slice none 0 0].toArray := fun w => ⟨_, Try.zeroValue39 w, rfl⟩
theorem ze40 : ∀ w, ∃ z, (zeroValue 40).run Try.prog w = .ok z w ∧ z.cells = [.slice none 0 0, .slice none 0 0].toArray := fun w => ⟨_, Try.zeroValue40 w, rfl⟩
theorem ze41 : ∀ w, ∃ z, (zeroValue 41).run Try.prog w = .ok z w ∧ z.cells = [.nilFunc].toArray := fun w => ⟨_, Try.zeroValue41 w, rfl⟩
theorem ze42 : ∀ w, ∃ z, (zeroValue 42).run Try.prog w = .ok z w ∧ z.cells = [.nilFunc].toArray := fun w => ⟨_, Try.zeroValue42 w, rfl⟩
theorem ze43 : ∀ w, ∃ z, (zeroValue 43).run Try.prog w = .ok z w ∧ z.cells = [.nilFunc].toArray := fun w => ⟨_, Try.zeroValue43 w, rfl⟩
theorem ze44 : ∀ w, ∃ z, (zeroValue 44).run Try.prog w = .ok z w ∧ z.cells = [.slice none 0 0, .int .i64 0].toArray := fun w => ⟨_, Try.zeroValue44 w, rfl⟩
theorem ze45 : ∀ w, ∃ z, (zeroValue 45).run Try.prog w = .ok z w ∧ z.cells = [.slice none 0 0, .int .i64 0].toArray := fun w => ⟨_, Try.zeroValue45 w, rfl⟩
theorem ze46 : ∀ w, ∃ z, (zeroValue 46).run Try.prog w = .ok z w ∧ z.cells = [.nilFunc].toArray := fun w => ⟨_, Try.zeroValue46 w, rfl⟩
theorem ze47 : ∀ w, ∃ z, (zeroValue 47).run Try.prog w = .ok z w ∧ z.cells = [.nilFunc].toArray := fun w => ⟨_, Try.zeroValue47 w, rfl⟩
theorem ze48 : ∀ w, ∃ z, (zeroValue 48).run Try.prog w = .ok z w ∧ z.cells = [.nilFunc].toArray := fun w => ⟨_, Try.zeroValue48 w, rfl⟩
theorem ze49 : ∀ w, ∃ z, (zeroValue 49).run Try.prog w = .ok z w ∧ z.cells = [.nilFunc].toArray := fun w => ⟨_, Try.zeroValue49 w, rfl⟩
theorem ze50 : ∀ w, ∃ z, (zeroValue 50).run Try.prog w = .ok z w ∧ z.cells = [.int .i64 0, .int .i64 0, .int .i64 0].toArray := fun w => ⟨_, Try.zeroValue50 w, rfl⟩
theorem ze51 : ∀ w, ∃ z, (zeroValue 51).run Try.prog w = .ok z w ∧ z.cells = [.int .i64 0, .int .i64 0, .int .i64 0].toArray := fun w => ⟨_, Try.zeroValue51 w, rfl⟩
theorem ze52 : ∀ w, ∃ z, (zeroValue 52).run Try.prog w = .ok z w ∧ z.cells = [.nilFunc].toArray := fun w => ⟨_, Try.zeroValue52 w, rfl⟩
theorem ze53 : ∀ w, ∃ z, (zeroValue 53).run Try.prog w = .ok z w ∧ z.cells = [.int .i64 0, .int .i64 0, .int .i64 0].toArray := fun w => ⟨_, Try.zeroValue53 w, rfl⟩
theorem ze54 : ∀ w, ∃ z, (zeroValue 54).run Try.prog w = .ok z w ∧ z.cells = [.int .i64 0, .int .i64 0, .int .i64 0].toArray := fun w => ⟨_, Try.zeroValue54 w, rfl⟩
theorem ze55 : ∀ w, ∃ z, (zeroValue 55).run Try.prog w = .ok z w ∧ z.cells = [.nilFunc].toArray := fun w => ⟨_, Try.zeroValue55 w, rfl⟩
theorem ze56 : ∀ w, ∃ z, (zeroValue 56).run Try.prog w = .ok z w ∧ z.cells = [.int .i64 0].toArray := fun w => ⟨_, Try.zeroValue56 w, rfl⟩
theorem ze57 : ∀ w, ∃ z, (zeroValue 57).run Try.prog w = .ok z w ∧ z.cells = [.nilFunc].toArray := fun w => ⟨_, Try.zeroValue57 w, rfl⟩
theorem ze58 : ∀ w, ∃ z, (zeroValue 58).run Try.prog w = .ok z w ∧ z.cells = [.nilFunc].toArray := fun w => ⟨_, Try.zeroValue58 w, rfl⟩
theorem ze59 : ∀ w, ∃ z, (zeroValue 59).run Try.prog w = .ok z w ∧ z.cells = [.nilFunc].toArray := fun w => ⟨_, Try.zeroValue59 w, rfl⟩
theorem ze60 : ∀ w, ∃ z, (zeroValue 60).run Try.prog w = .ok z w ∧ z.cells = [.pointer none].toArray := fun w => ⟨_, Try.zeroValue60 w, rfl⟩
theorem ze61 : ∀ w, ∃ z, (zeroValue 61).run Try.prog w = .ok z w ∧ z.cells = [.int .i64 0, .bool false].toArray := fun w => ⟨_, Try.zeroValue61 w, rfl⟩
theorem ze62 : ∀ w, ∃ z, (zeroValue 62).run Try.prog w = .ok z w ∧ z.cells = [.int .i64 0, .bool false].toArray := fun w => ⟨_, Try.zeroValue62 w, rfl⟩
theorem ze63 : ∀ w, ∃ z, (zeroValue 63).run Try.prog w = .ok z w ∧ z.cells = [.int .i64 0, .int .i64 0, .int .i64 0, .int .i64 0, .int .i64 0].toArray := fun w => ⟨_, Try.zeroValue63 w, rfl⟩
theorem ze64 : ∀ w, ∃ z, (zeroValue 64).run Try.prog w = .ok z w ∧ z.cells = [.int .i64 0, .int .i64 0, .int .i64 0, .int .i64 0, .int .i64 0].toArray := fun w => ⟨_, Try.zeroValue64 w, rfl⟩
theorem ze66 : ∀ w, ∃ z, (zeroValue 66).run Try.prog w = .ok z w ∧ z.cells = [.nilFunc].toArray := fun w => ⟨_, Try.zeroValue66 w, rfl⟩
theorem ze67 : ∀ w, ∃ z, (zeroValue 67).run Try.prog w = .ok z w ∧ z.cells = [.map none].toArray := fun w => ⟨_, Try.zeroValue67 w, rfl⟩
theorem ze69 : ∀ w, ∃ z, (zeroValue 69).run Try.prog w = .ok z w ∧ z.cells = [.nilFunc].toArray := fun w => ⟨_, Try.zeroValue69 w, rfl⟩
theorem ze70 : ∀ w, ∃ z, (zeroValue 70).run Try.prog w = .ok z w ∧ z.cells = [.nilFunc].toArray := fun w => ⟨_, Try.zeroValue70 w, rfl⟩
theorem ze71 : ∀ w, ∃ z, (zeroValue 71).run Try.prog w = .ok z w ∧ z.cells = [.nilFunc].toArray := fun w => ⟨_, Try.zeroValue71 w, rfl⟩
theorem ze72 : ∀ w, ∃ z, (zeroValue 72).run Try.prog w = .ok z w ∧ z.cells = [.nilFunc].toArray := fun w => ⟨_, Try.zeroValue72 w, rfl⟩
theorem ze73 : ∀ w, ∃ z, (zeroValue 73).run Try.prog w = .ok z w ∧ z.cells = [.nilFunc].toArray := fun w => ⟨_, Try.zeroValue73 w, rfl⟩
theorem ze74 : ∀ w, ∃ z, (zeroValue 74).run Try.prog w = .ok z w ∧ z.cells = [.nilFunc].toArray := fun w => ⟨_, Try.zeroValue74 w, rfl⟩
theorem ze75 : ∀ w, ∃ z, (zeroValue 75).run Try.prog w = .ok z w ∧ z.cells = [.nilFunc].toArray := fun w => ⟨_, Try.zeroValue75 w, rfl⟩
theorem ze76 : ∀ w, ∃ z, (zeroValue 76).run Try.prog w = .ok z w ∧ z.cells = [.nilFunc].toArray := fun w => ⟨_, Try.zeroValue76 w, rfl⟩
theorem ze77 : ∀ w, ∃ z, (zeroValue 77).run Try.prog w = .ok z w ∧ z.cells = [.nilFunc].toArray := fun w => ⟨_, Try.zeroValue77 w, rfl⟩
theorem ze78 : ∀ w, ∃ z, (zeroValue 78).run Try.prog w = .ok z w ∧ z.cells = [.nilFunc].toArray := fun w => ⟨_, Try.zeroValue78 w, rfl⟩
theorem ze80 : ∀ w, ∃ z, (zeroValue 80).run Try.prog w = .ok z w ∧ z.cells = [.nilFunc].toArray := fun w => ⟨_, Try.zeroValue80 w, rfl⟩
theorem ze81 : ∀ w, ∃ z, (zeroValue 81).run Try.prog w = .ok z w ∧ z.cells = [.nilFunc].toArray := fun w => ⟨_, Try.zeroValue81 w, rfl⟩
theorem ze82 : ∀ w, ∃ z, (zeroValue 82).run Try.prog w = .ok z w ∧ z.cells = [.nilFunc].toArray := fun w => ⟨_, Try.zeroValue82 w, rfl⟩
theorem ze83 : ∀ w, ∃ z, (zeroValue 83).run Try.prog w = .ok z w ∧ z.cells = [.nilFunc].toArray := fun w => ⟨_, Try.zeroValue83 w, rfl⟩
theorem ze84 : ∀ w, ∃ z, (zeroValue 84).run Try.prog w = .ok z w ∧ z.cells = [.nilFunc].toArray := fun w => ⟨_, Try.zeroValue84 w, rfl⟩
theorem ze85 : ∀ w, ∃ z, (zeroValue 85).run Try.prog w = .ok z w ∧ z.cells = [.nilFunc].toArray := fun w => ⟨_, Try.zeroValue85 w, rfl⟩
theorem ze86 : ∀ w, ∃ z, (zeroValue 86).run Try.prog w = .ok z w ∧ z.cells = [.int .u64 0].toArray := fun w => ⟨_, Try.zeroValue86 w, rfl⟩
theorem ze87 : ∀ w, ∃ z, (zeroValue 87).run Try.prog w = .ok z w ∧ z.cells = [.nilFunc].toArray := fun w => ⟨_, Try.zeroValue87 w, rfl⟩
theorem ze88 : ∀ w, ∃ z, (zeroValue 88).run Try.prog w = .ok z w ∧ z.cells = [.nilFunc].toArray := fun w => ⟨_, Try.zeroValue88 w, rfl⟩
theorem ze89 : ∀ w, ∃ z, (zeroValue 89).run Try.prog w = .ok z w ∧ z.cells = [.nilFunc].toArray := fun w => ⟨_, Try.zeroValue89 w, rfl⟩
theorem ze90 : ∀ w, ∃ z, (zeroValue 90).run Try.prog w = .ok z w ∧ z.cells = [.nilFunc].toArray := fun w => ⟨_, Try.zeroValue90 w, rfl⟩
theorem ze91 : ∀ w, ∃ z, (zeroValue 91).run Try.prog w = .ok z w ∧ z.cells = [.nilFunc].toArray := fun w => ⟨_, Try.zeroValue91 w, rfl⟩
theorem ze92 : ∀ w, ∃ z, (zeroValue 92).run Try.prog w = .ok z w ∧ z.cells = [.nilFunc].toArray := fun w => ⟨_, Try.zeroValue92 w, rfl⟩
theorem ze93 : ∀ w, ∃ z, (zeroValue 93).run Try.prog w = .ok z w ∧ z.cells = [.nilFunc].toArray := fun w => ⟨_, Try.zeroValue93 w, rfl⟩
theorem ze94 : ∀ w, ∃ z, (zeroValue 94).run Try.prog w = .ok z w ∧ z.cells = [.nilFunc].toArray := fun w => ⟨_, Try.zeroValue94 w, rfl⟩
theorem ze95 : ∀ w, ∃ z, (zeroValue 95).run Try.prog w = .ok z w ∧ z.cells = [.nilFunc].toArray := fun w => ⟨_, Try.zeroValue95 w, rfl⟩
theorem ze96 : ∀ w, ∃ z, (zeroValue 96).run Try.prog w = .ok z w ∧ z.cells = [.nilFunc].toArray := fun w => ⟨_, Try.zeroValue96 w, rfl⟩
theorem ze97 : ∀ w, ∃ z, (zeroValue 97).run Try.prog w = .ok z w ∧ z.cells = [.nilFunc].toArray := fun w => ⟨_, Try.zeroValue97 w, rfl⟩
theorem ze98 : ∀ w, ∃ z, (zeroValue 98).run Try.prog w = .ok z w ∧ z.cells = [.nilFunc].toArray := fun w => ⟨_, Try.zeroValue98 w, rfl⟩
theorem ze99 : ∀ w, ∃ z, (zeroValue 99).run Try.prog w = .ok z w ∧ z.cells = [.slice none 0 0].toArray := fun w => ⟨_, Try.zeroValue99 w, rfl⟩
theorem ze101 : ∀ w, ∃ z, (zeroValue 101).run Try.prog w = .ok z w ∧ z.cells = [.nilFunc].toArray := fun w => ⟨_, Try.zeroValue101 w, rfl⟩
theorem ze102 : ∀ w, ∃ z, (zeroValue 102).run Try.prog w = .ok z w ∧ z.cells = [.nilFunc].toArray := fun w => ⟨_, Try.zeroValue102 w, rfl⟩
theorem ze103 : ∀ w, ∃ z, (zeroValue 103).run Try.prog w = .ok z w ∧ z.cells = [.nilFunc].toArray := fun w => ⟨_, Try.zeroValue103 w, rfl⟩
theorem ze104 : ∀ w, ∃ z, (zeroValue 104).run Try.prog w = .ok z w ∧ z.cells = [.int .i64 0].toArray := fun w => ⟨_, Try.zeroValue104 w, rfl⟩
theorem ze106 : ∀ w, ∃ z, (zeroValue 106).run Try.prog w = .ok z w ∧ z.cells = [.nilFunc].toArray := fun w => ⟨_, Try.zeroValue106 w, rfl⟩
theorem ze107 : ∀ w, ∃ z, (zeroValue 107).run Try.prog w = .ok z w ∧ z.cells = [.nilFunc].toArray := fun w => ⟨_, Try.zeroValue107 w, rfl⟩
theorem ze108 : ∀ w, ∃ z, (zeroValue 108).run Try.prog w = .ok z w ∧ z.cells = [.nilFunc].toArray := fun w => ⟨_, Try.zeroValue108 w, rfl⟩
theorem ze109 : ∀ w, ∃ z, (zeroValue 109).run Try.prog w = .ok z w ∧ z.cells = [.nilFunc].toArray := fun w => ⟨_, Try.zeroValue109 w, rfl⟩
theorem ze110 : ∀ w, ∃ z, (zeroValue 110).run Try.prog w = .ok z w ∧ z.cells = [.nilFunc].toArray := fun w => ⟨_, Try.zeroValue110 w, rfl⟩
theorem ze111 : ∀ w, ∃ z, (zeroValue 111).run Try.prog w = .ok z w ∧ z.cells = [.int .u32 0].toArray := fun w => ⟨_, Try.zeroValue111 w, rfl⟩
theorem ze112 : ∀ w, ∃ z, (zeroValue 112).run Try.prog w = .ok z w ∧ z.cells = [.nilFunc].toArray := fun w => ⟨_, Try.zeroValue112 w, rfl⟩
theorem ze113 : ∀ w, ∃ z, (zeroValue 113).run Try.prog w = .ok z w ∧ z.cells = [.int .u64 0].toArray := fun w => ⟨_, Try.zeroValue113 w, rfl⟩
theorem ze114 : ∀ w, ∃ z, (zeroValue 114).run Try.prog w = .ok z w ∧ z.cells = [.nilFunc].toArray := fun w => ⟨_, Try.zeroValue114 w, rfl⟩
theorem ze115 : ∀ w, ∃ z, (zeroValue 115).run Try.prog w = .ok z w ∧ z.cells = [.nilFunc].toArray := fun w => ⟨_, Try.zeroValue115 w, rfl⟩
theorem ze116 : ∀ w, ∃ z, (zeroValue 116).run Try.prog w = .ok z w ∧ z.cells = [.nilFunc].toArray := fun w => ⟨_, Try.zeroValue116 w, rfl⟩
theorem ze117 : ∀ w, ∃ z, (zeroValue 117).run Try.prog w = .ok z w ∧ z.cells = [.nilFunc].toArray := fun w => ⟨_, Try.zeroValue117 w, rfl⟩
theorem ze118 : ∀ w, ∃ z, (zeroValue 118).run Try.prog w = .ok z w ∧ z.cells = [.nilFunc].toArray := fun w => ⟨_, Try.zeroValue118 w, rfl⟩
theorem ze119 : ∀ w, ∃ z, (zeroValue 119).run Try.prog w = .ok z w ∧ z.cells = [.nilFunc].toArray := fun w => ⟨_, Try.zeroValue119 w, rfl⟩
theorem ze120 : ∀ w, ∃ z, (zeroValue 120).run Try.prog w = .ok z w ∧ z.cells = [.nilFunc].toArray := fun w => ⟨_, Try.zeroValue120 w, rfl⟩
theorem ze121 : ∀ w, ∃ z, (zeroValue 121).run Try.prog w = .ok z w ∧ z.cells = [.slice none 0 0, .int .i64 0].toArray := fun w => ⟨_, Try.zeroValue121 w, rfl⟩
theorem ze122 : ∀ w, ∃ z, (zeroValue 122).run Try.prog w = .ok z w ∧ z.cells = [.slice none 0 0, .int .i64 0].toArray := fun w => ⟨_, Try.zeroValue122 w, rfl⟩
theorem ze123 : ∀ w, ∃ z, (zeroValue 123).run Try.prog w = .ok z w ∧ z.cells = [.slice none 0 0, .int .i64 0].toArray := fun w => ⟨_, Try.zeroValue123 w, rfl⟩
theorem ze124 : ∀ w, ∃ z, (zeroValue 124).run Try.prog w = .ok z w ∧ z.cells = [.slice none 0 0, .int .i64 0].toArray := fun w => ⟨_, Try.zeroValue124 w, rfl⟩
theorem ze125 : ∀ w, ∃ z, (zeroValue 125).run Try.prog w = .ok z w ∧ z.cells = [.nilFunc].toArray := fun w => ⟨_, Try.zeroValue125 w, rfl⟩
theorem ze127 : ∀ w, ∃ z, (zeroValue 127).run Try.prog w = .ok z w ∧ z.cells = [.nilFunc].toArray := fun w => ⟨_, Try.zeroValue127 w, rfl⟩
theorem ze128 : ∀ w, ∃ z, (zeroValue 128).run Try.prog w = .ok z w ∧ z.cells = [.int .u64 0].toArray := fun w => ⟨_, Try.zeroValue128 w, rfl⟩
theorem ze129 : ∀ w, ∃ z, (zeroValue 129).run Try.prog w = .ok z w ∧ z.cells = [.nilFunc].toArray := fun w => ⟨_, Try.zeroValue129 w, rfl⟩
theorem ze130 : ∀ w, ∃ z, (zeroValue 130).run Try.prog w = .ok z w ∧ z.cells = [.nilFunc].toArray := fun w => ⟨_, Try.zeroValue130 w, rfl⟩
theorem ze131 : ∀ w, ∃ z, (zeroValue 131).run Try.prog w = .ok z w ∧ z.cells = [.nilFunc].toArray := fun w => ⟨_, Try.zeroValue131 w, rfl⟩
theorem ze132 : ∀ w, ∃ z, (zeroValue 132).run Try.prog w = .ok z w ∧ z.cells = [.pointer none].toArray := fun w => ⟨_, Try.zeroValue132 w, rfl⟩
theorem ze133 : ∀ w, ∃ z, (zeroValue 133).run Try.prog w = .ok z w ∧ z.cells = [.nilFunc].toArray := fun w => ⟨_, Try.zeroValue133 w, rfl⟩
theorem ze134 : ∀ w, ∃ z, (zeroValue 134).run Try.prog w = .ok z w ∧ z.cells = [.nilFunc].toArray := fun w => ⟨_, Try.zeroValue134 w, rfl⟩
theorem ze135 : ∀ w, ∃ z, (zeroValue 135).run Try.prog w = .ok z w ∧ z.cells = [.nilFunc].toArray := fun w => ⟨_, Try.zeroValue135 w, rfl⟩
theorem ze136 : ∀ w, ∃ z, (zeroValue 136).run Try.prog w = .ok z w ∧ z.cells = [.nilFunc].toArray := fun w => ⟨_, Try.zeroValue136 w, rfl⟩
theorem ze137 : ∀ w, ∃ z, (zeroValue 137).run Try.prog w = .ok z w ∧ z.cells = [.pointer none].toArray := fun w => ⟨_, Try.zeroValue137 w, rfl⟩
theorem ze139 : ∀ w, ∃ z, (zeroValue 139).run Try.prog w = .ok z w ∧ z.cells = [.nilFunc].toArray := fun w => ⟨_, Try.zeroValue139 w, rfl⟩
theorem ze140 : ∀ w, ∃ z, (zeroValue 140).run Try.prog w = .ok z w ∧ z.cells = [.nilFunc].toArray := fun w => ⟨_, Try.zeroValue140 w, rfl⟩
theorem ze141 : ∀ w, ∃ z, (zeroValue 141).run Try.prog w = .ok z w ∧ z.cells = [.nilFunc].toArray := fun w => ⟨_, Try.zeroValue141 w, rfl⟩
theorem ze142 : ∀ w, ∃ z, (zeroValue 142).run Try.prog w = .ok z w ∧ z.cells = [.pointer none].toArray := fun w => ⟨_, Try.zeroValue142 w, rfl⟩
theorem ze144 : ∀ w, ∃ z, (zeroValue 144).run Try.prog w = .ok z w ∧ z.cells = [.nilFunc].toArray := fun w => ⟨_, Try.zeroValue144 w, rfl⟩
theorem ze145 : ∀ w, ∃ z, (zeroValue 145).run Try.prog w = .ok z w ∧ z.cells = [.nilFunc].toArray := fun w => ⟨_, Try.zeroValue145 w, rfl⟩
theorem ze146 : ∀ w, ∃ z, (zeroValue 146).run Try.prog w = .ok z w ∧ z.cells = [.nilFunc].toArray := fun w => ⟨_, Try.zeroValue146 w, rfl⟩
theorem ze147 : ∀ w, ∃ z, (zeroValue 147).run Try.prog w = .ok z w ∧ z.cells = [.nilFunc].toArray := fun w => ⟨_, Try.zeroValue147 w, rfl⟩
theorem ze148 : ∀ w, ∃ z, (zeroValue 148).run Try.prog w = .ok z w ∧ z.cells = [.pointer none].toArray := fun w => ⟨_, Try.zeroValue148 w, rfl⟩
theorem ze149 : ∀ w, ∃ z, (zeroValue 149).run Try.prog w = .ok z w ∧ z.cells = [.nilFunc].toArray := fun w => ⟨_, Try.zeroValue149 w, rfl⟩
theorem ze150 : ∀ w, ∃ z, (zeroValue 150).run Try.prog w = .ok z w ∧ z.cells = [.pointer none, .pointer none, .pointer none, .string ⟨#[]⟩].toArray := fun w => ⟨_, Try.zeroValue150 w, rfl⟩
theorem ze151 : ∀ w, ∃ z, (zeroValue 151).run Try.prog w = .ok z w ∧ z.cells = [.pointer none, .pointer none, .pointer none, .string ⟨#[]⟩].toArray := fun w => ⟨_, Try.zeroValue151 w, rfl⟩
theorem ze152 : ∀ w, ∃ z, (zeroValue 152).run Try.prog w = .ok z w ∧ z.cells = [].toArray := fun w => ⟨_, Try.zeroValue152 w, rfl⟩
theorem ze155 : ∀ w, ∃ z, (zeroValue 155).run Try.prog w = .ok z w ∧ z.cells = [.int .u8 0].toArray := fun w => ⟨_, Try.zeroValue155 w, rfl⟩
theorem ze156 : ∀ w, ∃ z, (zeroValue 156).run Try.prog w = .ok z w ∧ z.cells = [.int .u8 0].toArray := fun w => ⟨_, Try.zeroValue156 w, rfl⟩
theorem ze157 : ∀ w, ∃ z, (zeroValue 157).run Try.prog w = .ok z w ∧ z.cells = [.nilFunc].toArray := fun w => ⟨_, Try.zeroValue157 w, rfl⟩
theorem ze158 : ∀ w, ∃ z, (zeroValue 158).run Try.prog w = .ok z w ∧ z.cells = [.pointer none].toArray := fun w => ⟨_, Try.zeroValue158 w, rfl⟩
theorem ze159 : ∀ w, ∃ z, (zeroValue 159).run Try.prog w = .ok z w ∧ z.cells = [.int .i32 0].toArray := fun w => ⟨_, Try.zeroValue159 w, rfl⟩
theorem ze160 : ∀ w, ∃ z, (zeroValue 160).run Try.prog w = .ok z w ∧ z.cells = [.int .i32 0].toArray := fun w => ⟨_, Try.zeroValue160 w, rfl⟩
theorem ze161 : ∀ w, ∃ z, (zeroValue 161).run Try.prog w = .ok z w ∧ z.cells = [.int .u64 0, .int .u64 0, .int .u32 0, .int .u8 0, .int .u8 0, .int .u8 0, .int .u8 0, .nilFunc, .pointer none, .int .i32 0, .int .i32 0].toArray := fun w => ⟨_, Try.zeroValue161 w, rfl⟩
theorem ze162 : ∀ w, ∃ z, (zeroValue 162).run Try.prog w = .ok z w ∧ z.cells = [.int .u64 0, .int .u64 0, .int .u32 0, .int .u8 0, .int .u8 0, .int .u8 0, .int .u8 0, .nilFunc, .pointer none, .int .i32 0, .int .i32 0].toArray := fun w => ⟨_, Try.zeroValue162 w, rfl⟩
theorem ty1 : TyS Try.prog 1 1 false := ⟨Try.sizeOf1, Try.isAgg1⟩
theorem ty2 : TyS Try.prog 2 1 false := ⟨Try.sizeOf2, Try.isAgg2⟩
theorem ty3 : TyS Try.prog 3 1 false := ⟨Try.sizeOf3, Try.isAgg3⟩
theorem ty4 : TyS Try.prog 4 1 false := ⟨Try.sizeOf4, Try.isAgg4⟩
theorem ty5 : TyS Try.prog 5 1 false := ⟨Try.sizeOf5, Try.isAgg5⟩
theorem ty6 : TyS Try.prog 6 1 false := ⟨Try.sizeOf6, Try.isAgg6⟩
theorem ty7 : TyS Try.prog 7 4 true := ⟨Try.sizeOf7, Try.isAgg7⟩
theorem str7 : StrS Try.prog 7 [.int .i64 0, .int .i64 0, .bool false, .int .u8 0] [(0, 1), (1, 1), (2, 1), (3, 1)] := strS Try.zeroValue7 Try.underlying7 (fun w => by kernel_rfl)
theorem fld7_0 : FldS Try.prog 7 0 0 := ⟨fun a w => by kernel_rfl⟩
theorem fld7_1 : FldS Try.prog 7 1 1 := ⟨fun a w => by kernel_rfl⟩
theorem fld7_2 : FldS Try.prog 7 2 2 := ⟨fun a w => by kernel_rfl⟩
theorem fld7_3 : FldS Try.prog 7 3 3 := ⟨fun a w => by kernel_rfl⟩
theorem prt7_0 : PartS Try.prog 7 0 0 1 false := partS Try.underlying7 (by kernel_rfl) ty2 (by decide)
theorem prt7_1 : PartS Try.prog 7 1 1 1 false := partS Try.underlying7 (by kernel_rfl) ty3 (by decide)
theorem prt7_2 : PartS Try.prog 7 2 2 1 false := partS Try.underlying7 (by kernel_rfl) ty4 (by decide)
theorem prt7_3 : PartS Try.prog 7 3 3 1 false := partS Try.underlying7 (by kernel_rfl) ty6 (by decide)
theorem ty8 : TyS Try.prog 8 4 true := ⟨Try.sizeOf8, Try.isAgg8⟩
theorem str8 : StrS Try.prog 8 [.int .i64 0, .int .i64 0, .bool false, .int .u8 0] [(0, 1), (1, 1), (2, 1), (3, 1)] := strS Try.zeroValue8 Try.underlying8 (fun w => by kernel_rfl)
theorem fld8_0 : FldS Try.prog 8 0 0 := ⟨fun a w => by kernel_rfl⟩
theorem fld8_1 : FldS Try.prog 8 1 1 := ⟨fun a w => by kernel_rfl⟩
theorem fld8_2 : FldS Try.prog 8 2 2 := ⟨fun a w => by kernel_rfl⟩
theorem fld8_3 : FldS Try.prog 8 3 3 := ⟨fun a w => by kernel_rfl⟩
theorem prt8_0 : PartS Try.prog 8 0 0 1 false := partS Try.underlying8 (by kernel_rfl) ty2 (by decide)
theorem prt8_1 : PartS Try.prog 8 1 1 1 false := partS Try.underlying8 (by kernel_rfl) ty3 (by decide)
theorem prt8_2 : PartS Try.prog 8 2 2 1 false := partS Try.underlying8 (by kernel_rfl) ty4 (by decide)
theorem prt8_3 : PartS Try.prog 8 3 3 1 false := partS Try.underlying8 (by kernel_rfl) ty6 (by decide)
theorem ty9 : TyS Try.prog 9 1 false := ⟨Try.sizeOf9, Try.isAgg9⟩
theorem ty10 : TyS Try.prog 10 1 false := ⟨Try.sizeOf10, Try.isAgg10⟩
theorem ty11 : TyS Try.prog 11 1 false := ⟨Try.sizeOf11, Try.isAgg11⟩
theorem ty12 : TyS Try.prog 12 1 false := ⟨Try.sizeOf12, Try.isAgg12⟩
theorem ty13 : TyS Try.prog 13 2 true := ⟨Try.sizeOf13, Try.isAgg13⟩
theorem str13 : StrS Try.prog 13 [.string ⟨#[]⟩, .int .u64 0] [(0, 1), (1, 1)] := strS Try.zeroValue13 Try.underlying13 (fun w => by kernel_rfl)
theorem fld13_0 : FldS Try.prog 13 0 0 := ⟨fun a w => by kernel_rfl⟩
theorem fld13_1 : FldS Try.prog 13 1 1 := ⟨fun a w => by kernel_rfl⟩
theorem prt13_0 : PartS Try.prog 13 0 0 1 false := partS Try.underlying13 (by kernel_rfl) ty9 (by decide)
theorem prt13_1 : PartS Try.prog 13 1 1 1 false := partS Try.underlying13 (by kernel_rfl) ty12 (by decide)
theorem ty14 : TyS Try.prog 14 2 true := ⟨Try.sizeOf14, Try.isAgg14⟩
theorem str14 : StrS Try.prog 14 [.string ⟨#[]⟩, .int .u64 0] [(0, 1), (1, 1)] := strS Try.zeroValue14 Try.underlying14 (fun w => by kernel_rfl)
theorem fld14_0 : FldS Try.prog 14 0 0 := ⟨fun a w => by kernel_rfl⟩
theorem fld14_1 : FldS Try.prog 14 1 1 := ⟨fun a w => by kernel_rfl⟩
theorem prt14_0 : PartS Try.prog 14 0 0 1 false := partS Try.underlying14 (by kernel_rfl) ty9 (by decide)
theorem prt14_1 : PartS Try.prog 14 1 1 1 false := partS Try.underlying14 (by kernel_rfl) ty12 (by decide)
theorem ty15 : TyS Try.prog 15 1 false := ⟨Try.sizeOf15, Try.isAgg15⟩
theorem ty16 : TyS Try.prog 16 1 false := ⟨Try.sizeOf16, Try.isAgg16⟩
theorem ty17 : TyS Try.prog 17 1 false := ⟨Try.sizeOf17, Try.isAgg17⟩
theorem ty18 : TyS Try.prog 18 1 true := ⟨Try.sizeOf18, Try.isAgg18⟩
theorem str18 : StrS Try.prog 18 [.pointer none] [(0, 1)] := strS Try.zeroValue18 Try.underlying18 (fun w => by kernel_rfl)
theorem fld18_0 : FldS Try.prog 18 0 0 := ⟨fun a w => by kernel_rfl⟩
theorem prt18_0 : PartS Try.prog 18 0 0 1 false := partS Try.underlying18 (by kernel_rfl) ty17 (by decide)
theorem ty19 : TyS Try.prog 19 1 true := ⟨Try.sizeOf19, Try.isAgg19⟩
theorem str19 : StrS Try.prog 19 [.pointer none] [(0, 1)] := strS Try.zeroValue19 Try.underlying19 (fun w => by kernel_rfl)
theorem fld19_0 : FldS Try.prog 19 0 0 := ⟨fun a w => by kernel_rfl⟩
theorem prt19_0 : PartS Try.prog 19 0 0 1 false := partS Try.underlying19 (by kernel_rfl) ty17 (by decide)
theorem ty21 : TyS Try.prog 21 1 false := ⟨Try.sizeOf21, Try.isAgg21⟩
theorem ty22 : TyS Try.prog 22 1 false := ⟨Try.sizeOf22, Try.isAgg22⟩
theorem sl22 : SlS Try.prog 22 3 1 := ⟨Try.underlying22, Try.sizeOf3⟩
theorem app22 : AppS Try.prog 22 3 1 8 := ⟨Try.underlying22, (by obtain ⟨i, h1, h2, h3, h4⟩ := info_parts (by kernel_rfl : (Try.prog.info? 3).map (fun i => (i.zero, i.size, i.bytes)) = some (some (.int .i64 0), 1, 8)); exact ⟨i, _, h1, h2, h3, h4, rfl⟩), by decide⟩
theorem sli22 : SliS Try.prog 22 3 1 [.int .i64 0] := ⟨Try.underlying22, Try.sizeOf3, ze3, rfl⟩
theorem ty23 : TyS Try.prog 23 1 false := ⟨Try.sizeOf23, Try.isAgg23⟩
theorem ty24 : TyS Try.prog 24 1 false := ⟨Try.sizeOf24, Try.isAgg24⟩
theorem ty25 : TyS Try.prog 25 1 false := ⟨Try.sizeOf25, Try.isAgg25⟩
theorem sl25 : SlS Try.prog 25 32 5 := ⟨Try.underlying25, Try.sizeOf32⟩
theorem app25 : AppS Try.prog 25 32 5 72 := ⟨Try.underlying25, (by obtain ⟨i, h1, h2, h3, h4⟩ := info_parts (by kernel_rfl : (Try.prog.info? 32).map (fun i => (i.zero, i.size, i.bytes)) = some (some (.agg #[.int .i64 0, .int .i64 0, .bool false, .slice none 0 0, .slice none 0 0]), 5, 72)); exact ⟨i, _, h1, h2, h3, h4, rfl⟩), by decide⟩
theorem sli25 : SliS Try.prog 25 32 5 [.int .i64 0, .int .i64 0, .bool false, .slice none 0 0, .slice none 0 0] := ⟨Try.underlying25, Try.sizeOf32, ze32, rfl⟩
theorem ty26 : TyS Try.prog 26 1 true := ⟨Try.sizeOf26, Try.isAgg26⟩
theorem str26 : StrS Try.prog 26 [.slice none 0 0] [(0, 1)] := strS Try.zeroValue26 Try.underlying26 (fun w => by kernel_rfl)
theorem fld26_0 : FldS Try.prog 26 0 0 := ⟨fun a w => by kernel_rfl⟩
theorem prt26_0 : PartS Try.prog 26 0 0 1 false := partS Try.underlying26 (by kernel_rfl) ty25 (by decide)
theorem ty27 : TyS Try.prog 27 1 true := ⟨Try.sizeOf27, Try.isAgg27⟩
theorem str27 : StrS Try.prog 27 [.slice none 0 0] [(0, 1)] := strS Try.zeroValue27 Try.underlying27 (fun w => by kernel_rfl)
theorem fld27_0 : FldS Try.prog 27 0 0 := ⟨fun a w => by kernel_rfl⟩
theorem prt27_0 : PartS Try.prog 27 0 0 1 false := partS Try.underlying27 (by kernel_rfl) ty25 (by decide)
theorem ty28 : TyS Try.prog 28 1 false := ⟨Try.sizeOf28, Try.isAgg28⟩
theorem ty29 : TyS Try.prog 29 1 false := ⟨Try.sizeOf29, Try.isAgg29⟩
theorem sl29 : SlS Try.prog 29 51 3 := ⟨Try.underlying29, Try.sizeOf51⟩
theorem app29 : AppS Try.prog 29 51 3 24 := ⟨Try.underlying29, (by obtain ⟨i, h1, h2, h3, h4⟩ := info_parts (by kernel_rfl : (Try.prog.info? 51).map (fun i => (i.zero, i.size, i.bytes)) = some (some (.agg #[.int .i64 0, .int .i64 0, .int .i64 0]), 3, 24)); exact ⟨i, _, h1, h2, h3, h4, rfl⟩), by decide⟩
theorem sli29 : SliS Try.prog 29 51 3 [.int .i64 0, .int .i64 0, .int .i64 0] := ⟨Try.underlying29, Try.sizeOf51, ze51, rfl⟩
theorem ty30 : TyS Try.prog 30 1 false := ⟨Try.sizeOf30, Try.isAgg30⟩
theorem sl30 : SlS Try.prog 30 54 3 := ⟨Try.underlying30, Try.sizeOf54⟩
theorem app30 : AppS Try.prog 30 54 3 24 := ⟨Try.underlying30, (by obtain ⟨i, h1, h2, h3, h4⟩ := info_parts (by kernel_rfl : (Try.prog.info? 54).map (fun i => (i.zero, i.size, i.bytes)) = some (some (.agg #[.int .i64 0, .int .i64 0, .int .i64 0]), 3, 24)); exact ⟨i, _, h1, h2, h3, h4, rfl⟩), by decide⟩
theorem sli30 : SliS Try.prog 30 54 3 [.int .i64 0, .int .i64 0, .int .i64 0] := ⟨Try.underlying30, Try.sizeOf54, ze54, rfl⟩
theorem ty31 : TyS Try.prog 31 5 true := ⟨Try.sizeOf31, Try.isAgg31⟩
theorem str31 : StrS Try.prog 31 [.int .i64 0, .int .i64 0, .bool false, .slice none 0 0, .slice none 0 0] [(0, 1), (1, 1), (2, 1), (3, 1), (4, 1)] := strS Try.zeroValue31 Try.underlying31 (fun w => by kernel_rfl)
theorem fld31_0 : FldS Try.prog 31 0 0 := ⟨fun a w => by kernel_rfl⟩
theorem fld31_1 : FldS Try.prog 31 1 1 := ⟨fun a w => by kernel_rfl⟩
theorem fld31_2 : FldS Try.prog 31 2 2 := ⟨fun a w => by kernel_rfl⟩
theorem fld31_3 : FldS Try.prog 31 3 3 := ⟨fun a w => by kernel_rfl⟩
theorem fld31_4 : FldS Try.prog 31 4 4 := ⟨fun a w => by kernel_rfl⟩
theorem prt31_0 : PartS Try.prog 31 0 0 1 false := partS Try.underlying31 (by kernel_rfl) ty3 (by decide)
theorem prt31_1 : PartS Try.prog 31 1 1 1 false := partS Try.underlying31 (by kernel_rfl) ty3 (by decide)
theorem prt31_2 : PartS Try.prog 31 2 2 1 false := partS Try.underlying31 (by kernel_rfl) ty4 (by decide)
theorem prt31_3 : PartS Try.prog 31 3 3 1 false := partS Try.underlying31 (by kernel_rfl) ty29 (by decide)
theorem prt31_4 : PartS Try.prog 31 4 4 1 false := partS Try.underlying31 (by kernel_rfl) ty30 (by decide)
theorem ty32 : TyS Try.prog 32 5 true := ⟨Try.sizeOf32, Try.isAgg32⟩
theorem str32 : StrS Try.prog 32 [.int .i64 0, .int .i64 0, .bool false, .slice none 0 0, .slice none 0 0] [(0, 1), (1, 1), (2, 1), (3, 1), (4, 1)] := strS Try.zeroValue32 Try.underlying32 (fun w => by kernel_rfl)
theorem fld32_0 : FldS Try.prog 32 0 0 := ⟨fun a w => by kernel_rfl⟩
theorem fld32_1 : FldS Try.prog 32 1 1 := ⟨fun a w => by kernel_rfl⟩
theorem fld32_2 : FldS Try.prog 32 2 2 := ⟨fun a w => by kernel_rfl⟩
theorem fld32_3 : FldS Try.prog 32 3 3 := ⟨fun a w => by kernel_rfl⟩
theorem fld32_4 : FldS Try.prog 32 4 4 := ⟨fun a w => by kernel_rfl⟩
theorem prt32_0 : PartS Try.prog 32 0 0 1 false := partS Try.underlying32 (by kernel_rfl) ty3 (by decide)
theorem prt32_1 : PartS Try.prog 32 1 1 1 false := partS Try.underlying32 (by kernel_rfl) ty3 (by decide)
theorem prt32_2 : PartS Try.prog 32 2 2 1 false := partS Try.underlying32 (by kernel_rfl) ty4 (by decide)
theorem prt32_3 : PartS Try.prog 32 3 3 1 false := partS Try.underlying32 (by kernel_rfl) ty29 (by decide)
theorem prt32_4 : PartS Try.prog 32 4 4 1 false := partS Try.underlying32 (by kernel_rfl) ty30 (by decide)
theorem ty33 : TyS Try.prog 33 1 false := ⟨Try.sizeOf33, Try.isAgg33⟩
theorem ty35 : TyS Try.prog 35 1 false := ⟨Try.sizeOf35, Try.isAgg35⟩
theorem ty36 : TyS Try.prog 36 1 false := ⟨Try.sizeOf36, Try.isAgg36⟩
theorem ty37 : TyS Try.prog 37 1 false := ⟨Try.sizeOf37, Try.isAgg37⟩
theorem sl37 : SlS Try.prog 37 62 2 := ⟨Try.underlying37, Try.sizeOf62⟩
theorem app37 : AppS Try.prog 37 62 2 16 := ⟨Try.underlying37, (by obtain ⟨i, h1, h2, h3, h4⟩ := info_parts (by kernel_rfl : (Try.prog.info? 62).map (fun i => (i.zero, i.size, i.bytes)) = some (some (.agg #[.int .i64 0, .bool false]), 2, 16)); exact ⟨i, _, h1, h2, h3, h4, rfl⟩), by decide⟩
theorem sli37 : SliS Try.prog 37 62 2 [.int .i64 0, .bool false] := ⟨Try.underlying37, Try.sizeOf62, ze62, rfl⟩
theorem ty38 : TyS Try.prog 38 1 false := ⟨Try.sizeOf38, Try.isAgg38⟩
theorem sl38 : SlS Try.prog 38 64 5 := ⟨Try.underlying38, Try.sizeOf64⟩
theorem app38 : AppS Try.prog 38 64 5 40 := ⟨Try.underlying38, (by obtain ⟨i, h1, h2, h3, h4⟩ := info_parts (by kernel_rfl : (Try.prog.info? 64).map (fun i => (i.zero, i.size, i.bytes)) = some (some (.agg #[.int .i64 0, .int .i64 0, .int .i64 0, .int .i64 0, .int .i64 0]), 5, 40)); exact ⟨i, _, h1, h2, h3, h4, rfl⟩), by decide⟩
theorem sli38 : SliS Try.prog 38 64 5 [.int .i64 0, .int .i64 0, .int .i64 0, .int .i64 0, .int .i64 0] := ⟨Try.underlying38, Try.sizeOf64, ze64, rfl⟩
theorem ty39 : TyS Try.prog 39 2 true := ⟨Try.sizeOf39, Try.isAgg39⟩
theorem str39 : StrS Try.prog 39 [.slice none 0 0, .slice none 0 0] [(0, 1), (1, 1)] := strS Try.zeroValue39 Try.underlying39 (fun w => by kernel_rfl)
theorem fld39_0 : FldS Try.prog 39 0 0 := ⟨fun a w => by kernel_rfl⟩
theorem fld39_1 : FldS Try.prog 39 1 1 := ⟨fun a w => by kernel_rfl⟩
theorem prt39_0 : PartS Try.prog 39 0 0 1 false := partS Try.underlying39 (by kernel_rfl) ty37 (by decide)
theorem prt39_1 : PartS Try.prog 39 1 1 1 false := partS Try.underlying39 (by kernel_rfl) ty38 (by decide)
theorem ty40 : TyS Try.prog 40 2 true := ⟨Try.sizeOf40, Try.isAgg40⟩
theorem str40 : StrS Try.prog 40 [.slice none 0 0, .slice none 0 0] [(0, 1), (1, 1)] := strS Try.zeroValue40 Try.underlying40 (fun w => by kernel_rfl)
theorem fld40_0 : FldS Try.prog 40 0 0 := ⟨fun a w => by kernel_rfl⟩
theorem fld40_1 : FldS Try.prog 40 1 1 := ⟨fun a w => by kernel_rfl⟩
theorem prt40_0 : PartS Try.prog 40 0 0 1 false := partS Try.underlying40 (by kernel_rfl) ty37 (by decide)
theorem prt40_1 : PartS Try.prog 40 1 1 1 false := partS Try.underlying40 (by kernel_rfl) ty38 (by decide)
theorem ty41 : TyS Try.prog 41 1 false := ⟨Try.sizeOf41, Try.isAgg41⟩
theorem ty42 : TyS Try.prog 42 1 false := ⟨Try.sizeOf42, Try.isAgg42⟩
theorem ty43 : TyS Try.prog 43 1 false := ⟨Try.sizeOf43, Try.isAgg43⟩
theorem ty44 : TyS Try.prog 44 2 true := ⟨Try.sizeOf44, Try.isAgg44⟩
theorem str44 : StrS Try.prog 44 [.slice none 0 0, .int .i64 0] [(0, 1), (1, 1)] := strS Try.zeroValue44 Try.underlying44 (fun w => by kernel_rfl)
theorem fld44_0 : FldS Try.prog 44 0 0 := ⟨fun a w => by kernel_rfl⟩
theorem fld44_1 : FldS Try.prog 44 1 1 := ⟨fun a w => by kernel_rfl⟩
theorem prt44_0 : PartS Try.prog 44 0 0 1 false := partS Try.underlying44 (by kernel_rfl) ty22 (by decide)
theorem prt44_1 : PartS Try.prog 44 1 1 1 false := partS Try.underlying44 (by kernel_rfl) ty3 (by decide)
theorem ty45 : TyS Try.prog 45 2 true := ⟨Try.sizeOf45, Try.isAgg45⟩
theorem str45 : StrS Try.prog 45 [.slice none 0 0, .int .i64 0] [(0, 1), (1, 1)] := strS Try.zeroValue45 Try.underlying45 (fun w => by kernel_rfl)
theorem fld45_0 : FldS Try.prog 45 0 0 := ⟨fun a w => by kernel_rfl⟩
theorem fld45_1 : FldS Try.prog 45 1 1 := ⟨fun a w => by kernel_rfl⟩
theorem prt45_0 : PartS Try.prog 45 0 0 1 false := partS Try.underlying45 (by kernel_rfl) ty22 (by decide)
theorem prt45_1 : PartS Try.prog 45 1 1 1 false := partS Try.underlying45 (by kernel_rfl) ty3 (by decide)
theorem ty46 : TyS Try.prog 46 1 false := ⟨Try.sizeOf46, Try.isAgg46⟩
theorem ty47 : TyS Try.prog 47 1 false := ⟨Try.sizeOf47, Try.isAgg47⟩
theorem ty48 : TyS Try.prog 48 1 false := ⟨Try.sizeOf48, Try.isAgg48⟩
theorem ty49 : TyS Try.prog 49 1 false := ⟨Try.sizeOf49, Try.isAgg49⟩
theorem ty50 : TyS Try.prog 50 3 true := ⟨Try.sizeOf50, Try.isAgg50⟩
theorem str50 : StrS Try.prog 50 [.int .i64 0, .int .i64 0, .int .i64 0] [(0, 1), (1, 1), (2, 1)] := strS Try.zeroValue50 Try.underlying50 (fun w => by kernel_rfl)
theorem fld50_0 : FldS Try.prog 50 0 0 := ⟨fun a w => by kernel_rfl⟩
theorem fld50_1 : FldS Try.prog 50 1 1 := ⟨fun a w => by kernel_rfl⟩
theorem fld50_2 : FldS Try.prog 50 2 2 := ⟨fun a w => by kernel_rfl⟩
theorem prt50_0 : PartS Try.prog 50 0 0 1 false := partS Try.underlying50 (by kernel_rfl) ty3 (by decide)
theorem prt50_1 : PartS Try.prog 50 1 1 1 false := partS Try.underlying50 (by kernel_rfl) ty3 (by decide)
theorem prt50_2 : PartS Try.prog 50 2 2 1 false := partS Try.underlying50 (by kernel_rfl) ty3 (by decide)
theorem ty51 : TyS Try.prog 51 3 true := ⟨Try.sizeOf51, Try.isAgg51⟩
theorem str51 : StrS Try.prog 51 [.int .i64 0, .int .i64 0, .int .i64 0] [(0, 1), (1, 1), (2, 1)] := strS Try.zeroValue51 Try.underlying51 (fun w => by kernel_rfl)
theorem fld51_0 : FldS Try.prog 51 0 0 := ⟨fun a w => by kernel_rfl⟩
theorem fld51_1 : FldS Try.prog 51 1 1 := ⟨fun a w => by kernel_rfl⟩
theorem fld51_2 : FldS Try.prog 51 2 2 := ⟨fun a w => by kernel_rfl⟩
theorem prt51_0 : PartS Try.prog 51 0 0 1 false := partS Try.underlying51 (by kernel_rfl) ty3 (by decide)
theorem prt51_1 : PartS Try.prog 51 1 1 1 false := partS Try.underlying51 (by kernel_rfl) ty3 (by decide)
theorem prt51_2 : PartS Try.prog 51 2 2 1 false := partS Try.underlying51 (by kernel_rfl) ty3 (by decide)
theorem ty52 : TyS Try.prog 52 1 false := ⟨Try.sizeOf52, Try.isAgg52⟩
theorem ty53 : TyS Try.prog 53 3 true := ⟨Try.sizeOf53, Try.isAgg53⟩
theorem str53 : StrS Try.prog 53 [.int .i64 0, .int .i64 0, .int .i64 0] [(0, 1), (1, 1), (2, 1)] := strS Try.zeroValue53 Try.underlying53 (fun w => by kernel_rfl)
theorem fld53_0 : FldS Try.prog 53 0 0 := ⟨fun a w => by kernel_rfl⟩
theorem fld53_1 : FldS Try.prog 53 1 1 := ⟨fun a w => by kernel_rfl⟩
theorem fld53_2 : FldS Try.prog 53 2 2 := ⟨fun a w => by kernel_rfl⟩
theorem prt53_0 : PartS Try.prog 53 0 0 1 false := partS Try.underlying53 (by kernel_rfl) ty3 (by decide)
theorem prt53_1 : PartS Try.prog 53 1 1 1 false := partS Try.underlying53 (by kernel_rfl) ty3 (by decide)
theorem prt53_2 : PartS Try.prog 53 2 2 1 false := partS Try.underlying53 (by kernel_rfl) ty3 (by decide)
theorem ty54 : TyS Try.prog 54 3 true := ⟨Try.sizeOf54, Try.isAgg54⟩
theorem str54 : StrS Try.prog 54 [.int .i64 0, .int .i64 0, .int .i64 0] [(0, 1), (1, 1), (2, 1)] := strS Try.zeroValue54 Try.underlying54 (fun w => by kernel_rfl)
theorem fld54_0 : FldS Try.prog 54 0 0 := ⟨fun a w => by kernel_rfl⟩
theorem fld54_1 : FldS Try.prog 54 1 1 := ⟨fun a w => by kernel_rfl⟩
theorem fld54_2 : FldS Try.prog 54 2 2 := ⟨fun a w => by kernel_rfl⟩
theorem prt54_0 : PartS Try.prog 54 0 0 1 false := partS Try.underlying54 (by kernel_rfl) ty3 (by decide)
theorem prt54_1 : PartS Try.prog 54 1 1 1 false := partS Try.underlying54 (by kernel_rfl) ty3 (by decide)
theorem prt54_2 : PartS Try.prog 54 2 2 1 false := partS Try.underlying54 (by kernel_rfl) ty3 (by decide)
theorem ty55 : TyS Try.prog 55 1 false := ⟨Try.sizeOf55, Try.isAgg55⟩
theorem ty56 : TyS Try.prog 56 1 false := ⟨Try.sizeOf56, Try.isAgg56⟩
theorem ty57 : TyS Try.prog 57 1 false := ⟨Try.sizeOf57, Try.isAgg57⟩
theorem ty58 : TyS Try.prog 58 1 false := ⟨Try.sizeOf58, Try.isAgg58⟩
theorem ty59 : TyS Try.prog 59 1 false := ⟨Try.sizeOf59, Try.isAgg59⟩
theorem ty60 : TyS Try.prog 60 1 false := ⟨Try.sizeOf60, Try.isAgg60⟩
theorem ty61 : TyS Try.prog 61 2 true := ⟨Try.sizeOf61, Try.isAgg61⟩
theorem str61 : StrS Try.prog 61 [.int .i64 0, .bool false] [(0, 1), (1, 1)] := strS Try.zeroValue61 Try.underlying61 (fun w => by kernel_rfl)
theorem fld61_0 : FldS Try.prog 61 0 0 := ⟨fun a w => by kernel_rfl⟩
theorem fld61_1 : FldS Try.prog 61 1 1 := ⟨fun a w => by kernel_rfl⟩
theorem prt61_0 : PartS Try.prog 61 0 0 1 false := partS Try.underlying61 (by kernel_rfl) ty3 (by decide)
theorem prt61_1 : PartS Try.prog 61 1 1 1 false := partS Try.underlying61 (by kernel_rfl) ty4 (by decide)
theorem ty62 : TyS Try.prog 62 2 true := ⟨Try.sizeOf62, Try.isAgg62⟩
theorem str62 : StrS Try.prog 62 [.int .i64 0, .bool false] [(0, 1), (1, 1)] := strS Try.zeroValue62 Try.underlying62 (fun w => by kernel_rfl)
theorem fld62_0 : FldS Try.prog 62 0 0 := ⟨fun a w => by kernel_rfl⟩
theorem fld62_1 : FldS Try.prog 62 1 1 := ⟨fun a w => by kernel_rfl⟩
theorem prt62_0 : PartS Try.prog 62 0 0 1 false := partS Try.underlying62 (by kernel_rfl) ty3 (by decide)
theorem prt62_1 : PartS Try.prog 62 1 1 1 false := partS Try.underlying62 (by kernel_rfl) ty4 (by decide)
theorem eqf62 (a0 b0 : Int) (a1 b1 : Bool) (w : World) : (Op.eqFields 9999 #[.int .i64 a0, .bool a1] #[.int .i64 b0, .bool b1] (Try.prog.fieldsOf 62).toList).run Try.prog w = .ok (decide (a0 = b0) && ((a1 == b1) && true)) w := by
  have hf : (Try.prog.fieldsOf 62).toList.map (fun f => (f.name == "_", f.type, f.offset)) = [(false, 3, 0), (false, 4, 1)] := by kernel_rfl
  have q : (Op.eqFields 9999 #[.int .i64 a0, .bool a1] #[.int .i64 b0, .bool b1] (Try.prog.fieldsOf 62).toList).run Try.prog w = .ok (decide (a0 = b0) && ((a1 == b1) && true)) w := by
    obtain ⟨f0, t0, e0, h0, hf⟩ := fields_cons hf
    obtain ⟨f1, t1, e1, h1, hf⟩ := fields_cons hf
    rw [e0, e1, fields_nil hf]
    exact eqF_int h0 Try.isAgg3 Try.underlying3 rfl rfl (eqF_bool h1 Try.isAgg4 Try.underlying4 rfl rfl (eqF_nil))
  exact q
theorem eq62_neq (x y : Operand) (a0 b0 : Int) (a1 b1 : Bool) (w : World) : (do eqGuard .neq 62 x y (.agg #[.int .i64 a0, .bool a1]) (.agg #[.int .i64 b0, .bool b1]); binOp .neq 62 (.agg #[.int .i64 a0, .bool a1]) (.agg #[.int .i64 b0, .bool b1]) : Sem Value).run Try.prog w = .ok (.bool (!(decide (a0 = b0) && ((a1 == b1) && true)))) w := eqS_neq _ _ _ x y (by kernel_rfl) (by kernel_rfl) (by kernel_rfl) (eqf62 a0 b0 a1 b1 w)
theorem ty63 : TyS Try.prog 63 5 true := ⟨Try.sizeOf63, Try.isAgg63⟩
theorem str63 : StrS Try.prog 63 [.int .i64 0, .int .i64 0, .int .i64 0, .int .i64 0, .int .i64 0] [(0, 1), (1, 1), (2, 1), (3, 1), (4, 1)] := strS Try.zeroValue63 Try.underlying63 (fun w => by kernel_rfl)
theorem fld63_0 : FldS Try.prog 63 0 0 := ⟨fun a w => by kernel_rfl⟩
theorem fld63_1 : FldS Try.prog 63 1 1 := ⟨fun a w => by kernel_rfl⟩
theorem fld63_2 : FldS Try.prog 63 2 2 := ⟨fun a w => by kernel_rfl⟩
theorem fld63_3 : FldS Try.prog 63 3 3 := ⟨fun a w => by kernel_rfl⟩
theorem fld63_4 : FldS Try.prog 63 4 4 := ⟨fun a w => by kernel_rfl⟩
theorem prt63_0 : PartS Try.prog 63 0 0 1 false := partS Try.underlying63 (by kernel_rfl) ty3 (by decide)
theorem prt63_1 : PartS Try.prog 63 1 1 1 false := partS Try.underlying63 (by kernel_rfl) ty3 (by decide)
theorem prt63_2 : PartS Try.prog 63 2 2 1 false := partS Try.underlying63 (by kernel_rfl) ty3 (by decide)
theorem prt63_3 : PartS Try.prog 63 3 3 1 false := partS Try.underlying63 (by kernel_rfl) ty3 (by decide)
theorem prt63_4 : PartS Try.prog 63 4 4 1 false := partS Try.underlying63 (by kernel_rfl) ty3 (by decide)
theorem ty64 : TyS Try.prog 64 5 true := ⟨Try.sizeOf64, Try.isAgg64⟩
theorem str64 : StrS Try.prog 64 [.int .i64 0, .int .i64 0, .int .i64 0, .int .i64 0, .int .i64 0] [(0, 1), (1, 1), (2, 1), (3, 1), (4, 1)] := strS Try.zeroValue64 Try.underlying64 (fun w => by kernel_rfl)
theorem fld64_0 : FldS Try.prog 64 0 0 := ⟨fun a w => by kernel_rfl⟩
theorem fld64_1 : FldS Try.prog 64 1 1 := ⟨fun a w => by kernel_rfl⟩
theorem fld64_2 : FldS Try.prog 64 2 2 := ⟨fun a w => by kernel_rfl⟩
theorem fld64_3 : FldS Try.prog 64 3 3 := ⟨fun a w => by kernel_rfl⟩
theorem fld64_4 : FldS Try.prog 64 4 4 := ⟨fun a w => by kernel_rfl⟩
theorem prt64_0 : PartS Try.prog 64 0 0 1 false := partS Try.underlying64 (by kernel_rfl) ty3 (by decide)
theorem prt64_1 : PartS Try.prog 64 1 1 1 false := partS Try.underlying64 (by kernel_rfl) ty3 (by decide)
theorem prt64_2 : PartS Try.prog 64 2 2 1 false := partS Try.underlying64 (by kernel_rfl) ty3 (by decide)
theorem prt64_3 : PartS Try.prog 64 3 3 1 false := partS Try.underlying64 (by kernel_rfl) ty3 (by decide)
theorem prt64_4 : PartS Try.prog 64 4 4 1 false := partS Try.underlying64 (by kernel_rfl) ty3 (by decide)
theorem eqf64 (a0 b0 : Int) (a1 b1 : Int) (a2 b2 : Int) (a3 b3 : Int) (a4 b4 : Int) (w : World) : (Op.eqFields 9999 #[.int .i64 a0, .int .i64 a1, .int .i64 a2, .int .i64 a3, .int .i64 a4] #[.int .i64 b0, .int .i64 b1, .int .i64 b2, .int .i64 b3, .int .i64 b4] (Try.prog.fieldsOf 64).toList).run Try.prog w = .ok (decide (a0 = b0) && (decide (a1 = b1) && (decide (a2 = b2) && (decide (a3 = b3) && (decide (a4 = b4) && true))))) w := by
  have hf : (Try.prog.fieldsOf 64).toList.map (fun f => (f.name == "_", f.type, f.offset)) = [(false, 3, 0), (false, 3, 1), (false, 3, 2), (false, 3, 3), (false, 3, 4)] := by kernel_rfl
  have q : (Op.eqFields 9999 #[.int .i64 a0, .int .i64 a1, .int .i64 a2, .int .i64 a3, .int .i64 a4] #[.int .i64 b0, .int .i64 b1, .int .i64 b2, .int .i64 b3, .int .i64 b4] (Try.prog.fieldsOf 64).toList).run Try.prog w = .ok (decide (a0 = b0) && (decide (a1 = b1) && (decide (a2 = b2) && (decide (a3 = b3) && (decide (a4 = b4) && true))))) w := by
    obtain ⟨f0, t0, e0, h0, hf⟩ := fields_cons hf
    obtain ⟨f1, t1, e1, h1, hf⟩ := fields_cons hf
    obtain ⟨f2, t2, e2, h2, hf⟩ := fields_cons hf
    obtain ⟨f3, t3, e3, h3, hf⟩ := fields_cons hf
    obtain ⟨f4, t4, e4, h4, hf⟩ := fields_cons hf
    rw [e0, e1, e2, e3, e4, fields_nil hf]
    exact eqF_int h0 Try.isAgg3 Try.underlying3 rfl rfl (eqF_int h1 Try.isAgg3 Try.underlying3 rfl rfl (eqF_int h2 Try.isAgg3 Try.underlying3 rfl rfl (eqF_int h3 Try.isAgg3 Try.underlying3 rfl rfl (eqF_int h4 Try.isAgg3 Try.underlying3 rfl rfl (eqF_nil)))))
  exact q
theorem eq64_eql (x y : Operand) (a0 b0 : Int) (a1 b1 : Int) (a2 b2 : Int) (a3 b3 : Int) (a4 b4 : Int) (w : World) : (do eqGuard .eql 64 x y (.agg #[.int .i64 a0, .int .i64 a1, .int .i64 a2, .int .i64 a3, .int .i64 a4]) (.agg #[.int .i64 b0, .int .i64 b1, .int .i64 b2, .int .i64 b3, .int .i64 b4]); binOp .eql 64 (.agg #[.int .i64 a0, .int .i64 a1, .int .i64 a2, .int .i64 a3, .int .i64 a4]) (.agg #[.int .i64 b0, .int .i64 b1, .int .i64 b2, .int .i64 b3, .int .i64 b4]) : Sem Value).run Try.prog w = .ok (.bool (decide (a0 = b0) && (decide (a1 = b1) && (decide (a2 = b2) && (decide (a3 = b3) && (decide (a4 = b4) && true)))))) w := eqS_eql _ _ _ x y (by kernel_rfl) (by kernel_rfl) (by kernel_rfl) (eqf64 a0 b0 a1 b1 a2 b2 a3 b3 a4 b4 w)
theorem eq64_neq (x y : Operand) (a0 b0 : Int) (a1 b1 : Int) (a2 b2 : Int) (a3 b3 : Int) (a4 b4 : Int) (w : World) : (do eqGuard .neq 64 x y (.agg #[.int .i64 a0, .int .i64 a1, .int .i64 a2, .int .i64 a3, .int .i64 a4]) (.agg #[.int .i64 b0, .int .i64 b1, .int .i64 b2, .int .i64 b3, .int .i64 b4]); binOp .neq 64 (.agg #[.int .i64 a0, .int .i64 a1, .int .i64 a2, .int .i64 a3, .int .i64 a4]) (.agg #[.int .i64 b0, .int .i64 b1, .int .i64 b2, .int .i64 b3, .int .i64 b4]) : Sem Value).run Try.prog w = .ok (.bool (!(decide (a0 = b0) && (decide (a1 = b1) && (decide (a2 = b2) && (decide (a3 = b3) && (decide (a4 = b4) && true))))))) w := eqS_neq _ _ _ x y (by kernel_rfl) (by kernel_rfl) (by kernel_rfl) (eqf64 a0 b0 a1 b1 a2 b2 a3 b3 a4 b4 w)
theorem ty66 : TyS Try.prog 66 1 false := ⟨Try.sizeOf66, Try.isAgg66⟩
theorem ty67 : TyS Try.prog 67 1 false := ⟨Try.sizeOf67, Try.isAgg67⟩
theorem map67 : MapS Try.prog 67 3 4 .i64 := ⟨Try.underlying67, Try.underlying3⟩
theorem ty69 : TyS Try.prog 69 1 false := ⟨Try.sizeOf69, Try.isAgg69⟩
theorem ty70 : TyS Try.prog 70 1 false := ⟨Try.sizeOf70, Try.isAgg70⟩
theorem ty71 : TyS Try.prog 71 1 false := ⟨Try.sizeOf71, Try.isAgg71⟩
theorem ty72 : TyS Try.prog 72 1 false := ⟨Try.sizeOf72, Try.isAgg72⟩
theorem ty73 : TyS Try.prog 73 1 false := ⟨Try.sizeOf73, Try.isAgg73⟩
theorem ty74 : TyS Try.prog 74 1 false := ⟨Try.sizeOf74, Try.isAgg74⟩
theorem ty75 : TyS Try.prog 75 1 false := ⟨Try.sizeOf75, Try.isAgg75⟩
theorem ty76 : TyS Try.prog 76 1 false := ⟨Try.sizeOf76, Try.isAgg76⟩
theorem ty77 : TyS Try.prog 77 1 false := ⟨Try.sizeOf77, Try.isAgg77⟩
theorem ty78 : TyS Try.prog 78 1 false := ⟨Try.sizeOf78, Try.isAgg78⟩
theorem ty80 : TyS Try.prog 80 1 false := ⟨Try.sizeOf80, Try.isAgg80⟩
theorem ty81 : TyS Try.prog 81 1 false := ⟨Try.sizeOf81, Try.isAgg81⟩
theorem ty82 : TyS Try.prog 82 1 false := ⟨Try.sizeOf82, Try.isAgg82⟩
theorem ty83 : TyS Try.prog 83 1 false := ⟨Try.sizeOf83, Try.isAgg83⟩
theorem ty84 : TyS Try.prog 84 1 false := ⟨Try.sizeOf84, Try.isAgg84⟩
theorem ty85 : TyS Try.prog 85 1 false := ⟨Try.sizeOf85, Try.isAgg85⟩
theorem ty86 : TyS Try.prog 86 1 false := ⟨Try.sizeOf86, Try.isAgg86⟩
theorem ty87 : TyS Try.prog 87 1 false := ⟨Try.sizeOf87, Try.isAgg87⟩
theorem ty88 : TyS Try.prog 88 1 false := ⟨Try.sizeOf88, Try.isAgg88⟩
theorem ty89 : TyS Try.prog 89 1 false := ⟨Try.sizeOf89, Try.isAgg89⟩
theorem ty90 : TyS Try.prog 90 1 false := ⟨Try.sizeOf90, Try.isAgg90⟩
theorem ty91 : TyS Try.prog 91 1 false := ⟨Try.sizeOf91, Try.isAgg91⟩
theorem ty92 : TyS Try.prog 92 1 false := ⟨Try.sizeOf92, Try.isAgg92⟩
theorem ty93 : TyS Try.prog 93 1 false := ⟨Try.sizeOf93, Try.isAgg93⟩
theorem ty94 : TyS Try.prog 94 1 false := ⟨Try.sizeOf94, Try.isAgg94⟩
theorem ty95 : TyS Try.prog 95 1 false := ⟨Try.sizeOf95, Try.isAgg95⟩
theorem ty96 : TyS Try.prog 96 1 false := ⟨Try.sizeOf96, Try.isAgg96⟩
theorem ty97 : TyS Try.prog 97 1 false := ⟨Try.sizeOf97, Try.isAgg97⟩
theorem ty98 : TyS Try.prog 98 1 false := ⟨Try.sizeOf98, Try.isAgg98⟩
theorem ty99 : TyS Try.prog 99 1 false := ⟨Try.sizeOf99, Try.isAgg99⟩
theorem sl99 : SlS Try.prog 99 5 1 := ⟨Try.underlying99, Try.sizeOf5⟩
theorem app99 : AppS Try.prog 99 5 1 1 := ⟨Try.underlying99, (by obtain ⟨i, h1, h2, h3, h4⟩ := info_parts (by kernel_rfl : (Try.prog.info? 5).map (fun i => (i.zero, i.size, i.bytes)) = some (some (.int .u8 0), 1, 1)); exact ⟨i, _, h1, h2, h3, h4, rfl⟩), by decide⟩
theorem sli99 : SliS Try.prog 99 5 1 [.int .u8 0] := ⟨Try.underlying99, Try.sizeOf5, ze5, rfl⟩
theorem ty101 : TyS Try.prog 101 1 false := ⟨Try.sizeOf101, Try.isAgg101⟩
theorem ty102 : TyS Try.prog 102 1 false := ⟨Try.sizeOf102, Try.isAgg102⟩
theorem ty103 : TyS Try.prog 103 1 false := ⟨Try.sizeOf103, Try.isAgg103⟩
theorem ty104 : TyS Try.prog 104 1 false := ⟨Try.sizeOf104, Try.isAgg104⟩
theorem ty106 : TyS Try.prog 106 1 false := ⟨Try.sizeOf106, Try.isAgg106⟩
theorem ty107 : TyS Try.prog 107 1 false := ⟨Try.sizeOf107, Try.isAgg107⟩
theorem ty108 : TyS Try.prog 108 1 false := ⟨Try.sizeOf108, Try.isAgg108⟩
theorem ty109 : TyS Try.prog 109 1 false := ⟨Try.sizeOf109, Try.isAgg109⟩
theorem ty110 : TyS Try.prog 110 1 false := ⟨Try.sizeOf110, Try.isAgg110⟩
theorem ty111 : TyS Try.prog 111 1 false := ⟨Try.sizeOf111, Try.isAgg111⟩
theorem ty112 : TyS Try.prog 112 1 false := ⟨Try.sizeOf112, Try.isAgg112⟩
theorem ty113 : TyS Try.prog 113 1 false := ⟨Try.sizeOf113, Try.isAgg113⟩
theorem ty114 : TyS Try.prog 114 1 false := ⟨Try.sizeOf114, Try.isAgg114⟩
theorem ty115 : TyS Try.prog 115 1 false := ⟨Try.sizeOf115, Try.isAgg115⟩
theorem ty116 : TyS Try.prog 116 1 false := ⟨Try.sizeOf116, Try.isAgg116⟩
theorem ty117 : TyS Try.prog 117 1 false := ⟨Try.sizeOf117, Try.isAgg117⟩
theorem ty118 : TyS Try.prog 118 1 false := ⟨Try.sizeOf118, Try.isAgg118⟩
theorem ty119 : TyS Try.prog 119 1 false := ⟨Try.sizeOf119, Try.isAgg119⟩
theorem ty120 : TyS Try.prog 120 1 false := ⟨Try.sizeOf120, Try.isAgg120⟩
theorem ty121 : TyS Try.prog 121 2 true := ⟨Try.sizeOf121, Try.isAgg121⟩
theorem str121 : StrS Try.prog 121 [.slice none 0 0, .int .i64 0] [(0, 1), (1, 1)] := strS Try.zeroValue121 Try.underlying121 (fun w => by kernel_rfl)
theorem fld121_0 : FldS Try.prog 121 0 0 := ⟨fun a w => by kernel_rfl⟩
theorem fld121_1 : FldS Try.prog 121 1 1 := ⟨fun a w => by kernel_rfl⟩
theorem prt121_0 : PartS Try.prog 121 0 0 1 false := partS Try.underlying121 (by kernel_rfl) ty99 (by decide)
theorem prt121_1 : PartS Try.prog 121 1 1 1 false := partS Try.underlying121 (by kernel_rfl) ty3 (by decide)
theorem ty122 : TyS Try.prog 122 2 true := ⟨Try.sizeOf122, Try.isAgg122⟩
theorem str122 : StrS Try.prog 122 [.slice none 0 0, .int .i64 0] [(0, 1), (1, 1)] := strS Try.zeroValue122 Try.underlying122 (fun w => by kernel_rfl)
theorem fld122_0 : FldS Try.prog 122 0 0 := ⟨fun a w => by kernel_rfl⟩
theorem fld122_1 : FldS Try.prog 122 1 1 := ⟨fun a w => by kernel_rfl⟩
theorem prt122_0 : PartS Try.prog 122 0 0 1 false := partS Try.underlying122 (by kernel_rfl) ty99 (by decide)
theorem prt122_1 : PartS Try.prog 122 1 1 1 false := partS Try.underlying122 (by kernel_rfl) ty3 (by decide)
theorem ty123 : TyS Try.prog 123 2 true := ⟨Try.sizeOf123, Try.isAgg123⟩
theorem str123 : StrS Try.prog 123 [.slice none 0 0, .int .i64 0] [(0, 2)] := strS Try.zeroValue123 Try.underlying123 (fun w => by kernel_rfl)
theorem fld123_0 : FldS Try.prog 123 0 0 := ⟨fun a w => by kernel_rfl⟩
theorem prt123_0 : PartS Try.prog 123 0 0 2 true := partS Try.underlying123 (by kernel_rfl) ty122 (by decide)
theorem ty124 : TyS Try.prog 124 2 true := ⟨Try.sizeOf124, Try.isAgg124⟩
theorem str124 : StrS Try.prog 124 [.slice none 0 0, .int .i64 0] [(0, 2)] := strS Try.zeroValue124 Try.underlying124 (fun w => by kernel_rfl)
theorem fld124_0 : FldS Try.prog 124 0 0 := ⟨fun a w => by kernel_rfl⟩
theorem prt124_0 : PartS Try.prog 124 0 0 2 true := partS Try.underlying124 (by kernel_rfl) ty122 (by decide)
theorem ty125 : TyS Try.prog 125 1 false := ⟨Try.sizeOf125, Try.isAgg125⟩
theorem ty127 : TyS Try.prog 127 1 false := ⟨Try.sizeOf127, Try.isAgg127⟩
theorem ty128 : TyS Try.prog 128 1 false := ⟨Try.sizeOf128, Try.isAgg128⟩
theorem ty129 : TyS Try.prog 129 1 false := ⟨Try.sizeOf129, Try.isAgg129⟩
theorem ty130 : TyS Try.prog 130 1 false := ⟨Try.sizeOf130, Try.isAgg130⟩
theorem ty131 : TyS Try.prog 131 1 false := ⟨Try.sizeOf131, Try.isAgg131⟩
theorem ty132 : TyS Try.prog 132 1 false := ⟨Try.sizeOf132, Try.isAgg132⟩
theorem ty133 : TyS Try.prog 133 1 false := ⟨Try.sizeOf133, Try.isAgg133⟩
theorem ty134 : TyS Try.prog 134 1 false := ⟨Try.sizeOf134, Try.isAgg134⟩
theorem ty135 : TyS Try.prog 135 1 false := ⟨Try.sizeOf135, Try.isAgg135⟩
theorem ty136 : TyS Try.prog 136 1 false := ⟨Try.sizeOf136, Try.isAgg136⟩
theorem ty137 : TyS Try.prog 137 1 false := ⟨Try.sizeOf137, Try.isAgg137⟩
theorem ty139 : TyS Try.prog 139 1 false := ⟨Try.sizeOf139, Try.isAgg139⟩
theorem ty140 : TyS Try.prog 140 1 false := ⟨Try.sizeOf140, Try.isAgg140⟩
theorem ty141 : TyS Try.prog 141 1 false := ⟨Try.sizeOf141, Try.isAgg141⟩
theorem ty142 : TyS Try.prog 142 1 false := ⟨Try.sizeOf142, Try.isAgg142⟩
theorem ty144 : TyS Try.prog 144 1 false := ⟨Try.sizeOf144, Try.isAgg144⟩
theorem ty145 : TyS Try.prog 145 1 false := ⟨Try.sizeOf145, Try.isAgg145⟩
theorem ty146 : TyS Try.prog 146 1 false := ⟨Try.sizeOf146, Try.isAgg146⟩
theorem ty147 : TyS Try.prog 147 1 false := ⟨Try.sizeOf147, Try.isAgg147⟩
theorem ty148 : TyS Try.prog 148 1 false := ⟨Try.sizeOf148, Try.isAgg148⟩
theorem ty149 : TyS Try.prog 149 1 false := ⟨Try.sizeOf149, Try.isAgg149⟩
theorem ty150 : TyS Try.prog 150 4 true := ⟨Try.sizeOf150, Try.isAgg150⟩
theorem str150 : StrS Try.prog 150 [.pointer none, .pointer none, .pointer none, .string ⟨#[]⟩] [(0, 1), (1, 1), (2, 1), (3, 1)] := strS Try.zeroValue150 Try.underlying150 (fun w => by kernel_rfl)
theorem fld150_0 : FldS Try.prog 150 0 0 := ⟨fun a w => by kernel_rfl⟩
theorem fld150_1 : FldS Try.prog 150 1 1 := ⟨fun a w => by kernel_rfl⟩
theorem fld150_2 : FldS Try.prog 150 2 2 := ⟨fun a w => by kernel_rfl⟩
theorem fld150_3 : FldS Try.prog 150 3 3 := ⟨fun a w => by kernel_rfl⟩
theorem prt150_0 : PartS Try.prog 150 0 0 1 false := partS Try.underlying150 (by kernel_rfl) ty17 (by decide)
theorem prt150_1 : PartS Try.prog 150 1 1 1 false := partS Try.underlying150 (by kernel_rfl) ty17 (by decide)
theorem prt150_2 : PartS Try.prog 150 2 2 1 false := partS Try.underlying150 (by kernel_rfl) ty17 (by decide)
theorem prt150_3 : PartS Try.prog 150 3 3 1 false := partS Try.underlying150 (by kernel_rfl) ty9 (by decide)
theorem ty151 : TyS Try.prog 151 4 true := ⟨Try.sizeOf151, Try.isAgg151⟩
theorem str151 : StrS Try.prog 151 [.pointer none, .pointer none, .pointer none, .string ⟨#[]⟩] [(0, 1), (1, 1), (2, 1), (3, 1)] := strS Try.zeroValue151 Try.underlying151 (fun w => by kernel_rfl)
theorem fld151_0 : FldS Try.prog 151 0 0 := ⟨fun a w => by kernel_rfl⟩
theorem fld151_1 : FldS Try.prog 151 1 1 := ⟨fun a w => by kernel_rfl⟩
theorem fld151_2 : FldS Try.prog 151 2 2 := ⟨fun a w => by kernel_rfl⟩
theorem fld151_3 : FldS Try.prog 151 3 3 := ⟨fun a w => by kernel_rfl⟩
theorem prt151_0 : PartS Try.prog 151 0 0 1 false := partS Try.underlying151 (by kernel_rfl) ty17 (by decide)
theorem prt151_1 : PartS Try.prog 151 1 1 1 false := partS Try.underlying151 (by kernel_rfl) ty17 (by decide)
theorem prt151_2 : PartS Try.prog 151 2 2 1 false := partS Try.underlying151 (by kernel_rfl) ty17 (by decide)
theorem prt151_3 : PartS Try.prog 151 3 3 1 false := partS Try.underlying151 (by kernel_rfl) ty9 (by decide)
theorem ty152 : TyS Try.prog 152 0 true := ⟨Try.sizeOf152, Try.isAgg152⟩
theorem ty155 : TyS Try.prog 155 1 false := ⟨Try.sizeOf155, Try.isAgg155⟩
theorem ty156 : TyS Try.prog 156 1 false := ⟨Try.sizeOf156, Try.isAgg156⟩
theorem ty157 : TyS Try.prog 157 1 false := ⟨Try.sizeOf157, Try.isAgg157⟩
theorem ty158 : TyS Try.prog 158 1 false := ⟨Try.sizeOf158, Try.isAgg158⟩
theorem ty159 : TyS Try.prog 159 1 false := ⟨Try.sizeOf159, Try.isAgg159⟩
theorem ty160 : TyS Try.prog 160 1 false := ⟨Try.sizeOf160, Try.isAgg160⟩
theorem ty161 : TyS Try.prog 161 11 true := ⟨Try.sizeOf161, Try.isAgg161⟩
theorem str161 : StrS Try.prog 161 [.int .u64 0, .int .u64 0, .int .u32 0, .int .u8 0, .int .u8 0, .int .u8 0, .int .u8 0, .nilFunc, .pointer none, .int .i32 0, .int .i32 0] [(0, 1), (1, 1), (2, 1), (3, 1), (4, 1), (5, 1), (6, 1), (7, 1), (8, 1), (9, 1), (10, 1)] := strS Try.zeroValue161 Try.underlying161 (fun w => by kernel_rfl)
theorem fld161_0 : FldS Try.prog 161 0 0 := ⟨fun a w => by kernel_rfl⟩
theorem fld161_1 : FldS Try.prog 161 1 1 := ⟨fun a w => by kernel_rfl⟩
theorem fld161_2 : FldS Try.prog 161 2 2 := ⟨fun a w => by kernel_rfl⟩
theorem fld161_3 : FldS Try.prog 161 3 3 := ⟨fun a w => by kernel_rfl⟩
theorem fld161_4 : FldS Try.prog 161 4 4 := ⟨fun a w => by kernel_rfl⟩
theorem fld161_5 : FldS Try.prog 161 5 5 := ⟨fun a w => by kernel_rfl⟩
theorem fld161_6 : FldS Try.prog 161 6 6 := ⟨fun a w => by kernel_rfl⟩
theorem fld161_7 : FldS Try.prog 161 7 7 := ⟨fun a w => by kernel_rfl⟩
theorem fld161_8 : FldS Try.prog 161 8 8 := ⟨fun a w => by kernel_rfl⟩
theorem fld161_9 : FldS Try.prog 161 9 9 := ⟨fun a w => by kernel_rfl⟩
theorem fld161_10 : FldS Try.prog 161 10 10 := ⟨fun a w => by kernel_rfl⟩
theorem prt161_0 : PartS Try.prog 161 0 0 1 false := partS Try.underlying161 (by kernel_rfl) ty12 (by decide)
theorem prt161_1 : PartS Try.prog 161 1 1 1 false := partS Try.underlying161 (by kernel_rfl) ty12 (by decide)
theorem prt161_2 : PartS Try.prog 161 2 2 1 false := partS Try.underlying161 (by kernel_rfl) ty111 (by decide)
theorem prt161_3 : PartS Try.prog 161 3 3 1 false := partS Try.underlying161 (by kernel_rfl) ty155 (by decide)
theorem prt161_4 : PartS Try.prog 161 4 4 1 false := partS Try.underlying161 (by kernel_rfl) ty5 (by decide)
theorem prt161_5 : PartS Try.prog 161 5 5 1 false := partS Try.underlying161 (by kernel_rfl) ty5 (by decide)
theorem prt161_6 : PartS Try.prog 161 6 6 1 false := partS Try.underlying161 (by kernel_rfl) ty156 (by decide)
theorem prt161_7 : PartS Try.prog 161 7 7 1 false := partS Try.underlying161 (by kernel_rfl) ty157 (by decide)
theorem prt161_8 : PartS Try.prog 161 8 8 1 false := partS Try.underlying161 (by kernel_rfl) ty158 (by decide)
theorem prt161_9 : PartS Try.prog 161 9 9 1 false := partS Try.underlying161 (by kernel_rfl) ty159 (by decide)
theorem prt161_10 : PartS Try.prog 161 10 10 1 false := partS Try.underlying161 (by kernel_rfl) ty160 (by decide)
theorem ty162 : TyS Try.prog 162 11 true := ⟨Try.sizeOf162, Try.isAgg162⟩
theorem str162 : StrS Try.prog 162 [.int .u64 0, .int .u64 0, .int .u32 0, .int .u8 0, .int .u8 0, .int .u8 0, .int .u8 0, .nilFunc, .pointer none, .int .i32 0, .int .i32 0] [(0, 1), (1, 1), (2, 1), (3, 1), (4, 1), (5, 1), (6, 1), (7, 1), (8, 1), (9, 1), (10, 1)] := strS Try.zeroValue162 Try.underlying162 (fun w => by kernel_rfl)
theorem fld162_0 : FldS Try.prog 162 0 0 := ⟨fun a w => by kernel_rfl⟩
theorem fld162_1 : FldS Try.prog 162 1 1 := ⟨fun a w => by kernel_rfl⟩
theorem fld162_2 : FldS Try.prog 162 2 2 := ⟨fun a w => by kernel_rfl⟩
theorem fld162_3 : FldS Try.prog 162 3 3 := ⟨fun a w => by kernel_rfl⟩
theorem fld162_4 : FldS Try.prog 162 4 4 := ⟨fun a w => by kernel_rfl⟩
theorem fld162_5 : FldS Try.prog 162 5 5 := ⟨fun a w => by kernel_rfl⟩
theorem fld162_6 : FldS Try.prog 162 6 6 := ⟨fun a w => by kernel_rfl⟩
theorem fld162_7 : FldS Try.prog 162 7 7 := ⟨fun a w => by kernel_rfl⟩
theorem fld162_8 : FldS Try.prog 162 8 8 := ⟨fun a w => by kernel_rfl⟩
theorem fld162_9 : FldS Try.prog 162 9 9 := ⟨fun a w => by kernel_rfl⟩
theorem fld162_10 : FldS Try.prog 162 10 10 := ⟨fun a w => by kernel_rfl⟩
theorem prt162_0 : PartS Try.prog 162 0 0 1 false := partS Try.underlying162 (by kernel_rfl) ty12 (by decide)
theorem prt162_1 : PartS Try.prog 162 1 1 1 false := partS Try.underlying162 (by kernel_rfl) ty12 (by decide)
theorem prt162_2 : PartS Try.prog 162 2 2 1 false := partS Try.underlying162 (by kernel_rfl) ty111 (by decide)
theorem prt162_3 : PartS Try.prog 162 3 3 1 false := partS Try.underlying162 (by kernel_rfl) ty155 (by decide)
theorem prt162_4 : PartS Try.prog 162 4 4 1 false := partS Try.underlying162 (by kernel_rfl) ty5 (by decide)
theorem prt162_5 : PartS Try.prog 162 5 5 1 false := partS Try.underlying162 (by kernel_rfl) ty5 (by decide)
theorem prt162_6 : PartS Try.prog 162 6 6 1 false := partS Try.underlying162 (by kernel_rfl) ty156 (by decide)
theorem prt162_7 : PartS Try.prog 162 7 7 1 false := partS Try.underlying162 (by kernel_rfl) ty157 (by decide)
theorem prt162_8 : PartS Try.prog 162 8 8 1 false := partS Try.underlying162 (by kernel_rfl) ty158 (by decide)
theorem prt162_9 : PartS Try.prog 162 9 9 1 false := partS Try.underlying162 (by kernel_rfl) ty159 (by decide)
theorem prt162_10 : PartS Try.prog 162 10 10 1 false := partS Try.underlying162 (by kernel_rfl) ty160 (by decide)
end Go.Proofs.Ytmcjffllahcclaa
