/- The types of this translation, as the rules want them. No condition. -/
import Derived.Test.YtckhladakpjlgaaAB
import Derived.Test.YtckhladakpjlgaaRows
import Derived.OwnWalk
namespace Go.Proofs.Ytckhladakpjlgaa
set_option linter.all false
open Go
set_option maxRecDepth 100000
theorem hmix : Try.prog.follows .mixedOrders = true := by kernel_rfl
theorem ze1 : ∀ w, ∃ z, (zeroValue 1).run Try.prog w = .ok z w ∧ z.cells = [.nilFunc].toArray := fun w => ⟨_, Try.zeroValue1 w, rfl⟩
theorem ze2 : ∀ w, ∃ z, (zeroValue 2).run Try.prog w = .ok z w ∧ z.cells = [.int .i64 0].toArray := fun w => ⟨_, Try.zeroValue2 w, rfl⟩
theorem ze3 : ∀ w, ∃ z, (zeroValue 3).run Try.prog w = .ok z w ∧ z.cells = [.int .i64 0].toArray := fun w => ⟨_, Try.zeroValue3 w, rfl⟩
theorem ze4 : ∀ w, ∃ z, (zeroValue 4).run Try.prog w = .ok z w ∧ z.cells = [.bool false].toArray := fun w => ⟨_, Try.zeroValue4 w, rfl⟩
theorem ze5 : ∀ w, ∃ z, (zeroValue 5).run Try.prog w = .ok z w ∧ z.cells = [.int .u8 0].toArray := fun w => ⟨_, Try.zeroValue5 w, rfl⟩
theorem ze6 : ∀ w, ∃ z, (zeroValue 6).run Try.prog w = .ok z w ∧ z.cells = [.int .u8 0].toArray := fun w => ⟨_, Try.zeroValue6 w, rfl⟩
theorem ze7 : ∀ w, ∃ z, (zeroValue 7).run Try.prog w = .ok z w ∧ z.cells = [.int .i64 0, .int .i64 0, .bool false, .int .u8 0].toArray := fun w => ⟨_, Try.zeroValue7 w, rfl⟩
theorem ze8 : ∀ w, ∃ z, (zeroValue 8).run Try.prog w = .ok z w ∧ z.cells = [.int .i64 0, .int .i64 0, .bool false, .int .u8 0].toArray := fun w => ⟨_, Try.zeroValue8 w, rfl⟩
theorem ze9 : ∀ w, ∃ z, (zeroValue 9).run Try.prog w = .ok z w ∧ z.cells = [.string ⟨#[]⟩].toArray := fun w => ⟨_, Try.zeroValue9 w, rfl⟩
theorem ze10 : ∀ w, ∃ z, (zeroValue 10).run Try.prog w = .ok z w ∧ z.cells = [.string ⟨#[]⟩].toArray := fun w => ⟨_, Try.zeroValue10 w, rfl⟩
theorem ze11 : ∀ w, ∃ z, (zeroValue 11).run Try.prog w = .ok z w ∧ z.cells = [.string ⟨#[]⟩].toArray := fun w => ⟨_, Try.zeroValue11 w, rfl⟩
theorem ze12 : ∀ w, ∃ z, (zeroValue 12).run Try.prog w = .ok z w ∧ z.cells = [.int .u64 0].toArray := fun w => ⟨_, Try.zeroValue12 w, rfl⟩
theorem ze13 : ∀ w, ∃ z, (zeroValue 13).run Try.prog w = .ok z w ∧ z.cells = [.string ⟨#[]⟩, .int .u64 0].toArray := fun w => ⟨_, Try.zeroValue13 w, rfl⟩
theorem ze14 : ∀ w, ∃ z, (zeroValue 14).run Try.prog w = .ok z w ∧ z.cells = [.string ⟨#[]⟩, .int .u64 0].toArray := fun w => ⟨_, Try.zeroValue14 w, rfl⟩
theorem ze15 : ∀ w, ∃ z, (zeroValue 15).run Try.prog w = .ok z w ∧ z.cells = [.pointer none].toArray := fun w => ⟨_, Try.zeroValue15 w, rfl⟩
theorem ze16 : ∀ w, ∃ z, (zeroValue 16).run Try.prog w = .ok z w ∧ z.cells = [.pointer none].toArray := fun w => ⟨_, Try.zeroValue16 w, rfl⟩
theorem ze17 : ∀ w, ∃ z, (zeroValue 17).run Try.prog w = .ok z w ∧ z.cells = [.pointer none].toArray := fun w => ⟨_, Try.zeroValue17 w, rfl⟩
theorem ze18 : ∀ w, ∃ z, (zeroValue 18).run Try.prog w = .ok z w ∧ z.cells = [.pointer none].toArray := fun w => ⟨_, Try.zeroValue18 w, rfl⟩
theorem ze19 : ∀ w, ∃ z, (zeroValue 19).run Try.prog w = .ok z w ∧ z.cells = [.pointer none].toArray := fun w => ⟨_, Try.zeroValue19 w, rfl⟩
theorem ze21 : ∀ w, ∃ z, (zeroValue 21).run Try.prog w = .ok z w ∧ z.cells = [.int .i32 0].toArray := fun w => ⟨_, Try.zeroValue21 w, rfl⟩
theorem ze22 : ∀ w, ∃ z, (zeroValue 22).run Try.prog w = .ok z w ∧ z.cells = [.slice none 0 0].toArray := fun w => ⟨_, Try.zeroValue22 w, rfl⟩
theorem ze23 : ∀ w, ∃ z, (zeroValue 23).run Try.prog w = .ok z w ∧ z.cells = [.int .i64 0, .int .i64 0, .int .i64 0, .int .i64 0].toArray := fun w => ⟨_, Try.zeroValue23 w, rfl⟩
theorem ze24 : ∀ w, ∃ z, (zeroValue 24).run Try.prog w = .ok z w ∧ z.cells = [.int .i64 0, .int .i64 0, .int .i64 0, .int .i64 0].toArray := fun w => ⟨_, Try.zeroValue24 w, rfl⟩
theorem ze25 : ∀ w, ∃ z, (zeroValue 25).run Try.prog w = .ok z w ∧ z.cells = [.pointer none].toArray := fun w => ⟨_, Try.zeroValue25 w, rfl⟩
theorem ze26 : ∀ w, ∃ z, (zeroValue 26).run Try.prog w = .ok z w ∧ z.cells = [.nilFunc].toArray := fun w => ⟨_, Try.zeroValue26 w, rfl⟩
theorem ze27 : ∀ w, ∃ z, (zeroValue 27).run Try.prog w = .ok z w ∧ z.cells = [.slice none 0 0].toArray := fun w => ⟨_, Try.zeroValue27 w, rfl⟩
theorem ze28 : ∀ w, ∃ z, (zeroValue 28).run Try.prog w = .ok z w ∧ z.cells = [.slice none 0 0].toArray := fun w => ⟨_, Try.zeroValue28 w, rfl⟩
theorem ze29 : ∀ w, ∃ z, (zeroValue 29).run Try.prog w = .ok z w ∧ z.cells = [.slice none 0 0, .slice none 0 0].toArray := fun w => ⟨_, Try.zeroValue29 w, rfl⟩
theorem ze30 : ∀ w, ∃ z, (zeroValue 30).run Try.prog w = .ok z w ∧ z.cells = [.slice none 0 0, .slice none 0 0].toArray := fun w => ⟨_, Try.zeroValue30 w, rfl⟩
theorem ze31 : ∀ w, ∃ z, (zeroValue 31).run Try.prog w = .ok z w ∧ z.cells = [.nilFunc].toArray := fun w => ⟨_, Try.zeroValue31 w, rfl⟩
theorem ze32 : ∀ w, ∃ z, (zeroValue 32).run Try.prog w = .ok z w ∧ z.cells = [.nilFunc].toArray := fun w => ⟨_, Try.zeroValue32 w, rfl⟩
theorem ze33 : ∀ w, ∃ z, (zeroValue 33).run Try.prog w = .ok z w ∧ z.cells = [.slice none 0 0].toArray := fun w => ⟨_, Try.zeroValue33 w, rfl⟩
theorem ze34 : ∀ w, ∃ z, (zeroValue 34).run Try.prog w = .ok z w ∧ z.cells = [.int .i64 0].toArray := fun w => ⟨_, Try.zeroValue34 w, rfl⟩
theorem ze36 : ∀ w, ∃ z, (zeroValue 36).run Try.prog w = .ok z w ∧ z.cells = [.nilFunc].toArray := fun w => ⟨_, Try.zeroValue36 w, rfl⟩
theorem ze37 : ∀ w, ∃ z, (zeroValue 37).run Try.prog w = .ok z w ∧ z.cells = [.nilFunc].toArray := fun w => ⟨_, Try.zeroValue37 w, rfl⟩
theorem ze38 : ∀ w, ∃ z, (zeroValue 38).run Try.prog w = .ok z w ∧ z.cells = [.nilFunc].toArray := fun w => ⟨_, Try.zeroValue38 w, rfl⟩
theorem ze39 : ∀ w, ∃ z, (zeroValue 39).run Try.prog w = .ok z w ∧ z.cells = [.nilFunc].toArray := fun w => ⟨_, Try.zeroValue39 w, rfl⟩
theorem ze40 : ∀ w, ∃ z, (zeroValue 40).run Try.prog w = .ok z w ∧ z.cells = [.nilFunc].toArray := fun w => ⟨_, Try.zeroValue40 w, rfl⟩
theorem ze41 : ∀ w, ∃ z, (zeroValue 41).run Try.prog w = .ok z w ∧ z.cells = [.int .i64 0, .bool false].toArray := fun w => ⟨_, Try.zeroValue41 w, rfl⟩
theorem ze42 : ∀ w, ∃ z, (zeroValue 42).run Try.prog w = .ok z w ∧ z.cells = [.int .i64 0, .bool false].toArray := fun w => ⟨_, Try.zeroValue42 w, rfl⟩
theorem ze43 : ∀ w, ∃ z, (zeroValue 43).run Try.prog w = .ok z w ∧ z.cells = [.int .i64 0, .int .i64 0, .int .i64 0, .int .i64 0, .int .i64 0].toArray := fun w => ⟨_, Try.zeroValue43 w, rfl⟩
theorem ze44 : ∀ w, ∃ z, (zeroValue 44).run Try.prog w = .ok z w ∧ z.cells = [.int .i64 0, .int .i64 0, .int .i64 0, .int .i64 0, .int .i64 0].toArray := fun w => ⟨_, Try.zeroValue44 w, rfl⟩
theorem ze45 : ∀ w, ∃ z, (zeroValue 45).run Try.prog w = .ok z w ∧ z.cells = [.nilFunc].toArray := fun w => ⟨_, Try.zeroValue45 w, rfl⟩
theorem ze46 : ∀ w, ∃ z, (zeroValue 46).run Try.prog w = .ok z w ∧ z.cells = [.slice none 0 0, .int .i64 0].toArray := fun w => ⟨_, Try.zeroValue46 w, rfl⟩
theorem ze47 : ∀ w, ∃ z, (zeroValue 47).run Try.prog w = .ok z w ∧ z.cells = [.slice none 0 0, .int .i64 0].toArray := fun w => ⟨_, Try.zeroValue47 w, rfl⟩
theorem ze48 : ∀ w, ∃ z, (zeroValue 48).run Try.prog w = .ok z w ∧ z.cells = [.nilFunc].toArray := fun w => ⟨_, Try.zeroValue48 w, rfl⟩
theorem ze49 : ∀ w, ∃ z, (zeroValue 49).run Try.prog w = .ok z w ∧ z.cells = [.nilFunc].toArray := fun w => ⟨_, Try.zeroValue49 w, rfl⟩
theorem ze50 : ∀ w, ∃ z, (zeroValue 50).run Try.prog w = .ok z w ∧ z.cells = [.nilFunc].toArray := fun w => ⟨_, Try.zeroValue50 w, rfl⟩
theorem ze51 : ∀ w, ∃ z, (zeroValue 51).run Try.prog w = .ok z w ∧ z.cells = [.nilFunc].toArray := fun w => ⟨_, Try.zeroValue51 w, rfl⟩
theorem ze52 : ∀ w, ∃ z, (zeroValue 52).run Try.prog w = .ok z w ∧ z.cells = [.nilFunc].toArray := fun w => ⟨_, Try.zeroValue52 w, rfl⟩
theorem ze53 : ∀ w, ∃ z, (zeroValue 53).run Try.prog w = .ok z w ∧ z.cells = [.nilFunc].toArray := fun w => ⟨_, Try.zeroValue53 w, rfl⟩
theorem ze54 : ∀ w, ∃ z, (zeroValue 54).run Try.prog w = .ok z w ∧ z.cells = [.nilFunc].toArray := fun w => ⟨_, Try.zeroValue54 w, rfl⟩
theorem ze56 : ∀ w, ∃ z, (zeroValue 56).run Try.prog w = .ok z w ∧ z.cells = [.nilFunc].toArray := fun w => ⟨_, Try.zeroValue56 w, rfl⟩
theorem ze57 : ∀ w, ∃ z, (zeroValue 57).run Try.prog w = .ok z w ∧ z.cells = [.nilFunc].toArray := fun w => ⟨_, Try.zeroValue57 w, rfl⟩
theorem ze58 : ∀ w, ∃ z, (zeroValue 58).run Try.prog w = .ok z w ∧ z.cells = [.nilFunc].toArray := fun w => ⟨_, Try.zeroValue58 w, rfl⟩
theorem ze59 : ∀ w, ∃ z, (zeroValue 59).run Try.prog w = .ok z w ∧ z.cells = [.nilFunc].toArray := fun w => ⟨_, Try.zeroValue59 w, rfl⟩
theorem ze60 : ∀ w, ∃ z, (zeroValue 60).run Try.prog w = .ok z w ∧ z.cells = [.nilFunc].toArray := fun w => ⟨_, Try.zeroValue60 w, rfl⟩
theorem ze61 : ∀ w, ∃ z, (zeroValue 61).run Try.prog w = .ok z w ∧ z.cells = [.nilFunc].toArray := fun w => ⟨_, Try.zeroValue61 w, rfl⟩
theorem ze62 : ∀ w, ∃ z, (zeroValue 62).run Try.prog w = .ok z w ∧ z.cells = [.nilFunc].toArray := fun w => ⟨_, Try.zeroValue62 w, rfl⟩
theorem ze63 : ∀ w, ∃ z, (zeroValue 63).run Try.prog w = .ok z w ∧ z.cells = [.nilFunc].toArray := fun w => ⟨_, Try.zeroValue63 w, rfl⟩
theorem ze64 : ∀ w, ∃ z, (zeroValue 64).run Try.prog w = .ok z w ∧ z.cells = [.nilFunc].toArray := fun w => ⟨_, Try.zeroValue64 w, rfl⟩
theorem ze65 : ∀ w, ∃ z, (zeroValue 65).run Try.prog w = .ok z w ∧ z.cells = [.int .i64 0, .int .i64 0].toArray := fun w => ⟨_, Try.zeroValue65 w, rfl⟩
theorem ze66 : ∀ w, ∃ z, (zeroValue 66).run Try.prog w = .ok z w ∧ z.cells = [.int .i64 0, .int .i64 0].toArray := fun w => ⟨_, Try.zeroValue66 w, rfl⟩
theorem ze67 : ∀ w, ∃ z, (zeroValue 67).run Try.prog w = .ok z w ∧ z.cells = [.slice none 0 0].toArray := fun w => ⟨_, Try.zeroValue67 w, rfl⟩
theorem ze68 : ∀ w, ∃ z, (zeroValue 68).run Try.prog w = .ok z w ∧ z.cells = [.slice none 0 0, .slice none 0 0].toArray := fun w => ⟨_, Try.zeroValue68 w, rfl⟩
theorem ze69 : ∀ w, ∃ z, (zeroValue 69).run Try.prog w = .ok z w ∧ z.cells = [.slice none 0 0, .slice none 0 0].toArray := fun w => ⟨_, Try.zeroValue69 w, rfl⟩
theorem ze70 : ∀ w, ∃ z, (zeroValue 70).run Try.prog w = .ok z w ∧ z.cells = [.nilFunc].toArray := fun w => ⟨_, Try.zeroValue70 w, rfl⟩
theorem ze71 : ∀ w, ∃ z, (zeroValue 71).run Try.prog w = .ok z w ∧ z.cells = [.nilFunc].toArray := fun w => ⟨_, Try.zeroValue71 w, rfl⟩
theorem ze72 : ∀ w, ∃ z, (zeroValue 72).run Try.prog w = .ok z w ∧ z.cells = [.nilFunc].toArray := fun w => ⟨_, Try.zeroValue72 w, rfl⟩
theorem ze73 : ∀ w, ∃ z, (zeroValue 73).run Try.prog w = .ok z w ∧ z.cells = [.nilFunc].toArray := fun w => ⟨_, Try.zeroValue73 w, rfl⟩
theorem ze74 : ∀ w, ∃ z, (zeroValue 74).run Try.prog w = .ok z w ∧ z.cells = [.nilFunc].toArray := fun w => ⟨_, Try.zeroValue74 w, rfl⟩
theorem ze75 : ∀ w, ∃ z, (zeroValue 75).run Try.prog w = .ok z w ∧ z.cells = [.nilFunc].toArray := fun w => ⟨_, Try.zeroValue75 w, rfl⟩
theorem ze76 : ∀ w, ∃ z, (zeroValue 76).run Try.prog w = .ok z w ∧ z.cells = [.nilFunc].toArray := fun w => ⟨_, Try.zeroValue76 w, rfl⟩
theorem ze77 : ∀ w, ∃ z, (zeroValue 77).run Try.prog w = .ok z w ∧ z.cells = [.nilFunc].toArray := fun w => ⟨_, Try.zeroValue77 w, rfl⟩
theorem ze78 : ∀ w, ∃ z, (zeroValue 78).run Try.prog w = .ok z w ∧ z.cells = [.nilFunc].toArray := fun w => ⟨_, Try.zeroValue78 w, rfl⟩
theorem ze79 : ∀ w, ∃ z, (zeroValue 79).run Try.prog w = .ok z w ∧ z.cells = [.nilFunc].toArray := fun w => ⟨_, Try.zeroValue79 w, rfl⟩
theorem ze80 : ∀ w, ∃ z, (zeroValue 80).run Try.prog w = .ok z w ∧ z.cells = [.int .u64 0].toArray := fun w => ⟨_, Try.zeroValue80 w, rfl⟩
theorem ze81 : ∀ w, ∃ z, (zeroValue 81).run Try.prog w = .ok z w ∧ z.cells = [.nilFunc].toArray := fun w => ⟨_, Try.zeroValue81 w, rfl⟩
theorem ze83 : ∀ w, ∃ z, (zeroValue 83).run Try.prog w = .ok z w ∧ z.cells = [.nilFunc].toArray := fun w => ⟨_, Try.zeroValue83 w, rfl⟩
theorem ze84 : ∀ w, ∃ z, (zeroValue 84).run Try.prog w = .ok z w ∧ z.cells = [.nilFunc].toArray := fun w => ⟨_, Try.zeroValue84 w, rfl⟩
theorem ze85 : ∀ w, ∃ z, (zeroValue 85).run Try.prog w = .ok z w ∧ z.cells = [.nilFunc].toArray := fun w => ⟨_, Try.zeroValue85 w, rfl⟩
theorem ze86 : ∀ w, ∃ z, (zeroValue 86).run Try.prog w = .ok z w ∧ z.cells = [.nilFunc].toArray := fun w => ⟨_, Try.zeroValue86 w, rfl⟩
theorem ze87 : ∀ w, ∃ z, (zeroValue 87).run Try.prog w = .ok z w ∧ z.cells = [.nilFunc].toArray := fun w => ⟨_, Try.zeroValue87 w, rfl⟩
theorem ze88 : ∀ w, ∃ z, (zeroValue 88).run Try.prog w = .ok z w ∧ z.cells = [.nilFunc].toArray := fun w => ⟨_, Try.zeroValue88 w, rfl⟩
theorem ze89 : ∀ w, ∃ z, (zeroValue 89).run Try.prog w = .ok z w ∧ z.cells = [.nilFunc].toArray := fun w => ⟨_, Try.zeroValue89 w, rfl⟩
theorem ze90 : ∀ w, ∃ z, (zeroValue 90).run Try.prog w = .ok z w ∧ z.cells = [.nilFunc].toArray := fun w => ⟨_, Try.zeroValue90 w, rfl⟩
theorem ze91 : ∀ w, ∃ z, (zeroValue 91).run Try.prog w = .ok z w ∧ z.cells = [.nilFunc].toArray := fun w => ⟨_, Try.zeroValue91 w, rfl⟩
theorem ze92 : ∀ w, ∃ z, (zeroValue 92).run Try.prog w = .ok z w ∧ z.cells = [.nilFunc].toArray := fun w => ⟨_, Try.zeroValue92 w, rfl⟩
theorem ze93 : ∀ w, ∃ z, (zeroValue 93).run Try.prog w = .ok z w ∧ z.cells = [.nilFunc].toArray := fun w => ⟨_, Try.zeroValue93 w, rfl⟩
theorem ze94 : ∀ w, ∃ z, (zeroValue 94).run Try.prog w = .ok z w ∧ z.cells = [.nilFunc].toArray := fun w => ⟨_, Try.zeroValue94 w, rfl⟩
theorem ze95 : ∀ w, ∃ z, (zeroValue 95).run Try.prog w = .ok z w ∧ z.cells = [.nilFunc].toArray := fun w => ⟨_, Try.zeroValue95 w, rfl⟩
theorem ze96 : ∀ w, ∃ z, (zeroValue 96).run Try.prog w = .ok z w ∧ z.cells = [.nilFunc].toArray := fun w => ⟨_, Try.zeroValue96 w, rfl⟩
theorem ze97 : ∀ w, ∃ z, (zeroValue 97).run Try.prog w = .ok z w ∧ z.cells = [.nilFunc].toArray := fun w => ⟨_, Try.zeroValue97 w, rfl⟩
theorem ze98 : ∀ w, ∃ z, (zeroValue 98).run Try.prog w = .ok z w ∧ z.cells = [.nilFunc].toArray := fun w => ⟨_, Try.zeroValue98 w, rfl⟩
theorem ze99 : ∀ w, ∃ z, (zeroValue 99).run Try.prog w = .ok z w ∧ z.cells = [.nilFunc].toArray := fun w => ⟨_, Try.zeroValue99 w, rfl⟩
theorem ze100 : ∀ w, ∃ z, (zeroValue 100).run Try.prog w = .ok z w ∧ z.cells = [.nilFunc].toArray := fun w => ⟨_, Try.zeroValue100 w, rfl⟩
theorem ze101 : ∀ w, ∃ z, (zeroValue 101).run Try.prog w = .ok z w ∧ z.cells = [.int .i64 0].toArray := fun w => ⟨_, Try.zeroValue101 w, rfl⟩
theorem ze103 : ∀ w, ∃ z, (zeroValue 103).run Try.prog w = .ok z w ∧ z.cells = [.nilFunc].toArray := fun w => ⟨_, Try.zeroValue103 w, rfl⟩
theorem ze104 : ∀ w, ∃ z, (zeroValue 104).run Try.prog w = .ok z w ∧ z.cells = [.nilFunc].toArray := fun w => ⟨_, Try.zeroValue104 w, rfl⟩
theorem ze105 : ∀ w, ∃ z, (zeroValue 105).run Try.prog w = .ok z w ∧ z.cells = [.nilFunc].toArray := fun w => ⟨_, Try.zeroValue105 w, rfl⟩
theorem ze106 : ∀ w, ∃ z, (zeroValue 106).run Try.prog w = .ok z w ∧ z.cells = [.nilFunc].toArray := fun w => ⟨_, Try.zeroValue106 w, rfl⟩
theorem ze107 : ∀ w, ∃ z, (zeroValue 107).run Try.prog w = .ok z w ∧ z.cells = [.nilFunc].toArray := fun w => ⟨_, Try.zeroValue107 w, rfl⟩
theorem ze108 : ∀ w, ∃ z, (zeroValue 108).run Try.prog w = .ok z w ∧ z.cells = [.nilFunc].toArray := fun w => ⟨_, Try.zeroValue108 w, rfl⟩
theorem ze109 : ∀ w, ∃ z, (zeroValue 109).run Try.prog w = .ok z w ∧ z.cells = [.int .u32 0].toArray := fun w => ⟨_, Try.zeroValue109 w, rfl⟩
theorem ze110 : ∀ w, ∃ z, (zeroValue 110).run Try.prog w = .ok z w ∧ z.cells = [.nilFunc].toArray := fun w => ⟨_, Try.zeroValue110 w, rfl⟩
theorem ze111 : ∀ w, ∃ z, (zeroValue 111).run Try.prog w = .ok z w ∧ z.cells = [.int .u64 0].toArray := fun w => ⟨_, Try.zeroValue111 w, rfl⟩
theorem ze112 : ∀ w, ∃ z, (zeroValue 112).run Try.prog w = .ok z w ∧ z.cells = [.int .u64 0].toArray := fun w => ⟨_, Try.zeroValue112 w, rfl⟩
theorem ze113 : ∀ w, ∃ z, (zeroValue 113).run Try.prog w = .ok z w ∧ z.cells = [.nilFunc].toArray := fun w => ⟨_, Try.zeroValue113 w, rfl⟩
theorem ze114 : ∀ w, ∃ z, (zeroValue 114).run Try.prog w = .ok z w ∧ z.cells = [.nilFunc].toArray := fun w => ⟨_, Try.zeroValue114 w, rfl⟩
theorem ze115 : ∀ w, ∃ z, (zeroValue 115).run Try.prog w = .ok z w ∧ z.cells = [.nilFunc].toArray := fun w => ⟨_, Try.zeroValue115 w, rfl⟩
theorem ze116 : ∀ w, ∃ z, (zeroValue 116).run Try.prog w = .ok z w ∧ z.cells = [.pointer none].toArray := fun w => ⟨_, Try.zeroValue116 w, rfl⟩
theorem ze117 : ∀ w, ∃ z, (zeroValue 117).run Try.prog w = .ok z w ∧ z.cells = [.nilFunc].toArray := fun w => ⟨_, Try.zeroValue117 w, rfl⟩
theorem ze118 : ∀ w, ∃ z, (zeroValue 118).run Try.prog w = .ok z w ∧ z.cells = [.pointer none].toArray := fun w => ⟨_, Try.zeroValue118 w, rfl⟩
theorem ze120 : ∀ w, ∃ z, (zeroValue 120).run Try.prog w = .ok z w ∧ z.cells = [.nilFunc].toArray := fun w => ⟨_, Try.zeroValue120 w, rfl⟩
theorem ze121 : ∀ w, ∃ z, (zeroValue 121).run Try.prog w = .ok z w ∧ z.cells = [.nilFunc].toArray := fun w => ⟨_, Try.zeroValue121 w, rfl⟩
theorem ze122 : ∀ w, ∃ z, (zeroValue 122).run Try.prog w = .ok z w ∧ z.cells = [.pointer none, .pointer none, .pointer none, .string ⟨#[]⟩].toArray := fun w => ⟨_, Try.zeroValue122 w, rfl⟩
theorem ze123 : ∀ w, ∃ z, (zeroValue 123).run Try.prog w = .ok z w ∧ z.cells = [.pointer none, .pointer none, .pointer none, .string ⟨#[]⟩].toArray := fun w => ⟨_, Try.zeroValue123 w, rfl⟩
theorem ze124 : ∀ w, ∃ z, (zeroValue 124).run Try.prog w = .ok z w ∧ z.cells = [].toArray := fun w => ⟨_, Try.zeroValue124 w, rfl⟩
theorem ze125 : ∀ w, ∃ z, (zeroValue 125).run Try.prog w = .ok z w ∧ z.cells = [].toArray := fun w => ⟨_, Try.zeroValue125 w, rfl⟩
theorem ze126 : ∀ w, ∃ z, (zeroValue 126).run Try.prog w = .ok z w ∧ z.cells = [].toArray := fun w => ⟨_, Try.zeroValue126 w, rfl⟩
theorem ze127 : ∀ w, ∃ z, (zeroValue 127).run Try.prog w = .ok z w ∧ z.cells = [.int .u8 0].toArray := fun w => ⟨_, Try.zeroValue127 w, rfl⟩
theorem ze128 : ∀ w, ∃ z, (zeroValue 128).run Try.prog w = .ok z w ∧ z.cells = [.int .u8 0].toArray := fun w => ⟨_, Try.zeroValue128 w, rfl⟩
theorem ze129 : ∀ w, ∃ z, (zeroValue 129).run Try.prog w = .ok z w ∧ z.cells = [.nilFunc].toArray := fun w => ⟨_, Try.zeroValue129 w, rfl⟩
theorem ze130 : ∀ w, ∃ z, (zeroValue 130).run Try.prog w = .ok z w ∧ z.cells = [.pointer none].toArray := fun w => ⟨_, Try.zeroValue130 w, rfl⟩
theorem ze131 : ∀ w, ∃ z, (zeroValue 131).run Try.prog w = .ok z w ∧ z.cells = [.int .i32 0].toArray := fun w => ⟨_, Try.zeroValue131 w, rfl⟩
theorem ze132 : ∀ w, ∃ z, (zeroValue 132).run Try.prog w = .ok z w ∧ z.cells = [.int .i32 0].toArray := fun w => ⟨_, Try.zeroValue132 w, rfl⟩
theorem ze133 : ∀ w, ∃ z, (zeroValue 133).run Try.prog w = .ok z w ∧ z.cells = [.int .u64 0, .int .u64 0, .int .u32 0, .int .u8 0, .int .u8 0, .int .u8 0, .int .u8 0, .nilFunc, .pointer none, .int .i32 0, .int .i32 0].toArray := fun w => ⟨_, Try.zeroValue133 w, rfl⟩
theorem ze134 : ∀ w, ∃ z, (zeroValue 134).run Try.prog w = .ok z w ∧ z.cells = [.int .u64 0, .int .u64 0, .int .u32 0, .int .u8 0, .int .u8 0, .int .u8 0, .int .u8 0, .nilFunc, .pointer none, .int .i32 0, .int .i32 0].toArray := fun w => ⟨_, Try.zeroValue134 w, rfl⟩
theorem ty1 : TyS Try.prog 1 1 false := ⟨Try.sizeOf1, Try.isAgg1⟩
theorem ty2 : TyS Try.prog 2 1 false := ⟨Try.sizeOf2, Try.isAgg2⟩
theorem ty3 : TyS Try.prog 3 1 false := ⟨Try.sizeOf3, Try.isAgg3⟩
theorem ty4 : TyS Try.prog 4 1 false := ⟨Try.sizeOf4, Try.isAgg4⟩
theorem ty5 : TyS Try.prog 5 1 false := ⟨Try.sizeOf5, Try.isAgg5⟩
theorem ty6 : TyS Try.prog 6 1 false := ⟨Try.sizeOf6, Try.isAgg6⟩
theorem ty7 : TyS Try.prog 7 4 true := ⟨Try.sizeOf7, Try.isAgg7⟩
theorem str7 : StrS Try.prog 7 [.int .i64 0, .int .i64 0, .bool false, .int .u8 0] [(0, 1), (1, 1), (2, 1), (3, 1)] := strS Try.zeroValue7 Try.underlying7 (fun w => by kernel_rfl)
theorem fld7_0 : FldS Try.prog 7 0 0 := ⟨fun a w => by kernel_rfl⟩
theorem fld7_1 : FldS Try.prog 7 1 1 := ⟨fun a w => by kernel_rfl⟩
theorem fld7_2 : FldS Try.prog 7 2 2 := ⟨fun a w => by kernel_rfl⟩
theorem fld7_3 : FldS Try.prog 7 3 3 := ⟨fun a w => by kernel_rfl⟩
theorem prt7_0 : PartS Try.prog 7 0 0 1 false := partS Try.underlying7 (by kernel_rfl) ty2 (by decide)
theorem prt7_1 : PartS Try.prog 7 1 1 1 false := partS Try.underlying7 (by kernel_rfl) ty3 (by decide)
theorem prt7_2 : PartS Try.prog 7 2 2 1 false := partS Try.underlying7 (by kernel_rfl) ty4 (by decide)
theorem prt7_3 : PartS Try.prog 7 3 3 1 false := partS Try.underlying7 (by kernel_rfl) ty6 (by decide)
theorem ty8 : TyS Try.prog 8 4 true := ⟨Try.sizeOf8, Try.isAgg8⟩
theorem str8 : StrS Try.prog 8 [.int .i64 0, .int .i64 0, .bool false, .int .u8 0] [(0, 1), (1, 1), (2, 1), (3, 1)] := strS Try.zeroValue8 Try.underlying8 (fun w => by kernel_rfl)
theorem fld8_0 : FldS Try.prog 8 0 0 := ⟨fun a w => by kernel_rfl⟩
theorem fld8_1 : FldS Try.prog 8 1 1 := ⟨fun a w => by kernel_rfl⟩
theorem fld8_2 : FldS Try.prog 8 2 2 := ⟨fun a w => by kernel_rfl⟩
theorem fld8_3 : FldS Try.prog 8 3 3 := ⟨fun a w => by kernel_rfl⟩
theorem prt8_0 : PartS Try.prog 8 0 0 1 false := partS Try.underlying8 (by kernel_rfl) ty2 (by decide)
theorem prt8_1 : PartS Try.prog 8 1 1 1 false := partS Try.underlying8 (by kernel_rfl) ty3 (by decide)
theorem prt8_2 : PartS Try.prog 8 2 2 1 false := partS Try.underlying8 (by kernel_rfl) ty4 (by decide)
theorem prt8_3 : PartS Try.prog 8 3 3 1 false := partS Try.underlying8 (by kernel_rfl) ty6 (by decide)
theorem ty9 : TyS Try.prog 9 1 false := ⟨Try.sizeOf9, Try.isAgg9⟩
theorem ty10 : TyS Try.prog 10 1 false := ⟨Try.sizeOf10, Try.isAgg10⟩
theorem ty11 : TyS Try.prog 11 1 false := ⟨Try.sizeOf11, Try.isAgg11⟩
theorem ty12 : TyS Try.prog 12 1 false := ⟨Try.sizeOf12, Try.isAgg12⟩
theorem ty13 : TyS Try.prog 13 2 true := ⟨Try.sizeOf13, Try.isAgg13⟩
theorem str13 : StrS Try.prog 13 [.string ⟨#[]⟩, .int .u64 0] [(0, 1), (1, 1)] := strS Try.zeroValue13 Try.underlying13 (fun w => by kernel_rfl)
theorem fld13_0 : FldS Try.prog 13 0 0 := ⟨fun a w => by kernel_rfl⟩
theorem fld13_1 : FldS Try.prog 13 1 1 := ⟨fun a w => by kernel_rfl⟩
theorem prt13_0 : PartS Try.prog 13 0 0 1 false := partS Try.underlying13 (by kernel_rfl) ty9 (by decide)
theorem prt13_1 : PartS Try.prog 13 1 1 1 false := partS Try.underlying13 (by kernel_rfl) ty12 (by decide)
theorem ty14 : TyS Try.prog 14 2 true := ⟨Try.sizeOf14, Try.isAgg14⟩
theorem str14 : StrS Try.prog 14 [.string ⟨#[]⟩, .int .u64 0] [(0, 1), (1, 1)] := strS Try.zeroValue14 Try.underlying14 (fun w => by kernel_rfl)
theorem fld14_0 : FldS Try.prog 14 0 0 := ⟨fun a w => by kernel_rfl⟩
theorem fld14_1 : FldS Try.prog 14 1 1 := ⟨fun a w => by kernel_rfl⟩
theorem prt14_0 : PartS Try.prog 14 0 0 1 false := partS Try.underlying14 (by kernel_rfl) ty9 (by decide)
theorem prt14_1 : PartS Try.prog 14 1 1 1 false := partS Try.underlying14 (by kernel_rfl) ty12 (by decide)
theorem ty15 : TyS Try.prog 15 1 false := ⟨Try.sizeOf15, Try.isAgg15⟩
theorem ty16 : TyS Try.prog 16 1 false := ⟨Try.sizeOf16, Try.isAgg16⟩
theorem ty17 : TyS Try.prog 17 1 false := ⟨Try.sizeOf17, Try.isAgg17⟩
theorem ty18 : TyS Try.prog 18 1 true := ⟨Try.sizeOf18, Try.isAgg18⟩
theorem str18 : StrS Try.prog 18 [.pointer none] [(0, 1)] := strS Try.zeroValue18 Try.underlying18 (fun w => by kernel_rfl)
theorem fld18_0 : FldS Try.prog 18 0 0 := ⟨fun a w => by kernel_rfl⟩
theorem prt18_0 : PartS Try.prog 18 0 0 1 false := partS Try.underlying18 (by kernel_rfl) ty17 (by decide)
theorem ty19 : TyS Try.prog 19 1 true := ⟨Try.sizeOf19, Try.isAgg19⟩
theorem str19 : StrS Try.prog 19 [.pointer none] [(0, 1)] := strS Try.zeroValue19 Try.underlying19 (fun w => by kernel_rfl)
theorem fld19_0 : FldS Try.prog 19 0 0 := ⟨fun a w => by kernel_rfl⟩
theorem prt19_0 : PartS Try.prog 19 0 0 1 false := partS Try.underlying19 (by kernel_rfl) ty17 (by decide)
theorem ty21 : TyS Try.prog 21 1 false := ⟨Try.sizeOf21, Try.isAgg21⟩
theorem ty22 : TyS Try.prog 22 1 false := ⟨Try.sizeOf22, Try.isAgg22⟩
theorem sl22 : SlS Try.prog 22 3 1 := ⟨Try.underlying22, Try.sizeOf3⟩
theorem app22 : AppS Try.prog 22 3 1 8 := ⟨Try.underlying22, (by obtain ⟨i, h1, h2, h3, h4⟩ := info_parts (by kernel_rfl : (Try.prog.info? 3).map (fun i => (i.zero, i.size, i.bytes)) = some (some (.int .i64 0), 1, 8)); exact ⟨i, _, h1, h2, h3, h4, rfl⟩), by decide⟩
theorem sli22 : SliS Try.prog 22 3 1 [.int .i64 0] := ⟨Try.underlying22, Try.sizeOf3, ze3, rfl⟩
theorem ty23 : TyS Try.prog 23 4 true := ⟨Try.sizeOf23, Try.isAgg23⟩
theorem str23 : StrS Try.prog 23 [.int .i64 0, .int .i64 0, .int .i64 0, .int .i64 0] [(0, 1), (1, 1), (2, 1), (3, 1)] := strS Try.zeroValue23 Try.underlying23 (fun w => by kernel_rfl)
theorem fld23_0 : FldS Try.prog 23 0 0 := ⟨fun a w => by kernel_rfl⟩
theorem fld23_1 : FldS Try.prog 23 1 1 := ⟨fun a w => by kernel_rfl⟩
theorem fld23_2 : FldS Try.prog 23 2 2 := ⟨fun a w => by kernel_rfl⟩
theorem fld23_3 : FldS Try.prog 23 3 3 := ⟨fun a w => by kernel_rfl⟩
theorem prt23_0 : PartS Try.prog 23 0 0 1 false := partS Try.underlying23 (by kernel_rfl) ty3 (by decide)
theorem prt23_1 : PartS Try.prog 23 1 1 1 false := partS Try.underlying23 (by kernel_rfl) ty3 (by decide)
theorem prt23_2 : PartS Try.prog 23 2 2 1 false := partS Try.underlying23 (by kernel_rfl) ty3 (by decide)
theorem prt23_3 : PartS Try.prog 23 3 3 1 false := partS Try.underlying23 (by kernel_rfl) ty3 (by decide)
theorem ty24 : TyS Try.prog 24 4 true := ⟨Try.sizeOf24, Try.isAgg24⟩
theorem str24 : StrS Try.prog 24 [.int .i64 0, .int .i64 0, .int .i64 0, .int .i64 0] [(0, 1), (1, 1), (2, 1), (3, 1)] := strS Try.zeroValue24 Try.underlying24 (fun w => by kernel_rfl)
theorem fld24_0 : FldS Try.prog 24 0 0 := ⟨fun a w => by kernel_rfl⟩
theorem fld24_1 : FldS Try.prog 24 1 1 := ⟨fun a w => by kernel_rfl⟩
theorem fld24_2 : FldS Try.prog 24 2 2 := ⟨fun a w => by kernel_rfl⟩
theorem fld24_3 : FldS Try.prog 24 3 3 := ⟨fun a w => by kernel_rfl⟩
theorem prt24_0 : PartS Try.prog 24 0 0 1 false := partS Try.underlying24 (by kernel_rfl) ty3 (by decide)
theorem prt24_1 : PartS Try.prog 24 1 1 1 false := partS Try.underlying24 (by kernel_rfl) ty3 (by decide)
theorem prt24_2 : PartS Try.prog 24 2 2 1 false := partS Try.underlying24 (by kernel_rfl) ty3 (by decide)
theorem prt24_3 : PartS Try.prog 24 3 3 1 false := partS Try.underlying24 (by kernel_rfl) ty3 (by decide)
theorem eqf24 (a0 b0 : Int) (a1 b1 : Int) (a2 b2 : Int) (a3 b3 : Int) (w : World) : (Op.eqFields 9999 #[.int .i64 a0, .int .i64 a1, .int .i64 a2, .int .i64 a3] #[.int .i64 b0, .int .i64 b1, .int .i64 b2, .int .i64 b3] (Try.prog.fieldsOf 24).toList).run Try.prog w = .ok (decide (a0 = b0) && (decide (a1 = b1) && (decide (a2 = b2) && (decide (a3 = b3) && true)))) w := by
  have hf : (Try.prog.fieldsOf 24).toList.map (fun f => (f.name == "_", f.type, f.offset)) = [(false, 3, 0), (false, 3, 1), (false, 3, 2), (false, 3, 3)] := by kernel_rfl
  have q : (Op.eqFields 9999 #[.int .i64 a0, .int .i64 a1, .int .i64 a2, .int .i64 a3] #[.int .i64 b0, .int .i64 b1, .int .i64 b2, .int .i64 b3] (Try.prog.fieldsOf 24).toList).run Try.prog w = .ok (decide (a0 = b0) && (decide (a1 = b1) && (decide (a2 = b2) && (decide (a3 = b3) && true)))) w := by
    obtain ⟨f0, t0, e0, h0, hf⟩ := fields_cons hf
    obtain ⟨f1, t1, e1, h1, hf⟩ := fields_cons hf
    obtain ⟨f2, t2, e2, h2, hf⟩ := fields_cons hf
    obtain ⟨f3, t3, e3, h3, hf⟩ := fields_cons hf
    rw [e0, e1, e2, e3, fields_nil hf]
    exact eqF_int h0 Try.isAgg3 Try.underlying3 rfl rfl (eqF_int h1 Try.isAgg3 Try.underlying3 rfl rfl (eqF_int h2 Try.isAgg3 Try.underlying3 rfl rfl (eqF_int h3 Try.isAgg3 Try.underlying3 rfl rfl (eqF_nil))))
  exact q
theorem eq24_eql (x y : Operand) (a0 b0 : Int) (a1 b1 : Int) (a2 b2 : Int) (a3 b3 : Int) (w : World) : (do eqGuard .eql 24 x y (.agg #[.int .i64 a0, .int .i64 a1, .int .i64 a2, .int .i64 a3]) (.agg #[.int .i64 b0, .int .i64 b1, .int .i64 b2, .int .i64 b3]); binOp .eql 24 (.agg #[.int .i64 a0, .int .i64 a1, .int .i64 a2, .int .i64 a3]) (.agg #[.int .i64 b0, .int .i64 b1, .int .i64 b2, .int .i64 b3]) : Sem Value).run Try.prog w = .ok (.bool (decide (a0 = b0) && (decide (a1 = b1) && (decide (a2 = b2) && (decide (a3 = b3) && true))))) w := eqS_eql _ _ _ x y (by kernel_rfl) (by kernel_rfl) (by kernel_rfl) (eqf24 a0 b0 a1 b1 a2 b2 a3 b3 w)
theorem eq24_neq (x y : Operand) (a0 b0 : Int) (a1 b1 : Int) (a2 b2 : Int) (a3 b3 : Int) (w : World) : (do eqGuard .neq 24 x y (.agg #[.int .i64 a0, .int .i64 a1, .int .i64 a2, .int .i64 a3]) (.agg #[.int .i64 b0, .int .i64 b1, .int .i64 b2, .int .i64 b3]); binOp .neq 24 (.agg #[.int .i64 a0, .int .i64 a1, .int .i64 a2, .int .i64 a3]) (.agg #[.int .i64 b0, .int .i64 b1, .int .i64 b2, .int .i64 b3]) : Sem Value).run Try.prog w = .ok (.bool (!(decide (a0 = b0) && (decide (a1 = b1) && (decide (a2 = b2) && (decide (a3 = b3) && true)))))) w := eqS_neq _ _ _ x y (by kernel_rfl) (by kernel_rfl) (by kernel_rfl) (eqf24 a0 b0 a1 b1 a2 b2 a3 b3 w)
theorem ty25 : TyS Try.prog 25 1 false := ⟨Try.sizeOf25, Try.isAgg25⟩
theorem ty26 : TyS Try.prog 26 1 false := ⟨Try.sizeOf26, Try.isAgg26⟩
theorem ty27 : TyS Try.prog 27 1 false := ⟨Try.sizeOf27, Try.isAgg27⟩
theorem sl27 : SlS Try.prog 27 42 2 := ⟨Try.underlying27, Try.sizeOf42⟩
theorem app27 : AppS Try.prog 27 42 2 16 := ⟨Try.underlying27, (by obtain ⟨i, h1, h2, h3, h4⟩ := info_parts (by kernel_rfl : (Try.prog.info? 42).map (fun i => (i.zero, i.size, i.bytes)) = some (some (.agg #[.int .i64 0, .bool false]), 2, 16)); exact ⟨i, _, h1, h2, h3, h4, rfl⟩), by decide⟩
theorem sli27 : SliS Try.prog 27 42 2 [.int .i64 0, .bool false] := ⟨Try.underlying27, Try.sizeOf42, ze42, rfl⟩
theorem ty28 : TyS Try.prog 28 1 false := ⟨Try.sizeOf28, Try.isAgg28⟩
theorem sl28 : SlS Try.prog 28 44 5 := ⟨Try.underlying28, Try.sizeOf44⟩
theorem app28 : AppS Try.prog 28 44 5 40 := ⟨Try.underlying28, (by obtain ⟨i, h1, h2, h3, h4⟩ := info_parts (by kernel_rfl : (Try.prog.info? 44).map (fun i => (i.zero, i.size, i.bytes)) = some (some (.agg #[.int .i64 0, .int .i64 0, .int .i64 0, .int .i64 0, .int .i64 0]), 5, 40)); exact ⟨i, _, h1, h2, h3, h4, rfl⟩), by decide⟩
theorem sli28 : SliS Try.prog 28 44 5 [.int .i64 0, .int .i64 0, .int .i64 0, .int .i64 0, .int .i64 0] := ⟨Try.underlying28, Try.sizeOf44, ze44, rfl⟩
theorem ty29 : TyS Try.prog 29 2 true := ⟨Try.sizeOf29, Try.isAgg29⟩
theorem str29 : StrS Try.prog 29 [.slice none 0 0, .slice none 0 0] [(0, 1), (1, 1)] := strS Try.zeroValue29 Try.underlying29 (fun w => by kernel_rfl)
theorem fld29_0 : FldS Try.prog 29 0 0 := ⟨fun a w => by kernel_rfl⟩
theorem fld29_1 : FldS Try.prog 29 1 1 := ⟨fun a w => by kernel_rfl⟩
theorem prt29_0 : PartS Try.prog 29 0 0 1 false := partS Try.underlying29 (by kernel_rfl) ty27 (by decide)
theorem prt29_1 : PartS Try.prog 29 1 1 1 false := partS Try.underlying29 (by kernel_rfl) ty28 (by decide)
theorem ty30 : TyS Try.prog 30 2 true := ⟨Try.sizeOf30, Try.isAgg30⟩
theorem str30 : StrS Try.prog 30 [.slice none 0 0, .slice none 0 0] [(0, 1), (1, 1)] := strS Try.zeroValue30 Try.underlying30 (fun w => by kernel_rfl)
theorem fld30_0 : FldS Try.prog 30 0 0 := ⟨fun a w => by kernel_rfl⟩
theorem fld30_1 : FldS Try.prog 30 1 1 := ⟨fun a w => by kernel_rfl⟩
theorem prt30_0 : PartS Try.prog 30 0 0 1 false := partS Try.underlying30 (by kernel_rfl) ty27 (by decide)
theorem prt30_1 : PartS Try.prog 30 1 1 1 false := partS Try.underlying30 (by kernel_rfl) ty28 (by decide)
theorem ty31 : TyS Try.prog 31 1 false := ⟨Try.sizeOf31, Try.isAgg31⟩
theorem ty32 : TyS Try.prog 32 1 false := ⟨Try.sizeOf32, Try.isAgg32⟩
theorem ty33 : TyS Try.prog 33 1 false := ⟨Try.sizeOf33, Try.isAgg33⟩
theorem sl33 : SlS Try.prog 33 24 4 := ⟨Try.underlying33, Try.sizeOf24⟩
theorem app33 : AppS Try.prog 33 24 4 32 := ⟨Try.underlying33, (by obtain ⟨i, h1, h2, h3, h4⟩ := info_parts (by kernel_rfl : (Try.prog.info? 24).map (fun i => (i.zero, i.size, i.bytes)) = some (some (.agg #[.int .i64 0, .int .i64 0, .int .i64 0, .int .i64 0]), 4, 32)); exact ⟨i, _, h1, h2, h3, h4, rfl⟩), by decide⟩
theorem sli33 : SliS Try.prog 33 24 4 [.int .i64 0, .int .i64 0, .int .i64 0, .int .i64 0] := ⟨Try.underlying33, Try.sizeOf24, ze24, rfl⟩
theorem ty34 : TyS Try.prog 34 1 false := ⟨Try.sizeOf34, Try.isAgg34⟩
theorem ty36 : TyS Try.prog 36 1 false := ⟨Try.sizeOf36, Try.isAgg36⟩
theorem ty37 : TyS Try.prog 37 1 false := ⟨Try.sizeOf37, Try.isAgg37⟩
theorem ty38 : TyS Try.prog 38 1 false := ⟨Try.sizeOf38, Try.isAgg38⟩
theorem ty39 : TyS Try.prog 39 1 false := ⟨Try.sizeOf39, Try.isAgg39⟩
theorem ty40 : TyS Try.prog 40 1 false := ⟨Try.sizeOf40, Try.isAgg40⟩
theorem ty41 : TyS Try.prog 41 2 true := ⟨Try.sizeOf41, Try.isAgg41⟩
theorem str41 : StrS Try.prog 41 [.int .i64 0, .bool false] [(0, 1), (1, 1)] := strS Try.zeroValue41 Try.underlying41 (fun w => by kernel_rfl)
theorem fld41_0 : FldS Try.prog 41 0 0 := ⟨fun a w => by kernel_rfl⟩
theorem fld41_1 : FldS Try.prog 41 1 1 := ⟨fun a w => by kernel_rfl⟩
theorem prt41_0 : PartS Try.prog 41 0 0 1 false := partS Try.underlying41 (by kernel_rfl) ty3 (by decide)
theorem prt41_1 : PartS Try.prog 41 1 1 1 false := partS Try.underlying41 (by kernel_rfl) ty4 (by decide)
theorem ty42 : TyS Try.prog 42 2 true := ⟨Try.sizeOf42, Try.isAgg42⟩
theorem str42 : StrS Try.prog 42 [.int .i64 0, .bool false] [(0, 1), (1, 1)] := strS Try.zeroValue42 Try.underlying42 (fun w => by kernel_rfl)
theorem fld42_0 : FldS Try.prog 42 0 0 := ⟨fun a w => by kernel_rfl⟩
theorem fld42_1 : FldS Try.prog 42 1 1 := ⟨fun a w => by kernel_rfl⟩
theorem prt42_0 : PartS Try.prog 42 0 0 1 false := partS Try.underlying42 (by kernel_rfl) ty3 (by decide)
theorem prt42_1 : PartS Try.prog 42 1 1 1 false := partS Try.underlying42 (by kernel_rfl) ty4 (by decide)
theorem eqf42 (a0 b0 : Int) (a1 b1 : Bool) (w : World) : (Op.eqFields 9999 #[.int .i64 a0, .bool a1] #[.int .i64 b0, .bool b1] (Try.prog.fieldsOf 42).toList).run Try.prog w = .ok (decide (a0 = b0) && ((a1 == b1) && true)) w := by
  have hf : (Try.prog.fieldsOf 42).toList.map (fun f => (f.name == "_", f.type, f.offset)) = [(false, 3, 0), (false, 4, 1)] := by kernel_rfl
  have q : (Op.eqFields 9999 #[.int .i64 a0, .bool a1] #[.int .i64 b0, .bool b1] (Try.prog.fieldsOf 42).toList).run Try.prog w = .ok (decide (a0 = b0) && ((a1 == b1) && true)) w := by
    obtain ⟨f0, t0, e0, h0, hf⟩ := fields_cons hf
    obtain ⟨f1, t1, e1, h1, hf⟩ := fields_cons hf
    rw [e0, e1, fields_nil hf]
    exact eqF_int h0 Try.isAgg3 Try.underlying3 rfl rfl (eqF_bool h1 Try.isAgg4 Try.underlying4 rfl rfl (eqF_nil))
  exact q
theorem eq42_eql (x y : Operand) (a0 b0 : Int) (a1 b1 : Bool) (w : World) : (do eqGuard .eql 42 x y (.agg #[.int .i64 a0, .bool a1]) (.agg #[.int .i64 b0, .bool b1]); binOp .eql 42 (.agg #[.int .i64 a0, .bool a1]) (.agg #[.int .i64 b0, .bool b1]) : Sem Value).run Try.prog w = .ok (.bool (decide (a0 = b0) && ((a1 == b1) && true))) w := eqS_eql _ _ _ x y (by kernel_rfl) (by kernel_rfl) (by kernel_rfl) (eqf42 a0 b0 a1 b1 w)
theorem eq42_neq (x y : Operand) (a0 b0 : Int) (a1 b1 : Bool) (w : World) : (do eqGuard .neq 42 x y (.agg #[.int .i64 a0, .bool a1]) (.agg #[.int .i64 b0, .bool b1]); binOp .neq 42 (.agg #[.int .i64 a0, .bool a1]) (.agg #[.int .i64 b0, .bool b1]) : Sem Value).run Try.prog w = .ok (.bool (!(decide (a0 = b0) && ((a1 == b1) && true)))) w := eqS_neq _ _ _ x y (by kernel_rfl) (by kernel_rfl) (by kernel_rfl) (eqf42 a0 b0 a1 b1 w)
theorem ty43 : TyS Try.prog 43 5 true := ⟨Try.sizeOf43, Try.isAgg43⟩
theorem str43 : StrS Try.prog 43 [.int .i64 0, .int .i64 0, .int .i64 0, .int .i64 0, .int .i64 0] [(0, 1), (1, 1), (2, 1), (3, 1), (4, 1)] := strS Try.zeroValue43 Try.underlying43 (fun w => by kernel_rfl)
theorem fld43_0 : FldS Try.prog 43 0 0 := ⟨fun a w => by kernel_rfl⟩
theorem fld43_1 : FldS Try.prog 43 1 1 := ⟨fun a w => by kernel_rfl⟩
theorem fld43_2 : FldS Try.prog 43 2 2 := ⟨fun a w => by kernel_rfl⟩
theorem fld43_3 : FldS Try.prog 43 3 3 := ⟨fun a w => by kernel_rfl⟩
theorem fld43_4 : FldS Try.prog 43 4 4 := ⟨fun a w => by kernel_rfl⟩
theorem prt43_0 : PartS Try.prog 43 0 0 1 false := partS Try.underlying43 (by kernel_rfl) ty3 (by decide)
theorem prt43_1 : PartS Try.prog 43 1 1 1 false := partS Try.underlying43 (by kernel_rfl) ty3 (by decide)
theorem prt43_2 : PartS Try.prog 43 2 2 1 false := partS Try.underlying43 (by kernel_rfl) ty3 (by decide)
theorem prt43_3 : PartS Try.prog 43 3 3 1 false := partS Try.underlying43 (by kernel_rfl) ty3 (by decide)
theorem prt43_4 : PartS Try.prog 43 4 4 1 false := partS Try.underlying43 (by kernel_rfl) ty3 (by decide)
theorem ty44 : TyS Try.prog 44 5 true := ⟨Try.sizeOf44, Try.isAgg44⟩
theorem str44 : StrS Try.prog 44 [.int .i64 0, .int .i64 0, .int .i64 0, .int .i64 0, .int .i64 0] [(0, 1), (1, 1), (2, 1), (3, 1), (4, 1)] := strS Try.zeroValue44 Try.underlying44 (fun w => by kernel_rfl)
theorem fld44_0 : FldS Try.prog 44 0 0 := ⟨fun a w => by kernel_rfl⟩
theorem fld44_1 : FldS Try.prog 44 1 1 := ⟨fun a w => by kernel_rfl⟩
theorem fld44_2 : FldS Try.prog 44 2 2 := ⟨fun a w => by kernel_rfl⟩
theorem fld44_3 : FldS Try.prog 44 3 3 := ⟨fun a w => by kernel_rfl⟩
theorem fld44_4 : FldS Try.prog 44 4 4 := ⟨fun a w => by kernel_rfl⟩
theorem prt44_0 : PartS Try.prog 44 0 0 1 false := partS Try.underlying44 (by kernel_rfl) ty3 (by decide)
theorem prt44_1 : PartS Try.prog 44 1 1 1 false := partS Try.underlying44 (by kernel_rfl) ty3 (by decide)
theorem prt44_2 : PartS Try.prog 44 2 2 1 false := partS Try.underlying44 (by kernel_rfl) ty3 (by decide)
theorem prt44_3 : PartS Try.prog 44 3 3 1 false := partS Try.underlying44 (by kernel_rfl) ty3 (by decide)
theorem prt44_4 : PartS Try.prog 44 4 4 1 false := partS Try.underlying44 (by kernel_rfl) ty3 (by decide)
theorem eqf44 (a0 b0 : Int) (a1 b1 : Int) (a2 b2 : Int) (a3 b3 : Int) (a4 b4 : Int) (w : World) : (Op.eqFields 9999 #[.int .i64 a0, .int .i64 a1, .int .i64 a2, .int .i64 a3, .int .i64 a4] #[.int .i64 b0, .int .i64 b1, .int .i64 b2, .int .i64 b3, .int .i64 b4] (Try.prog.fieldsOf 44).toList).run Try.prog w = .ok (decide (a0 = b0) && (decide (a1 = b1) && (decide (a2 = b2) && (decide (a3 = b3) && (decide (a4 = b4) && true))))) w := by
  have hf : (Try.prog.fieldsOf 44).toList.map (fun f => (f.name == "_", f.type, f.offset)) = [(false, 3, 0), (false, 3, 1), (false, 3, 2), (false, 3, 3), (false, 3, 4)] := by kernel_rfl
  have q : (Op.eqFields 9999 #[.int .i64 a0, .int .i64 a1, .int .i64 a2, .int .i64 a3, .int .i64 a4] #[.int .i64 b0, .int .i64 b1, .int .i64 b2, .int .i64 b3, .int .i64 b4] (Try.prog.fieldsOf 44).toList).run Try.prog w = .ok (decide (a0 = b0) && (decide (a1 = b1) && (decide (a2 = b2) && (decide (a3 = b3) && (decide (a4 = b4) && true))))) w := by
    obtain ⟨f0, t0, e0, h0, hf⟩ := fields_cons hf
    obtain ⟨f1, t1, e1, h1, hf⟩ := fields_cons hf
    obtain ⟨f2, t2, e2, h2, hf⟩ := fields_cons hf
    obtain ⟨f3, t3, e3, h3, hf⟩ := fields_cons hf
    obtain ⟨f4, t4, e4, h4, hf⟩ := fields_cons hf
    rw [e0, e1, e2, e3, e4, fields_nil hf]
    exact eqF_int h0 Try.isAgg3 Try.underlying3 rfl rfl (eqF_int h1 Try.isAgg3 Try.underlying3 rfl rfl (eqF_int h2 Try.isAgg3 Try.underlying3 rfl rfl (eqF_int h3 Try.isAgg3 Try.underlying3 rfl rfl (eqF_int h4 Try.isAgg3 Try.underlying3 rfl rfl (eqF_nil)))))
  exact q
theorem eq44_eql (x y : Operand) (a0 b0 : Int) (a1 b1 : Int) (a2 b2 : Int) (a3 b3 : Int) (a4 b4 : Int) (w : World) : (do eqGuard .eql 44 x y (.agg #[.int .i64 a0, .int .i64 a1, .int .i64 a2, .int .i64 a3, .int .i64 a4]) (.agg #[.int .i64 b0, .int .i64 b1, .int .i64 b2, .int .i64 b3, .int .i64 b4]); binOp .eql 44 (.agg #[.int .i64 a0, .int .i64 a1, .int .i64 a2, .int .i64 a3, .int .i64 a4]) (.agg #[.int .i64 b0, .int .i64 b1, .int .i64 b2, .int .i64 b3, .int .i64 b4]) : Sem Value).run Try.prog w = .ok (.bool (decide (a0 = b0) && (decide (a1 = b1) && (decide (a2 = b2) && (decide (a3 = b3) && (decide (a4 = b4) && true)))))) w := eqS_eql _ _ _ x y (by kernel_rfl) (by kernel_rfl) (by kernel_rfl) (eqf44 a0 b0 a1 b1 a2 b2 a3 b3 a4 b4 w)
theorem eq44_neq (x y : Operand) (a0 b0 : Int) (a1 b1 : Int) (a2 b2 : Int) (a3 b3 : Int) (a4 b4 : Int) (w : World) : (do eqGuard .neq 44 x y (.agg #[.int .i64 a0, .int .i64 a1, .int .i64 a2, .int .i64 a3, .int .i64 a4]) (.agg #[.int .i64 b0, .int .i64 b1, .int .i64 b2, .int .i64 b3, .int .i64 b4]); binOp .neq 44 (.agg #[.int .i64 a0, .int .i64 a1, .int .i64 a2, .int .i64 a3, .int .i64 a4]) (.agg #[.int .i64 b0, .int .i64 b1, .int .i64 b2, .int .i64 b3, .int .i64 b4]) : Sem Value).run Try.prog w = .ok (.bool (!(decide (a0 = b0) && (decide (a1 = b1) && (decide (a2 = b2) && (decide (a3 = b3) && (decide (a4 = b4) && true))))))) w := eqS_neq _ _ _ x y (by kernel_rfl) (by kernel_rfl) (by kernel_rfl) (eqf44 a0 b0 a1 b1 a2 b2 a3 b3 a4 b4 w)
theorem ty45 : TyS Try.prog 45 1 false := ⟨Try.sizeOf45, Try.isAgg45⟩
theorem ty46 : TyS Try.prog 46 2 true := ⟨Try.sizeOf46, Try.isAgg46⟩
theorem str46 : StrS Try.prog 46 [.slice none 0 0, .int .i64 0] [(0, 1), (1, 1)] := strS Try.zeroValue46 Try.underlying46 (fun w => by kernel_rfl)
theorem fld46_0 : FldS Try.prog 46 0 0 := ⟨fun a w => by kernel_rfl⟩
theorem fld46_1 : FldS Try.prog 46 1 1 := ⟨fun a w => by kernel_rfl⟩
theorem prt46_0 : PartS Try.prog 46 0 0 1 false := partS Try.underlying46 (by kernel_rfl) ty22 (by decide)
theorem prt46_1 : PartS Try.prog 46 1 1 1 false := partS Try.underlying46 (by kernel_rfl) ty3 (by decide)
theorem ty47 : TyS Try.prog 47 2 true := ⟨Try.sizeOf47, Try.isAgg47⟩
theorem str47 : StrS Try.prog 47 [.slice none 0 0, .int .i64 0] [(0, 1), (1, 1)] := strS Try.zeroValue47 Try.underlying47 (fun w => by kernel_rfl)
theorem fld47_0 : FldS Try.prog 47 0 0 := ⟨fun a w => by kernel_rfl⟩
theorem fld47_1 : FldS Try.prog 47 1 1 := ⟨fun a w => by kernel_rfl⟩
theorem prt47_0 : PartS Try.prog 47 0 0 1 false := partS Try.underlying47 (by kernel_rfl) ty22 (by decide)
theorem prt47_1 : PartS Try.prog 47 1 1 1 false := partS Try.underlying47 (by kernel_rfl) ty3 (by decide)
theorem ty48 : TyS Try.prog 48 1 false := ⟨Try.sizeOf48, Try.isAgg48⟩
theorem ty49 : TyS Try.prog 49 1 false := ⟨Try.sizeOf49, Try.isAgg49⟩
theorem ty50 : TyS Try.prog 50 1 false := ⟨Try.sizeOf50, Try.isAgg50⟩
theorem ty51 : TyS Try.prog 51 1 false := ⟨Try.sizeOf51, Try.isAgg51⟩
theorem ty52 : TyS Try.prog 52 1 false := ⟨Try.sizeOf52, Try.isAgg52⟩
theorem ty53 : TyS Try.prog 53 1 false := ⟨Try.sizeOf53, Try.isAgg53⟩
theorem ty54 : TyS Try.prog 54 1 false := ⟨Try.sizeOf54, Try.isAgg54⟩
theorem ty56 : TyS Try.prog 56 1 false := ⟨Try.sizeOf56, Try.isAgg56⟩
theorem ty57 : TyS Try.prog 57 1 false := ⟨Try.sizeOf57, Try.isAgg57⟩
theorem ty58 : TyS Try.prog 58 1 false := ⟨Try.sizeOf58, Try.isAgg58⟩
theorem ty59 : TyS Try.prog 59 1 false := ⟨Try.sizeOf59, Try.isAgg59⟩
theorem ty60 : TyS Try.prog 60 1 false := ⟨Try.sizeOf60, Try.isAgg60⟩
theorem ty61 : TyS Try.prog 61 1 false := ⟨Try.sizeOf61, Try.isAgg61⟩
theorem ty62 : TyS Try.prog 62 1 false := ⟨Try.sizeOf62, Try.isAgg62⟩
theorem ty63 : TyS Try.prog 63 1 false := ⟨Try.sizeOf63, Try.isAgg63⟩
theorem ty64 : TyS Try.prog 64 1 false := ⟨Try.sizeOf64, Try.isAgg64⟩
theorem ty65 : TyS Try.prog 65 2 true := ⟨Try.sizeOf65, Try.isAgg65⟩
theorem str65 : StrS Try.prog 65 [.int .i64 0, .int .i64 0] [(0, 1), (1, 1)] := strS Try.zeroValue65 Try.underlying65 (fun w => by kernel_rfl)
theorem fld65_0 : FldS Try.prog 65 0 0 := ⟨fun a w => by kernel_rfl⟩
theorem fld65_1 : FldS Try.prog 65 1 1 := ⟨fun a w => by kernel_rfl⟩
theorem prt65_0 : PartS Try.prog 65 0 0 1 false := partS Try.underlying65 (by kernel_rfl) ty3 (by decide)
theorem prt65_1 : PartS Try.prog 65 1 1 1 false := partS Try.underlying65 (by kernel_rfl) ty3 (by decide)
theorem ty66 : TyS Try.prog 66 2 true := ⟨Try.sizeOf66, Try.isAgg66⟩
theorem str66 : StrS Try.prog 66 [.int .i64 0, .int .i64 0] [(0, 1), (1, 1)] := strS Try.zeroValue66 Try.underlying66 (fun w => by kernel_rfl)
theorem fld66_0 : FldS Try.prog 66 0 0 := ⟨fun a w => by kernel_rfl⟩
theorem fld66_1 : FldS Try.prog 66 1 1 := ⟨fun a w => by kernel_rfl⟩
theorem prt66_0 : PartS Try.prog 66 0 0 1 false := partS Try.underlying66 (by kernel_rfl) ty3 (by decide)
theorem prt66_1 : PartS Try.prog 66 1 1 1 false := partS Try.underlying66 (by kernel_rfl) ty3 (by decide)
theorem eqf66 (a0 b0 : Int) (a1 b1 : Int) (w : World) : (Op.eqFields 9999 #[.int .i64 a0, .int .i64 a1] #[.int .i64 b0, .int .i64 b1] (Try.prog.fieldsOf 66).toList).run Try.prog w = .ok (decide (a0 = b0) && (decide (a1 = b1) && true)) w := by
  have hf : (Try.prog.fieldsOf 66).toList.map (fun f => (f.name == "_", f.type, f.offset)) = [(false, 3, 0), (false, 3, 1)] := by kernel_rfl
  have q : (Op.eqFields 9999 #[.int .i64 a0, .int .i64 a1] #[.int .i64 b0, .int .i64 b1] (Try.prog.fieldsOf 66).toList).run Try.prog w = .ok (decide (a0 = b0) && (decide (a1 = b1) && true)) w := by
    obtain ⟨f0, t0, e0, h0, hf⟩ := fields_cons hf
    obtain ⟨f1, t1, e1, h1, hf⟩ := fields_cons hf
    rw [e0, e1, fields_nil hf]
    exact eqF_int h0 Try.isAgg3 Try.underlying3 rfl rfl (eqF_int h1 Try.isAgg3 Try.underlying3 rfl rfl (eqF_nil))
  exact q
theorem eq66_eql (x y : Operand) (a0 b0 : Int) (a1 b1 : Int) (w : World) : (do eqGuard .eql 66 x y (.agg #[.int .i64 a0, .int .i64 a1]) (.agg #[.int .i64 b0, .int .i64 b1]); binOp .eql 66 (.agg #[.int .i64 a0, .int .i64 a1]) (.agg #[.int .i64 b0, .int .i64 b1]) : Sem Value).run Try.prog w = .ok (.bool (decide (a0 = b0) && (decide (a1 = b1) && true))) w := eqS_eql _ _ _ x y (by kernel_rfl) (by kernel_rfl) (by kernel_rfl) (eqf66 a0 b0 a1 b1 w)
theorem eq66_neq (x y : Operand) (a0 b0 : Int) (a1 b1 : Int) (w : World) : (do eqGuard .neq 66 x y (.agg #[.int .i64 a0, .int .i64 a1]) (.agg #[.int .i64 b0, .int .i64 b1]); binOp .neq 66 (.agg #[.int .i64 a0, .int .i64 a1]) (.agg #[.int .i64 b0, .int .i64 b1]) : Sem Value).run Try.prog w = .ok (.bool (!(decide (a0 = b0) && (decide (a1 = b1) && true)))) w := eqS_neq _ _ _ x y (by kernel_rfl) (by kernel_rfl) (by kernel_rfl) (eqf66 a0 b0 a1 b1 w)
theorem ty67 : TyS Try.prog 67 1 false := ⟨Try.sizeOf67, Try.isAgg67⟩
theorem sl67 : SlS Try.prog 67 66 2 := ⟨Try.underlying67, Try.sizeOf66⟩
theorem app67 : AppS Try.prog 67 66 2 16 := ⟨Try.underlying67, (by obtain ⟨i, h1, h2, h3, h4⟩ := info_parts (by kernel_rfl : (Try.prog.info? 66).map (fun i => (i.zero, i.size, i.bytes)) = some (some (.agg #[.int .i64 0, .int .i64 0]), 2, 16)); exact ⟨i, _, h1, h2, h3, h4, rfl⟩), by decide⟩
theorem sli67 : SliS Try.prog 67 66 2 [.int .i64 0, .int .i64 0] := ⟨Try.underlying67, Try.sizeOf66, ze66, rfl⟩
theorem ty68 : TyS Try.prog 68 2 true := ⟨Try.sizeOf68, Try.isAgg68⟩
theorem str68 : StrS Try.prog 68 [.slice none 0 0, .slice none 0 0] [(0, 1), (1, 1)] := strS Try.zeroValue68 Try.underlying68 (fun w => by kernel_rfl)
theorem fld68_0 : FldS Try.prog 68 0 0 := ⟨fun a w => by kernel_rfl⟩
theorem fld68_1 : FldS Try.prog 68 1 1 := ⟨fun a w => by kernel_rfl⟩
theorem prt68_0 : PartS Try.prog 68 0 0 1 false := partS Try.underlying68 (by kernel_rfl) ty67 (by decide)
theorem prt68_1 : PartS Try.prog 68 1 1 1 false := partS Try.underlying68 (by kernel_rfl) ty22 (by decide)
theorem ty69 : TyS Try.prog 69 2 true := ⟨Try.sizeOf69, Try.isAgg69⟩
theorem str69 : StrS Try.prog 69 [.slice none 0 0, .slice none 0 0] [(0, 1), (1, 1)] := strS Try.zeroValue69 Try.underlying69 (fun w => by kernel_rfl)
theorem fld69_0 : FldS Try.prog 69 0 0 := ⟨fun a w => by kernel_rfl⟩
theorem fld69_1 : FldS Try.prog 69 1 1 := ⟨fun a w => by kernel_rfl⟩
theorem prt69_0 : PartS Try.prog 69 0 0 1 false := partS Try.underlying69 (by kernel_rfl) ty67 (by decide)
theorem prt69_1 : PartS Try.prog 69 1 1 1 false := partS Try.underlying69 (by kernel_rfl) ty22 (by decide)
theorem ty70 : TyS Try.prog 70 1 false := ⟨Try.sizeOf70, Try.isAgg70⟩
theorem ty71 : TyS Try.prog 71 1 false := ⟨Try.sizeOf71, Try.isAgg71⟩
theorem ty72 : TyS Try.prog 72 1 false := ⟨Try.sizeOf72, Try.isAgg72⟩
theorem ty73 : TyS Try.prog 73 1 false := ⟨Try.sizeOf73, Try.isAgg73⟩
theorem ty74 : TyS Try.prog 74 1 false := ⟨Try.sizeOf74, Try.isAgg74⟩
theorem ty75 : TyS Try.prog 75 1 false := ⟨Try.sizeOf75, Try.isAgg75⟩
theorem ty76 : TyS Try.prog 76 1 false := ⟨Try.sizeOf76, Try.isAgg76⟩
theorem ty77 : TyS Try.prog 77 1 false := ⟨Try.sizeOf77, Try.isAgg77⟩
theorem ty78 : TyS Try.prog 78 1 false := ⟨Try.sizeOf78, Try.isAgg78⟩
theorem ty79 : TyS Try.prog 79 1 false := ⟨Try.sizeOf79, Try.isAgg79⟩
theorem ty80 : TyS Try.prog 80 1 false := ⟨Try.sizeOf80, Try.isAgg80⟩
theorem ty81 : TyS Try.prog 81 1 false := ⟨Try.sizeOf81, Try.isAgg81⟩
theorem ty83 : TyS Try.prog 83 1 false := ⟨Try.sizeOf83, Try.isAgg83⟩
theorem ty84 : TyS Try.prog 84 1 false := ⟨Try.sizeOf84, Try.isAgg84⟩
theorem ty85 : TyS Try.prog 85 1 false := ⟨Try.sizeOf85, Try.isAgg85⟩
theorem ty86 : TyS Try.prog 86 1 false := ⟨Try.sizeOf86, Try.isAgg86⟩
theorem ty87 : TyS Try.prog 87 1 false := ⟨Try.sizeOf87, Try.isAgg87⟩
theorem ty88 : TyS Try.prog 88 1 false := ⟨Try.sizeOf88, Try.isAgg88⟩
theorem ty89 : TyS Try.prog 89 1 false := ⟨Try.sizeOf89, Try.isAgg89⟩
theorem ty90 : TyS Try.prog 90 1 false := ⟨Try.sizeOf90, Try.isAgg90⟩
theorem ty91 : TyS Try.prog 91 1 false := ⟨Try.sizeOf91, Try.isAgg91⟩
theorem ty92 : TyS Try.prog 92 1 false := ⟨Try.sizeOf92, Try.isAgg92⟩
theorem ty93 : TyS Try.prog 93 1 false := ⟨Try.sizeOf93, Try.isAgg93⟩
theorem ty94 : TyS Try.prog 94 1 false := ⟨Try.sizeOf94, Try.isAgg94⟩
theorem ty95 : TyS Try.prog 95 1 false := ⟨Try.sizeOf95, Try.isAgg95⟩
theorem ty96 : TyS Try.prog 96 1 false := ⟨Try.sizeOf96, Try.isAgg96⟩
theorem ty97 : TyS Try.prog 97 1 false := ⟨Try.sizeOf97, Try.isAgg97⟩
theorem ty98 : TyS Try.prog 98 1 false := ⟨Try.sizeOf98, Try.isAgg98⟩
theorem ty99 : TyS Try.prog 99 1 false := ⟨Try.sizeOf99, Try.isAgg99⟩
theorem ty100 : TyS Try.prog 100 1 false := ⟨Try.sizeOf100, Try.isAgg100⟩
theorem ty101 : TyS Try.prog 101 1 false := ⟨Try.sizeOf101, Try.isAgg101⟩
theorem ty103 : TyS Try.prog 103 1 false := ⟨Try.sizeOf103, Try.isAgg103⟩
theorem ty104 : TyS Try.prog 104 1 false := ⟨Try.sizeOf104, Try.isAgg104⟩
theorem ty105 : TyS Try.prog 105 1 false := ⟨Try.sizeOf105, Try.isAgg105⟩
theorem ty106 : TyS Try.prog 106 1 false := ⟨Try.sizeOf106, Try.isAgg106⟩
theorem ty107 : TyS Try.prog 107 1 false := ⟨Try.sizeOf107, Try.isAgg107⟩
theorem ty108 : TyS Try.prog 108 1 false := ⟨Try.sizeOf108, Try.isAgg108⟩
theorem ty109 : TyS Try.prog 109 1 false := ⟨Try.sizeOf109, Try.isAgg109⟩
theorem ty110 : TyS Try.prog 110 1 false := ⟨Try.sizeOf110, Try.isAgg110⟩
theorem ty111 : TyS Try.prog 111 1 false := ⟨Try.sizeOf111, Try.isAgg111⟩
theorem ty112 : TyS Try.prog 112 1 false := ⟨Try.sizeOf112, Try.isAgg112⟩
theorem ty113 : TyS Try.prog 113 1 false := ⟨Try.sizeOf113, Try.isAgg113⟩
theorem ty114 : TyS Try.prog 114 1 false := ⟨Try.sizeOf114, Try.isAgg114⟩
theorem ty115 : TyS Try.prog 115 1 false := ⟨Try.sizeOf115, Try.isAgg115⟩
theorem ty116 : TyS Try.prog 116 1 false := ⟨Try.sizeOf116, Try.isAgg116⟩
theorem ty117 : TyS Try.prog 117 1 false := ⟨Try.sizeOf117, Try.isAgg117⟩
theorem ty118 : TyS Try.prog 118 1 false := ⟨Try.sizeOf118, Try.isAgg118⟩
theorem ty120 : TyS Try.prog 120 1 false := ⟨Try.sizeOf120, Try.isAgg120⟩
theorem ty121 : TyS Try.prog 121 1 false := ⟨Try.sizeOf121, Try.isAgg121⟩
theorem ty122 : TyS Try.prog 122 4 true := ⟨Try.sizeOf122, Try.isAgg122⟩
theorem str122 : StrS Try.prog 122 [.pointer none, .pointer none, .pointer none, .string ⟨#[]⟩] [(0, 1), (1, 1), (2, 1), (3, 1)] := strS Try.zeroValue122 Try.underlying122 (fun w => by kernel_rfl)
theorem fld122_0 : FldS Try.prog 122 0 0 := ⟨fun a w => by kernel_rfl⟩
theorem fld122_1 : FldS Try.prog 122 1 1 := ⟨fun a w => by kernel_rfl⟩
theorem fld122_2 : FldS Try.prog 122 2 2 := ⟨fun a w => by kernel_rfl⟩
theorem fld122_3 : FldS Try.prog 122 3 3 := ⟨fun a w => by kernel_rfl⟩
theorem prt122_0 : PartS Try.prog 122 0 0 1 false := partS Try.underlying122 (by kernel_rfl) ty17 (by decide)
theorem prt122_1 : PartS Try.prog 122 1 1 1 false := partS Try.underlying122 (by kernel_rfl) ty17 (by decide)
theorem prt122_2 : PartS Try.prog 122 2 2 1 false := partS Try.underlying122 (by kernel_rfl) ty17 (by decide)
theorem prt122_3 : PartS Try.prog 122 3 3 1 false := partS Try.underlying122 (by kernel_rfl) ty9 (by decide)
theorem ty123 : TyS Try.prog 123 4 true := ⟨Try.sizeOf123, Try.isAgg123⟩
theorem str123 : StrS Try.prog 123 [.pointer none, .pointer none, .pointer none, .string ⟨#[]⟩] [(0, 1), (1, 1), (2, 1), (3, 1)] := strS Try.zeroValue123 Try.underlying123 (fun w => by kernel_rfl)
theorem fld123_0 : FldS Try.prog 123 0 0 := ⟨fun a w => by kernel_rfl⟩
theorem fld123_1 : FldS Try.prog 123 1 1 := ⟨fun a w => by kernel_rfl⟩
theorem fld123_2 : FldS Try.prog 123 2 2 := ⟨fun a w => by kernel_rfl⟩
theorem fld123_3 : FldS Try.prog 123 3 3 := ⟨fun a w => by kernel_rfl⟩
theorem prt123_0 : PartS Try.prog 123 0 0 1 false := partS Try.underlying123 (by kernel_rfl) ty17 (by decide)
theorem prt123_1 : PartS Try.prog 123 1 1 1 false := partS Try.underlying123 (by kernel_rfl) ty17 (by decide)
theorem prt123_2 : PartS Try.prog 123 2 2 1 false := partS Try.underlying123 (by kernel_rfl) ty17 (by decide)
theorem prt123_3 : PartS Try.prog 123 3 3 1 false := partS Try.underlying123 (by kernel_rfl) ty9 (by decide)
theorem ty124 : TyS Try.prog 124 0 true := ⟨Try.sizeOf124, Try.isAgg124⟩
theorem ty125 : TyS Try.prog 125 0 true := ⟨Try.sizeOf125, Try.isAgg125⟩
theorem str125 : StrS Try.prog 125 [] [(0, 0)] := strS Try.zeroValue125 Try.underlying125 (fun w => by kernel_rfl)
theorem ty126 : TyS Try.prog 126 0 true := ⟨Try.sizeOf126, Try.isAgg126⟩
theorem str126 : StrS Try.prog 126 [] [(0, 0)] := strS Try.zeroValue126 Try.underlying126 (fun w => by kernel_rfl)
theorem ty127 : TyS Try.prog 127 1 false := ⟨Try.sizeOf127, Try.isAgg127⟩
theorem ty128 : TyS Try.prog 128 1 false := ⟨Try.sizeOf128, Try.isAgg128⟩
theorem ty129 : TyS Try.prog 129 1 false := ⟨Try.sizeOf129, Try.isAgg129⟩
theorem ty130 : TyS Try.prog 130 1 false := ⟨Try.sizeOf130, Try.isAgg130⟩
theorem ty131 : TyS Try.prog 131 1 false := ⟨Try.sizeOf131, Try.isAgg131⟩
theorem ty132 : TyS Try.prog 132 1 false := ⟨Try.sizeOf132, Try.isAgg132⟩
theorem ty133 : TyS Try.prog 133 11 true := ⟨Try.sizeOf133, Try.isAgg133⟩
theorem str133 : StrS Try.prog 133 [.int .u64 0, .int .u64 0, .int .u32 0, .int .u8 0, .int .u8 0, .int .u8 0, .int .u8 0, .nilFunc, .pointer none, .int .i32 0, .int .i32 0] [(0, 1), (1, 1), (2, 1), (3, 1), (4, 1), (5, 1), (6, 1), (7, 1), (8, 1), (9, 1), (10, 1)] := strS Try.zeroValue133 Try.underlying133 (fun w => by kernel_rfl)
theorem fld133_0 : FldS Try.prog 133 0 0 := ⟨fun a w => by kernel_rfl⟩
theorem fld133_1 : FldS Try.prog 133 1 1 := ⟨fun a w => by kernel_rfl⟩
theorem fld133_2 : FldS Try.prog 133 2 2 := ⟨fun a w => by kernel_rfl⟩
theorem fld133_3 : FldS Try.prog 133 3 3 := ⟨fun a w => by kernel_rfl⟩
theorem fld133_4 : FldS Try.prog 133 4 4 := ⟨fun a w => by kernel_rfl⟩
theorem fld133_5 : FldS Try.prog 133 5 5 := ⟨fun a w => by kernel_rfl⟩
theorem fld133_6 : FldS Try.prog 133 6 6 := ⟨fun a w => by kernel_rfl⟩
theorem fld133_7 : FldS Try.prog 133 7 7 := ⟨fun a w => by kernel_rfl⟩
theorem fld133_8 : FldS Try.prog 133 8 8 := ⟨fun a w => by kernel_rfl⟩
theorem fld133_9 : FldS Try.prog 133 9 9 := ⟨fun a w => by kernel_rfl⟩
theorem fld133_10 : FldS Try.prog 133 10 10 := ⟨fun a w => by kernel_rfl⟩
theorem prt133_0 : PartS Try.prog 133 0 0 1 false := partS Try.underlying133 (by kernel_rfl) ty12 (by decide)
theorem prt133_1 : PartS Try.prog 133 1 1 1 false := partS Try.underlying133 (by kernel_rfl) ty12 (by decide)
theorem prt133_2 : PartS Try.prog 133 2 2 1 false := partS Try.underlying133 (by kernel_rfl) ty109 (by decide)
theorem prt133_3 : PartS Try.prog 133 3 3 1 false := partS Try.underlying133 (by kernel_rfl) ty127 (by decide)
theorem prt133_4 : PartS Try.prog 133 4 4 1 false := partS Try.underlying133 (by kernel_rfl) ty5 (by decide)
theorem prt133_5 : PartS Try.prog 133 5 5 1 false := partS Try.underlying133 (by kernel_rfl) ty5 (by decide)
theorem prt133_6 : PartS Try.prog 133 6 6 1 false := partS Try.underlying133 (by kernel_rfl) ty128 (by decide)
theorem prt133_7 : PartS Try.prog 133 7 7 1 false := partS Try.underlying133 (by kernel_rfl) ty129 (by decide)
theorem prt133_8 : PartS Try.prog 133 8 8 1 false := partS Try.underlying133 (by kernel_rfl) ty130 (by decide)
theorem prt133_9 : PartS Try.prog 133 9 9 1 false := partS Try.underlying133 (by kernel_rfl) ty131 (by decide)
theorem prt133_10 : PartS Try.prog 133 10 10 1 false := partS Try.underlying133 (by kernel_rfl) ty132 (by decide)
theorem ty134 : TyS Try.prog 134 11 true := ⟨Try.sizeOf134, Try.isAgg134⟩
theorem str134 : StrS Try.prog 134 [.int .u64 0, .int .u64 0, .int .u32 0, .int .u8 0, .int .u8 0, .int .u8 0, .int .u8 0, .nilFunc, .pointer none, .int .i32 0, .int .i32 0] [(0, 1), (1, 1), (2, 1), (3, 1), (4, 1), (5, 1), (6, 1), (7, 1), (8, 1), (9, 1), (10, 1)] := strS Try.zeroValue134 Try.underlying134 (fun w => by kernel_rfl)
theorem fld134_0 : FldS Try.prog 134 0 0 := ⟨fun a w => by kernel_rfl⟩
theorem fld134_1 : FldS Try.prog 134 1 1 := ⟨fun a w => by kernel_rfl⟩
theorem fld134_2 : FldS Try.prog 134 2 2 := ⟨fun a w => by kernel_rfl⟩
theorem fld134_3 : FldS Try.prog 134 3 3 := ⟨fun a w => by kernel_rfl⟩
theorem fld134_4 : FldS Try.prog 134 4 4 := ⟨fun a w => by kernel_rfl⟩
theorem fld134_5 : FldS Try.prog 134 5 5 := ⟨fun a w => by kernel_rfl⟩
theorem fld134_6 : FldS Try.prog 134 6 6 := ⟨fun a w => by kernel_rfl⟩
theorem fld134_7 : FldS Try.prog 134 7 7 := ⟨fun a w => by kernel_rfl⟩
theorem fld134_8 : FldS Try.prog 134 8 8 := ⟨fun a w => by kernel_rfl⟩
theorem fld134_9 : FldS Try.prog 134 9 9 := ⟨fun a w => by kernel_rfl⟩
theorem fld134_10 : FldS Try.prog 134 10 10 := ⟨fun a w => by kernel_rfl⟩
theorem prt134_0 : PartS Try.prog 134 0 0 1 false := partS Try.underlying134 (by kernel_rfl) ty12 (by decide)
theorem prt134_1 : PartS Try.prog 134 1 1 1 false := partS Try.underlying134 (by kernel_rfl) ty12 (by decide)
theorem prt134_2 : PartS Try.prog 134 2 2 1 false := partS Try.underlying134 (by kernel_rfl) ty109 (by decide)
theorem prt134_3 : PartS Try.prog 134 3 3 1 false := partS Try.underlying134 (by kernel_rfl) ty127 (by decide)
theorem prt134_4 : PartS Try.prog 134 4 4 1 false := partS Try.underlying134 (by kernel_rfl) ty5 (by decide)
theorem prt134_5 : PartS Try.prog 134 5 5 1 false := partS Try.underlying134 (by kernel_rfl) ty5 (by decide)
theorem prt134_6 : PartS Try.prog 134 6 6 1 false := partS Try.underlying134 (by kernel_rfl) ty128 (by decide)
theorem prt134_7 : PartS Try.prog 134 7 7 1 false := partS Try.underlying134 (by kernel_rfl) ty129 (by decide)
theorem prt134_8 : PartS Try.prog 134 8 8 1 false := partS Try.underlying134 (by kernel_rfl) ty130 (by decide)
theorem prt134_9 : PartS Try.prog 134 9 9 1 false := partS Try.underlying134 (by kernel_rfl) ty131 (by decide)
theorem prt134_10 : PartS Try.prog 134 10 10 1 false := partS Try.underlying134 (by kernel_rfl) ty132 (by decide)
end Go.Proofs.Ytckhladakpjlgaa
