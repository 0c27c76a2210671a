/- The types of this translation, as the rules want abr. No condition. -/
import Derived.Test.YtdjeacigeegklaaAB
import Derived.Test.YtdjeacigeegklaaRows
import Derived.OwnWalk
namespace Go.Proofs.Ytdjeacigeegklaa
set_option linter.all false
open Go
set_option maxRecDepth 100000
abbrev Zr (i : Nat) (c : List Value) : Prop := ∀ w, ∃ z, (zeroValue i).run Try.prog w = .ok z w ∧ z.cells = c.toArray
theorem hmix : Try.prog.follows .mixedOrders = true := by kernel_rfl
theorem ze2 : Zr 2 [.int .i64 0] := fun w => ⟨_, Try.zeroValue2 w, rfl⟩
theorem ze3 : Zr 3 [.int .i64 0] := fun w => ⟨_, Try.zeroValue3 w, rfl⟩
theorem ze4 : Zr 4 [.bool false] := fun w => ⟨_, Try.zeroValue4 w, rfl⟩
theorem ze5 : Zr 5 [.int .u8 0] := fun w => ⟨_, Try.zeroValue5 w, rfl⟩
theorem ze6 : Zr 6 [.int .u8 0] := fun w => ⟨_, Try.zeroValue6 w, rfl⟩
theorem ze7 : Zr 7 [.int .i64 0, .int .i64 0, .bool false, .int .u8 0] := fun w => ⟨_, Try.zeroValue7 w, rfl⟩
theorem ze8 : Zr 8 [.int .i64 0, .int .i64 0, .bool false, .int .u8 0] := fun w => ⟨_, Try.zeroValue8 w, rfl⟩
theorem ze9 : Zr 9 [.string ⟨#[]⟩] := fun w => ⟨_, Try.zeroValue9 w, rfl⟩
theorem ze10 : Zr 10 [.string ⟨#[]⟩] := fun w => ⟨_, Try.zeroValue10 w, rfl⟩
theorem ze11 : Zr 11 [.string ⟨#[]⟩] := fun w => ⟨_, Try.zeroValue11 w, rfl⟩
theorem ze12 : Zr 12 [.int .u64 0] := fun w => ⟨_, Try.zeroValue12 w, rfl⟩
theorem ze13 : Zr 13 [.string ⟨#[]⟩, .int .u64 0] := fun w => ⟨_, Try.zeroValue13 w, rfl⟩
theorem ze14 : Zr 14 [.string ⟨#[]⟩, .int .u64 0] := fun w => ⟨_, Try.zeroValue14 w, rfl⟩
theorem ze15 : Zr 15 [.pointer none] := fun w => ⟨_, Try.zeroValue15 w, rfl⟩
theorem ze16 : Zr 16 [.pointer none] := fun w => ⟨_, Try.zeroValue16 w, rfl⟩
theorem ze17 : Zr 17 [.pointer none] := fun w => ⟨_, Try.zeroValue17 w, rfl⟩
theorem ze18 : Zr 18 [.pointer none] := fun w => ⟨_, Try.zeroValue18 w, rfl⟩
theorem ze19 : Zr 19 [.pointer none] := fun w => ⟨_, Try.zeroValue19 w, rfl⟩
theorem ze21 : Zr 21 [.int .i32 0] := fun w => ⟨_, Try.zeroValue21 w, rfl⟩
theorem ze22 : Zr 22 [.slice none 0 0] := fun w => ⟨_, Try.zeroValue22 w, rfl⟩
theorem ze23 : Zr 23 [.pointer none] := fun w => ⟨_, Try.zeroValue23 w, rfl⟩
theorem ze25 : Zr 25 [.slice none 0 0] := fun w => ⟨_, Try.zeroValue25 w, rfl⟩
theorem ze26 : Zr 26 [.slice none 0 0] := fun w => ⟨_, Try.zeroValue26 w, rfl⟩
theorem ze27 : Zr 27 [.slice none 0 0, .slice none 0 0] := fun w => ⟨_, Try.zeroValue27 w, rfl⟩
theorem ze28 : Zr 28 [.slice none 0 0, .slice none 0 0] := fun w => ⟨_, Try.zeroValue28 w, rfl⟩
theorem ze30 : Zr 30 [.slice none 0 0] := fun w => ⟨_, Try.zeroValue30 w, rfl⟩
theorem ze31 : Zr 31 [.int .i64 0, .slice none 0 0] := fun w => ⟨_, Try.zeroValue31 w, rfl⟩
theorem ze32 : Zr 32 [.int .i64 0, .slice none 0 0] := fun w => ⟨_, Try.zeroValue32 w, rfl⟩
theorem ze34 : Zr 34 [.int .u64 0] := fun w => ⟨_, Try.zeroValue34 w, rfl⟩
theorem ze35 : Zr 35 [.int .i64 0, .int .i64 0, .int .i64 0, .int .i64 0, .int .i64 0, .int .i64 0, .int .i64 0, .int .i64 0, .int .u64 0, .string ⟨#[]⟩] := fun w => ⟨_, Try.zeroValue35 w, rfl⟩
theorem ze36 : Zr 36 [.int .i64 0, .int .i64 0, .int .i64 0, .int .i64 0, .int .i64 0, .int .i64 0, .int .i64 0, .int .i64 0, .int .u64 0, .string ⟨#[]⟩] := fun w => ⟨_, Try.zeroValue36 w, rfl⟩
theorem ze38 : Zr 38 [.int .i64 0, .int .i64 0, .int .i64 0, .int .i64 0] := fun w => ⟨_, Try.zeroValue38 w, rfl⟩
theorem alf : Zr 39 [.int .i64 0, .int .i64 0, .int .i64 0, .int .i64 0] := fun w => ⟨_, Try.zeroValue39 w, rfl⟩
theorem ze40 : Zr 40 [.int .u64 0] := fun w => ⟨_, Try.zeroValue40 w, rfl⟩
theorem ze41 : Zr 41 [.slice none 0 0] := fun w => ⟨_, Try.zeroValue41 w, rfl⟩
theorem ze42 : Zr 42 [.slice none 0 0] := fun w => ⟨_, Try.zeroValue42 w, rfl⟩
theorem ze43 : Zr 43 [.slice none 0 0] := fun w => ⟨_, Try.zeroValue43 w, rfl⟩
theorem ze44 : Zr 44 [.slice none 0 0, .slice none 0 0, .slice none 0 0] := fun w => ⟨_, Try.zeroValue44 w, rfl⟩
theorem ze45 : Zr 45 [.slice none 0 0, .slice none 0 0, .slice none 0 0] := fun w => ⟨_, Try.zeroValue45 w, rfl⟩
theorem ze46 : Zr 46 [.int .i64 0] := fun w => ⟨_, Try.zeroValue46 w, rfl⟩
theorem ze49 : Zr 49 [.int .i64 0, .bool false] := fun w => ⟨_, Try.zeroValue49 w, rfl⟩
theorem alg : Zr 50 [.int .i64 0, .bool false] := fun w => ⟨_, Try.zeroValue50 w, rfl⟩
theorem ze53 : Zr 53 [.int .i64 0, .int .i64 0, .int .u64 0] := fun w => ⟨_, Try.zeroValue53 w, rfl⟩
theorem alh : Zr 54 [.int .i64 0, .int .i64 0, .int .u64 0] := fun w => ⟨_, Try.zeroValue54 w, rfl⟩
theorem ze58 : Zr 58 [.int .i64 0, .int .i64 0, .int .i64 0, .int .i64 0, .int .i64 0, .int .i64 0, .int .i64 0, .int .i64 0, .int .i64 0, .int .u64 0, .string ⟨#[]⟩] := fun w => ⟨_, Try.zeroValue58 w, rfl⟩
theorem ali : Zr 59 [.int .i64 0, .int .i64 0, .int .i64 0, .int .i64 0, .int .i64 0, .int .i64 0, .int .i64 0, .int .i64 0, .int .i64 0, .int .u64 0, .string ⟨#[]⟩] := fun w => ⟨_, Try.zeroValue59 w, rfl⟩
theorem ze61 : Zr 61 [.int .i64 0, .int .u64 0] := fun w => ⟨_, Try.zeroValue61 w, rfl⟩
theorem alj : Zr 62 [.int .i64 0, .int .u64 0] := fun w => ⟨_, Try.zeroValue62 w, rfl⟩
theorem ze63 : Zr 63 [.slice none 0 0] := fun w => ⟨_, Try.zeroValue63 w, rfl⟩
theorem ze64 : Zr 64 [.int .u64 0, .int .u64 0, .slice none 0 0] := fun w => ⟨_, Try.zeroValue64 w, rfl⟩
theorem ze65 : Zr 65 [.int .u64 0, .int .u64 0, .slice none 0 0] := fun w => ⟨_, Try.zeroValue65 w, rfl⟩
theorem ze69 : Zr 69 [.slice none 0 0, .int .i64 0, .int .i64 0, .int .i64 0, .int .i64 0, .int .i64 0, .int .i64 0, .int .i64 0, .int .i64 0, .int .u64 0, .string ⟨#[]⟩] := fun w => ⟨_, Try.zeroValue69 w, rfl⟩
theorem ze70 : Zr 70 [.slice none 0 0, .int .i64 0, .int .i64 0, .int .i64 0, .int .i64 0, .int .i64 0, .int .i64 0, .int .i64 0, .int .i64 0, .int .u64 0, .string ⟨#[]⟩] := fun w => ⟨_, Try.zeroValue70 w, rfl⟩
theorem ze71 : Zr 71 [.int .i64 0, .slice none 0 0, .int .i64 0, .int .i64 0, .int .i64 0, .int .i64 0, .int .i64 0, .int .i64 0, .int .i64 0, .int .i64 0, .int .u64 0, .string ⟨#[]⟩] := fun w => ⟨_, Try.zeroValue71 w, rfl⟩
theorem alk : Zr 72 [.int .i64 0, .slice none 0 0, .int .i64 0, .int .i64 0, .int .i64 0, .int .i64 0, .int .i64 0, .int .i64 0, .int .i64 0, .int .i64 0, .int .u64 0, .string ⟨#[]⟩] := fun w => ⟨_, Try.zeroValue72 w, rfl⟩
theorem ze73 : Zr 73 [.slice none 0 0, .int .i64 0] := fun w => ⟨_, Try.zeroValue73 w, rfl⟩
theorem ze74 : Zr 74 [.slice none 0 0, .int .i64 0] := fun w => ⟨_, Try.zeroValue74 w, rfl⟩
theorem ze77 : Zr 77 [.slice none 0 0] := fun w => ⟨_, Try.zeroValue77 w, rfl⟩
theorem alm : Zr 78 [.slice none 0 0] := fun w => ⟨_, Try.zeroValue78 w, rfl⟩
theorem ze79 : Zr 79 [.int .i64 0, .int .i64 0, .int .i64 0, .int .i64 0, .int .i64 0] := fun w => ⟨_, Try.zeroValue79 w, rfl⟩
theorem aln : Zr 80 [.int .i64 0, .int .i64 0, .int .i64 0, .int .i64 0, .int .i64 0] := fun w => ⟨_, Try.zeroValue80 w, rfl⟩
theorem ze88 : Zr 88 [.int .i64 0, .int .i64 0, .int .i64 0, .int .i64 0, .int .i64 0, .int .i64 0, .int .i64 0, .int .i64 0, .int .i64 0, .int .u64 0, .string ⟨#[]⟩] := fun w => ⟨_, Try.zeroValue88 w, rfl⟩
theorem alo : Zr 89 [.int .i64 0, .int .i64 0, .int .i64 0, .int .i64 0, .int .i64 0, .int .i64 0, .int .i64 0, .int .i64 0, .int .i64 0, .int .u64 0, .string ⟨#[]⟩] := fun w => ⟨_, Try.zeroValue89 w, rfl⟩
theorem ze90 : Zr 90 [.slice none 0 0] := fun w => ⟨_, Try.zeroValue90 w, rfl⟩
theorem ze91 : Zr 91 [.slice none 0 0] := fun w => ⟨_, Try.zeroValue91 w, rfl⟩
theorem ze95 : Zr 95 [.int .i64 0, .int .i64 0, .int .i64 0, .int .i64 0, .int .i64 0, .slice none 0 0, .int .i64 0, .int .i64 0, .int .i64 0, .int .i64 0, .int .i64 0, .int .i64 0, .int .i64 0, .int .i64 0, .int .u64 0, .string ⟨#[]⟩] := fun w => ⟨_, Try.zeroValue95 w, rfl⟩
theorem alp : Zr 96 [.int .i64 0, .int .i64 0, .int .i64 0, .int .i64 0, .int .i64 0, .slice none 0 0, .int .i64 0, .int .i64 0, .int .i64 0, .int .i64 0, .int .i64 0, .int .i64 0, .int .i64 0, .int .i64 0, .int .u64 0, .string ⟨#[]⟩] := fun w => ⟨_, Try.zeroValue96 w, rfl⟩
theorem aoN : Zr 101 [.nilFunc] := fun w => ⟨_, Try.zeroValue101 w, rfl⟩
theorem aoO : Zr 104 [.int .i64 0, .int .i64 0, .int .i64 0] := fun w => ⟨_, Try.zeroValue104 w, rfl⟩
theorem aoP : Zr 105 [.int .i64 0, .int .i64 0, .int .i64 0] := fun w => ⟨_, Try.zeroValue105 w, rfl⟩
theorem aoQ : Zr 109 [.nilFunc] := fun w => ⟨_, Try.zeroValue109 w, rfl⟩
theorem aoR : Zr 111 [.nilFunc] := fun w => ⟨_, Try.zeroValue111 w, rfl⟩
theorem aoS : Zr 113 [.nilFunc] := fun w => ⟨_, Try.zeroValue113 w, rfl⟩
theorem aoT : Zr 114 [.nilFunc] := fun w => ⟨_, Try.zeroValue114 w, rfl⟩
theorem aoU : Zr 125 [.map none] := fun w => ⟨_, Try.zeroValue125 w, rfl⟩
theorem aoV : Zr 126 [.map none, .map none] := fun w => ⟨_, Try.zeroValue126 w, rfl⟩
theorem aoW : Zr 127 [.map none, .map none] := fun w => ⟨_, Try.zeroValue127 w, rfl⟩
theorem aoX : Zr 129 [.map none] := fun w => ⟨_, Try.zeroValue129 w, rfl⟩
theorem aoY : Zr 133 [.slice none 0 0] := fun w => ⟨_, Try.zeroValue133 w, rfl⟩
theorem aoZ : Zr 134 [.int .i64 0, .int .i64 0] := fun w => ⟨_, Try.zeroValue134 w, rfl⟩
theorem af6 : Zr 135 [.int .i64 0, .int .i64 0] := fun w => ⟨_, Try.zeroValue135 w, rfl⟩
theorem ao0 : Zr 137 [.nilFunc] := fun w => ⟨_, Try.zeroValue137 w, rfl⟩
theorem ao1 : Zr 142 [.int .i64 0] := fun w => ⟨_, Try.zeroValue142 w, rfl⟩
theorem ao2 : Zr 149 [.int .u32 0] := fun w => ⟨_, Try.zeroValue149 w, rfl⟩
theorem ao3 : Zr 151 [.int .u64 0] := fun w => ⟨_, Try.zeroValue151 w, rfl⟩
theorem ao4 : Zr 155 [.pointer none] := fun w => ⟨_, Try.zeroValue155 w, rfl⟩
theorem ao5 : Zr 157 [.pointer none] := fun w => ⟨_, Try.zeroValue157 w, rfl⟩
theorem ao6 : Zr 161 [.pointer none, .pointer none, .pointer none, .string ⟨#[]⟩] := fun w => ⟨_, Try.zeroValue161 w, rfl⟩
theorem ao7 : Zr 162 [.pointer none, .pointer none, .pointer none, .string ⟨#[]⟩] := fun w => ⟨_, Try.zeroValue162 w, rfl⟩
theorem ao8 : Zr 163 [] := fun w => ⟨_, Try.zeroValue163 w, rfl⟩
theorem ao9 : Zr 166 [.int .u8 0] := fun w => ⟨_, Try.zeroValue166 w, rfl⟩
theorem apa : Zr 167 [.int .u8 0] := fun w => ⟨_, Try.zeroValue167 w, rfl⟩
theorem apb : Zr 168 [.nilFunc] := fun w => ⟨_, Try.zeroValue168 w, rfl⟩
theorem apc : Zr 169 [.pointer none] := fun w => ⟨_, Try.zeroValue169 w, rfl⟩
theorem apd : Zr 170 [.int .i32 0] := fun w => ⟨_, Try.zeroValue170 w, rfl⟩
theorem ape : Zr 171 [.int .i32 0] := fun w => ⟨_, Try.zeroValue171 w, rfl⟩
theorem apf : Zr 172 [.int .u64 0, .int .u64 0, .int .u32 0, .int .u8 0, .int .u8 0, .int .u8 0, .int .u8 0, .nilFunc, .pointer none, .int .i32 0, .int .i32 0] := fun w => ⟨_, Try.zeroValue172 w, rfl⟩
theorem apg : Zr 173 [.int .u64 0, .int .u64 0, .int .u32 0, .int .u8 0, .int .u8 0, .int .u8 0, .int .u8 0, .nilFunc, .pointer none, .int .i32 0, .int .i32 0] := fun w => ⟨_, Try.zeroValue173 w, rfl⟩
theorem ty2 : TyS Try.prog 2 1 false := ⟨Try.sizeOf2, Try.isAgg2⟩
theorem ty3 : TyS Try.prog 3 1 false := ⟨Try.sizeOf3, Try.isAgg3⟩
theorem ty4 : TyS Try.prog 4 1 false := ⟨Try.sizeOf4, Try.isAgg4⟩
theorem ty5 : TyS Try.prog 5 1 false := ⟨Try.sizeOf5, Try.isAgg5⟩
theorem ty6 : TyS Try.prog 6 1 false := ⟨Try.sizeOf6, Try.isAgg6⟩
theorem ty7 : TyS Try.prog 7 4 true := ⟨Try.sizeOf7, Try.isAgg7⟩
theorem str7 : dF Try.prog 7 [.int .i64 0, .int .i64 0, .bool false, .int .u8 0] [(0, 1), (1, 1), (2, 1), (3, 1)] := dW Try.zeroValue7 Try.underlying7 (fun w => by kernel_rfl)
theorem alq : aT Try.prog 7 0 0 := ⟨fun a w => by kernel_rfl⟩
theorem alr : aT Try.prog 7 1 1 := ⟨fun a w => by kernel_rfl⟩
theorem als : aT Try.prog 7 2 2 := ⟨fun a w => by kernel_rfl⟩
theorem alu : aT Try.prog 7 3 3 := ⟨fun a w => by kernel_rfl⟩
theorem alv : aG Try.prog 7 0 0 1 false := aH Try.underlying7 (by kernel_rfl) ty2 (by decide)
theorem alw : aG Try.prog 7 1 1 1 false := aH Try.underlying7 (by kernel_rfl) ty3 (by decide)
theorem alx : aG Try.prog 7 2 2 1 false := aH Try.underlying7 (by kernel_rfl) ty4 (by decide)
theorem aly : aG Try.prog 7 3 3 1 false := aH Try.underlying7 (by kernel_rfl) ty6 (by decide)
theorem ty8 : TyS Try.prog 8 4 true := ⟨Try.sizeOf8, Try.isAgg8⟩
theorem str8 : dF Try.prog 8 [.int .i64 0, .int .i64 0, .bool false, .int .u8 0] [(0, 1), (1, 1), (2, 1), (3, 1)] := dW Try.zeroValue8 Try.underlying8 (fun w => by kernel_rfl)
theorem alz : aT Try.prog 8 0 0 := ⟨fun a w => by kernel_rfl⟩
theorem alA : aT Try.prog 8 1 1 := ⟨fun a w => by kernel_rfl⟩
theorem alB : aT Try.prog 8 2 2 := ⟨fun a w => by kernel_rfl⟩
theorem alC : aT Try.prog 8 3 3 := ⟨fun a w => by kernel_rfl⟩
theorem alD : aG Try.prog 8 0 0 1 false := aH Try.underlying8 (by kernel_rfl) ty2 (by decide)
theorem alF : aG Try.prog 8 1 1 1 false := aH Try.underlying8 (by kernel_rfl) ty3 (by decide)
theorem alG : aG Try.prog 8 2 2 1 false := aH Try.underlying8 (by kernel_rfl) ty4 (by decide)
theorem alH : aG Try.prog 8 3 3 1 false := aH Try.underlying8 (by kernel_rfl) ty6 (by decide)
theorem ty9 : TyS Try.prog 9 1 false := ⟨Try.sizeOf9, Try.isAgg9⟩
theorem ty10 : TyS Try.prog 10 1 false := ⟨Try.sizeOf10, Try.isAgg10⟩
theorem ty11 : TyS Try.prog 11 1 false := ⟨Try.sizeOf11, Try.isAgg11⟩
theorem wH : TyS Try.prog 12 1 false := ⟨Try.sizeOf12, Try.isAgg12⟩
theorem ty13 : TyS Try.prog 13 2 true := ⟨Try.sizeOf13, Try.isAgg13⟩
theorem aph : dF Try.prog 13 [.string ⟨#[]⟩, .int .u64 0] [(0, 1), (1, 1)] := dW Try.zeroValue13 Try.underlying13 (fun w => by kernel_rfl)
theorem ag4 : aT Try.prog 13 0 0 := ⟨fun a w => by kernel_rfl⟩
theorem ag5 : aT Try.prog 13 1 1 := ⟨fun a w => by kernel_rfl⟩
theorem ag6 : aG Try.prog 13 0 0 1 false := aH Try.underlying13 (by kernel_rfl) ty9 (by decide)
theorem ag7 : aG Try.prog 13 1 1 1 false := aH Try.underlying13 (by kernel_rfl) wH (by decide)
theorem ty14 : TyS Try.prog 14 2 true := ⟨Try.sizeOf14, Try.isAgg14⟩
theorem api : dF Try.prog 14 [.string ⟨#[]⟩, .int .u64 0] [(0, 1), (1, 1)] := dW Try.zeroValue14 Try.underlying14 (fun w => by kernel_rfl)
theorem ag8 : aT Try.prog 14 0 0 := ⟨fun a w => by kernel_rfl⟩
theorem ag9 : aT Try.prog 14 1 1 := ⟨fun a w => by kernel_rfl⟩
theorem aha : aG Try.prog 14 0 0 1 false := aH Try.underlying14 (by kernel_rfl) ty9 (by decide)
theorem ahb : aG Try.prog 14 1 1 1 false := aH Try.underlying14 (by kernel_rfl) wH (by decide)
theorem ty15 : TyS Try.prog 15 1 false := ⟨Try.sizeOf15, Try.isAgg15⟩
theorem ty16 : TyS Try.prog 16 1 false := ⟨Try.sizeOf16, Try.isAgg16⟩
theorem tv : TyS Try.prog 17 1 false := ⟨Try.sizeOf17, Try.isAgg17⟩
theorem ty18 : TyS Try.prog 18 1 true := ⟨Try.sizeOf18, Try.isAgg18⟩
theorem apj : dF Try.prog 18 [.pointer none] [(0, 1)] := dW Try.zeroValue18 Try.underlying18 (fun w => by kernel_rfl)
theorem ahc : aT Try.prog 18 0 0 := ⟨fun a w => by kernel_rfl⟩
theorem ahd : aG Try.prog 18 0 0 1 false := aH Try.underlying18 (by kernel_rfl) tv (by decide)
theorem ty19 : TyS Try.prog 19 1 true := ⟨Try.sizeOf19, Try.isAgg19⟩
theorem apk : dF Try.prog 19 [.pointer none] [(0, 1)] := dW Try.zeroValue19 Try.underlying19 (fun w => by kernel_rfl)
theorem ahe : aT Try.prog 19 0 0 := ⟨fun a w => by kernel_rfl⟩
theorem ahf : aG Try.prog 19 0 0 1 false := aH Try.underlying19 (by kernel_rfl) tv (by decide)
theorem ty21 : TyS Try.prog 21 1 false := ⟨Try.sizeOf21, Try.isAgg21⟩
theorem z8 : TyS Try.prog 22 1 false := ⟨Try.sizeOf22, Try.isAgg22⟩
theorem sl22 : SlS Try.prog 22 3 1 := ⟨Try.underlying22, Try.sizeOf3⟩
theorem apl : jA Try.prog 22 3 1 8 := ⟨Try.underlying22, (by obtain ⟨i, h1, h2, h3, h4⟩ := info_parts (by kernel_rfl : (Try.prog.info? 3).map (fun i => (i.zero, i.size, i.bytes)) = some (some (.int .i64 0), 1, 8)); exact ⟨i, _, h1, h2, h3, h4, rfl⟩), by decide⟩
theorem apm : jy Try.prog 22 3 1 [.int .i64 0] := ⟨Try.underlying22, Try.sizeOf3, ze3, rfl⟩
theorem ty23 : TyS Try.prog 23 1 false := ⟨Try.sizeOf23, Try.isAgg23⟩
theorem adF : TyS Try.prog 25 1 false := ⟨Try.sizeOf25, Try.isAgg25⟩
theorem sl25 : SlS Try.prog 25 50 2 := ⟨Try.underlying25, Try.sizeOf50⟩
theorem apn : jA Try.prog 25 50 2 16 := ⟨Try.underlying25, (by obtain ⟨i, h1, h2, h3, h4⟩ := info_parts (by kernel_rfl : (Try.prog.info? 50).map (fun i => (i.zero, i.size, i.bytes)) = some (some (.agg #[.int .i64 0, .bool false]), 2, 16)); exact ⟨i, _, h1, h2, h3, h4, rfl⟩), by decide⟩
theorem apo : jy Try.prog 25 50 2 [.int .i64 0, .bool false] := ⟨Try.underlying25, Try.sizeOf50, alg, rfl⟩
theorem adG : TyS Try.prog 26 1 false := ⟨Try.sizeOf26, Try.isAgg26⟩
theorem sl26 : SlS Try.prog 26 80 5 := ⟨Try.underlying26, Try.sizeOf80⟩
theorem apq : jA Try.prog 26 80 5 40 := ⟨Try.underlying26, (by obtain ⟨i, h1, h2, h3, h4⟩ := info_parts (by kernel_rfl : (Try.prog.info? 80).map (fun i => (i.zero, i.size, i.bytes)) = some (some (.agg #[.int .i64 0, .int .i64 0, .int .i64 0, .int .i64 0, .int .i64 0]), 5, 40)); exact ⟨i, _, h1, h2, h3, h4, rfl⟩), by decide⟩
theorem apr : jy Try.prog 26 80 5 [.int .i64 0, .int .i64 0, .int .i64 0, .int .i64 0, .int .i64 0] := ⟨Try.underlying26, Try.sizeOf80, aln, rfl⟩
theorem ty27 : TyS Try.prog 27 2 true := ⟨Try.sizeOf27, Try.isAgg27⟩
theorem aps : dF Try.prog 27 [.slice none 0 0, .slice none 0 0] [(0, 1), (1, 1)] := dW Try.zeroValue27 Try.underlying27 (fun w => by kernel_rfl)
theorem ahg : aT Try.prog 27 0 0 := ⟨fun a w => by kernel_rfl⟩
theorem ahh : aT Try.prog 27 1 1 := ⟨fun a w => by kernel_rfl⟩
theorem ahi : aG Try.prog 27 0 0 1 false := aH Try.underlying27 (by kernel_rfl) adF (by decide)
theorem ahj : aG Try.prog 27 1 1 1 false := aH Try.underlying27 (by kernel_rfl) adG (by decide)
theorem ty28 : TyS Try.prog 28 2 true := ⟨Try.sizeOf28, Try.isAgg28⟩
theorem apt : dF Try.prog 28 [.slice none 0 0, .slice none 0 0] [(0, 1), (1, 1)] := dW Try.zeroValue28 Try.underlying28 (fun w => by kernel_rfl)
theorem ahk : aT Try.prog 28 0 0 := ⟨fun a w => by kernel_rfl⟩
theorem ahl : aT Try.prog 28 1 1 := ⟨fun a w => by kernel_rfl⟩
theorem ahm : aG Try.prog 28 0 0 1 false := aH Try.underlying28 (by kernel_rfl) adF (by decide)
theorem ahn : aG Try.prog 28 1 1 1 false := aH Try.underlying28 (by kernel_rfl) adG (by decide)
theorem adH : TyS Try.prog 30 1 false := ⟨Try.sizeOf30, Try.isAgg30⟩
theorem alI : SlS Try.prog 30 39 4 := ⟨Try.underlying30, Try.sizeOf39⟩
theorem apu : jA Try.prog 30 39 4 32 := ⟨Try.underlying30, (by obtain ⟨i, h1, h2, h3, h4⟩ := info_parts (by kernel_rfl : (Try.prog.info? 39).map (fun i => (i.zero, i.size, i.bytes)) = some (some (.agg #[.int .i64 0, .int .i64 0, .int .i64 0, .int .i64 0]), 4, 32)); exact ⟨i, _, h1, h2, h3, h4, rfl⟩), by decide⟩
theorem apv : jy Try.prog 30 39 4 [.int .i64 0, .int .i64 0, .int .i64 0, .int .i64 0] := ⟨Try.underlying30, Try.sizeOf39, alf, rfl⟩
theorem ty31 : TyS Try.prog 31 2 true := ⟨Try.sizeOf31, Try.isAgg31⟩
theorem apw : dF Try.prog 31 [.int .i64 0, .slice none 0 0] [(0, 1), (1, 1)] := dW Try.zeroValue31 Try.underlying31 (fun w => by kernel_rfl)
theorem aho : aT Try.prog 31 0 0 := ⟨fun a w => by kernel_rfl⟩
theorem ahp : aT Try.prog 31 1 1 := ⟨fun a w => by kernel_rfl⟩
theorem ahq : aG Try.prog 31 0 0 1 false := aH Try.underlying31 (by kernel_rfl) ty3 (by decide)
theorem ahr : aG Try.prog 31 1 1 1 false := aH Try.underlying31 (by kernel_rfl) adH (by decide)
theorem ty32 : TyS Try.prog 32 2 true := ⟨Try.sizeOf32, Try.isAgg32⟩
theorem apx : dF Try.prog 32 [.int .i64 0, .slice none 0 0] [(0, 1), (1, 1)] := dW Try.zeroValue32 Try.underlying32 (fun w => by kernel_rfl)
theorem ahs : aT Try.prog 32 0 0 := ⟨fun a w => by kernel_rfl⟩
theorem aht : aT Try.prog 32 1 1 := ⟨fun a w => by kernel_rfl⟩
theorem ahu : aG Try.prog 32 0 0 1 false := aH Try.underlying32 (by kernel_rfl) ty3 (by decide)
theorem ahv : aG Try.prog 32 1 1 1 false := aH Try.underlying32 (by kernel_rfl) adH (by decide)
theorem qV : TyS Try.prog 34 1 false := ⟨Try.sizeOf34, Try.isAgg34⟩
theorem ty35 : TyS Try.prog 35 10 true := ⟨Try.sizeOf35, Try.isAgg35⟩
theorem apy : dF Try.prog 35 [.int .i64 0, .int .i64 0, .int .i64 0, .int .i64 0, .int .i64 0, .int .i64 0, .int .i64 0, .int .i64 0, .int .u64 0, .string ⟨#[]⟩] [(0, 1), (1, 1), (2, 1), (3, 1), (4, 1), (5, 1), (6, 1), (7, 1), (8, 1), (9, 1)] := dW Try.zeroValue35 Try.underlying35 (fun w => by kernel_rfl)
theorem ahw : aT Try.prog 35 0 0 := ⟨fun a w => by kernel_rfl⟩
theorem ahx : aT Try.prog 35 1 1 := ⟨fun a w => by kernel_rfl⟩
theorem ahy : aT Try.prog 35 2 2 := ⟨fun a w => by kernel_rfl⟩
theorem ahz : aT Try.prog 35 3 3 := ⟨fun a w => by kernel_rfl⟩
theorem ahA : aT Try.prog 35 4 4 := ⟨fun a w => by kernel_rfl⟩
theorem ahB : aT Try.prog 35 5 5 := ⟨fun a w => by kernel_rfl⟩
theorem ahC : aT Try.prog 35 6 6 := ⟨fun a w => by kernel_rfl⟩
theorem ahD : aT Try.prog 35 7 7 := ⟨fun a w => by kernel_rfl⟩
theorem ahE : aT Try.prog 35 8 8 := ⟨fun a w => by kernel_rfl⟩
theorem ahF : aT Try.prog 35 9 9 := ⟨fun a w => by kernel_rfl⟩
theorem ahG : aG Try.prog 35 0 0 1 false := aH Try.underlying35 (by kernel_rfl) ty3 (by decide)
theorem ahH : aG Try.prog 35 1 1 1 false := aH Try.underlying35 (by kernel_rfl) ty3 (by decide)
theorem ahI : aG Try.prog 35 2 2 1 false := aH Try.underlying35 (by kernel_rfl) ty3 (by decide)
theorem ahJ : aG Try.prog 35 3 3 1 false := aH Try.underlying35 (by kernel_rfl) ty3 (by decide)
theorem ahK : aG Try.prog 35 4 4 1 false := aH Try.underlying35 (by kernel_rfl) ty3 (by decide)
theorem ahL : aG Try.prog 35 5 5 1 false := aH Try.underlying35 (by kernel_rfl) ty3 (by decide)
theorem ahM : aG Try.prog 35 6 6 1 false := aH Try.underlying35 (by kernel_rfl) ty3 (by decide)
theorem ahN : aG Try.prog 35 7 7 1 false := aH Try.underlying35 (by kernel_rfl) ty3 (by decide)
theorem ahO : aG Try.prog 35 8 8 1 false := aH Try.underlying35 (by kernel_rfl) qV (by decide)
theorem ahP : aG Try.prog 35 9 9 1 false := aH Try.underlying35 (by kernel_rfl) ty9 (by decide)
theorem wI : TyS Try.prog 36 10 true := ⟨Try.sizeOf36, Try.isAgg36⟩
theorem apz : dF Try.prog 36 [.int .i64 0, .int .i64 0, .int .i64 0, .int .i64 0, .int .i64 0, .int .i64 0, .int .i64 0, .int .i64 0, .int .u64 0, .string ⟨#[]⟩] [(0, 1), (1, 1), (2, 1), (3, 1), (4, 1), (5, 1), (6, 1), (7, 1), (8, 1), (9, 1)] := dW Try.zeroValue36 Try.underlying36 (fun w => by kernel_rfl)
theorem ahQ : aT Try.prog 36 0 0 := ⟨fun a w => by kernel_rfl⟩
theorem ahR : aT Try.prog 36 1 1 := ⟨fun a w => by kernel_rfl⟩
theorem ahS : aT Try.prog 36 2 2 := ⟨fun a w => by kernel_rfl⟩
theorem ahT : aT Try.prog 36 3 3 := ⟨fun a w => by kernel_rfl⟩
theorem ahU : aT Try.prog 36 4 4 := ⟨fun a w => by kernel_rfl⟩
theorem ahV : aT Try.prog 36 5 5 := ⟨fun a w => by kernel_rfl⟩
theorem ahW : aT Try.prog 36 6 6 := ⟨fun a w => by kernel_rfl⟩
theorem ahX : aT Try.prog 36 7 7 := ⟨fun a w => by kernel_rfl⟩
theorem ahY : aT Try.prog 36 8 8 := ⟨fun a w => by kernel_rfl⟩
theorem ahZ : aT Try.prog 36 9 9 := ⟨fun a w => by kernel_rfl⟩
theorem ah0 : aG Try.prog 36 0 0 1 false := aH Try.underlying36 (by kernel_rfl) ty3 (by decide)
theorem ah1 : aG Try.prog 36 1 1 1 false := aH Try.underlying36 (by kernel_rfl) ty3 (by decide)
theorem ah2 : aG Try.prog 36 2 2 1 false := aH Try.underlying36 (by kernel_rfl) ty3 (by decide)
theorem ah3 : aG Try.prog 36 3 3 1 false := aH Try.underlying36 (by kernel_rfl) ty3 (by decide)
theorem ah4 : aG Try.prog 36 4 4 1 false := aH Try.underlying36 (by kernel_rfl) ty3 (by decide)
theorem ah5 : aG Try.prog 36 5 5 1 false := aH Try.underlying36 (by kernel_rfl) ty3 (by decide)
theorem ah6 : aG Try.prog 36 6 6 1 false := aH Try.underlying36 (by kernel_rfl) ty3 (by decide)
theorem ah7 : aG Try.prog 36 7 7 1 false := aH Try.underlying36 (by kernel_rfl) ty3 (by decide)
theorem ah8 : aG Try.prog 36 8 8 1 false := aH Try.underlying36 (by kernel_rfl) qV (by decide)
theorem ah9 : aG Try.prog 36 9 9 1 false := aH Try.underlying36 (by kernel_rfl) ty9 (by decide)
theorem ty38 : TyS Try.prog 38 4 true := ⟨Try.sizeOf38, Try.isAgg38⟩
theorem apA : dF Try.prog 38 [.int .i64 0, .int .i64 0, .int .i64 0, .int .i64 0] [(0, 1), (1, 1), (2, 1), (3, 1)] := dW Try.zeroValue38 Try.underlying38 (fun w => by kernel_rfl)
theorem aia : aT Try.prog 38 0 0 := ⟨fun a w => by kernel_rfl⟩
theorem aib : aT Try.prog 38 1 1 := ⟨fun a w => by kernel_rfl⟩
theorem aic : aT Try.prog 38 2 2 := ⟨fun a w => by kernel_rfl⟩
theorem aid : aT Try.prog 38 3 3 := ⟨fun a w => by kernel_rfl⟩
theorem aie : aG Try.prog 38 0 0 1 false := aH Try.underlying38 (by kernel_rfl) ty3 (by decide)
theorem aif : aG Try.prog 38 1 1 1 false := aH Try.underlying38 (by kernel_rfl) ty3 (by decide)
theorem aih : aG Try.prog 38 2 2 1 false := aH Try.underlying38 (by kernel_rfl) ty3 (by decide)
theorem aii : aG Try.prog 38 3 3 1 false := aH Try.underlying38 (by kernel_rfl) ty3 (by decide)
theorem adI : TyS Try.prog 39 4 true := ⟨Try.sizeOf39, Try.isAgg39⟩
theorem apB : dF Try.prog 39 [.int .i64 0, .int .i64 0, .int .i64 0, .int .i64 0] [(0, 1), (1, 1), (2, 1), (3, 1)] := dW Try.zeroValue39 Try.underlying39 (fun w => by kernel_rfl)
theorem aij : aT Try.prog 39 0 0 := ⟨fun a w => by kernel_rfl⟩
theorem aik : aT Try.prog 39 1 1 := ⟨fun a w => by kernel_rfl⟩
theorem ail : aT Try.prog 39 2 2 := ⟨fun a w => by kernel_rfl⟩
theorem aim : aT Try.prog 39 3 3 := ⟨fun a w => by kernel_rfl⟩
theorem ain : aG Try.prog 39 0 0 1 false := aH Try.underlying39 (by kernel_rfl) ty3 (by decide)
theorem aio : aG Try.prog 39 1 1 1 false := aH Try.underlying39 (by kernel_rfl) ty3 (by decide)
theorem aip : aG Try.prog 39 2 2 1 false := aH Try.underlying39 (by kernel_rfl) ty3 (by decide)
theorem aiq : aG Try.prog 39 3 3 1 false := aH Try.underlying39 (by kernel_rfl) ty3 (by decide)
theorem ty40 : TyS Try.prog 40 1 false := ⟨Try.sizeOf40, Try.isAgg40⟩
theorem adJ : TyS Try.prog 41 1 false := ⟨Try.sizeOf41, Try.isAgg41⟩
theorem sl41 : SlS Try.prog 41 59 11 := ⟨Try.underlying41, Try.sizeOf59⟩
theorem apC : jA Try.prog 41 59 11 96 := ⟨Try.underlying41, (by obtain ⟨i, h1, h2, h3, h4⟩ := info_parts (by kernel_rfl : (Try.prog.info? 59).map (fun i => (i.zero, i.size, i.bytes)) = some (some (.agg #[.int .i64 0, .int .i64 0, .int .i64 0, .int .i64 0, .int .i64 0, .int .i64 0, .int .i64 0, .int .i64 0, .int .i64 0, .int .u64 0, .string ⟨#[]⟩]), 11, 96)); exact ⟨i, _, h1, h2, h3, h4, rfl⟩), by decide⟩
theorem apD : jy Try.prog 41 59 11 [.int .i64 0, .int .i64 0, .int .i64 0, .int .i64 0, .int .i64 0, .int .i64 0, .int .i64 0, .int .i64 0, .int .i64 0, .int .u64 0, .string ⟨#[]⟩] := ⟨Try.underlying41, Try.sizeOf59, ali, rfl⟩
theorem adK : TyS Try.prog 42 1 false := ⟨Try.sizeOf42, Try.isAgg42⟩
theorem sl42 : SlS Try.prog 42 54 3 := ⟨Try.underlying42, Try.sizeOf54⟩
theorem apF : jA Try.prog 42 54 3 24 := ⟨Try.underlying42, (by obtain ⟨i, h1, h2, h3, h4⟩ := info_parts (by kernel_rfl : (Try.prog.info? 54).map (fun i => (i.zero, i.size, i.bytes)) = some (some (.agg #[.int .i64 0, .int .i64 0, .int .u64 0]), 3, 24)); exact ⟨i, _, h1, h2, h3, h4, rfl⟩), by decide⟩
theorem apG : jy Try.prog 42 54 3 [.int .i64 0, .int .i64 0, .int .u64 0] := ⟨Try.underlying42, Try.sizeOf54, alh, rfl⟩
theorem adL : TyS Try.prog 43 1 false := ⟨Try.sizeOf43, Try.isAgg43⟩
theorem sl43 : SlS Try.prog 43 62 2 := ⟨Try.underlying43, Try.sizeOf62⟩
theorem apH : jA Try.prog 43 62 2 16 := ⟨Try.underlying43, (by obtain ⟨i, h1, h2, h3, h4⟩ := info_parts (by kernel_rfl : (Try.prog.info? 62).map (fun i => (i.zero, i.size, i.bytes)) = some (some (.agg #[.int .i64 0, .int .u64 0]), 2, 16)); exact ⟨i, _, h1, h2, h3, h4, rfl⟩), by decide⟩
theorem apI : jy Try.prog 43 62 2 [.int .i64 0, .int .u64 0] := ⟨Try.underlying43, Try.sizeOf62, alj, rfl⟩
theorem ty44 : TyS Try.prog 44 3 true := ⟨Try.sizeOf44, Try.isAgg44⟩
theorem apJ : dF Try.prog 44 [.slice none 0 0, .slice none 0 0, .slice none 0 0] [(0, 1), (1, 1), (2, 1)] := dW Try.zeroValue44 Try.underlying44 (fun w => by kernel_rfl)
theorem air : aT Try.prog 44 0 0 := ⟨fun a w => by kernel_rfl⟩
theorem ais : aT Try.prog 44 1 1 := ⟨fun a w => by kernel_rfl⟩
theorem ait : aT Try.prog 44 2 2 := ⟨fun a w => by kernel_rfl⟩
theorem aiu : aG Try.prog 44 0 0 1 false := aH Try.underlying44 (by kernel_rfl) adJ (by decide)
theorem aiv : aG Try.prog 44 1 1 1 false := aH Try.underlying44 (by kernel_rfl) adK (by decide)
theorem aiw : aG Try.prog 44 2 2 1 false := aH Try.underlying44 (by kernel_rfl) adL (by decide)
theorem ty45 : TyS Try.prog 45 3 true := ⟨Try.sizeOf45, Try.isAgg45⟩
theorem apK : dF Try.prog 45 [.slice none 0 0, .slice none 0 0, .slice none 0 0] [(0, 1), (1, 1), (2, 1)] := dW Try.zeroValue45 Try.underlying45 (fun w => by kernel_rfl)
theorem aix : aT Try.prog 45 0 0 := ⟨fun a w => by kernel_rfl⟩
theorem aiy : aT Try.prog 45 1 1 := ⟨fun a w => by kernel_rfl⟩
theorem aiz : aT Try.prog 45 2 2 := ⟨fun a w => by kernel_rfl⟩
theorem aiA : aG Try.prog 45 0 0 1 false := aH Try.underlying45 (by kernel_rfl) adJ (by decide)
theorem aiB : aG Try.prog 45 1 1 1 false := aH Try.underlying45 (by kernel_rfl) adK (by decide)
theorem aiC : aG Try.prog 45 2 2 1 false := aH Try.underlying45 (by kernel_rfl) adL (by decide)
theorem ty46 : TyS Try.prog 46 1 false := ⟨Try.sizeOf46, Try.isAgg46⟩
theorem ty49 : TyS Try.prog 49 2 true := ⟨Try.sizeOf49, Try.isAgg49⟩
theorem apL : dF Try.prog 49 [.int .i64 0, .bool false] [(0, 1), (1, 1)] := dW Try.zeroValue49 Try.underlying49 (fun w => by kernel_rfl)
theorem aiD : aT Try.prog 49 0 0 := ⟨fun a w => by kernel_rfl⟩
theorem aiE : aT Try.prog 49 1 1 := ⟨fun a w => by kernel_rfl⟩
theorem aiF : aG Try.prog 49 0 0 1 false := aH Try.underlying49 (by kernel_rfl) ty3 (by decide)
theorem aiG : aG Try.prog 49 1 1 1 false := aH Try.underlying49 (by kernel_rfl) ty4 (by decide)
theorem ty50 : TyS Try.prog 50 2 true := ⟨Try.sizeOf50, Try.isAgg50⟩
theorem apM : dF Try.prog 50 [.int .i64 0, .bool false] [(0, 1), (1, 1)] := dW Try.zeroValue50 Try.underlying50 (fun w => by kernel_rfl)
theorem aiH : aT Try.prog 50 0 0 := ⟨fun a w => by kernel_rfl⟩
theorem aiI : aT Try.prog 50 1 1 := ⟨fun a w => by kernel_rfl⟩
theorem aiJ : aG Try.prog 50 0 0 1 false := aH Try.underlying50 (by kernel_rfl) ty3 (by decide)
theorem aiK : aG Try.prog 50 1 1 1 false := aH Try.underlying50 (by kernel_rfl) ty4 (by decide)
theorem ty53 : TyS Try.prog 53 3 true := ⟨Try.sizeOf53, Try.isAgg53⟩
theorem apN : dF Try.prog 53 [.int .i64 0, .int .i64 0, .int .u64 0] [(0, 1), (1, 1), (2, 1)] := dW Try.zeroValue53 Try.underlying53 (fun w => by kernel_rfl)
theorem aiL : aT Try.prog 53 0 0 := ⟨fun a w => by kernel_rfl⟩
theorem aiM : aT Try.prog 53 1 1 := ⟨fun a w => by kernel_rfl⟩
theorem aiN : aT Try.prog 53 2 2 := ⟨fun a w => by kernel_rfl⟩
theorem aiO : aG Try.prog 53 0 0 1 false := aH Try.underlying53 (by kernel_rfl) ty3 (by decide)
theorem aiP : aG Try.prog 53 1 1 1 false := aH Try.underlying53 (by kernel_rfl) ty3 (by decide)
theorem aiQ : aG Try.prog 53 2 2 1 false := aH Try.underlying53 (by kernel_rfl) qV (by decide)
theorem ty54 : TyS Try.prog 54 3 true := ⟨Try.sizeOf54, Try.isAgg54⟩
theorem apO : dF Try.prog 54 [.int .i64 0, .int .i64 0, .int .u64 0] [(0, 1), (1, 1), (2, 1)] := dW Try.zeroValue54 Try.underlying54 (fun w => by kernel_rfl)
theorem aiR : aT Try.prog 54 0 0 := ⟨fun a w => by kernel_rfl⟩
theorem aiS : aT Try.prog 54 1 1 := ⟨fun a w => by kernel_rfl⟩
theorem aiT : aT Try.prog 54 2 2 := ⟨fun a w => by kernel_rfl⟩
theorem aiU : aG Try.prog 54 0 0 1 false := aH Try.underlying54 (by kernel_rfl) ty3 (by decide)
theorem aiV : aG Try.prog 54 1 1 1 false := aH Try.underlying54 (by kernel_rfl) ty3 (by decide)
theorem aiW : aG Try.prog 54 2 2 1 false := aH Try.underlying54 (by kernel_rfl) qV (by decide)
theorem ty58 : TyS Try.prog 58 11 true := ⟨Try.sizeOf58, Try.isAgg58⟩
theorem apP : dF Try.prog 58 [.int .i64 0, .int .i64 0, .int .i64 0, .int .i64 0, .int .i64 0, .int .i64 0, .int .i64 0, .int .i64 0, .int .i64 0, .int .u64 0, .string ⟨#[]⟩] [(0, 1), (1, 10)] := dW Try.zeroValue58 Try.underlying58 (fun w => by kernel_rfl)
theorem aiX : aT Try.prog 58 0 0 := ⟨fun a w => by kernel_rfl⟩
theorem aiY : aT Try.prog 58 1 1 := ⟨fun a w => by kernel_rfl⟩
theorem aiZ : aG Try.prog 58 0 0 1 false := aH Try.underlying58 (by kernel_rfl) ty3 (by decide)
theorem ai0 : aG Try.prog 58 1 1 10 true := aH Try.underlying58 (by kernel_rfl) wI (by decide)
theorem ty59 : TyS Try.prog 59 11 true := ⟨Try.sizeOf59, Try.isAgg59⟩
theorem apQ : dF Try.prog 59 [.int .i64 0, .int .i64 0, .int .i64 0, .int .i64 0, .int .i64 0, .int .i64 0, .int .i64 0, .int .i64 0, .int .i64 0, .int .u64 0, .string ⟨#[]⟩] [(0, 1), (1, 10)] := dW Try.zeroValue59 Try.underlying59 (fun w => by kernel_rfl)
theorem ai1 : aT Try.prog 59 0 0 := ⟨fun a w => by kernel_rfl⟩
theorem ai2 : aT Try.prog 59 1 1 := ⟨fun a w => by kernel_rfl⟩
theorem ai3 : aG Try.prog 59 0 0 1 false := aH Try.underlying59 (by kernel_rfl) ty3 (by decide)
theorem ai4 : aG Try.prog 59 1 1 10 true := aH Try.underlying59 (by kernel_rfl) wI (by decide)
theorem ty61 : TyS Try.prog 61 2 true := ⟨Try.sizeOf61, Try.isAgg61⟩
theorem apR : dF Try.prog 61 [.int .i64 0, .int .u64 0] [(0, 1), (1, 1)] := dW Try.zeroValue61 Try.underlying61 (fun w => by kernel_rfl)
theorem ai5 : aT Try.prog 61 0 0 := ⟨fun a w => by kernel_rfl⟩
theorem ai6 : aT Try.prog 61 1 1 := ⟨fun a w => by kernel_rfl⟩
theorem ai7 : aG Try.prog 61 0 0 1 false := aH Try.underlying61 (by kernel_rfl) ty3 (by decide)
theorem ai8 : aG Try.prog 61 1 1 1 false := aH Try.underlying61 (by kernel_rfl) qV (by decide)
theorem ty62 : TyS Try.prog 62 2 true := ⟨Try.sizeOf62, Try.isAgg62⟩
theorem apS : dF Try.prog 62 [.int .i64 0, .int .u64 0] [(0, 1), (1, 1)] := dW Try.zeroValue62 Try.underlying62 (fun w => by kernel_rfl)
theorem ai9 : aT Try.prog 62 0 0 := ⟨fun a w => by kernel_rfl⟩
theorem aja : aT Try.prog 62 1 1 := ⟨fun a w => by kernel_rfl⟩
theorem ajb : aG Try.prog 62 0 0 1 false := aH Try.underlying62 (by kernel_rfl) ty3 (by decide)
theorem ajc : aG Try.prog 62 1 1 1 false := aH Try.underlying62 (by kernel_rfl) qV (by decide)
theorem apT (a0 b0 : Int) (a1 b1 : Int) (w : World) : (Op.eqFields 9999 #[.int .i64 a0, .int .u64 a1] #[.int .i64 b0, .int .u64 b1] (Try.prog.fieldsOf 62).toList).run Try.prog w = .ok (decide (a0 = b0) && (decide (a1 = b1) && true)) w := by
 have hf : (Try.prog.fieldsOf 62).toList.map (fun f => (f.name == "_", f.type, f.offset)) = [(false, 3, 0), (false, 34, 1)] := by kernel_rfl
 have q : (Op.eqFields 9999 #[.int .i64 a0, .int .u64 a1] #[.int .i64 b0, .int .u64 b1] (Try.prog.fieldsOf 62).toList).run Try.prog w = .ok (decide (a0 = b0) && (decide (a1 = b1) && true)) w := by
  obtain ⟨f0, t0, e0, h0, hf⟩ := mW hf
  obtain ⟨f1, t1, e1, h1, hf⟩ := mW hf
  rw [e0, e1, xM hf]
  exact sO h0 Try.isAgg3 Try.underlying3 rfl rfl (sO h1 Try.isAgg34 Try.underlying34 rfl rfl (aa8))
 exact q
theorem wJ (x y : Operand) (a0 b0 : Int) (a1 b1 : Int) (w : World) : (do eqGuard .eql 62 x y (.agg #[.int .i64 a0, .int .u64 a1]) (.agg #[.int .i64 b0, .int .u64 b1]); binOp .eql 62 (.agg #[.int .i64 a0, .int .u64 a1]) (.agg #[.int .i64 b0, .int .u64 b1]) : Sem Value).run Try.prog w = .ok (.bool (decide (a0 = b0) && (decide (a1 = b1) && true))) w := agZ _ _ _ x y (by kernel_rfl) (by kernel_rfl) (by kernel_rfl) (apT a0 b0 a1 b1 w)
theorem adM : TyS Try.prog 63 1 false := ⟨Try.sizeOf63, Try.isAgg63⟩
theorem sl63 : SlS Try.prog 63 72 12 := ⟨Try.underlying63, Try.sizeOf72⟩
theorem apU : jA Try.prog 63 72 12 120 := ⟨Try.underlying63, (by obtain ⟨i, h1, h2, h3, h4⟩ := info_parts (by kernel_rfl : (Try.prog.info? 72).map (fun i => (i.zero, i.size, i.bytes)) = some (some (.agg #[.int .i64 0, .slice none 0 0, .int .i64 0, .int .i64 0, .int .i64 0, .int .i64 0, .int .i64 0, .int .i64 0, .int .i64 0, .int .i64 0, .int .u64 0, .string ⟨#[]⟩]), 12, 120)); exact ⟨i, _, h1, h2, h3, h4, rfl⟩), by decide⟩
theorem apV : jy Try.prog 63 72 12 [.int .i64 0, .slice none 0 0, .int .i64 0, .int .i64 0, .int .i64 0, .int .i64 0, .int .i64 0, .int .i64 0, .int .i64 0, .int .i64 0, .int .u64 0, .string ⟨#[]⟩] := ⟨Try.underlying63, Try.sizeOf72, alk, rfl⟩
theorem ty64 : TyS Try.prog 64 3 true := ⟨Try.sizeOf64, Try.isAgg64⟩
theorem apW : dF Try.prog 64 [.int .u64 0, .int .u64 0, .slice none 0 0] [(0, 1), (1, 1), (2, 1)] := dW Try.zeroValue64 Try.underlying64 (fun w => by kernel_rfl)
theorem ajd : aT Try.prog 64 0 0 := ⟨fun a w => by kernel_rfl⟩
theorem aje : aT Try.prog 64 1 1 := ⟨fun a w => by kernel_rfl⟩
theorem ajf : aT Try.prog 64 2 2 := ⟨fun a w => by kernel_rfl⟩
theorem ajg : aG Try.prog 64 0 0 1 false := aH Try.underlying64 (by kernel_rfl) qV (by decide)
theorem ajh : aG Try.prog 64 1 1 1 false := aH Try.underlying64 (by kernel_rfl) qV (by decide)
theorem aji : aG Try.prog 64 2 2 1 false := aH Try.underlying64 (by kernel_rfl) adM (by decide)
theorem ty65 : TyS Try.prog 65 3 true := ⟨Try.sizeOf65, Try.isAgg65⟩
theorem apX : dF Try.prog 65 [.int .u64 0, .int .u64 0, .slice none 0 0] [(0, 1), (1, 1), (2, 1)] := dW Try.zeroValue65 Try.underlying65 (fun w => by kernel_rfl)
theorem ajj : aT Try.prog 65 0 0 := ⟨fun a w => by kernel_rfl⟩
theorem ajk : aT Try.prog 65 1 1 := ⟨fun a w => by kernel_rfl⟩
theorem ajl : aT Try.prog 65 2 2 := ⟨fun a w => by kernel_rfl⟩
theorem ajm : aG Try.prog 65 0 0 1 false := aH Try.underlying65 (by kernel_rfl) qV (by decide)
theorem ajn : aG Try.prog 65 1 1 1 false := aH Try.underlying65 (by kernel_rfl) qV (by decide)
theorem ajo : aG Try.prog 65 2 2 1 false := aH Try.underlying65 (by kernel_rfl) adM (by decide)
theorem ty69 : TyS Try.prog 69 11 true := ⟨Try.sizeOf69, Try.isAgg69⟩
theorem apY : dF Try.prog 69 [.slice none 0 0, .int .i64 0, .int .i64 0, .int .i64 0, .int .i64 0, .int .i64 0, .int .i64 0, .int .i64 0, .int .i64 0, .int .u64 0, .string ⟨#[]⟩] [(0, 1), (1, 10)] := dW Try.zeroValue69 Try.underlying69 (fun w => by kernel_rfl)
theorem ajp : aT Try.prog 69 0 0 := ⟨fun a w => by kernel_rfl⟩
theorem ajq : aT Try.prog 69 1 1 := ⟨fun a w => by kernel_rfl⟩
theorem ajr : aG Try.prog 69 0 0 1 false := aH Try.underlying69 (by kernel_rfl) z8 (by decide)
theorem ajs : aG Try.prog 69 1 1 10 true := aH Try.underlying69 (by kernel_rfl) wI (by decide)
theorem adN : TyS Try.prog 70 11 true := ⟨Try.sizeOf70, Try.isAgg70⟩
theorem apZ : dF Try.prog 70 [.slice none 0 0, .int .i64 0, .int .i64 0, .int .i64 0, .int .i64 0, .int .i64 0, .int .i64 0, .int .i64 0, .int .i64 0, .int .u64 0, .string ⟨#[]⟩] [(0, 1), (1, 10)] := dW Try.zeroValue70 Try.underlying70 (fun w => by kernel_rfl)
theorem ajt : aT Try.prog 70 0 0 := ⟨fun a w => by kernel_rfl⟩
theorem aju : aT Try.prog 70 1 1 := ⟨fun a w => by kernel_rfl⟩
theorem ajv : aG Try.prog 70 0 0 1 false := aH Try.underlying70 (by kernel_rfl) z8 (by decide)
theorem ajw : aG Try.prog 70 1 1 10 true := aH Try.underlying70 (by kernel_rfl) wI (by decide)
theorem ty71 : TyS Try.prog 71 12 true := ⟨Try.sizeOf71, Try.isAgg71⟩
theorem ap0 : dF Try.prog 71 [.int .i64 0, .slice none 0 0, .int .i64 0, .int .i64 0, .int .i64 0, .int .i64 0, .int .i64 0, .int .i64 0, .int .i64 0, .int .i64 0, .int .u64 0, .string ⟨#[]⟩] [(0, 1), (1, 11)] := dW Try.zeroValue71 Try.underlying71 (fun w => by kernel_rfl)
theorem ajx : aT Try.prog 71 0 0 := ⟨fun a w => by kernel_rfl⟩
theorem ajy : aT Try.prog 71 1 1 := ⟨fun a w => by kernel_rfl⟩
theorem ajz : aG Try.prog 71 0 0 1 false := aH Try.underlying71 (by kernel_rfl) ty3 (by decide)
theorem ajA : aG Try.prog 71 1 1 11 true := aH Try.underlying71 (by kernel_rfl) adN (by decide)
theorem adO : TyS Try.prog 72 12 true := ⟨Try.sizeOf72, Try.isAgg72⟩
theorem ap1 : dF Try.prog 72 [.int .i64 0, .slice none 0 0, .int .i64 0, .int .i64 0, .int .i64 0, .int .i64 0, .int .i64 0, .int .i64 0, .int .i64 0, .int .i64 0, .int .u64 0, .string ⟨#[]⟩] [(0, 1), (1, 11)] := dW Try.zeroValue72 Try.underlying72 (fun w => by kernel_rfl)
theorem ajB : aT Try.prog 72 0 0 := ⟨fun a w => by kernel_rfl⟩
theorem ajC : aT Try.prog 72 1 1 := ⟨fun a w => by kernel_rfl⟩
theorem ajD : aG Try.prog 72 0 0 1 false := aH Try.underlying72 (by kernel_rfl) ty3 (by decide)
theorem ajE : aG Try.prog 72 1 1 11 true := aH Try.underlying72 (by kernel_rfl) adN (by decide)
theorem ty73 : TyS Try.prog 73 2 true := ⟨Try.sizeOf73, Try.isAgg73⟩
theorem ap2 : dF Try.prog 73 [.slice none 0 0, .int .i64 0] [(0, 1), (1, 1)] := dW Try.zeroValue73 Try.underlying73 (fun w => by kernel_rfl)
theorem ajF : aT Try.prog 73 0 0 := ⟨fun a w => by kernel_rfl⟩
theorem ajG : aT Try.prog 73 1 1 := ⟨fun a w => by kernel_rfl⟩
theorem ajH : aG Try.prog 73 0 0 1 false := aH Try.underlying73 (by kernel_rfl) z8 (by decide)
theorem ajI : aG Try.prog 73 1 1 1 false := aH Try.underlying73 (by kernel_rfl) ty3 (by decide)
theorem ty74 : TyS Try.prog 74 2 true := ⟨Try.sizeOf74, Try.isAgg74⟩
theorem ap3 : dF Try.prog 74 [.slice none 0 0, .int .i64 0] [(0, 1), (1, 1)] := dW Try.zeroValue74 Try.underlying74 (fun w => by kernel_rfl)
theorem ajJ : aT Try.prog 74 0 0 := ⟨fun a w => by kernel_rfl⟩
theorem ajK : aT Try.prog 74 1 1 := ⟨fun a w => by kernel_rfl⟩
theorem ajL : aG Try.prog 74 0 0 1 false := aH Try.underlying74 (by kernel_rfl) z8 (by decide)
theorem ajM : aG Try.prog 74 1 1 1 false := aH Try.underlying74 (by kernel_rfl) ty3 (by decide)
theorem ty77 : TyS Try.prog 77 1 false := ⟨Try.sizeOf77, Try.isAgg77⟩
theorem uE : SlS Try.prog 77 78 1 := ⟨Try.underlying77, Try.sizeOf78⟩
theorem af7 : jA Try.prog 77 78 1 24 := ⟨Try.underlying77, (by obtain ⟨i, h1, h2, h3, h4⟩ := info_parts (by kernel_rfl : (Try.prog.info? 78).map (fun i => (i.zero, i.size, i.bytes)) = some (some (.slice none 0 0), 1, 24)); exact ⟨i, _, h1, h2, h3, h4, rfl⟩), by decide⟩
theorem af8 : jy Try.prog 77 78 1 [.slice none 0 0] := ⟨Try.underlying77, Try.sizeOf78, alm, rfl⟩
theorem aaa : TyS Try.prog 78 1 false := ⟨Try.sizeOf78, Try.isAgg78⟩
theorem sl78 : SlS Try.prog 78 4 1 := ⟨Try.underlying78, Try.sizeOf4⟩
theorem af9 : jA Try.prog 78 4 1 1 := ⟨Try.underlying78, (by obtain ⟨i, h1, h2, h3, h4⟩ := info_parts (by kernel_rfl : (Try.prog.info? 4).map (fun i => (i.zero, i.size, i.bytes)) = some (some (.bool false), 1, 1)); exact ⟨i, _, h1, h2, h3, h4, rfl⟩), by decide⟩
theorem aga : jy Try.prog 78 4 1 [.bool false] := ⟨Try.underlying78, Try.sizeOf4, ze4, rfl⟩
theorem ty79 : TyS Try.prog 79 5 true := ⟨Try.sizeOf79, Try.isAgg79⟩
theorem ap4 : dF Try.prog 79 [.int .i64 0, .int .i64 0, .int .i64 0, .int .i64 0, .int .i64 0] [(0, 1), (1, 1), (2, 1), (3, 1), (4, 1)] := dW Try.zeroValue79 Try.underlying79 (fun w => by kernel_rfl)
theorem ajN : aT Try.prog 79 0 0 := ⟨fun a w => by kernel_rfl⟩
theorem ajO : aT Try.prog 79 1 1 := ⟨fun a w => by kernel_rfl⟩
theorem ajP : aT Try.prog 79 2 2 := ⟨fun a w => by kernel_rfl⟩
theorem ajQ : aT Try.prog 79 3 3 := ⟨fun a w => by kernel_rfl⟩
theorem ajR : aT Try.prog 79 4 4 := ⟨fun a w => by kernel_rfl⟩
theorem ajS : aG Try.prog 79 0 0 1 false := aH Try.underlying79 (by kernel_rfl) ty3 (by decide)
theorem ajT : aG Try.prog 79 1 1 1 false := aH Try.underlying79 (by kernel_rfl) ty3 (by decide)
theorem ajU : aG Try.prog 79 2 2 1 false := aH Try.underlying79 (by kernel_rfl) ty3 (by decide)
theorem ajV : aG Try.prog 79 3 3 1 false := aH Try.underlying79 (by kernel_rfl) ty3 (by decide)
theorem ajW : aG Try.prog 79 4 4 1 false := aH Try.underlying79 (by kernel_rfl) ty3 (by decide)
theorem ty80 : TyS Try.prog 80 5 true := ⟨Try.sizeOf80, Try.isAgg80⟩
theorem ap5 : dF Try.prog 80 [.int .i64 0, .int .i64 0, .int .i64 0, .int .i64 0, .int .i64 0] [(0, 1), (1, 1), (2, 1), (3, 1), (4, 1)] := dW Try.zeroValue80 Try.underlying80 (fun w => by kernel_rfl)
theorem ajX : aT Try.prog 80 0 0 := ⟨fun a w => by kernel_rfl⟩
theorem ajY : aT Try.prog 80 1 1 := ⟨fun a w => by kernel_rfl⟩
theorem ajZ : aT Try.prog 80 2 2 := ⟨fun a w => by kernel_rfl⟩
theorem aj0 : aT Try.prog 80 3 3 := ⟨fun a w => by kernel_rfl⟩
theorem aj1 : aT Try.prog 80 4 4 := ⟨fun a w => by kernel_rfl⟩
theorem aj2 : aG Try.prog 80 0 0 1 false := aH Try.underlying80 (by kernel_rfl) ty3 (by decide)
theorem aj3 : aG Try.prog 80 1 1 1 false := aH Try.underlying80 (by kernel_rfl) ty3 (by decide)
theorem aj4 : aG Try.prog 80 2 2 1 false := aH Try.underlying80 (by kernel_rfl) ty3 (by decide)
theorem aj5 : aG Try.prog 80 3 3 1 false := aH Try.underlying80 (by kernel_rfl) ty3 (by decide)
theorem aj6 : aG Try.prog 80 4 4 1 false := aH Try.underlying80 (by kernel_rfl) ty3 (by decide)
theorem ty88 : TyS Try.prog 88 11 true := ⟨Try.sizeOf88, Try.isAgg88⟩
theorem ap6 : dF Try.prog 88 [.int .i64 0, .int .i64 0, .int .i64 0, .int .i64 0, .int .i64 0, .int .i64 0, .int .i64 0, .int .i64 0, .int .i64 0, .int .u64 0, .string ⟨#[]⟩] [(0, 1), (1, 10)] := dW Try.zeroValue88 Try.underlying88 (fun w => by kernel_rfl)
theorem aj7 : aT Try.prog 88 0 0 := ⟨fun a w => by kernel_rfl⟩
theorem aj8 : aT Try.prog 88 1 1 := ⟨fun a w => by kernel_rfl⟩
theorem aj9 : aG Try.prog 88 0 0 1 false := aH Try.underlying88 (by kernel_rfl) ty3 (by decide)
theorem aka : aG Try.prog 88 1 1 10 true := aH Try.underlying88 (by kernel_rfl) wI (by decide)
theorem ty89 : TyS Try.prog 89 11 true := ⟨Try.sizeOf89, Try.isAgg89⟩
theorem ap7 : dF Try.prog 89 [.int .i64 0, .int .i64 0, .int .i64 0, .int .i64 0, .int .i64 0, .int .i64 0, .int .i64 0, .int .i64 0, .int .i64 0, .int .u64 0, .string ⟨#[]⟩] [(0, 1), (1, 10)] := dW Try.zeroValue89 Try.underlying89 (fun w => by kernel_rfl)
theorem akb : aT Try.prog 89 0 0 := ⟨fun a w => by kernel_rfl⟩
theorem akc : aT Try.prog 89 1 1 := ⟨fun a w => by kernel_rfl⟩
theorem akd : aG Try.prog 89 0 0 1 false := aH Try.underlying89 (by kernel_rfl) ty3 (by decide)
theorem ake : aG Try.prog 89 1 1 10 true := aH Try.underlying89 (by kernel_rfl) wI (by decide)
theorem ty90 : TyS Try.prog 90 1 false := ⟨Try.sizeOf90, Try.isAgg90⟩
theorem sl90 : SlS Try.prog 90 89 11 := ⟨Try.underlying90, Try.sizeOf89⟩
theorem ap8 : jA Try.prog 90 89 11 96 := ⟨Try.underlying90, (by obtain ⟨i, h1, h2, h3, h4⟩ := info_parts (by kernel_rfl : (Try.prog.info? 89).map (fun i => (i.zero, i.size, i.bytes)) = some (some (.agg #[.int .i64 0, .int .i64 0, .int .i64 0, .int .i64 0, .int .i64 0, .int .i64 0, .int .i64 0, .int .i64 0, .int .i64 0, .int .u64 0, .string ⟨#[]⟩]), 11, 96)); exact ⟨i, _, h1, h2, h3, h4, rfl⟩), by decide⟩
theorem ap9 : jy Try.prog 90 89 11 [.int .i64 0, .int .i64 0, .int .i64 0, .int .i64 0, .int .i64 0, .int .i64 0, .int .i64 0, .int .i64 0, .int .i64 0, .int .u64 0, .string ⟨#[]⟩] := ⟨Try.underlying90, Try.sizeOf89, alo, rfl⟩
theorem ty91 : TyS Try.prog 91 1 false := ⟨Try.sizeOf91, Try.isAgg91⟩
theorem sl91 : SlS Try.prog 91 96 16 := ⟨Try.underlying91, Try.sizeOf96⟩
theorem aqa : jA Try.prog 91 96 16 152 := ⟨Try.underlying91, (by obtain ⟨i, h1, h2, h3, h4⟩ := info_parts (by kernel_rfl : (Try.prog.info? 96).map (fun i => (i.zero, i.size, i.bytes)) = some (some (.agg #[.int .i64 0, .int .i64 0, .int .i64 0, .int .i64 0, .int .i64 0, .slice none 0 0, .int .i64 0, .int .i64 0, .int .i64 0, .int .i64 0, .int .i64 0, .int .i64 0, .int .i64 0, .int .i64 0, .int .u64 0, .string ⟨#[]⟩]), 16, 152)); exact ⟨i, _, h1, h2, h3, h4, rfl⟩), by decide⟩
theorem aqb : jy Try.prog 91 96 16 [.int .i64 0, .int .i64 0, .int .i64 0, .int .i64 0, .int .i64 0, .slice none 0 0, .int .i64 0, .int .i64 0, .int .i64 0, .int .i64 0, .int .i64 0, .int .i64 0, .int .i64 0, .int .i64 0, .int .u64 0, .string ⟨#[]⟩] := ⟨Try.underlying91, Try.sizeOf96, alp, rfl⟩
theorem ty95 : TyS Try.prog 95 16 true := ⟨Try.sizeOf95, Try.isAgg95⟩
theorem aqc : dF Try.prog 95 [.int .i64 0, .int .i64 0, .int .i64 0, .int .i64 0, .int .i64 0, .slice none 0 0, .int .i64 0, .int .i64 0, .int .i64 0, .int .i64 0, .int .i64 0, .int .i64 0, .int .i64 0, .int .i64 0, .int .u64 0, .string ⟨#[]⟩] [(0, 4), (4, 12)] := dW Try.zeroValue95 Try.underlying95 (fun w => by kernel_rfl)
theorem akf : aT Try.prog 95 0 0 := ⟨fun a w => by kernel_rfl⟩
theorem akg : aT Try.prog 95 1 4 := ⟨fun a w => by kernel_rfl⟩
theorem akh : aG Try.prog 95 0 0 4 true := aH Try.underlying95 (by kernel_rfl) adI (by decide)
theorem aki : aG Try.prog 95 1 4 12 true := aH Try.underlying95 (by kernel_rfl) adO (by decide)
theorem ty96 : TyS Try.prog 96 16 true := ⟨Try.sizeOf96, Try.isAgg96⟩
theorem aqd : dF Try.prog 96 [.int .i64 0, .int .i64 0, .int .i64 0, .int .i64 0, .int .i64 0, .slice none 0 0, .int .i64 0, .int .i64 0, .int .i64 0, .int .i64 0, .int .i64 0, .int .i64 0, .int .i64 0, .int .i64 0, .int .u64 0, .string ⟨#[]⟩] [(0, 4), (4, 12)] := dW Try.zeroValue96 Try.underlying96 (fun w => by kernel_rfl)
theorem akj : aT Try.prog 96 0 0 := ⟨fun a w => by kernel_rfl⟩
theorem akk : aT Try.prog 96 1 4 := ⟨fun a w => by kernel_rfl⟩
theorem akl : aG Try.prog 96 0 0 4 true := aH Try.underlying96 (by kernel_rfl) adI (by decide)
theorem akm : aG Try.prog 96 1 4 12 true := aH Try.underlying96 (by kernel_rfl) adO (by decide)
theorem aqe : TyS Try.prog 101 1 false := ⟨Try.sizeOf101, Try.isAgg101⟩
theorem aqf : TyS Try.prog 104 3 true := ⟨Try.sizeOf104, Try.isAgg104⟩
theorem alJ : dF Try.prog 104 [.int .i64 0, .int .i64 0, .int .i64 0] [(0, 1), (1, 1), (2, 1)] := dW Try.zeroValue104 Try.underlying104 (fun w => by kernel_rfl)
theorem adP : aT Try.prog 104 0 0 := ⟨fun a w => by kernel_rfl⟩
theorem adQ : aT Try.prog 104 1 1 := ⟨fun a w => by kernel_rfl⟩
theorem adR : aT Try.prog 104 2 2 := ⟨fun a w => by kernel_rfl⟩
theorem adS : aG Try.prog 104 0 0 1 false := aH Try.underlying104 (by kernel_rfl) ty3 (by decide)
theorem adT : aG Try.prog 104 1 1 1 false := aH Try.underlying104 (by kernel_rfl) ty3 (by decide)
theorem adU : aG Try.prog 104 2 2 1 false := aH Try.underlying104 (by kernel_rfl) ty3 (by decide)
theorem aqg : TyS Try.prog 105 3 true := ⟨Try.sizeOf105, Try.isAgg105⟩
theorem alK : dF Try.prog 105 [.int .i64 0, .int .i64 0, .int .i64 0] [(0, 1), (1, 1), (2, 1)] := dW Try.zeroValue105 Try.underlying105 (fun w => by kernel_rfl)
theorem adV : aT Try.prog 105 0 0 := ⟨fun a w => by kernel_rfl⟩
theorem adW : aT Try.prog 105 1 1 := ⟨fun a w => by kernel_rfl⟩
theorem adX : aT Try.prog 105 2 2 := ⟨fun a w => by kernel_rfl⟩
theorem adY : aG Try.prog 105 0 0 1 false := aH Try.underlying105 (by kernel_rfl) ty3 (by decide)
theorem adZ : aG Try.prog 105 1 1 1 false := aH Try.underlying105 (by kernel_rfl) ty3 (by decide)
theorem ad0 : aG Try.prog 105 2 2 1 false := aH Try.underlying105 (by kernel_rfl) ty3 (by decide)
theorem alL (a0 b0 : Int) (a1 b1 : Int) (a2 b2 : Int) (w : World) : (Op.eqFields 9999 #[.int .i64 a0, .int .i64 a1, .int .i64 a2] #[.int .i64 b0, .int .i64 b1, .int .i64 b2] (Try.prog.fieldsOf 105).toList).run Try.prog w = .ok (decide (a0 = b0) && (decide (a1 = b1) && (decide (a2 = b2) && true))) w := by
 have hf : (Try.prog.fieldsOf 105).toList.map (fun f => (f.name == "_", f.type, f.offset)) = [(false, 3, 0), (false, 3, 1), (false, 3, 2)] := by kernel_rfl
 have q : (Op.eqFields 9999 #[.int .i64 a0, .int .i64 a1, .int .i64 a2] #[.int .i64 b0, .int .i64 b1, .int .i64 b2] (Try.prog.fieldsOf 105).toList).run Try.prog w = .ok (decide (a0 = b0) && (decide (a1 = b1) && (decide (a2 = b2) && true))) w := by
  obtain ⟨f0, t0, e0, h0, hf⟩ := mW hf
  obtain ⟨f1, t1, e1, h1, hf⟩ := mW hf
  obtain ⟨f2, t2, e2, h2, hf⟩ := mW hf
  rw [e0, e1, e2, xM hf]
  exact sO h0 Try.isAgg3 Try.underlying3 rfl rfl (sO h1 Try.isAgg3 Try.underlying3 rfl rfl (sO h2 Try.isAgg3 Try.underlying3 rfl rfl (aa8)))
 exact q
theorem aqh : TyS Try.prog 109 1 false := ⟨Try.sizeOf109, Try.isAgg109⟩
theorem aqi : TyS Try.prog 111 1 false := ⟨Try.sizeOf111, Try.isAgg111⟩
theorem aqj : TyS Try.prog 113 1 false := ⟨Try.sizeOf113, Try.isAgg113⟩
theorem aqk : TyS Try.prog 114 1 false := ⟨Try.sizeOf114, Try.isAgg114⟩
theorem xN : TyS Try.prog 125 1 false := ⟨Try.sizeOf125, Try.isAgg125⟩
theorem iz : iO Try.prog 125 3 133 .i64 := ⟨Try.underlying125, Try.underlying3⟩
theorem aql : TyS Try.prog 126 2 true := ⟨Try.sizeOf126, Try.isAgg126⟩
theorem alM : dF Try.prog 126 [.map none, .map none] [(0, 1), (1, 1)] := dW Try.zeroValue126 Try.underlying126 (fun w => by kernel_rfl)
theorem ad1 : aT Try.prog 126 0 0 := ⟨fun a w => by kernel_rfl⟩
theorem ad2 : aT Try.prog 126 1 1 := ⟨fun a w => by kernel_rfl⟩
theorem ad3 : aG Try.prog 126 0 0 1 false := aH Try.underlying126 (by kernel_rfl) xN (by decide)
theorem ad4 : aG Try.prog 126 1 1 1 false := aH Try.underlying126 (by kernel_rfl) xN (by decide)
theorem aqm : TyS Try.prog 127 2 true := ⟨Try.sizeOf127, Try.isAgg127⟩
theorem alN : dF Try.prog 127 [.map none, .map none] [(0, 1), (1, 1)] := dW Try.zeroValue127 Try.underlying127 (fun w => by kernel_rfl)
theorem ad5 : aT Try.prog 127 0 0 := ⟨fun a w => by kernel_rfl⟩
theorem ad6 : aT Try.prog 127 1 1 := ⟨fun a w => by kernel_rfl⟩
theorem ad7 : aG Try.prog 127 0 0 1 false := aH Try.underlying127 (by kernel_rfl) xN (by decide)
theorem ad8 : aG Try.prog 127 1 1 1 false := aH Try.underlying127 (by kernel_rfl) xN (by decide)
theorem aqn : TyS Try.prog 129 1 false := ⟨Try.sizeOf129, Try.isAgg129⟩
theorem mX : iO Try.prog 129 3 3 .i64 := ⟨Try.underlying129, Try.underlying3⟩
theorem aqo : TyS Try.prog 133 1 false := ⟨Try.sizeOf133, Try.isAgg133⟩
theorem aqp : SlS Try.prog 133 135 2 := ⟨Try.underlying133, Try.sizeOf135⟩
theorem alO : jA Try.prog 133 135 2 16 := ⟨Try.underlying133, (by obtain ⟨i, h1, h2, h3, h4⟩ := info_parts (by kernel_rfl : (Try.prog.info? 135).map (fun i => (i.zero, i.size, i.bytes)) = some (some (.agg #[.int .i64 0, .int .i64 0]), 2, 16)); exact ⟨i, _, h1, h2, h3, h4, rfl⟩), by decide⟩
theorem alP : jy Try.prog 133 135 2 [.int .i64 0, .int .i64 0] := ⟨Try.underlying133, Try.sizeOf135, af6, rfl⟩
theorem aqq : TyS Try.prog 134 2 true := ⟨Try.sizeOf134, Try.isAgg134⟩
theorem alQ : dF Try.prog 134 [.int .i64 0, .int .i64 0] [(0, 1), (1, 1)] := dW Try.zeroValue134 Try.underlying134 (fun w => by kernel_rfl)
theorem ad9 : aT Try.prog 134 0 0 := ⟨fun a w => by kernel_rfl⟩
theorem aea : aT Try.prog 134 1 1 := ⟨fun a w => by kernel_rfl⟩
theorem aeb : aG Try.prog 134 0 0 1 false := aH Try.underlying134 (by kernel_rfl) ty3 (by decide)
theorem aec : aG Try.prog 134 1 1 1 false := aH Try.underlying134 (by kernel_rfl) ty3 (by decide)
theorem aqr : TyS Try.prog 135 2 true := ⟨Try.sizeOf135, Try.isAgg135⟩
theorem alR : dF Try.prog 135 [.int .i64 0, .int .i64 0] [(0, 1), (1, 1)] := dW Try.zeroValue135 Try.underlying135 (fun w => by kernel_rfl)
theorem aed : aT Try.prog 135 0 0 := ⟨fun a w => by kernel_rfl⟩
theorem aee : aT Try.prog 135 1 1 := ⟨fun a w => by kernel_rfl⟩
theorem aef : aG Try.prog 135 0 0 1 false := aH Try.underlying135 (by kernel_rfl) ty3 (by decide)
theorem aeg : aG Try.prog 135 1 1 1 false := aH Try.underlying135 (by kernel_rfl) ty3 (by decide)
theorem aqs : TyS Try.prog 137 1 false := ⟨Try.sizeOf137, Try.isAgg137⟩
theorem aqt : TyS Try.prog 142 1 false := ⟨Try.sizeOf142, Try.isAgg142⟩
theorem abF : TyS Try.prog 149 1 false := ⟨Try.sizeOf149, Try.isAgg149⟩
theorem aqu : TyS Try.prog 151 1 false := ⟨Try.sizeOf151, Try.isAgg151⟩
theorem aqv : TyS Try.prog 155 1 false := ⟨Try.sizeOf155, Try.isAgg155⟩
theorem aqw : TyS Try.prog 157 1 false := ⟨Try.sizeOf157, Try.isAgg157⟩
theorem aqx : TyS Try.prog 161 4 true := ⟨Try.sizeOf161, Try.isAgg161⟩
theorem alS : dF Try.prog 161 [.pointer none, .pointer none, .pointer none, .string ⟨#[]⟩] [(0, 1), (1, 1), (2, 1), (3, 1)] := dW Try.zeroValue161 Try.underlying161 (fun w => by kernel_rfl)
theorem aeh : aT Try.prog 161 0 0 := ⟨fun a w => by kernel_rfl⟩
theorem aei : aT Try.prog 161 1 1 := ⟨fun a w => by kernel_rfl⟩
theorem aej : aT Try.prog 161 2 2 := ⟨fun a w => by kernel_rfl⟩
theorem aek : aT Try.prog 161 3 3 := ⟨fun a w => by kernel_rfl⟩
theorem ael : aG Try.prog 161 0 0 1 false := aH Try.underlying161 (by kernel_rfl) tv (by decide)
theorem aem : aG Try.prog 161 1 1 1 false := aH Try.underlying161 (by kernel_rfl) tv (by decide)
theorem aen : aG Try.prog 161 2 2 1 false := aH Try.underlying161 (by kernel_rfl) tv (by decide)
theorem aeo : aG Try.prog 161 3 3 1 false := aH Try.underlying161 (by kernel_rfl) ty9 (by decide)
theorem aqy : TyS Try.prog 162 4 true := ⟨Try.sizeOf162, Try.isAgg162⟩
theorem alT : dF Try.prog 162 [.pointer none, .pointer none, .pointer none, .string ⟨#[]⟩] [(0, 1), (1, 1), (2, 1), (3, 1)] := dW Try.zeroValue162 Try.underlying162 (fun w => by kernel_rfl)
theorem aep : aT Try.prog 162 0 0 := ⟨fun a w => by kernel_rfl⟩
theorem aeq : aT Try.prog 162 1 1 := ⟨fun a w => by kernel_rfl⟩
theorem aer : aT Try.prog 162 2 2 := ⟨fun a w => by kernel_rfl⟩
theorem aes : aT Try.prog 162 3 3 := ⟨fun a w => by kernel_rfl⟩
theorem aet : aG Try.prog 162 0 0 1 false := aH Try.underlying162 (by kernel_rfl) tv (by decide)
theorem aeu : aG Try.prog 162 1 1 1 false := aH Try.underlying162 (by kernel_rfl) tv (by decide)
theorem aev : aG Try.prog 162 2 2 1 false := aH Try.underlying162 (by kernel_rfl) tv (by decide)
theorem aew : aG Try.prog 162 3 3 1 false := aH Try.underlying162 (by kernel_rfl) ty9 (by decide)
theorem aqz : TyS Try.prog 163 0 true := ⟨Try.sizeOf163, Try.isAgg163⟩
theorem abG : TyS Try.prog 166 1 false := ⟨Try.sizeOf166, Try.isAgg166⟩
theorem abH : TyS Try.prog 167 1 false := ⟨Try.sizeOf167, Try.isAgg167⟩
theorem abI : TyS Try.prog 168 1 false := ⟨Try.sizeOf168, Try.isAgg168⟩
theorem abJ : TyS Try.prog 169 1 false := ⟨Try.sizeOf169, Try.isAgg169⟩
theorem abK : TyS Try.prog 170 1 false := ⟨Try.sizeOf170, Try.isAgg170⟩
theorem abL : TyS Try.prog 171 1 false := ⟨Try.sizeOf171, Try.isAgg171⟩
theorem aqA : TyS Try.prog 172 11 true := ⟨Try.sizeOf172, Try.isAgg172⟩
theorem alU : dF Try.prog 172 [.int .u64 0, .int .u64 0, .int .u32 0, .int .u8 0, .int .u8 0, .int .u8 0, .int .u8 0, .nilFunc, .pointer none, .int .i32 0, .int .i32 0] [(0, 1), (1, 1), (2, 1), (3, 1), (4, 1), (5, 1), (6, 1), (7, 1), (8, 1), (9, 1), (10, 1)] := dW Try.zeroValue172 Try.underlying172 (fun w => by kernel_rfl)
theorem aex : aT Try.prog 172 0 0 := ⟨fun a w => by kernel_rfl⟩
theorem aey : aT Try.prog 172 1 1 := ⟨fun a w => by kernel_rfl⟩
theorem aez : aT Try.prog 172 2 2 := ⟨fun a w => by kernel_rfl⟩
theorem aeA : aT Try.prog 172 3 3 := ⟨fun a w => by kernel_rfl⟩
theorem aeB : aT Try.prog 172 4 4 := ⟨fun a w => by kernel_rfl⟩
theorem aeC : aT Try.prog 172 5 5 := ⟨fun a w => by kernel_rfl⟩
theorem aeD : aT Try.prog 172 6 6 := ⟨fun a w => by kernel_rfl⟩
theorem aeE : aT Try.prog 172 7 7 := ⟨fun a w => by kernel_rfl⟩
theorem aeF : aT Try.prog 172 8 8 := ⟨fun a w => by kernel_rfl⟩
theorem aeG : aT Try.prog 172 9 9 := ⟨fun a w => by kernel_rfl⟩
theorem acN : aT Try.prog 172 10 10 := ⟨fun a w => by kernel_rfl⟩
theorem aeH : aG Try.prog 172 0 0 1 false := aH Try.underlying172 (by kernel_rfl) wH (by decide)
theorem aeI : aG Try.prog 172 1 1 1 false := aH Try.underlying172 (by kernel_rfl) wH (by decide)
theorem aeJ : aG Try.prog 172 2 2 1 false := aH Try.underlying172 (by kernel_rfl) abF (by decide)
theorem aeK : aG Try.prog 172 3 3 1 false := aH Try.underlying172 (by kernel_rfl) abG (by decide)
theorem aeL : aG Try.prog 172 4 4 1 false := aH Try.underlying172 (by kernel_rfl) ty5 (by decide)
theorem aeM : aG Try.prog 172 5 5 1 false := aH Try.underlying172 (by kernel_rfl) ty5 (by decide)
theorem aeN : aG Try.prog 172 6 6 1 false := aH Try.underlying172 (by kernel_rfl) abH (by decide)
theorem aeO : aG Try.prog 172 7 7 1 false := aH Try.underlying172 (by kernel_rfl) abI (by decide)
theorem aeP : aG Try.prog 172 8 8 1 false := aH Try.underlying172 (by kernel_rfl) abJ (by decide)
theorem aeQ : aG Try.prog 172 9 9 1 false := aH Try.underlying172 (by kernel_rfl) abK (by decide)
theorem acO : aG Try.prog 172 10 10 1 false := aH Try.underlying172 (by kernel_rfl) abL (by decide)
theorem aqB : TyS Try.prog 173 11 true := ⟨Try.sizeOf173, Try.isAgg173⟩
theorem alV : dF Try.prog 173 [.int .u64 0, .int .u64 0, .int .u32 0, .int .u8 0, .int .u8 0, .int .u8 0, .int .u8 0, .nilFunc, .pointer none, .int .i32 0, .int .i32 0] [(0, 1), (1, 1), (2, 1), (3, 1), (4, 1), (5, 1), (6, 1), (7, 1), (8, 1), (9, 1), (10, 1)] := dW Try.zeroValue173 Try.underlying173 (fun w => by kernel_rfl)
theorem aeR : aT Try.prog 173 0 0 := ⟨fun a w => by kernel_rfl⟩
theorem aeS : aT Try.prog 173 1 1 := ⟨fun a w => by kernel_rfl⟩
theorem aeT : aT Try.prog 173 2 2 := ⟨fun a w => by kernel_rfl⟩
theorem aeU : aT Try.prog 173 3 3 := ⟨fun a w => by kernel_rfl⟩
theorem aeV : aT Try.prog 173 4 4 := ⟨fun a w => by kernel_rfl⟩
theorem aeW : aT Try.prog 173 5 5 := ⟨fun a w => by kernel_rfl⟩
theorem aeX : aT Try.prog 173 6 6 := ⟨fun a w => by kernel_rfl⟩
theorem aeY : aT Try.prog 173 7 7 := ⟨fun a w => by kernel_rfl⟩
theorem aeZ : aT Try.prog 173 8 8 := ⟨fun a w => by kernel_rfl⟩
theorem ae0 : aT Try.prog 173 9 9 := ⟨fun a w => by kernel_rfl⟩
theorem acP : aT Try.prog 173 10 10 := ⟨fun a w => by kernel_rfl⟩
theorem ae1 : aG Try.prog 173 0 0 1 false := aH Try.underlying173 (by kernel_rfl) wH (by decide)
theorem ae2 : aG Try.prog 173 1 1 1 false := aH Try.underlying173 (by kernel_rfl) wH (by decide)
theorem ae3 : aG Try.prog 173 2 2 1 false := aH Try.underlying173 (by kernel_rfl) abF (by decide)
theorem ae4 : aG Try.prog 173 3 3 1 false := aH Try.underlying173 (by kernel_rfl) abG (by decide)
theorem ae5 : aG Try.prog 173 4 4 1 false := aH Try.underlying173 (by kernel_rfl) ty5 (by decide)
theorem ae6 : aG Try.prog 173 5 5 1 false := aH Try.underlying173 (by kernel_rfl) ty5 (by decide)
theorem ae7 : aG Try.prog 173 6 6 1 false := aH Try.underlying173 (by kernel_rfl) abH (by decide)
theorem ae8 : aG Try.prog 173 7 7 1 false := aH Try.underlying173 (by kernel_rfl) abI (by decide)
theorem ae9 : aG Try.prog 173 8 8 1 false := aH Try.underlying173 (by kernel_rfl) abJ (by decide)
theorem afa : aG Try.prog 173 9 9 1 false := aH Try.underlying173 (by kernel_rfl) abK (by decide)
theorem acQ : aG Try.prog 173 10 10 1 false := aH Try.underlying173 (by kernel_rfl) abL (by decide)
end Go.Proofs.Ytdjeacigeegklaa
