/- The data of the program, as Lean data, and what is known of its types. No condition but those that stand in each. -/
import Derived.Test.YtflifgcoleknlaaF
import Derived.Test.YtflifgcoleknlaaBA
import Derived.Test.YtflifgcoleknlaaB7
import Derived.Test.YtflifgcoleknlaaAC
namespace Go.Proofs.Ytflifgcoleknlaa
open Go
set_option maxRecDepth 100000
set_option linter.all false
structure GRouter where
 ID : Int
 Capable : Bool
instance : Inhabited GRouter := ⟨GRouter.mk (0:Int) false⟩
def eGRouter : En GRouter := ⟨fun x => [.int .i64 x.ID, .bool x.Capable], 2, fun _ => rfl, fun _ => rfl, fun _ => rfl⟩
structure GLink where
 A : Int
 B : Int
 CostA : Int
 CostB : Int
 Capacity : Int
instance : Inhabited GLink := ⟨GLink.mk (0:Int) (0:Int) (0:Int) (0:Int) (0:Int)⟩
def eGLink : En GLink := ⟨fun x => [.int .i64 x.A, .int .i64 x.B, .int .i64 x.CostA, .int .i64 x.CostB, .int .i64 x.Capacity], 5, fun _ => rfl, fun _ => rfl, fun _ => rfl⟩
structure GTopology where
 Routers : List GRouter
 Links : List GLink
instance : Inhabited GTopology := ⟨GTopology.mk [] []⟩
structure GTape where
 L : List Int
 At : Int
instance : Inhabited GTape := ⟨GTape.mk [] (0:Int)⟩
structure GHop where
 From : Int
 To : Int
instance : Inhabited GHop := ⟨GHop.mk (0:Int) (0:Int)⟩
def eGHop : En GHop := ⟨fun x => [.int .i64 x.From, .int .i64 x.To], 2, fun _ => rfl, fun _ => rfl, fun _ => rfl⟩
def eqGHop (a b : GHop) : Bool := decide (a.From = b.From) && (decide (a.To = b.To) && true)
structure GFailure where
 Links : List GHop
 Routers : List Int
instance : Inhabited GFailure := ⟨GFailure.mk [] []⟩
structure GShortest_step where
 to_ : Int
 cost_ : Int
instance : Inhabited GShortest_step := ⟨GShortest_step.mk (0:Int) (0:Int)⟩
def eGShortest_step : En GShortest_step := ⟨fun x => [.int .i64 x.to_, .int .i64 x.cost_], 2, fun _ => rfl, fun _ => rfl, fun _ => rfl⟩
structure GShortest_graph where
 out_ : List (Int × List GShortest_step)
 in_ : List (Int × List GShortest_step)
instance : Inhabited GShortest_graph := ⟨GShortest_graph.mk [] []⟩
structure GDistance where
 Router : Int
 Cost : Int
instance : Inhabited GDistance := ⟨GDistance.mk (0:Int) (0:Int)⟩
def ti2 : TI := ⟨1, false, some [.int .i64 0], .int .i64⟩
theorem tk2 : TIOk Try.prog 2 ti2 := ⟨ty2, fun zs h => by cases h; exact ze2, Try.underlying2⟩
def ti3 : TI := ⟨1, false, some [.int .i64 0], .int .i64⟩
theorem tk3 : TIOk Try.prog 3 ti3 := ⟨ty3, fun zs h => by cases h; exact ze3, Try.underlying3⟩
def ti4 : TI := ⟨1, false, some [.bool false], .bool⟩
theorem tk4 : TIOk Try.prog 4 ti4 := ⟨ty4, fun zs h => by cases h; exact ze4, Try.underlying4⟩
def ti5 : TI := ⟨1, false, some [.int .u8 0], .int .u8⟩
theorem tk5 : TIOk Try.prog 5 ti5 := ⟨ty5, fun zs h => by cases h; exact ze5, Try.underlying5⟩
def ti6 : TI := ⟨1, false, some [.int .u8 0], .int .u8⟩
theorem tk6 : TIOk Try.prog 6 ti6 := ⟨ty6, fun zs h => by cases h; exact ze6, Try.underlying6⟩
def ti7 : TI := ⟨4, true, some [.int .i64 0, .int .i64 0, .bool false, .int .u8 0], .struct [.int .i64 0, .int .i64 0, .bool false, .int .u8 0] [(0, 1), (1, 1), (2, 1), (3, 1)] [false, false, false, false]⟩
theorem tk7 : TIOk Try.prog 7 ti7 := ⟨ty7, fun zs h => by cases h; exact ze7, kdStruct str7 ⟨fld7_0, fld7_1, fld7_2, fld7_3, trivial⟩ ⟨prt7_0, prt7_1, prt7_2, prt7_3, trivial⟩⟩
def ti8 : TI := ⟨4, true, some [.int .i64 0, .int .i64 0, .bool false, .int .u8 0], .struct [.int .i64 0, .int .i64 0, .bool false, .int .u8 0] [(0, 1), (1, 1), (2, 1), (3, 1)] [false, false, false, false]⟩
theorem tk8 : TIOk Try.prog 8 ti8 := ⟨ty8, fun zs h => by cases h; exact ze8, kdStruct str8 ⟨fld8_0, fld8_1, fld8_2, fld8_3, trivial⟩ ⟨prt8_0, prt8_1, prt8_2, prt8_3, trivial⟩⟩
def ti9 : TI := ⟨1, false, some [.string ⟨#[]⟩], .str⟩
theorem tk9 : TIOk Try.prog 9 ti9 := ⟨ty9, fun zs h => by cases h; exact ze9, Try.underlying9⟩
def ti10 : TI := ⟨1, false, some [.string ⟨#[]⟩], .str⟩
theorem tk10 : TIOk Try.prog 10 ti10 := ⟨ty10, fun zs h => by cases h; exact ze10, Try.underlying10⟩
def ti11 : TI := ⟨1, false, some [.string ⟨#[]⟩], .str⟩
theorem tk11 : TIOk Try.prog 11 ti11 := ⟨ty11, fun zs h => by cases h; exact ze11, Try.underlying11⟩
def ti12 : TI := ⟨1, false, some [.int .u64 0], .int .u64⟩
theorem tk12 : TIOk Try.prog 12 ti12 := ⟨ty12, fun zs h => by cases h; exact ze12, Try.underlying12⟩
def ti13 : TI := ⟨2, true, some [.string ⟨#[]⟩, .int .u64 0], .struct [.string ⟨#[]⟩, .int .u64 0] [(0, 1), (1, 1)] [false, false]⟩
theorem tk13 : TIOk Try.prog 13 ti13 := ⟨ty13, fun zs h => by cases h; exact ze13, kdStruct str13 ⟨fld13_0, fld13_1, trivial⟩ ⟨prt13_0, prt13_1, trivial⟩⟩
def ti14 : TI := ⟨2, true, some [.string ⟨#[]⟩, .int .u64 0], .struct [.string ⟨#[]⟩, .int .u64 0] [(0, 1), (1, 1)] [false, false]⟩
theorem tk14 : TIOk Try.prog 14 ti14 := ⟨ty14, fun zs h => by cases h; exact ze14, kdStruct str14 ⟨fld14_0, fld14_1, trivial⟩ ⟨prt14_0, prt14_1, trivial⟩⟩
def ti15 : TI := ⟨1, false, some [.pointer none], .oth⟩
theorem tk15 : TIOk Try.prog 15 ti15 := ⟨ty15, fun zs h => by cases h; exact ze15, trivial⟩
def ti16 : TI := ⟨1, false, some [.pointer none], .oth⟩
theorem tk16 : TIOk Try.prog 16 ti16 := ⟨ty16, fun zs h => by cases h; exact ze16, trivial⟩
def ti17 : TI := ⟨1, false, some [.pointer none], .oth⟩
theorem tk17 : TIOk Try.prog 17 ti17 := ⟨ty17, fun zs h => by cases h; exact ze17, trivial⟩
def ti18 : TI := ⟨1, true, some [.pointer none], .struct [.pointer none] [(0, 1)] [false]⟩
theorem tk18 : TIOk Try.prog 18 ti18 := ⟨ty18, fun zs h => by cases h; exact ze18, kdStruct str18 ⟨fld18_0, trivial⟩ ⟨prt18_0, trivial⟩⟩
def ti19 : TI := ⟨1, true, some [.pointer none], .struct [.pointer none] [(0, 1)] [false]⟩
theorem tk19 : TIOk Try.prog 19 ti19 := ⟨ty19, fun zs h => by cases h; exact ze19, kdStruct str19 ⟨fld19_0, trivial⟩ ⟨prt19_0, trivial⟩⟩
def ti21 : TI := ⟨1, false, some [.int .i32 0], .int .i32⟩
theorem tk21 : TIOk Try.prog 21 ti21 := ⟨ty21, fun zs h => by cases h; exact ze21, Try.underlying21⟩
def ti22 : TI := ⟨1, false, some [.slice none 0 0], .slice 3 1 8 [.int .i64 0]⟩
theorem tk22 : TIOk Try.prog 22 ti22 := ⟨ty22, fun zs h => by cases h; exact ze22, ⟨sl22, app22, sli22⟩⟩
def ti23 : TI := ⟨1, false, some [.pointer none], .oth⟩
theorem tk23 : TIOk Try.prog 23 ti23 := ⟨ty23, fun zs h => by cases h; exact ze23, trivial⟩
def ti25 : TI := ⟨1, false, some [.slice none 0 0], .slice 67 2 16 [.int .i64 0, .bool false]⟩
theorem tk25 : TIOk Try.prog 25 ti25 := ⟨ty25, fun zs h => by cases h; exact ze25, ⟨sl25, app25, sli25⟩⟩
def ti26 : TI := ⟨1, false, some [.slice none 0 0], .slice 42 5 40 [.int .i64 0, .int .i64 0, .int .i64 0, .int .i64 0, .int .i64 0]⟩
theorem tk26 : TIOk Try.prog 26 ti26 := ⟨ty26, fun zs h => by cases h; exact ze26, ⟨sl26, app26, sli26⟩⟩
def ti27 : TI := ⟨2, true, some [.slice none 0 0, .slice none 0 0], .struct [.slice none 0 0, .slice none 0 0] [(0, 1), (1, 1)] [false, false]⟩
theorem tk27 : TIOk Try.prog 27 ti27 := ⟨ty27, fun zs h => by cases h; exact ze27, kdStruct str27 ⟨fld27_0, fld27_1, trivial⟩ ⟨prt27_0, prt27_1, trivial⟩⟩
def ti28 : TI := ⟨2, true, some [.slice none 0 0, .slice none 0 0], .struct [.slice none 0 0, .slice none 0 0] [(0, 1), (1, 1)] [false, false]⟩
theorem tk28 : TIOk Try.prog 28 ti28 := ⟨ty28, fun zs h => by cases h; exact ze28, kdStruct str28 ⟨fld28_0, fld28_1, trivial⟩ ⟨prt28_0, prt28_1, trivial⟩⟩
def ti30 : TI := ⟨2, true, some [.int .i64 0, .int .i64 0], .oth⟩
theorem tk30 : TIOk Try.prog 30 ti30 := ⟨ty30, fun zs h => by cases h; exact ze30, trivial⟩
def ti32 : TI := ⟨6, true, some [.int .i64 0, .int .i64 0, .int .i64 0, .int .i64 0, .int .i64 0, .int .i64 0], .oth⟩
theorem tk32 : TIOk Try.prog 32 ti32 := ⟨ty32, fun zs h => by cases h; exact ze32, trivial⟩
def ti38 : TI := ⟨2, true, some [.int .i64 0, .int .i64 0], .struct [.int .i64 0, .int .i64 0] [(0, 1), (1, 1)] [false, false]⟩
theorem tk38 : TIOk Try.prog 38 ti38 := ⟨ty38, fun zs h => by cases h; exact ze38, kdStruct str38 ⟨fld38_0, fld38_1, trivial⟩ ⟨prt38_0, prt38_1, trivial⟩⟩
def ti39 : TI := ⟨2, true, some [.int .i64 0, .int .i64 0], .struct [.int .i64 0, .int .i64 0] [(0, 1), (1, 1)] [false, false]⟩
theorem tk39 : TIOk Try.prog 39 ti39 := ⟨ty39, fun zs h => by cases h; exact ze39, kdStruct str39 ⟨fld39_0, fld39_1, trivial⟩ ⟨prt39_0, prt39_1, trivial⟩⟩
def ti41 : TI := ⟨5, true, some [.int .i64 0, .int .i64 0, .int .i64 0, .int .i64 0, .int .i64 0], .struct [.int .i64 0, .int .i64 0, .int .i64 0, .int .i64 0, .int .i64 0] [(0, 1), (1, 1), (2, 1), (3, 1), (4, 1)] [false, false, false, false, false]⟩
theorem tk41 : TIOk Try.prog 41 ti41 := ⟨ty41, fun zs h => by cases h; exact ze41, kdStruct str41 ⟨fld41_0, fld41_1, fld41_2, fld41_3, fld41_4, trivial⟩ ⟨prt41_0, prt41_1, prt41_2, prt41_3, prt41_4, trivial⟩⟩
def ti42 : TI := ⟨5, true, some [.int .i64 0, .int .i64 0, .int .i64 0, .int .i64 0, .int .i64 0], .struct [.int .i64 0, .int .i64 0, .int .i64 0, .int .i64 0, .int .i64 0] [(0, 1), (1, 1), (2, 1), (3, 1), (4, 1)] [false, false, false, false, false]⟩
theorem tk42 : TIOk Try.prog 42 ti42 := ⟨ty42, fun zs h => by cases h; exact ze42, kdStruct str42 ⟨fld42_0, fld42_1, fld42_2, fld42_3, fld42_4, trivial⟩ ⟨prt42_0, prt42_1, prt42_2, prt42_3, prt42_4, trivial⟩⟩
def ti55 : TI := ⟨1, false, some [.slice none 0 0], .slice 39 2 16 [.int .i64 0, .int .i64 0]⟩
theorem tk55 : TIOk Try.prog 55 ti55 := ⟨ty55, fun zs h => by cases h; exact ze55, ⟨sl55, app55, sli55⟩⟩
def ti56 : TI := ⟨2, true, some [.slice none 0 0, .slice none 0 0], .struct [.slice none 0 0, .slice none 0 0] [(0, 1), (1, 1)] [false, false]⟩
theorem tk56 : TIOk Try.prog 56 ti56 := ⟨ty56, fun zs h => by cases h; exact ze56, kdStruct str56 ⟨fld56_0, fld56_1, trivial⟩ ⟨prt56_0, prt56_1, trivial⟩⟩
def ti57 : TI := ⟨2, true, some [.slice none 0 0, .slice none 0 0], .struct [.slice none 0 0, .slice none 0 0] [(0, 1), (1, 1)] [false, false]⟩
theorem tk57 : TIOk Try.prog 57 ti57 := ⟨ty57, fun zs h => by cases h; exact ze57, kdStruct str57 ⟨fld57_0, fld57_1, trivial⟩ ⟨prt57_0, prt57_1, trivial⟩⟩
def ti59 : TI := ⟨1, false, some [.slice none 0 0], .slice 62 2 16 [.int .i64 0, .int .i64 0]⟩
theorem tk59 : TIOk Try.prog 59 ti59 := ⟨ty59, fun zs h => by cases h; exact ze59, ⟨sl59, app59, sli59⟩⟩
def ti61 : TI := ⟨2, true, some [.int .i64 0, .int .i64 0], .struct [.int .i64 0, .int .i64 0] [(0, 1), (1, 1)] [false, false]⟩
theorem tk61 : TIOk Try.prog 61 ti61 := ⟨ty61, fun zs h => by cases h; exact ze61, kdStruct str61 ⟨fld61_0, fld61_1, trivial⟩ ⟨prt61_0, prt61_1, trivial⟩⟩
def ti62 : TI := ⟨2, true, some [.int .i64 0, .int .i64 0], .struct [.int .i64 0, .int .i64 0] [(0, 1), (1, 1)] [false, false]⟩
theorem tk62 : TIOk Try.prog 62 ti62 := ⟨ty62, fun zs h => by cases h; exact ze62, kdStruct str62 ⟨fld62_0, fld62_1, trivial⟩ ⟨prt62_0, prt62_1, trivial⟩⟩
def ti63 : TI := ⟨2, true, some [.slice none 0 0, .int .i64 0], .struct [.slice none 0 0, .int .i64 0] [(0, 1), (1, 1)] [false, false]⟩
theorem tk63 : TIOk Try.prog 63 ti63 := ⟨ty63, fun zs h => by cases h; exact ze63, kdStruct str63 ⟨fld63_0, fld63_1, trivial⟩ ⟨prt63_0, prt63_1, trivial⟩⟩
def ti64 : TI := ⟨2, true, some [.slice none 0 0, .int .i64 0], .struct [.slice none 0 0, .int .i64 0] [(0, 1), (1, 1)] [false, false]⟩
theorem tk64 : TIOk Try.prog 64 ti64 := ⟨ty64, fun zs h => by cases h; exact ze64, kdStruct str64 ⟨fld64_0, fld64_1, trivial⟩ ⟨prt64_0, prt64_1, trivial⟩⟩
def ti66 : TI := ⟨2, true, some [.int .i64 0, .bool false], .struct [.int .i64 0, .bool false] [(0, 1), (1, 1)] [false, false]⟩
theorem tk66 : TIOk Try.prog 66 ti66 := ⟨ty66, fun zs h => by cases h; exact ze66, kdStruct str66 ⟨fld66_0, fld66_1, trivial⟩ ⟨prt66_0, prt66_1, trivial⟩⟩
def ti67 : TI := ⟨2, true, some [.int .i64 0, .bool false], .struct [.int .i64 0, .bool false] [(0, 1), (1, 1)] [false, false]⟩
theorem tk67 : TIOk Try.prog 67 ti67 := ⟨ty67, fun zs h => by cases h; exact ze67, kdStruct str67 ⟨fld67_0, fld67_1, trivial⟩ ⟨prt67_0, prt67_1, trivial⟩⟩
def ti69 : TI := ⟨1, false, some [.nilFunc], .oth⟩
theorem tk69 : TIOk Try.prog 69 ti69 := ⟨ty69, fun zs h => by cases h; exact ze69, trivial⟩
def ti72 : TI := ⟨1, false, some [.map none], .map 3 86 .i64⟩
theorem tk72 : TIOk Try.prog 72 ti72 := ⟨ty72, fun zs h => by cases h; exact ze72, map72⟩
def ti73 : TI := ⟨2, true, some [.map none, .map none], .struct [.map none, .map none] [(0, 1), (1, 1)] [false, false]⟩
theorem tk73 : TIOk Try.prog 73 ti73 := ⟨ty73, fun zs h => by cases h; exact ze73, kdStruct str73 ⟨fld73_0, fld73_1, trivial⟩ ⟨prt73_0, prt73_1, trivial⟩⟩
def ti74 : TI := ⟨2, true, some [.map none, .map none], .struct [.map none, .map none] [(0, 1), (1, 1)] [false, false]⟩
theorem tk74 : TIOk Try.prog 74 ti74 := ⟨ty74, fun zs h => by cases h; exact ze74, kdStruct str74 ⟨fld74_0, fld74_1, trivial⟩ ⟨prt74_0, prt74_1, trivial⟩⟩
def ti77 : TI := ⟨1, false, some [.map none], .map 3 3 .i64⟩
theorem tk77 : TIOk Try.prog 77 ti77 := ⟨ty77, fun zs h => by cases h; exact ze77, map77⟩
def ti83 : TI := ⟨1, false, some [.int .i64 0], .int .i64⟩
theorem tk83 : TIOk Try.prog 83 ti83 := ⟨ty83, fun zs h => by cases h; exact ze83, Try.underlying83⟩
def ti86 : TI := ⟨1, false, some [.slice none 0 0], .slice 88 2 16 [.int .i64 0, .int .i64 0]⟩
theorem tk86 : TIOk Try.prog 86 ti86 := ⟨ty86, fun zs h => by cases h; exact ze86, ⟨sl86, app86, sli86⟩⟩
def ti87 : TI := ⟨2, true, some [.int .i64 0, .int .i64 0], .struct [.int .i64 0, .int .i64 0] [(0, 1), (1, 1)] [false, false]⟩
theorem tk87 : TIOk Try.prog 87 ti87 := ⟨ty87, fun zs h => by cases h; exact ze87, kdStruct str87 ⟨fld87_0, fld87_1, trivial⟩ ⟨prt87_0, prt87_1, trivial⟩⟩
def ti88 : TI := ⟨2, true, some [.int .i64 0, .int .i64 0], .struct [.int .i64 0, .int .i64 0] [(0, 1), (1, 1)] [false, false]⟩
theorem tk88 : TIOk Try.prog 88 ti88 := ⟨ty88, fun zs h => by cases h; exact ze88, kdStruct str88 ⟨fld88_0, fld88_1, trivial⟩ ⟨prt88_0, prt88_1, trivial⟩⟩
def ti90 : TI := ⟨1, false, some [.nilFunc], .oth⟩
theorem tk90 : TIOk Try.prog 90 ti90 := ⟨ty90, fun zs h => by cases h; exact ze90, trivial⟩
def ti95 : TI := ⟨1, false, some [.nilFunc], .oth⟩
theorem tk95 : TIOk Try.prog 95 ti95 := ⟨ty95, fun zs h => by cases h; exact ze95, trivial⟩
def ti99 : TI := ⟨1, false, some [.nilFunc], .oth⟩
theorem tk99 : TIOk Try.prog 99 ti99 := ⟨ty99, fun zs h => by cases h; exact ze99, trivial⟩
def ti101 : TI := ⟨1, false, some [.nilFunc], .oth⟩
theorem tk101 : TIOk Try.prog 101 ti101 := ⟨ty101, fun zs h => by cases h; exact ze101, trivial⟩
def ti103 : TI := ⟨1, false, some [.nilFunc], .oth⟩
theorem tk103 : TIOk Try.prog 103 ti103 := ⟨ty103, fun zs h => by cases h; exact ze103, trivial⟩
def ti106 : TI := ⟨1, false, some [.int .u64 0], .int .u64⟩
theorem tk106 : TIOk Try.prog 106 ti106 := ⟨ty106, fun zs h => by cases h; exact ze106, Try.underlying106⟩
def ti111 : TI := ⟨1, false, some [.int .i64 0], .int .i64⟩
theorem tk111 : TIOk Try.prog 111 ti111 := ⟨ty111, fun zs h => by cases h; exact ze111, Try.underlying111⟩
def ti118 : TI := ⟨1, false, some [.int .u32 0], .int .u32⟩
theorem tk118 : TIOk Try.prog 118 ti118 := ⟨ty118, fun zs h => by cases h; exact ze118, Try.underlying118⟩
def ti120 : TI := ⟨1, false, some [.int .u64 0], .int .u64⟩
theorem tk120 : TIOk Try.prog 120 ti120 := ⟨ty120, fun zs h => by cases h; exact ze120, Try.underlying120⟩
def ti121 : TI := ⟨1, false, some [.int .u64 0], .int .u64⟩
theorem tk121 : TIOk Try.prog 121 ti121 := ⟨ty121, fun zs h => by cases h; exact ze121, Try.underlying121⟩
def ti125 : TI := ⟨1, false, some [.pointer none], .oth⟩
theorem tk125 : TIOk Try.prog 125 ti125 := ⟨ty125, fun zs h => by cases h; exact ze125, trivial⟩
def ti127 : TI := ⟨1, false, some [.pointer none], .oth⟩
theorem tk127 : TIOk Try.prog 127 ti127 := ⟨ty127, fun zs h => by cases h; exact ze127, trivial⟩
def ti131 : TI := ⟨4, true, some [.pointer none, .pointer none, .pointer none, .string ⟨#[]⟩], .struct [.pointer none, .pointer none, .pointer none, .string ⟨#[]⟩] [(0, 1), (1, 1), (2, 1), (3, 1)] [false, false, false, false]⟩
theorem tk131 : TIOk Try.prog 131 ti131 := ⟨ty131, fun zs h => by cases h; exact ze131, kdStruct str131 ⟨fld131_0, fld131_1, fld131_2, fld131_3, trivial⟩ ⟨prt131_0, prt131_1, prt131_2, prt131_3, trivial⟩⟩
def ti132 : TI := ⟨4, true, some [.pointer none, .pointer none, .pointer none, .string ⟨#[]⟩], .struct [.pointer none, .pointer none, .pointer none, .string ⟨#[]⟩] [(0, 1), (1, 1), (2, 1), (3, 1)] [false, false, false, false]⟩
theorem tk132 : TIOk Try.prog 132 ti132 := ⟨ty132, fun zs h => by cases h; exact ze132, kdStruct str132 ⟨fld132_0, fld132_1, fld132_2, fld132_3, trivial⟩ ⟨prt132_0, prt132_1, prt132_2, prt132_3, trivial⟩⟩
def ti133 : TI := ⟨0, true, some [], .oth⟩
theorem tk133 : TIOk Try.prog 133 ti133 := ⟨ty133, fun zs h => by cases h; exact ze133, trivial⟩
def ti136 : TI := ⟨1, false, some [.int .u8 0], .int .u8⟩
theorem tk136 : TIOk Try.prog 136 ti136 := ⟨ty136, fun zs h => by cases h; exact ze136, Try.underlying136⟩
def ti137 : TI := ⟨1, false, some [.int .u8 0], .int .u8⟩
theorem tk137 : TIOk Try.prog 137 ti137 := ⟨ty137, fun zs h => by cases h; exact ze137, Try.underlying137⟩
def ti138 : TI := ⟨1, false, some [.nilFunc], .oth⟩
theorem tk138 : TIOk Try.prog 138 ti138 := ⟨ty138, fun zs h => by cases h; exact ze138, trivial⟩
def ti139 : TI := ⟨1, false, some [.pointer none], .oth⟩
theorem tk139 : TIOk Try.prog 139 ti139 := ⟨ty139, fun zs h => by cases h; exact ze139, trivial⟩
def ti140 : TI := ⟨1, false, some [.int .i32 0], .int .i32⟩
theorem tk140 : TIOk Try.prog 140 ti140 := ⟨ty140, fun zs h => by cases h; exact ze140, Try.underlying140⟩
def ti141 : TI := ⟨1, false, some [.int .i32 0], .int .i32⟩
theorem tk141 : TIOk Try.prog 141 ti141 := ⟨ty141, fun zs h => by cases h; exact ze141, Try.underlying141⟩
def ti142 : TI := ⟨11, true, some [.int .u64 0, .int .u64 0, .int .u32 0, .int .u8 0, .int .u8 0, .int .u8 0, .int .u8 0, .nilFunc, .pointer none, .int .i32 0, .int .i32 0], .struct [.int .u64 0, .int .u64 0, .int .u32 0, .int .u8 0, .int .u8 0, .int .u8 0, .int .u8 0, .nilFunc, .pointer none, .int .i32 0, .int .i32 0] [(0, 1), (1, 1), (2, 1), (3, 1), (4, 1), (5, 1), (6, 1), (7, 1), (8, 1), (9, 1), (10, 1)] [false, false, false, false, false, false, false, false, false, false, false]⟩
theorem tk142 : TIOk Try.prog 142 ti142 := ⟨ty142, fun zs h => by cases h; exact ze142, kdStruct str142 ⟨fld142_0, fld142_1, fld142_2, fld142_3, fld142_4, fld142_5, fld142_6, fld142_7, fld142_8, fld142_9, fld142_10, trivial⟩ ⟨prt142_0, prt142_1, prt142_2, prt142_3, prt142_4, prt142_5, prt142_6, prt142_7, prt142_8, prt142_9, prt142_10, trivial⟩⟩
def ti143 : TI := ⟨11, true, some [.int .u64 0, .int .u64 0, .int .u32 0, .int .u8 0, .int .u8 0, .int .u8 0, .int .u8 0, .nilFunc, .pointer none, .int .i32 0, .int .i32 0], .struct [.int .u64 0, .int .u64 0, .int .u32 0, .int .u8 0, .int .u8 0, .int .u8 0, .int .u8 0, .nilFunc, .pointer none, .int .i32 0, .int .i32 0] [(0, 1), (1, 1), (2, 1), (3, 1), (4, 1), (5, 1), (6, 1), (7, 1), (8, 1), (9, 1), (10, 1)] [false, false, false, false, false, false, false, false, false, false, false]⟩
theorem tk143 : TIOk Try.prog 143 ti143 := ⟨ty143, fun zs h => by cases h; exact ze143, kdStruct str143 ⟨fld143_0, fld143_1, fld143_2, fld143_3, fld143_4, fld143_5, fld143_6, fld143_7, fld143_8, fld143_9, fld143_10, trivial⟩ ⟨prt143_0, prt143_1, prt143_2, prt143_3, prt143_4, prt143_5, prt143_6, prt143_7, prt143_8, prt143_9, prt143_10, trivial⟩⟩
def tb : Tb := [(2, ti2), (3, ti3), (4, ti4), (5, ti5), (6, ti6), (7, ti7), (8, ti8), (9, ti9), (10, ti10), (11, ti11), (12, ti12), (13, ti13), (14, ti14), (15, ti15), (16, ti16), (17, ti17), (18, ti18), (19, ti19), (21, ti21), (22, ti22), (23, ti23), (25, ti25), (26, ti26), (27, ti27), (28, ti28), (30, ti30), (32, ti32), (38, ti38), (39, ti39), (41, ti41), (42, ti42), (55, ti55), (56, ti56), (57, ti57), (59, ti59), (61, ti61), (62, ti62), (63, ti63), (64, ti64), (66, ti66), (67, ti67), (69, ti69), (72, ti72), (73, ti73), (74, ti74), (77, ti77), (83, ti83), (86, ti86), (87, ti87), (88, ti88), (90, ti90), (95, ti95), (99, ti99), (101, ti101), (103, ti103), (106, ti106), (111, ti111), (118, ti118), (120, ti120), (121, ti121), (125, ti125), (127, ti127), (131, ti131), (132, ti132), (133, ti133), (136, ti136), (137, ti137), (138, ti138), (139, ti139), (140, ti140), (141, ti141), (142, ti142), (143, ti143)]
theorem W0 : Wld Try.prog tb := ⟨hmix, ⟨tk2, tk3, tk4, tk5, tk6, tk7, tk8, tk9, tk10, tk11, tk12, tk13, tk14, tk15, tk16, tk17, tk18, tk19, tk21, tk22, tk23, tk25, tk26, tk27, tk28, tk30, tk32, tk38, tk39, tk41, tk42, tk55, tk56, tk57, tk59, tk61, tk62, tk63, tk64, tk66, tk67, tk69, tk72, tk73, tk74, tk77, tk83, tk86, tk87, tk88, tk90, tk95, tk99, tk101, tk103, tk106, tk111, tk118, tk120, tk121, tk125, tk127, tk131, tk132, tk133, tk136, tk137, tk138, tk139, tk140, tk141, tk142, tk143, trivial⟩⟩
theorem ck12 : CallOk Try.prog 12 := ⟨Try.call12⟩
theorem ck13 : CallOk Try.prog 13 := ⟨Try.call13⟩
theorem ck14 : CallOk Try.prog 14 := ⟨Try.call14⟩
theorem ck15 : CallOk Try.prog 15 := ⟨Try.call15⟩
theorem ck16 : CallOk Try.prog 16 := ⟨Try.call16⟩
theorem ck17 : CallOk Try.prog 17 := ⟨Try.call17⟩
theorem ck18 : CallOk Try.prog 18 := ⟨Try.call18⟩
theorem ck19 : CallOk Try.prog 19 := ⟨Try.call19⟩
theorem ck20 : CallOk Try.prog 20 := ⟨Try.call20⟩
theorem ck21 : CallOk Try.prog 21 := ⟨Try.call21⟩
theorem ck22 : CallOk Try.prog 22 := ⟨Try.call22⟩
theorem ck23 : CallOk Try.prog 23 := ⟨Try.call23⟩
theorem ck24 : CallOk Try.prog 24 := ⟨Try.call24⟩
theorem ck26 : CallOk Try.prog 26 := ⟨Try.call26⟩
theorem ck28 : CallOk Try.prog 28 := ⟨Try.call28⟩
theorem ck29 : CallOk Try.prog 29 := ⟨Try.call29⟩
theorem ck30 : CallOk Try.prog 30 := ⟨Try.call30⟩
theorem ck31 : CallOk Try.prog 31 := ⟨Try.call31⟩
theorem ck32 : CallOk Try.prog 32 := ⟨Try.call32⟩
theorem ck33 : CallOk Try.prog 33 := ⟨Try.call33⟩
theorem ck34 : CallOk Try.prog 34 := ⟨Try.call34⟩
theorem ck35 : CallOk Try.prog 35 := ⟨Try.call35⟩
theorem ck41 : CallOk Try.prog 41 := ⟨Try.call41⟩
theorem ck42 : CallOk Try.prog 42 := ⟨Try.call42⟩
theorem ck43 : CallOk Try.prog 43 := ⟨Try.call43⟩
theorem ck44 : CallOk Try.prog 44 := ⟨Try.call44⟩
theorem ck45 : CallOk Try.prog 45 := ⟨Try.call45⟩
theorem ck46 : CallOk Try.prog 46 := ⟨Try.call46⟩
theorem ck47 : CallOk Try.prog 47 := ⟨Try.call47⟩
theorem ck48 : CallOk Try.prog 48 := ⟨Try.call48⟩
theorem ck49 : CallOk Try.prog 49 := ⟨Try.call49⟩
theorem ck50 : CallOk Try.prog 50 := ⟨Try.call50⟩
theorem ck51 : CallOk Try.prog 51 := ⟨Try.call51⟩
theorem ck52 : CallOk Try.prog 52 := ⟨Try.call52⟩
theorem ck53 : CallOk Try.prog 53 := ⟨Try.call53⟩
theorem ck54 : CallOk Try.prog 54 := ⟨Try.call54⟩
theorem ck55 : CallOk Try.prog 55 := ⟨Try.call55⟩
theorem ck56 : CallOk Try.prog 56 := ⟨Try.call56⟩
theorem ck57 : CallOk Try.prog 57 := ⟨Try.call57⟩
theorem ck58 : CallOk Try.prog 58 := ⟨Try.call58⟩
theorem ck60 : CallOk Try.prog 60 := ⟨Try.call60⟩
theorem ck61 : CallOk Try.prog 61 := ⟨Try.call61⟩
theorem ck62 : CallOk Try.prog 62 := ⟨Try.call62⟩
theorem ck63 : CallOk Try.prog 63 := ⟨Try.call63⟩
theorem ck64 : CallOk Try.prog 64 := ⟨Try.call64⟩
theorem ck66 : CallOk Try.prog 66 := ⟨Try.call66⟩
theorem ck67 : CallOk Try.prog 67 := ⟨Try.call67⟩
theorem ck68 : CallOk Try.prog 68 := ⟨Try.call68⟩
theorem ck69 : CallOk Try.prog 69 := ⟨Try.call69⟩
theorem ck70 : CallOk Try.prog 70 := ⟨Try.call70⟩
theorem ck71 : CallOk Try.prog 71 := ⟨Try.call71⟩
theorem ck72 : CallOk Try.prog 72 := ⟨Try.call72⟩
theorem ck73 : CallOk Try.prog 73 := ⟨Try.call73⟩
theorem ck74 : CallOk Try.prog 74 := ⟨Try.call74⟩
theorem ck75 : CallOk Try.prog 75 := ⟨Try.call75⟩
theorem ck76 : CallOk Try.prog 76 := ⟨Try.call76⟩
theorem ck77 : CallOk Try.prog 77 := ⟨Try.call77⟩
theorem ck78 : CallOk Try.prog 78 := ⟨Try.call78⟩
theorem ck79 : CallOk Try.prog 79 := ⟨Try.call79⟩
theorem ck80 : CallOk Try.prog 80 := ⟨Try.call80⟩
theorem ck81 : CallOk Try.prog 81 := ⟨Try.call81⟩
theorem ck82 : CallOk Try.prog 82 := ⟨Try.call82⟩
theorem ck83 : CallOk Try.prog 83 := ⟨Try.call83⟩
theorem ck84 : CallOk Try.prog 84 := ⟨Try.call84⟩
theorem ck87 : CallOk Try.prog 87 := ⟨Try.call87⟩
theorem ck88 : CallOk Try.prog 88 := ⟨Try.call88⟩
theorem ck89 : CallOk Try.prog 89 := ⟨Try.call89⟩
theorem ck90 : CallOk Try.prog 90 := ⟨Try.call90⟩
theorem qS {N : Nat} {ids : List Nat} {y : Code} {Q : Exit → Env → Sto → Prop} {env : Env} {σ : Sto} {id : Nat} {ops : Array Oper} {dr : Bool} (hs : List (Nat × Hint Try.prog)) (env2 : Env) (σ2 : Sto) (k : acode ⟨Try.prog, N, ids⟩ y Q env2 σ2)
  (h : regE tb N ids ops dr (schE ops dr hs).1 (schE ops dr hs).2 [] hs (keysE env2) σ2.ids env σ = some (env2, σ2, (schE ops dr hs).2.map fun i => (hintOf hs i).exp) := by kernel_rfl) : acode ⟨Try.prog, N, ids⟩ (.seq (.region id ops dr) y) Q env σ := A.RS W0 [] hs env2 σ2 h k
theorem qR {N : Nat} {ids : List Nat} {Q : Exit → Env → Sto → Prop} {env : Env} {σ : Sto} {id : Nat} {ops : Array Oper} {dr : Bool} (hs : List (Nat × Hint Try.prog)) (env2 : Env) (σ2 : Sto) (k : Q .normal env2 σ2)
  (h : regE tb N ids ops dr (schE ops dr hs).1 (schE ops dr hs).2 [] hs (keysE env2) σ2.ids env σ = some (env2, σ2, (schE ops dr hs).2.map fun i => (hintOf hs i).exp) := by kernel_rfl) : acode ⟨Try.prog, N, ids⟩ (.region id ops dr) Q env σ := A.R W0 [] hs env2 σ2 h k
def memE (n : Nat) : List Nat → Bool
 | [] => false
 | k :: r => bif Nat.beq k n then true else memE n r
def updE {α : Type} (ks : List Nat) (new : List (Nat × α)) : List (Nat × α) → List (Nat × α)
 | [] => new
 | p :: l => bif memE p.1 ks then updE ks new l else p :: updE ks new l
section
variable {N : Nat} {ids : List Nat} {y : Code} {Q : Exit → Env → Sto → Prop} {env : Env} {σ : Sto} {id : Nat} {ops : Array Oper} {dr : Bool} (hs : List (Nat × Hint Try.prog)) (ks : List Nat) (new : Env) (js : List Nat) (nws : Sto)
theorem qD (k : acode ⟨Try.prog, N, ids⟩ y Q (updE ks new env) (updE js nws σ))
  (h : regE tb N ids ops dr (schE ops dr hs).1 (schE ops dr hs).2 [] hs (keysE (updE ks new env)) (Sto.ids (updE js nws σ)) env σ = some (updE ks new env, updE js nws σ, (schE ops dr hs).2.map fun i => (hintOf hs i).exp) := by kernel_rfl) : acode ⟨Try.prog, N, ids⟩ (.seq (.region id ops dr) y) Q env σ := A.RS W0 [] hs _ _ h k
theorem qDs (k : acode ⟨Try.prog, N, ids⟩ y Q (updE ks new env) σ)
  (h : regE tb N ids ops dr (schE ops dr hs).1 (schE ops dr hs).2 [] hs (keysE (updE ks new env)) σ.ids env σ = some (updE ks new env, σ, (schE ops dr hs).2.map fun i => (hintOf hs i).exp) := by kernel_rfl) : acode ⟨Try.prog, N, ids⟩ (.seq (.region id ops dr) y) Q env σ := A.RS W0 [] hs _ _ h k
theorem qG (k : Q .normal (updE ks new env) (updE js nws σ))
  (h : regE tb N ids ops dr (schE ops dr hs).1 (schE ops dr hs).2 [] hs (keysE (updE ks new env)) (Sto.ids (updE js nws σ)) env σ = some (updE ks new env, updE js nws σ, (schE ops dr hs).2.map fun i => (hintOf hs i).exp) := by kernel_rfl) : acode ⟨Try.prog, N, ids⟩ (.region id ops dr) Q env σ := A.R W0 [] hs _ _ h k
theorem qGs (k : Q .normal (updE ks new env) σ)
  (h : regE tb N ids ops dr (schE ops dr hs).1 (schE ops dr hs).2 [] hs (keysE (updE ks new env)) σ.ids env σ = some (updE ks new env, σ, (schE ops dr hs).2.map fun i => (hintOf hs i).exp) := by kernel_rfl) : acode ⟨Try.prog, N, ids⟩ (.region id ops dr) Q env σ := A.R W0 [] hs _ _ h k
end
theorem qE {N : Nat} {ids : List Nat} {fn : Func} {env : Env} {σ σ2 : Sto} {R : AV} (h : finE tb ids [] σ2.ids fn.results.toList env σ = some (R, σ2) := by kernel_rfl) :
  lateP ⟨Try.prog, N, ids⟩ fn (fun a σ' => a = R ∧ σ' = σ2) .ret env σ := A.fin W0 [] rfl h
theorem qW {G : Gl} {env env2 : Env} {σ σ2 : Sto} (h : weakE G.ids [] [] (keysE env2) σ2.ids env σ = some (env2, σ2) := by kernel_rfl) : Weak G env σ env2 σ2 := Weak.go [] [] h
theorem qX {G : Gl} {α ρ : Type} {J : α → Option ρ} {r : ρ} {env : Env} {σ : Sto} {envOf : α → Env} {stOf : α → Sto} (g : α) (hg : J g = some r) (h : weakE G.ids [] [] (keysE (envOf g)) (stOf g).ids env σ = some (envOf g, stOf g) := by kernel_rfl) :
  ∃ g, J g = some r ∧ Weak G env σ (envOf g) (stOf g) := ⟨g, hg, Weak.go [] [] h⟩
theorem qT {G : Gl} {o : Operand} {p : Bool} {x y : Code} {Q : Exit → Env → Sto → Prop} {env : Env} {σ : Sto} (hp : p = true) (k : acode G x Q env σ) (hc : env.evo o = some (.bool p) := by kernel_rfl) : acode G (.cond o x y) Q env σ := A.cT hc hp k
theorem qF {G : Gl} {o : Operand} {p : Bool} {x y : Code} {Q : Exit → Env → Sto → Prop} {env : Env} {σ : Sto} (hp : p = false) (k : acode G y Q env σ) (hc : env.evo o = some (.bool p) := by kernel_rfl) : acode G (.cond o x y) Q env σ := A.cF hc hp k
abbrev i6 (n : Int) : AV := .int .i64 n
abbrev lf {α : Type} (e : En α) (l : List α) : AV := .lst false (ml e l)
abbrev k0 (x : GRouter) : List AV := [.int .i64 x.ID, .bool x.Capable]
abbrev k1 (x : GLink) : List AV := [.int .i64 x.A, .int .i64 x.B, .int .i64 x.CostA, .int .i64 x.CostB, .int .i64 x.Capacity]
abbrev k2 (x : GTopology) : List AV := [.lst false (ml eGRouter x.Routers), .lst false (ml eGLink x.Links)]
abbrev k3 (x : GTape) : List AV := [.lst false (ml eInt x.L), .int .i64 x.At]
abbrev k4 (x : GHop) : List AV := [.int .i64 x.From, .int .i64 x.To]
abbrev k5 (x : GFailure) : List AV := [.lst false (ml eGHop x.Links), .lst false (ml eInt x.Routers)]
abbrev k6 (x : GShortest_step) : List AV := [.int .i64 x.to_, .int .i64 x.cost_]
end Go.Proofs.Ytflifgcoleknlaa
