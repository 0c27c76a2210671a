/- The data of the program, as Lean data, and what is known of its types. No condition but those that stand in each. -/
import Derived.Test.YtmcjffllahcclaaGreatF
import Derived.Test.YtmcjffllahcclaaGreatBA
namespace Go.Proofs.YtmcjffllahcclaaGreat
open Go
set_option maxRecDepth 100000
set_option linter.all false
structure GRouter where
  ID : Int
  Capable : Bool
instance : Inhabited GRouter := ⟨GRouter.mk (0:Int) false⟩
def eGRouter : En GRouter := ⟨fun x => [.int .i64 x.ID, .bool x.Capable], 2, fun _ => rfl, fun _ => rfl, fun _ => rfl⟩
structure GLink where
  A : Int
  B : Int
  CostA : Int
  CostB : Int
  Capacity : Int
instance : Inhabited GLink := ⟨GLink.mk (0:Int) (0:Int) (0:Int) (0:Int) (0:Int)⟩
def eGLink : En GLink := ⟨fun x => [.int .i64 x.A, .int .i64 x.B, .int .i64 x.CostA, .int .i64 x.CostB, .int .i64 x.Capacity], 5, fun _ => rfl, fun _ => rfl, fun _ => rfl⟩
def eqGLink (a b : GLink) : Bool := decide (a.A = b.A) && (decide (a.B = b.B) && (decide (a.CostA = b.CostA) && (decide (a.CostB = b.CostB) && (decide (a.Capacity = b.Capacity) && true))))
structure GTopology where
  Routers : List GRouter
  Links : List GLink
instance : Inhabited GTopology := ⟨GTopology.mk [] []⟩
structure GTape where
  L : List Int
  At : Int
instance : Inhabited GTape := ⟨GTape.mk [] (0:Int)⟩
structure GHop where
  From : Int
  To : Int
instance : Inhabited GHop := ⟨GHop.mk (0:Int) (0:Int)⟩
structure GFailure where
  Links : List GHop
  Routers : List Int
instance : Inhabited GFailure := ⟨GFailure.mk [] []⟩
structure GReach where
  Neighbour : Int
  Cost : Int
  Capacity : Int
instance : Inhabited GReach := ⟨GReach.mk (0:Int) (0:Int) (0:Int)⟩
def eGReach : En GReach := ⟨fun x => [.int .i64 x.Neighbour, .int .i64 x.Cost, .int .i64 x.Capacity], 3, fun _ => rfl, fun _ => rfl, fun _ => rfl⟩
def eqGReach (a b : GReach) : Bool := decide (a.Neighbour = b.Neighbour) && (decide (a.Cost = b.Cost) && (decide (a.Capacity = b.Capacity) && true))
structure GClaim where
  Subdomain : Int
  ID : Int
  Length : Int
instance : Inhabited GClaim := ⟨GClaim.mk (0:Int) (0:Int) (0:Int)⟩
def eGClaim : En GClaim := ⟨fun x => [.int .i64 x.Subdomain, .int .i64 x.ID, .int .i64 x.Length], 3, fun _ => rfl, fun _ => rfl, fun _ => rfl⟩
def eqGClaim (a b : GClaim) : Bool := decide (a.Subdomain = b.Subdomain) && (decide (a.ID = b.ID) && (decide (a.Length = b.Length) && true))
structure GAdvert where
  Router : Int
  Seq : Int
  Capable : Bool
  Links : List GReach
  Claims : List GClaim
instance : Inhabited GAdvert := ⟨GAdvert.mk (0:Int) (0:Int) false [] []⟩
def eGAdvert : En GAdvert := ⟨fun x => [.int .i64 x.Router, .int .i64 x.Seq, .bool x.Capable, .lst false (ml eGReach x.Links), .lst false (ml eGClaim x.Claims)], 5, fun _ => rfl, fun _ => rfl, fun _ => rfl⟩
structure GDatabase where
  Adverts : List GAdvert
instance : Inhabited GDatabase := ⟨GDatabase.mk []⟩
structure GStream where
  Data : List Int
  Bits : Int
instance : Inhabited GStream := ⟨GStream.mk [] (0:Int)⟩
structure GAdvert_writer where
  s_ : GStream
instance : Inhabited GAdvert_writer := ⟨GAdvert_writer.mk (GStream.mk [] (0:Int))⟩
def ti1 : TI := ⟨1, false, some [.nilFunc], .oth⟩
theorem tk1 : TIOk Tryz.prog 1 ti1 := ⟨ty1, fun zs h => by cases h; exact ze1, trivial⟩
def ti2 : TI := ⟨1, false, some [.int .i64 0], .int .i64⟩
theorem tk2 : TIOk Tryz.prog 2 ti2 := ⟨ty2, fun zs h => by cases h; exact ze2, Tryz.underlying2⟩
def ti3 : TI := ⟨1, false, some [.int .i64 0], .int .i64⟩
theorem tk3 : TIOk Tryz.prog 3 ti3 := ⟨ty3, fun zs h => by cases h; exact ze3, Tryz.underlying3⟩
def ti4 : TI := ⟨1, false, some [.bool false], .bool⟩
theorem tk4 : TIOk Tryz.prog 4 ti4 := ⟨ty4, fun zs h => by cases h; exact ze4, Tryz.underlying4⟩
def ti5 : TI := ⟨1, false, some [.int .u8 0], .int .u8⟩
theorem tk5 : TIOk Tryz.prog 5 ti5 := ⟨ty5, fun zs h => by cases h; exact ze5, Tryz.underlying5⟩
def ti6 : TI := ⟨1, false, some [.int .u8 0], .int .u8⟩
theorem tk6 : TIOk Tryz.prog 6 ti6 := ⟨ty6, fun zs h => by cases h; exact ze6, Tryz.underlying6⟩
def ti7 : TI := ⟨4, true, some [.int .i64 0, .int .i64 0, .bool false, .int .u8 0], .struct [.int .i64 0, .int .i64 0, .bool false, .int .u8 0] [(0, 1), (1, 1), (2, 1), (3, 1)] [false, false, false, false]⟩
theorem tk7 : TIOk Tryz.prog 7 ti7 := ⟨ty7, fun zs h => by cases h; exact ze7, kdStruct str7 ⟨fld7_0, fld7_1, fld7_2, fld7_3, trivial⟩ ⟨prt7_0, prt7_1, prt7_2, prt7_3, trivial⟩⟩
def ti8 : TI := ⟨4, true, some [.int .i64 0, .int .i64 0, .bool false, .int .u8 0], .struct [.int .i64 0, .int .i64 0, .bool false, .int .u8 0] [(0, 1), (1, 1), (2, 1), (3, 1)] [false, false, false, false]⟩
theorem tk8 : TIOk Tryz.prog 8 ti8 := ⟨ty8, fun zs h => by cases h; exact ze8, kdStruct str8 ⟨fld8_0, fld8_1, fld8_2, fld8_3, trivial⟩ ⟨prt8_0, prt8_1, prt8_2, prt8_3, trivial⟩⟩
def ti9 : TI := ⟨1, false, some [.string ⟨#[]⟩], .str⟩
theorem tk9 : TIOk Tryz.prog 9 ti9 := ⟨ty9, fun zs h => by cases h; exact ze9, Tryz.underlying9⟩
def ti10 : TI := ⟨1, false, some [.string ⟨#[]⟩], .str⟩
theorem tk10 : TIOk Tryz.prog 10 ti10 := ⟨ty10, fun zs h => by cases h; exact ze10, Tryz.underlying10⟩
def ti11 : TI := ⟨1, false, some [.string ⟨#[]⟩], .str⟩
theorem tk11 : TIOk Tryz.prog 11 ti11 := ⟨ty11, fun zs h => by cases h; exact ze11, Tryz.underlying11⟩
def ti12 : TI := ⟨1, false, some [.int .u64 0], .int .u64⟩
theorem tk12 : TIOk Tryz.prog 12 ti12 := ⟨ty12, fun zs h => by cases h; exact ze12, Tryz.underlying12⟩
def ti13 : TI := ⟨2, true, some [.string ⟨#[]⟩, .int .u64 0], .struct [.string ⟨#[]⟩, .int .u64 0] [(0, 1), (1, 1)] [false, false]⟩
theorem tk13 : TIOk Tryz.prog 13 ti13 := ⟨ty13, fun zs h => by cases h; exact ze13, kdStruct str13 ⟨fld13_0, fld13_1, trivial⟩ ⟨prt13_0, prt13_1, trivial⟩⟩
def ti14 : TI := ⟨2, true, some [.string ⟨#[]⟩, .int .u64 0], .struct [.string ⟨#[]⟩, .int .u64 0] [(0, 1), (1, 1)] [false, false]⟩
theorem tk14 : TIOk Tryz.prog 14 ti14 := ⟨ty14, fun zs h => by cases h; exact ze14, kdStruct str14 ⟨fld14_0, fld14_1, trivial⟩ ⟨prt14_0, prt14_1, trivial⟩⟩
def ti15 : TI := ⟨1, false, some [.pointer none], .oth⟩
theorem tk15 : TIOk Tryz.prog 15 ti15 := ⟨ty15, fun zs h => by cases h; exact ze15, trivial⟩
def ti16 : TI := ⟨1, false, some [.pointer none], .oth⟩
theorem tk16 : TIOk Tryz.prog 16 ti16 := ⟨ty16, fun zs h => by cases h; exact ze16, trivial⟩
def ti17 : TI := ⟨1, false, some [.pointer none], .oth⟩
theorem tk17 : TIOk Tryz.prog 17 ti17 := ⟨ty17, fun zs h => by cases h; exact ze17, trivial⟩
def ti18 : TI := ⟨1, true, some [.pointer none], .struct [.pointer none] [(0, 1)] [false]⟩
theorem tk18 : TIOk Tryz.prog 18 ti18 := ⟨ty18, fun zs h => by cases h; exact ze18, kdStruct str18 ⟨fld18_0, trivial⟩ ⟨prt18_0, trivial⟩⟩
def ti19 : TI := ⟨1, true, some [.pointer none], .struct [.pointer none] [(0, 1)] [false]⟩
theorem tk19 : TIOk Tryz.prog 19 ti19 := ⟨ty19, fun zs h => by cases h; exact ze19, kdStruct str19 ⟨fld19_0, trivial⟩ ⟨prt19_0, trivial⟩⟩
def ti21 : TI := ⟨1, false, some [.int .i32 0], .int .i32⟩
theorem tk21 : TIOk Tryz.prog 21 ti21 := ⟨ty21, fun zs h => by cases h; exact ze21, Tryz.underlying21⟩
def ti22 : TI := ⟨1, false, some [.slice none 0 0], .slice 3 1 8 [.int .i64 0]⟩
theorem tk22 : TIOk Tryz.prog 22 ti22 := ⟨ty22, fun zs h => by cases h; exact ze22, ⟨sl22, app22, sli22⟩⟩
def ti23 : TI := ⟨1, false, some [.slice none 0 0], .slice 29 5 72 [.int .i64 0, .int .i64 0, .bool false, .slice none 0 0, .slice none 0 0]⟩
theorem tk23 : TIOk Tryz.prog 23 ti23 := ⟨ty23, fun zs h => by cases h; exact ze23, ⟨sl23, app23, sli23⟩⟩
def ti24 : TI := ⟨1, true, some [.slice none 0 0], .struct [.slice none 0 0] [(0, 1)] [false]⟩
theorem tk24 : TIOk Tryz.prog 24 ti24 := ⟨ty24, fun zs h => by cases h; exact ze24, kdStruct str24 ⟨fld24_0, trivial⟩ ⟨prt24_0, trivial⟩⟩
def ti25 : TI := ⟨1, true, some [.slice none 0 0], .struct [.slice none 0 0] [(0, 1)] [false]⟩
theorem tk25 : TIOk Tryz.prog 25 ti25 := ⟨ty25, fun zs h => by cases h; exact ze25, kdStruct str25 ⟨fld25_0, trivial⟩ ⟨prt25_0, trivial⟩⟩
def ti26 : TI := ⟨1, false, some [.slice none 0 0], .slice 74 3 24 [.int .i64 0, .int .i64 0, .int .i64 0]⟩
theorem tk26 : TIOk Tryz.prog 26 ti26 := ⟨ty26, fun zs h => by cases h; exact ze26, ⟨sl26, app26, sli26⟩⟩
def ti27 : TI := ⟨1, false, some [.slice none 0 0], .slice 77 3 24 [.int .i64 0, .int .i64 0, .int .i64 0]⟩
theorem tk27 : TIOk Tryz.prog 27 ti27 := ⟨ty27, fun zs h => by cases h; exact ze27, ⟨sl27, app27, sli27⟩⟩
def ti28 : TI := ⟨5, true, some [.int .i64 0, .int .i64 0, .bool false, .slice none 0 0, .slice none 0 0], .struct [.int .i64 0, .int .i64 0, .bool false, .slice none 0 0, .slice none 0 0] [(0, 1), (1, 1), (2, 1), (3, 1), (4, 1)] [false, false, false, false, false]⟩
theorem tk28 : TIOk Tryz.prog 28 ti28 := ⟨ty28, fun zs h => by cases h; exact ze28, kdStruct str28 ⟨fld28_0, fld28_1, fld28_2, fld28_3, fld28_4, trivial⟩ ⟨prt28_0, prt28_1, prt28_2, prt28_3, prt28_4, trivial⟩⟩
def ti29 : TI := ⟨5, true, some [.int .i64 0, .int .i64 0, .bool false, .slice none 0 0, .slice none 0 0], .struct [.int .i64 0, .int .i64 0, .bool false, .slice none 0 0, .slice none 0 0] [(0, 1), (1, 1), (2, 1), (3, 1), (4, 1)] [false, false, false, false, false]⟩
theorem tk29 : TIOk Tryz.prog 29 ti29 := ⟨ty29, fun zs h => by cases h; exact ze29, kdStruct str29 ⟨fld29_0, fld29_1, fld29_2, fld29_3, fld29_4, trivial⟩ ⟨prt29_0, prt29_1, prt29_2, prt29_3, prt29_4, trivial⟩⟩
def ti30 : TI := ⟨1, false, some [.pointer none], .oth⟩
theorem tk30 : TIOk Tryz.prog 30 ti30 := ⟨ty30, fun zs h => by cases h; exact ze30, trivial⟩
def ti31 : TI := ⟨1, false, some [.nilFunc], .oth⟩
theorem tk31 : TIOk Tryz.prog 31 ti31 := ⟨ty31, fun zs h => by cases h; exact ze31, trivial⟩
def ti32 : TI := ⟨1, false, some [.nilFunc], .oth⟩
theorem tk32 : TIOk Tryz.prog 32 ti32 := ⟨ty32, fun zs h => by cases h; exact ze32, trivial⟩
def ti33 : TI := ⟨1, false, some [.nilFunc], .oth⟩
theorem tk33 : TIOk Tryz.prog 33 ti33 := ⟨ty33, fun zs h => by cases h; exact ze33, trivial⟩
def ti34 : TI := ⟨1, false, some [.nilFunc], .oth⟩
theorem tk34 : TIOk Tryz.prog 34 ti34 := ⟨ty34, fun zs h => by cases h; exact ze34, trivial⟩
def ti35 : TI := ⟨1, false, some [.nilFunc], .oth⟩
theorem tk35 : TIOk Tryz.prog 35 ti35 := ⟨ty35, fun zs h => by cases h; exact ze35, trivial⟩
def ti36 : TI := ⟨1, false, some [.nilFunc], .oth⟩
theorem tk36 : TIOk Tryz.prog 36 ti36 := ⟨ty36, fun zs h => by cases h; exact ze36, trivial⟩
def ti38 : TI := ⟨1, false, some [.nilFunc], .oth⟩
theorem tk38 : TIOk Tryz.prog 38 ti38 := ⟨ty38, fun zs h => by cases h; exact ze38, trivial⟩
def ti39 : TI := ⟨1, false, some [.nilFunc], .oth⟩
theorem tk39 : TIOk Tryz.prog 39 ti39 := ⟨ty39, fun zs h => by cases h; exact ze39, trivial⟩
def ti40 : TI := ⟨1, false, some [.nilFunc], .oth⟩
theorem tk40 : TIOk Tryz.prog 40 ti40 := ⟨ty40, fun zs h => by cases h; exact ze40, trivial⟩
def ti41 : TI := ⟨1, false, some [.nilFunc], .oth⟩
theorem tk41 : TIOk Tryz.prog 41 ti41 := ⟨ty41, fun zs h => by cases h; exact ze41, trivial⟩
def ti42 : TI := ⟨1, false, some [.nilFunc], .oth⟩
theorem tk42 : TIOk Tryz.prog 42 ti42 := ⟨ty42, fun zs h => by cases h; exact ze42, trivial⟩
def ti43 : TI := ⟨1, false, some [.slice none 0 0], .slice 52 2 16 [.int .i64 0, .bool false]⟩
theorem tk43 : TIOk Tryz.prog 43 ti43 := ⟨ty43, fun zs h => by cases h; exact ze43, ⟨sl43, app43, sli43⟩⟩
def ti44 : TI := ⟨1, false, some [.slice none 0 0], .slice 84 5 40 [.int .i64 0, .int .i64 0, .int .i64 0, .int .i64 0, .int .i64 0]⟩
theorem tk44 : TIOk Tryz.prog 44 ti44 := ⟨ty44, fun zs h => by cases h; exact ze44, ⟨sl44, app44, sli44⟩⟩
def ti45 : TI := ⟨2, true, some [.slice none 0 0, .slice none 0 0], .struct [.slice none 0 0, .slice none 0 0] [(0, 1), (1, 1)] [false, false]⟩
theorem tk45 : TIOk Tryz.prog 45 ti45 := ⟨ty45, fun zs h => by cases h; exact ze45, kdStruct str45 ⟨fld45_0, fld45_1, trivial⟩ ⟨prt45_0, prt45_1, trivial⟩⟩
def ti46 : TI := ⟨2, true, some [.slice none 0 0, .slice none 0 0], .struct [.slice none 0 0, .slice none 0 0] [(0, 1), (1, 1)] [false, false]⟩
theorem tk46 : TIOk Tryz.prog 46 ti46 := ⟨ty46, fun zs h => by cases h; exact ze46, kdStruct str46 ⟨fld46_0, fld46_1, trivial⟩ ⟨prt46_0, prt46_1, trivial⟩⟩
def ti47 : TI := ⟨1, false, some [.nilFunc], .oth⟩
theorem tk47 : TIOk Tryz.prog 47 ti47 := ⟨ty47, fun zs h => by cases h; exact ze47, trivial⟩
def ti48 : TI := ⟨1, false, some [.int .i64 0], .int .i64⟩
theorem tk48 : TIOk Tryz.prog 48 ti48 := ⟨ty48, fun zs h => by cases h; exact ze48, Tryz.underlying48⟩
def ti50 : TI := ⟨1, false, some [.nilFunc], .oth⟩
theorem tk50 : TIOk Tryz.prog 50 ti50 := ⟨ty50, fun zs h => by cases h; exact ze50, trivial⟩
def ti51 : TI := ⟨2, true, some [.int .i64 0, .bool false], .struct [.int .i64 0, .bool false] [(0, 1), (1, 1)] [false, false]⟩
theorem tk51 : TIOk Tryz.prog 51 ti51 := ⟨ty51, fun zs h => by cases h; exact ze51, kdStruct str51 ⟨fld51_0, fld51_1, trivial⟩ ⟨prt51_0, prt51_1, trivial⟩⟩
def ti52 : TI := ⟨2, true, some [.int .i64 0, .bool false], .struct [.int .i64 0, .bool false] [(0, 1), (1, 1)] [false, false]⟩
theorem tk52 : TIOk Tryz.prog 52 ti52 := ⟨ty52, fun zs h => by cases h; exact ze52, kdStruct str52 ⟨fld52_0, fld52_1, trivial⟩ ⟨prt52_0, prt52_1, trivial⟩⟩
def ti53 : TI := ⟨1, false, some [.nilFunc], .oth⟩
theorem tk53 : TIOk Tryz.prog 53 ti53 := ⟨ty53, fun zs h => by cases h; exact ze53, trivial⟩
def ti54 : TI := ⟨1, false, some [.nilFunc], .oth⟩
theorem tk54 : TIOk Tryz.prog 54 ti54 := ⟨ty54, fun zs h => by cases h; exact ze54, trivial⟩
def ti55 : TI := ⟨1, false, some [.nilFunc], .oth⟩
theorem tk55 : TIOk Tryz.prog 55 ti55 := ⟨ty55, fun zs h => by cases h; exact ze55, trivial⟩
def ti56 : TI := ⟨1, false, some [.nilFunc], .oth⟩
theorem tk56 : TIOk Tryz.prog 56 ti56 := ⟨ty56, fun zs h => by cases h; exact ze56, trivial⟩
def ti57 : TI := ⟨1, false, some [.nilFunc], .oth⟩
theorem tk57 : TIOk Tryz.prog 57 ti57 := ⟨ty57, fun zs h => by cases h; exact ze57, trivial⟩
def ti58 : TI := ⟨1, false, some [.nilFunc], .oth⟩
theorem tk58 : TIOk Tryz.prog 58 ti58 := ⟨ty58, fun zs h => by cases h; exact ze58, trivial⟩
def ti59 : TI := ⟨1, false, some [.slice none 0 0], .slice 122 2 16 [.int .i64 0, .int .i64 0]⟩
theorem tk59 : TIOk Tryz.prog 59 ti59 := ⟨ty59, fun zs h => by cases h; exact ze59, ⟨sl59, app59, sli59⟩⟩
def ti60 : TI := ⟨2, true, some [.slice none 0 0, .slice none 0 0], .struct [.slice none 0 0, .slice none 0 0] [(0, 1), (1, 1)] [false, false]⟩
theorem tk60 : TIOk Tryz.prog 60 ti60 := ⟨ty60, fun zs h => by cases h; exact ze60, kdStruct str60 ⟨fld60_0, fld60_1, trivial⟩ ⟨prt60_0, prt60_1, trivial⟩⟩
def ti61 : TI := ⟨2, true, some [.slice none 0 0, .slice none 0 0], .struct [.slice none 0 0, .slice none 0 0] [(0, 1), (1, 1)] [false, false]⟩
theorem tk61 : TIOk Tryz.prog 61 ti61 := ⟨ty61, fun zs h => by cases h; exact ze61, kdStruct str61 ⟨fld61_0, fld61_1, trivial⟩ ⟨prt61_0, prt61_1, trivial⟩⟩
def ti62 : TI := ⟨1, false, some [.nilFunc], .oth⟩
theorem tk62 : TIOk Tryz.prog 62 ti62 := ⟨ty62, fun zs h => by cases h; exact ze62, trivial⟩
def ti64 : TI := ⟨1, false, some [.nilFunc], .oth⟩
theorem tk64 : TIOk Tryz.prog 64 ti64 := ⟨ty64, fun zs h => by cases h; exact ze64, trivial⟩
def ti65 : TI := ⟨1, false, some [.slice none 0 0], .slice 25 1 24 [.slice none 0 0]⟩
theorem tk65 : TIOk Tryz.prog 65 ti65 := ⟨ty65, fun zs h => by cases h; exact ze65, ⟨sl65, app65, sli65⟩⟩
def ti67 : TI := ⟨1, false, some [.nilFunc], .oth⟩
theorem tk67 : TIOk Tryz.prog 67 ti67 := ⟨ty67, fun zs h => by cases h; exact ze67, trivial⟩
def ti68 : TI := ⟨1, false, some [.nilFunc], .oth⟩
theorem tk68 : TIOk Tryz.prog 68 ti68 := ⟨ty68, fun zs h => by cases h; exact ze68, trivial⟩
def ti69 : TI := ⟨1, false, some [.nilFunc], .oth⟩
theorem tk69 : TIOk Tryz.prog 69 ti69 := ⟨ty69, fun zs h => by cases h; exact ze69, trivial⟩
def ti70 : TI := ⟨2, true, some [.slice none 0 0, .int .i64 0], .struct [.slice none 0 0, .int .i64 0] [(0, 1), (1, 1)] [false, false]⟩
theorem tk70 : TIOk Tryz.prog 70 ti70 := ⟨ty70, fun zs h => by cases h; exact ze70, kdStruct str70 ⟨fld70_0, fld70_1, trivial⟩ ⟨prt70_0, prt70_1, trivial⟩⟩
def ti71 : TI := ⟨2, true, some [.slice none 0 0, .int .i64 0], .struct [.slice none 0 0, .int .i64 0] [(0, 1), (1, 1)] [false, false]⟩
theorem tk71 : TIOk Tryz.prog 71 ti71 := ⟨ty71, fun zs h => by cases h; exact ze71, kdStruct str71 ⟨fld71_0, fld71_1, trivial⟩ ⟨prt71_0, prt71_1, trivial⟩⟩
def ti72 : TI := ⟨1, false, some [.nilFunc], .oth⟩
theorem tk72 : TIOk Tryz.prog 72 ti72 := ⟨ty72, fun zs h => by cases h; exact ze72, trivial⟩
def ti73 : TI := ⟨3, true, some [.int .i64 0, .int .i64 0, .int .i64 0], .struct [.int .i64 0, .int .i64 0, .int .i64 0] [(0, 1), (1, 1), (2, 1)] [false, false, false]⟩
theorem tk73 : TIOk Tryz.prog 73 ti73 := ⟨ty73, fun zs h => by cases h; exact ze73, kdStruct str73 ⟨fld73_0, fld73_1, fld73_2, trivial⟩ ⟨prt73_0, prt73_1, prt73_2, trivial⟩⟩
def ti74 : TI := ⟨3, true, some [.int .i64 0, .int .i64 0, .int .i64 0], .struct [.int .i64 0, .int .i64 0, .int .i64 0] [(0, 1), (1, 1), (2, 1)] [false, false, false]⟩
theorem tk74 : TIOk Tryz.prog 74 ti74 := ⟨ty74, fun zs h => by cases h; exact ze74, kdStruct str74 ⟨fld74_0, fld74_1, fld74_2, trivial⟩ ⟨prt74_0, prt74_1, prt74_2, trivial⟩⟩
def ti75 : TI := ⟨1, false, some [.nilFunc], .oth⟩
theorem tk75 : TIOk Tryz.prog 75 ti75 := ⟨ty75, fun zs h => by cases h; exact ze75, trivial⟩
def ti76 : TI := ⟨3, true, some [.int .i64 0, .int .i64 0, .int .i64 0], .struct [.int .i64 0, .int .i64 0, .int .i64 0] [(0, 1), (1, 1), (2, 1)] [false, false, false]⟩
theorem tk76 : TIOk Tryz.prog 76 ti76 := ⟨ty76, fun zs h => by cases h; exact ze76, kdStruct str76 ⟨fld76_0, fld76_1, fld76_2, trivial⟩ ⟨prt76_0, prt76_1, prt76_2, trivial⟩⟩
def ti77 : TI := ⟨3, true, some [.int .i64 0, .int .i64 0, .int .i64 0], .struct [.int .i64 0, .int .i64 0, .int .i64 0] [(0, 1), (1, 1), (2, 1)] [false, false, false]⟩
theorem tk77 : TIOk Tryz.prog 77 ti77 := ⟨ty77, fun zs h => by cases h; exact ze77, kdStruct str77 ⟨fld77_0, fld77_1, fld77_2, trivial⟩ ⟨prt77_0, prt77_1, prt77_2, trivial⟩⟩
def ti78 : TI := ⟨1, false, some [.nilFunc], .oth⟩
theorem tk78 : TIOk Tryz.prog 78 ti78 := ⟨ty78, fun zs h => by cases h; exact ze78, trivial⟩
def ti79 : TI := ⟨1, false, some [.nilFunc], .oth⟩
theorem tk79 : TIOk Tryz.prog 79 ti79 := ⟨ty79, fun zs h => by cases h; exact ze79, trivial⟩
def ti80 : TI := ⟨1, false, some [.nilFunc], .oth⟩
theorem tk80 : TIOk Tryz.prog 80 ti80 := ⟨ty80, fun zs h => by cases h; exact ze80, trivial⟩
def ti81 : TI := ⟨1, false, some [.pointer none], .oth⟩
theorem tk81 : TIOk Tryz.prog 81 ti81 := ⟨ty81, fun zs h => by cases h; exact ze81, trivial⟩
def ti82 : TI := ⟨1, false, some [.nilFunc], .oth⟩
theorem tk82 : TIOk Tryz.prog 82 ti82 := ⟨ty82, fun zs h => by cases h; exact ze82, trivial⟩
def ti83 : TI := ⟨5, true, some [.int .i64 0, .int .i64 0, .int .i64 0, .int .i64 0, .int .i64 0], .struct [.int .i64 0, .int .i64 0, .int .i64 0, .int .i64 0, .int .i64 0] [(0, 1), (1, 1), (2, 1), (3, 1), (4, 1)] [false, false, false, false, false]⟩
theorem tk83 : TIOk Tryz.prog 83 ti83 := ⟨ty83, fun zs h => by cases h; exact ze83, kdStruct str83 ⟨fld83_0, fld83_1, fld83_2, fld83_3, fld83_4, trivial⟩ ⟨prt83_0, prt83_1, prt83_2, prt83_3, prt83_4, trivial⟩⟩
def ti84 : TI := ⟨5, true, some [.int .i64 0, .int .i64 0, .int .i64 0, .int .i64 0, .int .i64 0], .struct [.int .i64 0, .int .i64 0, .int .i64 0, .int .i64 0, .int .i64 0] [(0, 1), (1, 1), (2, 1), (3, 1), (4, 1)] [false, false, false, false, false]⟩
theorem tk84 : TIOk Tryz.prog 84 ti84 := ⟨ty84, fun zs h => by cases h; exact ze84, kdStruct str84 ⟨fld84_0, fld84_1, fld84_2, fld84_3, fld84_4, trivial⟩ ⟨prt84_0, prt84_1, prt84_2, prt84_3, prt84_4, trivial⟩⟩
def ti85 : TI := ⟨1, false, some [.nilFunc], .oth⟩
theorem tk85 : TIOk Tryz.prog 85 ti85 := ⟨ty85, fun zs h => by cases h; exact ze85, trivial⟩
def ti86 : TI := ⟨1, false, some [.nilFunc], .oth⟩
theorem tk86 : TIOk Tryz.prog 86 ti86 := ⟨ty86, fun zs h => by cases h; exact ze86, trivial⟩
def ti87 : TI := ⟨1, false, some [.nilFunc], .oth⟩
theorem tk87 : TIOk Tryz.prog 87 ti87 := ⟨ty87, fun zs h => by cases h; exact ze87, trivial⟩
def ti89 : TI := ⟨1, false, some [.nilFunc], .oth⟩
theorem tk89 : TIOk Tryz.prog 89 ti89 := ⟨ty89, fun zs h => by cases h; exact ze89, trivial⟩
def ti90 : TI := ⟨1, false, some [.nilFunc], .oth⟩
theorem tk90 : TIOk Tryz.prog 90 ti90 := ⟨ty90, fun zs h => by cases h; exact ze90, trivial⟩
def ti91 : TI := ⟨1, false, some [.map none], .map 3 4 .i64⟩
theorem tk91 : TIOk Tryz.prog 91 ti91 := ⟨ty91, fun zs h => by cases h; exact ze91, map91⟩
def ti93 : TI := ⟨1, false, some [.nilFunc], .oth⟩
theorem tk93 : TIOk Tryz.prog 93 ti93 := ⟨ty93, fun zs h => by cases h; exact ze93, trivial⟩
def ti94 : TI := ⟨1, false, some [.nilFunc], .oth⟩
theorem tk94 : TIOk Tryz.prog 94 ti94 := ⟨ty94, fun zs h => by cases h; exact ze94, trivial⟩
def ti95 : TI := ⟨1, false, some [.nilFunc], .oth⟩
theorem tk95 : TIOk Tryz.prog 95 ti95 := ⟨ty95, fun zs h => by cases h; exact ze95, trivial⟩
def ti96 : TI := ⟨1, false, some [.nilFunc], .oth⟩
theorem tk96 : TIOk Tryz.prog 96 ti96 := ⟨ty96, fun zs h => by cases h; exact ze96, trivial⟩
def ti97 : TI := ⟨1, false, some [.nilFunc], .oth⟩
theorem tk97 : TIOk Tryz.prog 97 ti97 := ⟨ty97, fun zs h => by cases h; exact ze97, trivial⟩
def ti98 : TI := ⟨1, false, some [.nilFunc], .oth⟩
theorem tk98 : TIOk Tryz.prog 98 ti98 := ⟨ty98, fun zs h => by cases h; exact ze98, trivial⟩
def ti99 : TI := ⟨1, false, some [.nilFunc], .oth⟩
theorem tk99 : TIOk Tryz.prog 99 ti99 := ⟨ty99, fun zs h => by cases h; exact ze99, trivial⟩
def ti100 : TI := ⟨1, false, some [.nilFunc], .oth⟩
theorem tk100 : TIOk Tryz.prog 100 ti100 := ⟨ty100, fun zs h => by cases h; exact ze100, trivial⟩
def ti101 : TI := ⟨1, false, some [.slice none 0 0], .slice 5 1 1 [.int .u8 0]⟩
theorem tk101 : TIOk Tryz.prog 101 ti101 := ⟨ty101, fun zs h => by cases h; exact ze101, ⟨sl101, app101, sli101⟩⟩
def ti103 : TI := ⟨1, false, some [.nilFunc], .oth⟩
theorem tk103 : TIOk Tryz.prog 103 ti103 := ⟨ty103, fun zs h => by cases h; exact ze103, trivial⟩
def ti104 : TI := ⟨1, false, some [.nilFunc], .oth⟩
theorem tk104 : TIOk Tryz.prog 104 ti104 := ⟨ty104, fun zs h => by cases h; exact ze104, trivial⟩
def ti105 : TI := ⟨1, false, some [.nilFunc], .oth⟩
theorem tk105 : TIOk Tryz.prog 105 ti105 := ⟨ty105, fun zs h => by cases h; exact ze105, trivial⟩
def ti106 : TI := ⟨1, false, some [.nilFunc], .oth⟩
theorem tk106 : TIOk Tryz.prog 106 ti106 := ⟨ty106, fun zs h => by cases h; exact ze106, trivial⟩
def ti107 : TI := ⟨1, false, some [.nilFunc], .oth⟩
theorem tk107 : TIOk Tryz.prog 107 ti107 := ⟨ty107, fun zs h => by cases h; exact ze107, trivial⟩
def ti108 : TI := ⟨1, false, some [.nilFunc], .oth⟩
theorem tk108 : TIOk Tryz.prog 108 ti108 := ⟨ty108, fun zs h => by cases h; exact ze108, trivial⟩
def ti109 : TI := ⟨1, false, some [.nilFunc], .oth⟩
theorem tk109 : TIOk Tryz.prog 109 ti109 := ⟨ty109, fun zs h => by cases h; exact ze109, trivial⟩
def ti110 : TI := ⟨1, false, some [.nilFunc], .oth⟩
theorem tk110 : TIOk Tryz.prog 110 ti110 := ⟨ty110, fun zs h => by cases h; exact ze110, trivial⟩
def ti111 : TI := ⟨1, false, some [.nilFunc], .oth⟩
theorem tk111 : TIOk Tryz.prog 111 ti111 := ⟨ty111, fun zs h => by cases h; exact ze111, trivial⟩
def ti112 : TI := ⟨1, false, some [.nilFunc], .oth⟩
theorem tk112 : TIOk Tryz.prog 112 ti112 := ⟨ty112, fun zs h => by cases h; exact ze112, trivial⟩
def ti113 : TI := ⟨1, false, some [.int .u64 0], .int .u64⟩
theorem tk113 : TIOk Tryz.prog 113 ti113 := ⟨ty113, fun zs h => by cases h; exact ze113, Tryz.underlying113⟩
def ti114 : TI := ⟨1, false, some [.nilFunc], .oth⟩
theorem tk114 : TIOk Tryz.prog 114 ti114 := ⟨ty114, fun zs h => by cases h; exact ze114, trivial⟩
def ti115 : TI := ⟨1, false, some [.nilFunc], .oth⟩
theorem tk115 : TIOk Tryz.prog 115 ti115 := ⟨ty115, fun zs h => by cases h; exact ze115, trivial⟩
def ti116 : TI := ⟨1, false, some [.nilFunc], .oth⟩
theorem tk116 : TIOk Tryz.prog 116 ti116 := ⟨ty116, fun zs h => by cases h; exact ze116, trivial⟩
def ti117 : TI := ⟨1, false, some [.nilFunc], .oth⟩
theorem tk117 : TIOk Tryz.prog 117 ti117 := ⟨ty117, fun zs h => by cases h; exact ze117, trivial⟩
def ti118 : TI := ⟨1, false, some [.nilFunc], .oth⟩
theorem tk118 : TIOk Tryz.prog 118 ti118 := ⟨ty118, fun zs h => by cases h; exact ze118, trivial⟩
def ti119 : TI := ⟨1, false, some [.nilFunc], .oth⟩
theorem tk119 : TIOk Tryz.prog 119 ti119 := ⟨ty119, fun zs h => by cases h; exact ze119, trivial⟩
def ti120 : TI := ⟨1, false, some [.nilFunc], .oth⟩
theorem tk120 : TIOk Tryz.prog 120 ti120 := ⟨ty120, fun zs h => by cases h; exact ze120, trivial⟩
def ti121 : TI := ⟨2, true, some [.int .i64 0, .int .i64 0], .struct [.int .i64 0, .int .i64 0] [(0, 1), (1, 1)] [false, false]⟩
theorem tk121 : TIOk Tryz.prog 121 ti121 := ⟨ty121, fun zs h => by cases h; exact ze121, kdStruct str121 ⟨fld121_0, fld121_1, trivial⟩ ⟨prt121_0, prt121_1, trivial⟩⟩
def ti122 : TI := ⟨2, true, some [.int .i64 0, .int .i64 0], .struct [.int .i64 0, .int .i64 0] [(0, 1), (1, 1)] [false, false]⟩
theorem tk122 : TIOk Tryz.prog 122 ti122 := ⟨ty122, fun zs h => by cases h; exact ze122, kdStruct str122 ⟨fld122_0, fld122_1, trivial⟩ ⟨prt122_0, prt122_1, trivial⟩⟩
def ti123 : TI := ⟨1, false, some [.nilFunc], .oth⟩
theorem tk123 : TIOk Tryz.prog 123 ti123 := ⟨ty123, fun zs h => by cases h; exact ze123, trivial⟩
def ti124 : TI := ⟨1, false, some [.nilFunc], .oth⟩
theorem tk124 : TIOk Tryz.prog 124 ti124 := ⟨ty124, fun zs h => by cases h; exact ze124, trivial⟩
def ti125 : TI := ⟨2, true, some [.slice none 0 0, .int .i64 0], .struct [.slice none 0 0, .int .i64 0] [(0, 1), (1, 1)] [false, false]⟩
theorem tk125 : TIOk Tryz.prog 125 ti125 := ⟨ty125, fun zs h => by cases h; exact ze125, kdStruct str125 ⟨fld125_0, fld125_1, trivial⟩ ⟨prt125_0, prt125_1, trivial⟩⟩
def ti126 : TI := ⟨2, true, some [.slice none 0 0, .int .i64 0], .struct [.slice none 0 0, .int .i64 0] [(0, 1), (1, 1)] [false, false]⟩
theorem tk126 : TIOk Tryz.prog 126 ti126 := ⟨ty126, fun zs h => by cases h; exact ze126, kdStruct str126 ⟨fld126_0, fld126_1, trivial⟩ ⟨prt126_0, prt126_1, trivial⟩⟩
def ti127 : TI := ⟨1, false, some [.nilFunc], .oth⟩
theorem tk127 : TIOk Tryz.prog 127 ti127 := ⟨ty127, fun zs h => by cases h; exact ze127, trivial⟩
def ti128 : TI := ⟨1, false, some [.int .u64 0], .int .u64⟩
theorem tk128 : TIOk Tryz.prog 128 ti128 := ⟨ty128, fun zs h => by cases h; exact ze128, Tryz.underlying128⟩
def ti130 : TI := ⟨1, false, some [.nilFunc], .oth⟩
theorem tk130 : TIOk Tryz.prog 130 ti130 := ⟨ty130, fun zs h => by cases h; exact ze130, trivial⟩
def ti132 : TI := ⟨1, false, some [.nilFunc], .oth⟩
theorem tk132 : TIOk Tryz.prog 132 ti132 := ⟨ty132, fun zs h => by cases h; exact ze132, trivial⟩
def ti133 : TI := ⟨1, false, some [.nilFunc], .oth⟩
theorem tk133 : TIOk Tryz.prog 133 ti133 := ⟨ty133, fun zs h => by cases h; exact ze133, trivial⟩
def ti134 : TI := ⟨1, false, some [.nilFunc], .oth⟩
theorem tk134 : TIOk Tryz.prog 134 ti134 := ⟨ty134, fun zs h => by cases h; exact ze134, trivial⟩
def ti135 : TI := ⟨1, false, some [.nilFunc], .oth⟩
theorem tk135 : TIOk Tryz.prog 135 ti135 := ⟨ty135, fun zs h => by cases h; exact ze135, trivial⟩
def ti136 : TI := ⟨1, false, some [.nilFunc], .oth⟩
theorem tk136 : TIOk Tryz.prog 136 ti136 := ⟨ty136, fun zs h => by cases h; exact ze136, trivial⟩
def ti137 : TI := ⟨1, false, some [.nilFunc], .oth⟩
theorem tk137 : TIOk Tryz.prog 137 ti137 := ⟨ty137, fun zs h => by cases h; exact ze137, trivial⟩
def ti138 : TI := ⟨1, false, some [.int .i64 0], .int .i64⟩
theorem tk138 : TIOk Tryz.prog 138 ti138 := ⟨ty138, fun zs h => by cases h; exact ze138, Tryz.underlying138⟩
def ti140 : TI := ⟨1, false, some [.nilFunc], .oth⟩
theorem tk140 : TIOk Tryz.prog 140 ti140 := ⟨ty140, fun zs h => by cases h; exact ze140, trivial⟩
def ti141 : TI := ⟨1, false, some [.nilFunc], .oth⟩
theorem tk141 : TIOk Tryz.prog 141 ti141 := ⟨ty141, fun zs h => by cases h; exact ze141, trivial⟩
def ti142 : TI := ⟨1, false, some [.nilFunc], .oth⟩
theorem tk142 : TIOk Tryz.prog 142 ti142 := ⟨ty142, fun zs h => by cases h; exact ze142, trivial⟩
def ti143 : TI := ⟨1, false, some [.nilFunc], .oth⟩
theorem tk143 : TIOk Tryz.prog 143 ti143 := ⟨ty143, fun zs h => by cases h; exact ze143, trivial⟩
def ti144 : TI := ⟨1, false, some [.nilFunc], .oth⟩
theorem tk144 : TIOk Tryz.prog 144 ti144 := ⟨ty144, fun zs h => by cases h; exact ze144, trivial⟩
def ti145 : TI := ⟨1, false, some [.int .u32 0], .int .u32⟩
theorem tk145 : TIOk Tryz.prog 145 ti145 := ⟨ty145, fun zs h => by cases h; exact ze145, Tryz.underlying145⟩
def ti146 : TI := ⟨1, false, some [.nilFunc], .oth⟩
theorem tk146 : TIOk Tryz.prog 146 ti146 := ⟨ty146, fun zs h => by cases h; exact ze146, trivial⟩
def ti147 : TI := ⟨1, false, some [.nilFunc], .oth⟩
theorem tk147 : TIOk Tryz.prog 147 ti147 := ⟨ty147, fun zs h => by cases h; exact ze147, trivial⟩
def ti148 : TI := ⟨1, false, some [.nilFunc], .oth⟩
theorem tk148 : TIOk Tryz.prog 148 ti148 := ⟨ty148, fun zs h => by cases h; exact ze148, trivial⟩
def ti149 : TI := ⟨1, false, some [.nilFunc], .oth⟩
theorem tk149 : TIOk Tryz.prog 149 ti149 := ⟨ty149, fun zs h => by cases h; exact ze149, trivial⟩
def ti150 : TI := ⟨1, false, some [.nilFunc], .oth⟩
theorem tk150 : TIOk Tryz.prog 150 ti150 := ⟨ty150, fun zs h => by cases h; exact ze150, trivial⟩
def ti151 : TI := ⟨1, false, some [.nilFunc], .oth⟩
theorem tk151 : TIOk Tryz.prog 151 ti151 := ⟨ty151, fun zs h => by cases h; exact ze151, trivial⟩
def ti152 : TI := ⟨1, false, some [.nilFunc], .oth⟩
theorem tk152 : TIOk Tryz.prog 152 ti152 := ⟨ty152, fun zs h => by cases h; exact ze152, trivial⟩
def ti153 : TI := ⟨1, false, some [.nilFunc], .oth⟩
theorem tk153 : TIOk Tryz.prog 153 ti153 := ⟨ty153, fun zs h => by cases h; exact ze153, trivial⟩
def ti154 : TI := ⟨1, false, some [.nilFunc], .oth⟩
theorem tk154 : TIOk Tryz.prog 154 ti154 := ⟨ty154, fun zs h => by cases h; exact ze154, trivial⟩
def ti155 : TI := ⟨1, false, some [.nilFunc], .oth⟩
theorem tk155 : TIOk Tryz.prog 155 ti155 := ⟨ty155, fun zs h => by cases h; exact ze155, trivial⟩
def ti156 : TI := ⟨1, false, some [.nilFunc], .oth⟩
theorem tk156 : TIOk Tryz.prog 156 ti156 := ⟨ty156, fun zs h => by cases h; exact ze156, trivial⟩
def ti157 : TI := ⟨1, false, some [.nilFunc], .oth⟩
theorem tk157 : TIOk Tryz.prog 157 ti157 := ⟨ty157, fun zs h => by cases h; exact ze157, trivial⟩
def ti158 : TI := ⟨2, true, some [.slice none 0 0, .int .i64 0], .struct [.slice none 0 0, .int .i64 0] [(0, 2)] [true]⟩
theorem tk158 : TIOk Tryz.prog 158 ti158 := ⟨ty158, fun zs h => by cases h; exact ze158, kdStruct str158 ⟨fld158_0, trivial⟩ ⟨prt158_0, trivial⟩⟩
def ti159 : TI := ⟨2, true, some [.slice none 0 0, .int .i64 0], .struct [.slice none 0 0, .int .i64 0] [(0, 2)] [true]⟩
theorem tk159 : TIOk Tryz.prog 159 ti159 := ⟨ty159, fun zs h => by cases h; exact ze159, kdStruct str159 ⟨fld159_0, trivial⟩ ⟨prt159_0, trivial⟩⟩
def ti160 : TI := ⟨1, false, some [.nilFunc], .oth⟩
theorem tk160 : TIOk Tryz.prog 160 ti160 := ⟨ty160, fun zs h => by cases h; exact ze160, trivial⟩
def ti161 : TI := ⟨1, false, some [.int .u64 0], .int .u64⟩
theorem tk161 : TIOk Tryz.prog 161 ti161 := ⟨ty161, fun zs h => by cases h; exact ze161, Tryz.underlying161⟩
def ti162 : TI := ⟨1, false, some [.nilFunc], .oth⟩
theorem tk162 : TIOk Tryz.prog 162 ti162 := ⟨ty162, fun zs h => by cases h; exact ze162, trivial⟩
def ti163 : TI := ⟨1, false, some [.nilFunc], .oth⟩
theorem tk163 : TIOk Tryz.prog 163 ti163 := ⟨ty163, fun zs h => by cases h; exact ze163, trivial⟩
def ti164 : TI := ⟨1, false, some [.nilFunc], .oth⟩
theorem tk164 : TIOk Tryz.prog 164 ti164 := ⟨ty164, fun zs h => by cases h; exact ze164, trivial⟩
def ti165 : TI := ⟨1, false, some [.pointer none], .oth⟩
theorem tk165 : TIOk Tryz.prog 165 ti165 := ⟨ty165, fun zs h => by cases h; exact ze165, trivial⟩
def ti166 : TI := ⟨1, false, some [.nilFunc], .oth⟩
theorem tk166 : TIOk Tryz.prog 166 ti166 := ⟨ty166, fun zs h => by cases h; exact ze166, trivial⟩
def ti167 : TI := ⟨1, false, some [.nilFunc], .oth⟩
theorem tk167 : TIOk Tryz.prog 167 ti167 := ⟨ty167, fun zs h => by cases h; exact ze167, trivial⟩
def ti168 : TI := ⟨1, false, some [.nilFunc], .oth⟩
theorem tk168 : TIOk Tryz.prog 168 ti168 := ⟨ty168, fun zs h => by cases h; exact ze168, trivial⟩
def ti169 : TI := ⟨1, false, some [.nilFunc], .oth⟩
theorem tk169 : TIOk Tryz.prog 169 ti169 := ⟨ty169, fun zs h => by cases h; exact ze169, trivial⟩
def ti170 : TI := ⟨1, false, some [.pointer none], .oth⟩
theorem tk170 : TIOk Tryz.prog 170 ti170 := ⟨ty170, fun zs h => by cases h; exact ze170, trivial⟩
def ti171 : TI := ⟨1, false, some [.nilFunc], .oth⟩
theorem tk171 : TIOk Tryz.prog 171 ti171 := ⟨ty171, fun zs h => by cases h; exact ze171, trivial⟩
def ti172 : TI := ⟨1, false, some [.pointer none], .oth⟩
theorem tk172 : TIOk Tryz.prog 172 ti172 := ⟨ty172, fun zs h => by cases h; exact ze172, trivial⟩
def ti174 : TI := ⟨1, false, some [.nilFunc], .oth⟩
theorem tk174 : TIOk Tryz.prog 174 ti174 := ⟨ty174, fun zs h => by cases h; exact ze174, trivial⟩
def ti175 : TI := ⟨1, false, some [.nilFunc], .oth⟩
theorem tk175 : TIOk Tryz.prog 175 ti175 := ⟨ty175, fun zs h => by cases h; exact ze175, trivial⟩
def ti176 : TI := ⟨1, false, some [.nilFunc], .oth⟩
theorem tk176 : TIOk Tryz.prog 176 ti176 := ⟨ty176, fun zs h => by cases h; exact ze176, trivial⟩
def ti177 : TI := ⟨1, false, some [.nilFunc], .oth⟩
theorem tk177 : TIOk Tryz.prog 177 ti177 := ⟨ty177, fun zs h => by cases h; exact ze177, trivial⟩
def ti178 : TI := ⟨1, false, some [.pointer none], .oth⟩
theorem tk178 : TIOk Tryz.prog 178 ti178 := ⟨ty178, fun zs h => by cases h; exact ze178, trivial⟩
def ti179 : TI := ⟨1, false, some [.nilFunc], .oth⟩
theorem tk179 : TIOk Tryz.prog 179 ti179 := ⟨ty179, fun zs h => by cases h; exact ze179, trivial⟩
def ti180 : TI := ⟨4, true, some [.pointer none, .pointer none, .pointer none, .string ⟨#[]⟩], .struct [.pointer none, .pointer none, .pointer none, .string ⟨#[]⟩] [(0, 1), (1, 1), (2, 1), (3, 1)] [false, false, false, false]⟩
theorem tk180 : TIOk Tryz.prog 180 ti180 := ⟨ty180, fun zs h => by cases h; exact ze180, kdStruct str180 ⟨fld180_0, fld180_1, fld180_2, fld180_3, trivial⟩ ⟨prt180_0, prt180_1, prt180_2, prt180_3, trivial⟩⟩
def ti181 : TI := ⟨4, true, some [.pointer none, .pointer none, .pointer none, .string ⟨#[]⟩], .struct [.pointer none, .pointer none, .pointer none, .string ⟨#[]⟩] [(0, 1), (1, 1), (2, 1), (3, 1)] [false, false, false, false]⟩
theorem tk181 : TIOk Tryz.prog 181 ti181 := ⟨ty181, fun zs h => by cases h; exact ze181, kdStruct str181 ⟨fld181_0, fld181_1, fld181_2, fld181_3, trivial⟩ ⟨prt181_0, prt181_1, prt181_2, prt181_3, trivial⟩⟩
def ti182 : TI := ⟨0, true, some [], .oth⟩
theorem tk182 : TIOk Tryz.prog 182 ti182 := ⟨ty182, fun zs h => by cases h; exact ze182, trivial⟩
def ti185 : TI := ⟨1, false, some [.int .u8 0], .int .u8⟩
theorem tk185 : TIOk Tryz.prog 185 ti185 := ⟨ty185, fun zs h => by cases h; exact ze185, Tryz.underlying185⟩
def ti186 : TI := ⟨1, false, some [.int .u8 0], .int .u8⟩
theorem tk186 : TIOk Tryz.prog 186 ti186 := ⟨ty186, fun zs h => by cases h; exact ze186, Tryz.underlying186⟩
def ti187 : TI := ⟨1, false, some [.nilFunc], .oth⟩
theorem tk187 : TIOk Tryz.prog 187 ti187 := ⟨ty187, fun zs h => by cases h; exact ze187, trivial⟩
def ti188 : TI := ⟨1, false, some [.pointer none], .oth⟩
theorem tk188 : TIOk Tryz.prog 188 ti188 := ⟨ty188, fun zs h => by cases h; exact ze188, trivial⟩
def ti189 : TI := ⟨1, false, some [.int .i32 0], .int .i32⟩
theorem tk189 : TIOk Tryz.prog 189 ti189 := ⟨ty189, fun zs h => by cases h; exact ze189, Tryz.underlying189⟩
def ti190 : TI := ⟨1, false, some [.int .i32 0], .int .i32⟩
theorem tk190 : TIOk Tryz.prog 190 ti190 := ⟨ty190, fun zs h => by cases h; exact ze190, Tryz.underlying190⟩
def ti191 : TI := ⟨11, true, some [.int .u64 0, .int .u64 0, .int .u32 0, .int .u8 0, .int .u8 0, .int .u8 0, .int .u8 0, .nilFunc, .pointer none, .int .i32 0, .int .i32 0], .struct [.int .u64 0, .int .u64 0, .int .u32 0, .int .u8 0, .int .u8 0, .int .u8 0, .int .u8 0, .nilFunc, .pointer none, .int .i32 0, .int .i32 0] [(0, 1), (1, 1), (2, 1), (3, 1), (4, 1), (5, 1), (6, 1), (7, 1), (8, 1), (9, 1), (10, 1)] [false, false, false, false, false, false, false, false, false, false, false]⟩
theorem tk191 : TIOk Tryz.prog 191 ti191 := ⟨ty191, fun zs h => by cases h; exact ze191, kdStruct str191 ⟨fld191_0, fld191_1, fld191_2, fld191_3, fld191_4, fld191_5, fld191_6, fld191_7, fld191_8, fld191_9, fld191_10, trivial⟩ ⟨prt191_0, prt191_1, prt191_2, prt191_3, prt191_4, prt191_5, prt191_6, prt191_7, prt191_8, prt191_9, prt191_10, trivial⟩⟩
def ti192 : TI := ⟨11, true, some [.int .u64 0, .int .u64 0, .int .u32 0, .int .u8 0, .int .u8 0, .int .u8 0, .int .u8 0, .nilFunc, .pointer none, .int .i32 0, .int .i32 0], .struct [.int .u64 0, .int .u64 0, .int .u32 0, .int .u8 0, .int .u8 0, .int .u8 0, .int .u8 0, .nilFunc, .pointer none, .int .i32 0, .int .i32 0] [(0, 1), (1, 1), (2, 1), (3, 1), (4, 1), (5, 1), (6, 1), (7, 1), (8, 1), (9, 1), (10, 1)] [false, false, false, false, false, false, false, false, false, false, false]⟩
theorem tk192 : TIOk Tryz.prog 192 ti192 := ⟨ty192, fun zs h => by cases h; exact ze192, kdStruct str192 ⟨fld192_0, fld192_1, fld192_2, fld192_3, fld192_4, fld192_5, fld192_6, fld192_7, fld192_8, fld192_9, fld192_10, trivial⟩ ⟨prt192_0, prt192_1, prt192_2, prt192_3, prt192_4, prt192_5, prt192_6, prt192_7, prt192_8, prt192_9, prt192_10, trivial⟩⟩
def tb : Tb := [(1, ti1), (2, ti2), (3, ti3), (4, ti4), (5, ti5), (6, ti6), (7, ti7), (8, ti8), (9, ti9), (10, ti10), (11, ti11), (12, ti12), (13, ti13), (14, ti14), (15, ti15), (16, ti16), (17, ti17), (18, ti18), (19, ti19), (21, ti21), (22, ti22), (23, ti23), (24, ti24), (25, ti25), (26, ti26), (27, ti27), (28, ti28), (29, ti29), (30, ti30), (31, ti31), (32, ti32), (33, ti33), (34, ti34), (35, ti35), (36, ti36), (38, ti38), (39, ti39), (40, ti40), (41, ti41), (42, ti42), (43, ti43), (44, ti44), (45, ti45), (46, ti46), (47, ti47), (48, ti48), (50, ti50), (51, ti51), (52, ti52), (53, ti53), (54, ti54), (55, ti55), (56, ti56), (57, ti57), (58, ti58), (59, ti59), (60, ti60), (61, ti61), (62, ti62), (64, ti64), (65, ti65), (67, ti67), (68, ti68), (69, ti69), (70, ti70), (71, ti71), (72, ti72), (73, ti73), (74, ti74), (75, ti75), (76, ti76), (77, ti77), (78, ti78), (79, ti79), (80, ti80), (81, ti81), (82, ti82), (83, ti83), (84, ti84), (85, ti85), (86, ti86), (87, ti87), (89, ti89), (90, ti90), (91, ti91), (93, ti93), (94, ti94), (95, ti95), (96, ti96), (97, ti97), (98, ti98), (99, ti99), (100, ti100), (101, ti101), (103, ti103), (104, ti104), (105, ti105), (106, ti106), (107, ti107), (108, ti108), (109, ti109), (110, ti110), (111, ti111), (112, ti112), (113, ti113), (114, ti114), (115, ti115), (116, ti116), (117, ti117), (118, ti118), (119, ti119), (120, ti120), (121, ti121), (122, ti122), (123, ti123), (124, ti124), (125, ti125), (126, ti126), (127, ti127), (128, ti128), (130, ti130), (132, ti132), (133, ti133), (134, ti134), (135, ti135), (136, ti136), (137, ti137), (138, ti138), (140, ti140), (141, ti141), (142, ti142), (143, ti143), (144, ti144), (145, ti145), (146, ti146), (147, ti147), (148, ti148), (149, ti149), (150, ti150), (151, ti151), (152, ti152), (153, ti153), (154, ti154), (155, ti155), (156, ti156), (157, ti157), (158, ti158), (159, ti159), (160, ti160), (161, ti161), (162, ti162), (163, ti163), (164, ti164), (165, ti165), (166, ti166), (167, ti167), (168, ti168), (169, ti169), (170, ti170), (171, ti171), (172, ti172), (174, ti174), (175, ti175), (176, ti176), (177, ti177), (178, ti178), (179, ti179), (180, ti180), (181, ti181), (182, ti182), (185, ti185), (186, ti186), (187, ti187), (188, ti188), (189, ti189), (190, ti190), (191, ti191), (192, ti192)]
theorem W0 : Wld Tryz.prog tb := ⟨hmix, ⟨tk1, tk2, tk3, tk4, tk5, tk6, tk7, tk8, tk9, tk10, tk11, tk12, tk13, tk14, tk15, tk16, tk17, tk18, tk19, tk21, tk22, tk23, tk24, tk25, tk26, tk27, tk28, tk29, tk30, tk31, tk32, tk33, tk34, tk35, tk36, tk38, tk39, tk40, tk41, tk42, tk43, tk44, tk45, tk46, tk47, tk48, tk50, tk51, tk52, tk53, tk54, tk55, tk56, tk57, tk58, tk59, tk60, tk61, tk62, tk64, tk65, tk67, tk68, tk69, tk70, tk71, tk72, tk73, tk74, tk75, tk76, tk77, tk78, tk79, tk80, tk81, tk82, tk83, tk84, tk85, tk86, tk87, tk89, tk90, tk91, tk93, tk94, tk95, tk96, tk97, tk98, tk99, tk100, tk101, tk103, tk104, tk105, tk106, tk107, tk108, tk109, tk110, tk111, tk112, tk113, tk114, tk115, tk116, tk117, tk118, tk119, tk120, tk121, tk122, tk123, tk124, tk125, tk126, tk127, tk128, tk130, tk132, tk133, tk134, tk135, tk136, tk137, tk138, tk140, tk141, tk142, tk143, tk144, tk145, tk146, tk147, tk148, tk149, tk150, tk151, tk152, tk153, tk154, tk155, tk156, tk157, tk158, tk159, tk160, tk161, tk162, tk163, tk164, tk165, tk166, tk167, tk168, tk169, tk170, tk171, tk172, tk174, tk175, tk176, tk177, tk178, tk179, tk180, tk181, tk182, tk185, tk186, tk187, tk188, tk189, tk190, tk191, tk192, trivial⟩⟩
theorem ck7 : CallOk Tryz.prog 7 := ⟨Tryz.call7⟩
theorem ck8 : CallOk Tryz.prog 8 := ⟨Tryz.call8⟩
theorem ck9 : CallOk Tryz.prog 9 := ⟨Tryz.call9⟩
theorem ck10 : CallOk Tryz.prog 10 := ⟨Tryz.call10⟩
theorem ck11 : CallOk Tryz.prog 11 := ⟨Tryz.call11⟩
theorem ck12 : CallOk Tryz.prog 12 := ⟨Tryz.call12⟩
theorem ck14 : CallOk Tryz.prog 14 := ⟨Tryz.call14⟩
theorem ck15 : CallOk Tryz.prog 15 := ⟨Tryz.call15⟩
theorem ck17 : CallOk Tryz.prog 17 := ⟨Tryz.call17⟩
theorem ck24 : CallOk Tryz.prog 24 := ⟨Tryz.call24⟩
theorem ck26 : CallOk Tryz.prog 26 := ⟨Tryz.call26⟩
theorem ck27 : CallOk Tryz.prog 27 := ⟨Tryz.call27⟩
theorem ck28 : CallOk Tryz.prog 28 := ⟨Tryz.call28⟩
theorem ck29 : CallOk Tryz.prog 29 := ⟨Tryz.call29⟩
theorem ck30 : CallOk Tryz.prog 30 := ⟨Tryz.call30⟩
theorem ck31 : CallOk Tryz.prog 31 := ⟨Tryz.call31⟩
theorem ck32 : CallOk Tryz.prog 32 := ⟨Tryz.call32⟩
theorem ck33 : CallOk Tryz.prog 33 := ⟨Tryz.call33⟩
theorem ck34 : CallOk Tryz.prog 34 := ⟨Tryz.call34⟩
theorem ck35 : CallOk Tryz.prog 35 := ⟨Tryz.call35⟩
theorem ck36 : CallOk Tryz.prog 36 := ⟨Tryz.call36⟩
theorem ck37 : CallOk Tryz.prog 37 := ⟨Tryz.call37⟩
theorem ck38 : CallOk Tryz.prog 38 := ⟨Tryz.call38⟩
theorem ck39 : CallOk Tryz.prog 39 := ⟨Tryz.call39⟩
theorem ck40 : CallOk Tryz.prog 40 := ⟨Tryz.call40⟩
theorem ck41 : CallOk Tryz.prog 41 := ⟨Tryz.call41⟩
theorem ck42 : CallOk Tryz.prog 42 := ⟨Tryz.call42⟩
theorem ck43 : CallOk Tryz.prog 43 := ⟨Tryz.call43⟩
theorem ck51 : CallOk Tryz.prog 51 := ⟨Tryz.call51⟩
theorem ck52 : CallOk Tryz.prog 52 := ⟨Tryz.call52⟩
theorem ck54 : CallOk Tryz.prog 54 := ⟨Tryz.call54⟩
theorem ck55 : CallOk Tryz.prog 55 := ⟨Tryz.call55⟩
theorem ck57 : CallOk Tryz.prog 57 := ⟨Tryz.call57⟩
theorem ck58 : CallOk Tryz.prog 58 := ⟨Tryz.call58⟩
theorem ck60 : CallOk Tryz.prog 60 := ⟨Tryz.call60⟩
theorem ck61 : CallOk Tryz.prog 61 := ⟨Tryz.call61⟩
theorem ck62 : CallOk Tryz.prog 62 := ⟨Tryz.call62⟩
theorem ck63 : CallOk Tryz.prog 63 := ⟨Tryz.call63⟩
theorem ck64 : CallOk Tryz.prog 64 := ⟨Tryz.call64⟩
theorem ck65 : CallOk Tryz.prog 65 := ⟨Tryz.call65⟩
theorem ck66 : CallOk Tryz.prog 66 := ⟨Tryz.call66⟩
theorem ck67 : CallOk Tryz.prog 67 := ⟨Tryz.call67⟩
theorem ck68 : CallOk Tryz.prog 68 := ⟨Tryz.call68⟩
theorem ck69 : CallOk Tryz.prog 69 := ⟨Tryz.call69⟩
theorem ck70 : CallOk Tryz.prog 70 := ⟨Tryz.call70⟩
theorem ck71 : CallOk Tryz.prog 71 := ⟨Tryz.call71⟩
theorem ck77 : CallOk Tryz.prog 77 := ⟨Tryz.call77⟩
theorem ck79 : CallOk Tryz.prog 79 := ⟨Tryz.call79⟩
theorem ck80 : CallOk Tryz.prog 80 := ⟨Tryz.call80⟩
theorem ck81 : CallOk Tryz.prog 81 := ⟨Tryz.call81⟩
theorem ck82 : CallOk Tryz.prog 82 := ⟨Tryz.call82⟩
theorem ck83 : CallOk Tryz.prog 83 := ⟨Tryz.call83⟩
theorem ck84 : CallOk Tryz.prog 84 := ⟨Tryz.call84⟩
theorem ck85 : CallOk Tryz.prog 85 := ⟨Tryz.call85⟩
theorem ck86 : CallOk Tryz.prog 86 := ⟨Tryz.call86⟩
theorem ck87 : CallOk Tryz.prog 87 := ⟨Tryz.call87⟩
theorem ck88 : CallOk Tryz.prog 88 := ⟨Tryz.call88⟩
theorem ck89 : CallOk Tryz.prog 89 := ⟨Tryz.call89⟩
theorem ck90 : CallOk Tryz.prog 90 := ⟨Tryz.call90⟩
theorem ck91 : CallOk Tryz.prog 91 := ⟨Tryz.call91⟩
theorem ck92 : CallOk Tryz.prog 92 := ⟨Tryz.call92⟩
theorem ck93 : CallOk Tryz.prog 93 := ⟨Tryz.call93⟩
theorem ck94 : CallOk Tryz.prog 94 := ⟨Tryz.call94⟩
theorem ck95 : CallOk Tryz.prog 95 := ⟨Tryz.call95⟩
theorem ck96 : CallOk Tryz.prog 96 := ⟨Tryz.call96⟩
theorem ck99 : CallOk Tryz.prog 99 := ⟨Tryz.call99⟩
theorem ck100 : CallOk Tryz.prog 100 := ⟨Tryz.call100⟩
theorem ck101 : CallOk Tryz.prog 101 := ⟨Tryz.call101⟩
theorem ck120 : CallOk Tryz.prog 120 := ⟨Tryz.call120⟩
theorem ck121 : CallOk Tryz.prog 121 := ⟨Tryz.call121⟩
theorem ck122 : CallOk Tryz.prog 122 := ⟨Tryz.call122⟩
theorem ck123 : CallOk Tryz.prog 123 := ⟨Tryz.call123⟩
theorem ck124 : CallOk Tryz.prog 124 := ⟨Tryz.call124⟩
theorem ck125 : CallOk Tryz.prog 125 := ⟨Tryz.call125⟩
theorem ck127 : CallOk Tryz.prog 127 := ⟨Tryz.call127⟩
theorem ck128 : CallOk Tryz.prog 128 := ⟨Tryz.call128⟩
theorem ck139 : CallOk Tryz.prog 139 := ⟨Tryz.call139⟩
theorem ck140 : CallOk Tryz.prog 140 := ⟨Tryz.call140⟩
theorem ck141 : CallOk Tryz.prog 141 := ⟨Tryz.call141⟩
theorem ck144 : CallOk Tryz.prog 144 := ⟨Tryz.call144⟩
theorem ck145 : CallOk Tryz.prog 145 := ⟨Tryz.call145⟩
theorem ck146 : CallOk Tryz.prog 146 := ⟨Tryz.call146⟩
end Go.Proofs.YtmcjffllahcclaaGreat
