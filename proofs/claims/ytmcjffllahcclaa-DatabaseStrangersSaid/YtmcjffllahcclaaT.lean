/- The data of the program, as Lean data, and what is known of its types. No condition but those that stand in each. -/
import Derived.Test.YtmcjffllahcclaaF
import Derived.Test.YtmcjffllahcclaaBA
namespace Go.Proofs.Ytmcjffllahcclaa
open Go
set_option maxRecDepth 100000
set_option linter.all false
structure GTape where
  L : List Int
  At : Int
instance : Inhabited GTape := ⟨GTape.mk [] (0:Int)⟩
structure GRouter where
  ID : Int
  Capable : Bool
instance : Inhabited GRouter := ⟨GRouter.mk (0:Int) false⟩
def eGRouter : En GRouter := ⟨fun x => [.int .i64 x.ID, .bool x.Capable], 2, fun _ => rfl, fun _ => rfl, fun _ => rfl⟩
def eqGRouter (a b : GRouter) : Bool := decide (a.ID = b.ID) && ((a.Capable == b.Capable) && true)
structure GLink where
  A : Int
  B : Int
  CostA : Int
  CostB : Int
  Capacity : Int
instance : Inhabited GLink := ⟨GLink.mk (0:Int) (0:Int) (0:Int) (0:Int) (0:Int)⟩
def eGLink : En GLink := ⟨fun x => [.int .i64 x.A, .int .i64 x.B, .int .i64 x.CostA, .int .i64 x.CostB, .int .i64 x.Capacity], 5, fun _ => rfl, fun _ => rfl, fun _ => rfl⟩
def eqGLink (a b : GLink) : Bool := decide (a.A = b.A) && (decide (a.B = b.B) && (decide (a.CostA = b.CostA) && (decide (a.CostB = b.CostB) && (decide (a.Capacity = b.Capacity) && true))))
structure GTopology where
  Routers : List GRouter
  Links : List GLink
instance : Inhabited GTopology := ⟨GTopology.mk [] []⟩
structure GReach where
  Neighbour : Int
  Cost : Int
  Capacity : Int
instance : Inhabited GReach := ⟨GReach.mk (0:Int) (0:Int) (0:Int)⟩
def eGReach : En GReach := ⟨fun x => [.int .i64 x.Neighbour, .int .i64 x.Cost, .int .i64 x.Capacity], 3, fun _ => rfl, fun _ => rfl, fun _ => rfl⟩
structure GClaim where
  Subdomain : Int
  ID : Int
  Length : Int
instance : Inhabited GClaim := ⟨GClaim.mk (0:Int) (0:Int) (0:Int)⟩
def eGClaim : En GClaim := ⟨fun x => [.int .i64 x.Subdomain, .int .i64 x.ID, .int .i64 x.Length], 3, fun _ => rfl, fun _ => rfl, fun _ => rfl⟩
structure GAdvert where
  Router : Int
  Seq : Int
  Capable : Bool
  Links : List GReach
  Claims : List GClaim
instance : Inhabited GAdvert := ⟨GAdvert.mk (0:Int) (0:Int) false [] []⟩
def eGAdvert : En GAdvert := ⟨fun x => [.int .i64 x.Router, .int .i64 x.Seq, .bool x.Capable, .lst false (ml eGReach x.Links), .lst false (ml eGClaim x.Claims)], 5, fun _ => rfl, fun _ => rfl, fun _ => rfl⟩
structure GDatabase where
  Adverts : List GAdvert
instance : Inhabited GDatabase := ⟨GDatabase.mk []⟩
structure GStream where
  Data : List Int
  Bits : Int
instance : Inhabited GStream := ⟨GStream.mk [] (0:Int)⟩
structure GAdvert_writer where
  s_ : GStream
instance : Inhabited GAdvert_writer := ⟨GAdvert_writer.mk (GStream.mk [] (0:Int))⟩
def ti1 : TI := ⟨1, false, some [.nilFunc], .oth⟩
theorem tk1 : TIOk Try.prog 1 ti1 := ⟨ty1, fun zs h => by cases h; exact ze1, trivial⟩
def ti2 : TI := ⟨1, false, some [.int .i64 0], .int .i64⟩
theorem tk2 : TIOk Try.prog 2 ti2 := ⟨ty2, fun zs h => by cases h; exact ze2, Try.underlying2⟩
def ti3 : TI := ⟨1, false, some [.int .i64 0], .int .i64⟩
theorem tk3 : TIOk Try.prog 3 ti3 := ⟨ty3, fun zs h => by cases h; exact ze3, Try.underlying3⟩
def ti4 : TI := ⟨1, false, some [.bool false], .bool⟩
theorem tk4 : TIOk Try.prog 4 ti4 := ⟨ty4, fun zs h => by cases h; exact ze4, Try.underlying4⟩
def ti5 : TI := ⟨1, false, some [.int .u8 0], .int .u8⟩
theorem tk5 : TIOk Try.prog 5 ti5 := ⟨ty5, fun zs h => by cases h; exact ze5, Try.underlying5⟩
def ti6 : TI := ⟨1, false, some [.int .u8 0], .int .u8⟩
theorem tk6 : TIOk Try.prog 6 ti6 := ⟨ty6, fun zs h => by cases h; exact ze6, Try.underlying6⟩
def ti7 : TI := ⟨4, true, some [.int .i64 0, .int .i64 0, .bool false, .int .u8 0], .struct [.int .i64 0, .int .i64 0, .bool false, .int .u8 0] [(0, 1), (1, 1), (2, 1), (3, 1)] [false, false, false, false]⟩
theorem tk7 : TIOk Try.prog 7 ti7 := ⟨ty7, fun zs h => by cases h; exact ze7, kdStruct str7 ⟨fld7_0, fld7_1, fld7_2, fld7_3, trivial⟩ ⟨prt7_0, prt7_1, prt7_2, prt7_3, trivial⟩⟩
def ti8 : TI := ⟨4, true, some [.int .i64 0, .int .i64 0, .bool false, .int .u8 0], .struct [.int .i64 0, .int .i64 0, .bool false, .int .u8 0] [(0, 1), (1, 1), (2, 1), (3, 1)] [false, false, false, false]⟩
theorem tk8 : TIOk Try.prog 8 ti8 := ⟨ty8, fun zs h => by cases h; exact ze8, kdStruct str8 ⟨fld8_0, fld8_1, fld8_2, fld8_3, trivial⟩ ⟨prt8_0, prt8_1, prt8_2, prt8_3, trivial⟩⟩
def ti9 : TI := ⟨1, false, some [.string ⟨#[]⟩], .str⟩
theorem tk9 : TIOk Try.prog 9 ti9 := ⟨ty9, fun zs h => by cases h; exact ze9, Try.underlying9⟩
def ti10 : TI := ⟨1, false, some [.string ⟨#[]⟩], .str⟩
theorem tk10 : TIOk Try.prog 10 ti10 := ⟨ty10, fun zs h => by cases h; exact ze10, Try.underlying10⟩
def ti11 : TI := ⟨1, false, some [.string ⟨#[]⟩], .str⟩
theorem tk11 : TIOk Try.prog 11 ti11 := ⟨ty11, fun zs h => by cases h; exact ze11, Try.underlying11⟩
def ti12 : TI := ⟨1, false, some [.int .u64 0], .int .u64⟩
theorem tk12 : TIOk Try.prog 12 ti12 := ⟨ty12, fun zs h => by cases h; exact ze12, Try.underlying12⟩
def ti13 : TI := ⟨2, true, some [.string ⟨#[]⟩, .int .u64 0], .struct [.string ⟨#[]⟩, .int .u64 0] [(0, 1), (1, 1)] [false, false]⟩
theorem tk13 : TIOk Try.prog 13 ti13 := ⟨ty13, fun zs h => by cases h; exact ze13, kdStruct str13 ⟨fld13_0, fld13_1, trivial⟩ ⟨prt13_0, prt13_1, trivial⟩⟩
def ti14 : TI := ⟨2, true, some [.string ⟨#[]⟩, .int .u64 0], .struct [.string ⟨#[]⟩, .int .u64 0] [(0, 1), (1, 1)] [false, false]⟩
theorem tk14 : TIOk Try.prog 14 ti14 := ⟨ty14, fun zs h => by cases h; exact ze14, kdStruct str14 ⟨fld14_0, fld14_1, trivial⟩ ⟨prt14_0, prt14_1, trivial⟩⟩
def ti15 : TI := ⟨1, false, some [.pointer none], .oth⟩
theorem tk15 : TIOk Try.prog 15 ti15 := ⟨ty15, fun zs h => by cases h; exact ze15, trivial⟩
def ti16 : TI := ⟨1, false, some [.pointer none], .oth⟩
theorem tk16 : TIOk Try.prog 16 ti16 := ⟨ty16, fun zs h => by cases h; exact ze16, trivial⟩
def ti17 : TI := ⟨1, false, some [.pointer none], .oth⟩
theorem tk17 : TIOk Try.prog 17 ti17 := ⟨ty17, fun zs h => by cases h; exact ze17, trivial⟩
def ti18 : TI := ⟨1, true, some [.pointer none], .struct [.pointer none] [(0, 1)] [false]⟩
theorem tk18 : TIOk Try.prog 18 ti18 := ⟨ty18, fun zs h => by cases h; exact ze18, kdStruct str18 ⟨fld18_0, trivial⟩ ⟨prt18_0, trivial⟩⟩
def ti19 : TI := ⟨1, true, some [.pointer none], .struct [.pointer none] [(0, 1)] [false]⟩
theorem tk19 : TIOk Try.prog 19 ti19 := ⟨ty19, fun zs h => by cases h; exact ze19, kdStruct str19 ⟨fld19_0, trivial⟩ ⟨prt19_0, trivial⟩⟩
def ti21 : TI := ⟨1, false, some [.int .i32 0], .int .i32⟩
theorem tk21 : TIOk Try.prog 21 ti21 := ⟨ty21, fun zs h => by cases h; exact ze21, Try.underlying21⟩
def ti22 : TI := ⟨1, false, some [.slice none 0 0], .slice 3 1 8 [.int .i64 0]⟩
theorem tk22 : TIOk Try.prog 22 ti22 := ⟨ty22, fun zs h => by cases h; exact ze22, ⟨sl22, app22, sli22⟩⟩
def ti23 : TI := ⟨1, false, some [.pointer none], .oth⟩
theorem tk23 : TIOk Try.prog 23 ti23 := ⟨ty23, fun zs h => by cases h; exact ze23, trivial⟩
def ti24 : TI := ⟨1, false, some [.nilFunc], .oth⟩
theorem tk24 : TIOk Try.prog 24 ti24 := ⟨ty24, fun zs h => by cases h; exact ze24, trivial⟩
def ti25 : TI := ⟨1, false, some [.slice none 0 0], .slice 32 5 72 [.int .i64 0, .int .i64 0, .bool false, .slice none 0 0, .slice none 0 0]⟩
theorem tk25 : TIOk Try.prog 25 ti25 := ⟨ty25, fun zs h => by cases h; exact ze25, ⟨sl25, app25, sli25⟩⟩
def ti26 : TI := ⟨1, true, some [.slice none 0 0], .struct [.slice none 0 0] [(0, 1)] [false]⟩
theorem tk26 : TIOk Try.prog 26 ti26 := ⟨ty26, fun zs h => by cases h; exact ze26, kdStruct str26 ⟨fld26_0, trivial⟩ ⟨prt26_0, trivial⟩⟩
def ti27 : TI := ⟨1, true, some [.slice none 0 0], .struct [.slice none 0 0] [(0, 1)] [false]⟩
theorem tk27 : TIOk Try.prog 27 ti27 := ⟨ty27, fun zs h => by cases h; exact ze27, kdStruct str27 ⟨fld27_0, trivial⟩ ⟨prt27_0, trivial⟩⟩
def ti28 : TI := ⟨1, false, some [.nilFunc], .oth⟩
theorem tk28 : TIOk Try.prog 28 ti28 := ⟨ty28, fun zs h => by cases h; exact ze28, trivial⟩
def ti29 : TI := ⟨1, false, some [.slice none 0 0], .slice 51 3 24 [.int .i64 0, .int .i64 0, .int .i64 0]⟩
theorem tk29 : TIOk Try.prog 29 ti29 := ⟨ty29, fun zs h => by cases h; exact ze29, ⟨sl29, app29, sli29⟩⟩
def ti30 : TI := ⟨1, false, some [.slice none 0 0], .slice 54 3 24 [.int .i64 0, .int .i64 0, .int .i64 0]⟩
theorem tk30 : TIOk Try.prog 30 ti30 := ⟨ty30, fun zs h => by cases h; exact ze30, ⟨sl30, app30, sli30⟩⟩
def ti31 : TI := ⟨5, true, some [.int .i64 0, .int .i64 0, .bool false, .slice none 0 0, .slice none 0 0], .struct [.int .i64 0, .int .i64 0, .bool false, .slice none 0 0, .slice none 0 0] [(0, 1), (1, 1), (2, 1), (3, 1), (4, 1)] [false, false, false, false, false]⟩
theorem tk31 : TIOk Try.prog 31 ti31 := ⟨ty31, fun zs h => by cases h; exact ze31, kdStruct str31 ⟨fld31_0, fld31_1, fld31_2, fld31_3, fld31_4, trivial⟩ ⟨prt31_0, prt31_1, prt31_2, prt31_3, prt31_4, trivial⟩⟩
def ti32 : TI := ⟨5, true, some [.int .i64 0, .int .i64 0, .bool false, .slice none 0 0, .slice none 0 0], .struct [.int .i64 0, .int .i64 0, .bool false, .slice none 0 0, .slice none 0 0] [(0, 1), (1, 1), (2, 1), (3, 1), (4, 1)] [false, false, false, false, false]⟩
theorem tk32 : TIOk Try.prog 32 ti32 := ⟨ty32, fun zs h => by cases h; exact ze32, kdStruct str32 ⟨fld32_0, fld32_1, fld32_2, fld32_3, fld32_4, trivial⟩ ⟨prt32_0, prt32_1, prt32_2, prt32_3, prt32_4, trivial⟩⟩
def ti33 : TI := ⟨1, false, some [.nilFunc], .oth⟩
theorem tk33 : TIOk Try.prog 33 ti33 := ⟨ty33, fun zs h => by cases h; exact ze33, trivial⟩
def ti35 : TI := ⟨1, false, some [.nilFunc], .oth⟩
theorem tk35 : TIOk Try.prog 35 ti35 := ⟨ty35, fun zs h => by cases h; exact ze35, trivial⟩
def ti36 : TI := ⟨1, false, some [.nilFunc], .oth⟩
theorem tk36 : TIOk Try.prog 36 ti36 := ⟨ty36, fun zs h => by cases h; exact ze36, trivial⟩
def ti37 : TI := ⟨1, false, some [.slice none 0 0], .slice 62 2 16 [.int .i64 0, .bool false]⟩
theorem tk37 : TIOk Try.prog 37 ti37 := ⟨ty37, fun zs h => by cases h; exact ze37, ⟨sl37, app37, sli37⟩⟩
def ti38 : TI := ⟨1, false, some [.slice none 0 0], .slice 64 5 40 [.int .i64 0, .int .i64 0, .int .i64 0, .int .i64 0, .int .i64 0]⟩
theorem tk38 : TIOk Try.prog 38 ti38 := ⟨ty38, fun zs h => by cases h; exact ze38, ⟨sl38, app38, sli38⟩⟩
def ti39 : TI := ⟨2, true, some [.slice none 0 0, .slice none 0 0], .struct [.slice none 0 0, .slice none 0 0] [(0, 1), (1, 1)] [false, false]⟩
theorem tk39 : TIOk Try.prog 39 ti39 := ⟨ty39, fun zs h => by cases h; exact ze39, kdStruct str39 ⟨fld39_0, fld39_1, trivial⟩ ⟨prt39_0, prt39_1, trivial⟩⟩
def ti40 : TI := ⟨2, true, some [.slice none 0 0, .slice none 0 0], .struct [.slice none 0 0, .slice none 0 0] [(0, 1), (1, 1)] [false, false]⟩
theorem tk40 : TIOk Try.prog 40 ti40 := ⟨ty40, fun zs h => by cases h; exact ze40, kdStruct str40 ⟨fld40_0, fld40_1, trivial⟩ ⟨prt40_0, prt40_1, trivial⟩⟩
def ti41 : TI := ⟨1, false, some [.nilFunc], .oth⟩
theorem tk41 : TIOk Try.prog 41 ti41 := ⟨ty41, fun zs h => by cases h; exact ze41, trivial⟩
def ti42 : TI := ⟨1, false, some [.nilFunc], .oth⟩
theorem tk42 : TIOk Try.prog 42 ti42 := ⟨ty42, fun zs h => by cases h; exact ze42, trivial⟩
def ti43 : TI := ⟨1, false, some [.nilFunc], .oth⟩
theorem tk43 : TIOk Try.prog 43 ti43 := ⟨ty43, fun zs h => by cases h; exact ze43, trivial⟩
def ti44 : TI := ⟨2, true, some [.slice none 0 0, .int .i64 0], .struct [.slice none 0 0, .int .i64 0] [(0, 1), (1, 1)] [false, false]⟩
theorem tk44 : TIOk Try.prog 44 ti44 := ⟨ty44, fun zs h => by cases h; exact ze44, kdStruct str44 ⟨fld44_0, fld44_1, trivial⟩ ⟨prt44_0, prt44_1, trivial⟩⟩
def ti45 : TI := ⟨2, true, some [.slice none 0 0, .int .i64 0], .struct [.slice none 0 0, .int .i64 0] [(0, 1), (1, 1)] [false, false]⟩
theorem tk45 : TIOk Try.prog 45 ti45 := ⟨ty45, fun zs h => by cases h; exact ze45, kdStruct str45 ⟨fld45_0, fld45_1, trivial⟩ ⟨prt45_0, prt45_1, trivial⟩⟩
def ti46 : TI := ⟨1, false, some [.nilFunc], .oth⟩
theorem tk46 : TIOk Try.prog 46 ti46 := ⟨ty46, fun zs h => by cases h; exact ze46, trivial⟩
def ti47 : TI := ⟨1, false, some [.nilFunc], .oth⟩
theorem tk47 : TIOk Try.prog 47 ti47 := ⟨ty47, fun zs h => by cases h; exact ze47, trivial⟩
def ti48 : TI := ⟨1, false, some [.nilFunc], .oth⟩
theorem tk48 : TIOk Try.prog 48 ti48 := ⟨ty48, fun zs h => by cases h; exact ze48, trivial⟩
def ti49 : TI := ⟨1, false, some [.nilFunc], .oth⟩
theorem tk49 : TIOk Try.prog 49 ti49 := ⟨ty49, fun zs h => by cases h; exact ze49, trivial⟩
def ti50 : TI := ⟨3, true, some [.int .i64 0, .int .i64 0, .int .i64 0], .struct [.int .i64 0, .int .i64 0, .int .i64 0] [(0, 1), (1, 1), (2, 1)] [false, false, false]⟩
theorem tk50 : TIOk Try.prog 50 ti50 := ⟨ty50, fun zs h => by cases h; exact ze50, kdStruct str50 ⟨fld50_0, fld50_1, fld50_2, trivial⟩ ⟨prt50_0, prt50_1, prt50_2, trivial⟩⟩
def ti51 : TI := ⟨3, true, some [.int .i64 0, .int .i64 0, .int .i64 0], .struct [.int .i64 0, .int .i64 0, .int .i64 0] [(0, 1), (1, 1), (2, 1)] [false, false, false]⟩
theorem tk51 : TIOk Try.prog 51 ti51 := ⟨ty51, fun zs h => by cases h; exact ze51, kdStruct str51 ⟨fld51_0, fld51_1, fld51_2, trivial⟩ ⟨prt51_0, prt51_1, prt51_2, trivial⟩⟩
def ti52 : TI := ⟨1, false, some [.nilFunc], .oth⟩
theorem tk52 : TIOk Try.prog 52 ti52 := ⟨ty52, fun zs h => by cases h; exact ze52, trivial⟩
def ti53 : TI := ⟨3, true, some [.int .i64 0, .int .i64 0, .int .i64 0], .struct [.int .i64 0, .int .i64 0, .int .i64 0] [(0, 1), (1, 1), (2, 1)] [false, false, false]⟩
theorem tk53 : TIOk Try.prog 53 ti53 := ⟨ty53, fun zs h => by cases h; exact ze53, kdStruct str53 ⟨fld53_0, fld53_1, fld53_2, trivial⟩ ⟨prt53_0, prt53_1, prt53_2, trivial⟩⟩
def ti54 : TI := ⟨3, true, some [.int .i64 0, .int .i64 0, .int .i64 0], .struct [.int .i64 0, .int .i64 0, .int .i64 0] [(0, 1), (1, 1), (2, 1)] [false, false, false]⟩
theorem tk54 : TIOk Try.prog 54 ti54 := ⟨ty54, fun zs h => by cases h; exact ze54, kdStruct str54 ⟨fld54_0, fld54_1, fld54_2, trivial⟩ ⟨prt54_0, prt54_1, prt54_2, trivial⟩⟩
def ti55 : TI := ⟨1, false, some [.nilFunc], .oth⟩
theorem tk55 : TIOk Try.prog 55 ti55 := ⟨ty55, fun zs h => by cases h; exact ze55, trivial⟩
def ti56 : TI := ⟨1, false, some [.int .i64 0], .int .i64⟩
theorem tk56 : TIOk Try.prog 56 ti56 := ⟨ty56, fun zs h => by cases h; exact ze56, Try.underlying56⟩
def ti57 : TI := ⟨1, false, some [.nilFunc], .oth⟩
theorem tk57 : TIOk Try.prog 57 ti57 := ⟨ty57, fun zs h => by cases h; exact ze57, trivial⟩
def ti58 : TI := ⟨1, false, some [.nilFunc], .oth⟩
theorem tk58 : TIOk Try.prog 58 ti58 := ⟨ty58, fun zs h => by cases h; exact ze58, trivial⟩
def ti59 : TI := ⟨1, false, some [.nilFunc], .oth⟩
theorem tk59 : TIOk Try.prog 59 ti59 := ⟨ty59, fun zs h => by cases h; exact ze59, trivial⟩
def ti60 : TI := ⟨1, false, some [.pointer none], .oth⟩
theorem tk60 : TIOk Try.prog 60 ti60 := ⟨ty60, fun zs h => by cases h; exact ze60, trivial⟩
def ti61 : TI := ⟨2, true, some [.int .i64 0, .bool false], .struct [.int .i64 0, .bool false] [(0, 1), (1, 1)] [false, false]⟩
theorem tk61 : TIOk Try.prog 61 ti61 := ⟨ty61, fun zs h => by cases h; exact ze61, kdStruct str61 ⟨fld61_0, fld61_1, trivial⟩ ⟨prt61_0, prt61_1, trivial⟩⟩
def ti62 : TI := ⟨2, true, some [.int .i64 0, .bool false], .struct [.int .i64 0, .bool false] [(0, 1), (1, 1)] [false, false]⟩
theorem tk62 : TIOk Try.prog 62 ti62 := ⟨ty62, fun zs h => by cases h; exact ze62, kdStruct str62 ⟨fld62_0, fld62_1, trivial⟩ ⟨prt62_0, prt62_1, trivial⟩⟩
def ti63 : TI := ⟨5, true, some [.int .i64 0, .int .i64 0, .int .i64 0, .int .i64 0, .int .i64 0], .struct [.int .i64 0, .int .i64 0, .int .i64 0, .int .i64 0, .int .i64 0] [(0, 1), (1, 1), (2, 1), (3, 1), (4, 1)] [false, false, false, false, false]⟩
theorem tk63 : TIOk Try.prog 63 ti63 := ⟨ty63, fun zs h => by cases h; exact ze63, kdStruct str63 ⟨fld63_0, fld63_1, fld63_2, fld63_3, fld63_4, trivial⟩ ⟨prt63_0, prt63_1, prt63_2, prt63_3, prt63_4, trivial⟩⟩
def ti64 : TI := ⟨5, true, some [.int .i64 0, .int .i64 0, .int .i64 0, .int .i64 0, .int .i64 0], .struct [.int .i64 0, .int .i64 0, .int .i64 0, .int .i64 0, .int .i64 0] [(0, 1), (1, 1), (2, 1), (3, 1), (4, 1)] [false, false, false, false, false]⟩
theorem tk64 : TIOk Try.prog 64 ti64 := ⟨ty64, fun zs h => by cases h; exact ze64, kdStruct str64 ⟨fld64_0, fld64_1, fld64_2, fld64_3, fld64_4, trivial⟩ ⟨prt64_0, prt64_1, prt64_2, prt64_3, prt64_4, trivial⟩⟩
def ti66 : TI := ⟨1, false, some [.nilFunc], .oth⟩
theorem tk66 : TIOk Try.prog 66 ti66 := ⟨ty66, fun zs h => by cases h; exact ze66, trivial⟩
def ti67 : TI := ⟨1, false, some [.map none], .map 3 4 .i64⟩
theorem tk67 : TIOk Try.prog 67 ti67 := ⟨ty67, fun zs h => by cases h; exact ze67, map67⟩
def ti69 : TI := ⟨1, false, some [.nilFunc], .oth⟩
theorem tk69 : TIOk Try.prog 69 ti69 := ⟨ty69, fun zs h => by cases h; exact ze69, trivial⟩
def ti70 : TI := ⟨1, false, some [.nilFunc], .oth⟩
theorem tk70 : TIOk Try.prog 70 ti70 := ⟨ty70, fun zs h => by cases h; exact ze70, trivial⟩
def ti71 : TI := ⟨1, false, some [.nilFunc], .oth⟩
theorem tk71 : TIOk Try.prog 71 ti71 := ⟨ty71, fun zs h => by cases h; exact ze71, trivial⟩
def ti72 : TI := ⟨1, false, some [.nilFunc], .oth⟩
theorem tk72 : TIOk Try.prog 72 ti72 := ⟨ty72, fun zs h => by cases h; exact ze72, trivial⟩
def ti73 : TI := ⟨1, false, some [.nilFunc], .oth⟩
theorem tk73 : TIOk Try.prog 73 ti73 := ⟨ty73, fun zs h => by cases h; exact ze73, trivial⟩
def ti74 : TI := ⟨1, false, some [.nilFunc], .oth⟩
theorem tk74 : TIOk Try.prog 74 ti74 := ⟨ty74, fun zs h => by cases h; exact ze74, trivial⟩
def ti75 : TI := ⟨1, false, some [.nilFunc], .oth⟩
theorem tk75 : TIOk Try.prog 75 ti75 := ⟨ty75, fun zs h => by cases h; exact ze75, trivial⟩
def ti76 : TI := ⟨1, false, some [.nilFunc], .oth⟩
theorem tk76 : TIOk Try.prog 76 ti76 := ⟨ty76, fun zs h => by cases h; exact ze76, trivial⟩
def ti77 : TI := ⟨1, false, some [.nilFunc], .oth⟩
theorem tk77 : TIOk Try.prog 77 ti77 := ⟨ty77, fun zs h => by cases h; exact ze77, trivial⟩
def ti78 : TI := ⟨1, false, some [.nilFunc], .oth⟩
theorem tk78 : TIOk Try.prog 78 ti78 := ⟨ty78, fun zs h => by cases h; exact ze78, trivial⟩
def ti80 : TI := ⟨1, false, some [.nilFunc], .oth⟩
theorem tk80 : TIOk Try.prog 80 ti80 := ⟨ty80, fun zs h => by cases h; exact ze80, trivial⟩
def ti81 : TI := ⟨1, false, some [.nilFunc], .oth⟩
theorem tk81 : TIOk Try.prog 81 ti81 := ⟨ty81, fun zs h => by cases h; exact ze81, trivial⟩
def ti82 : TI := ⟨1, false, some [.nilFunc], .oth⟩
theorem tk82 : TIOk Try.prog 82 ti82 := ⟨ty82, fun zs h => by cases h; exact ze82, trivial⟩
def ti83 : TI := ⟨1, false, some [.nilFunc], .oth⟩
theorem tk83 : TIOk Try.prog 83 ti83 := ⟨ty83, fun zs h => by cases h; exact ze83, trivial⟩
def ti84 : TI := ⟨1, false, some [.nilFunc], .oth⟩
theorem tk84 : TIOk Try.prog 84 ti84 := ⟨ty84, fun zs h => by cases h; exact ze84, trivial⟩
def ti85 : TI := ⟨1, false, some [.nilFunc], .oth⟩
theorem tk85 : TIOk Try.prog 85 ti85 := ⟨ty85, fun zs h => by cases h; exact ze85, trivial⟩
def ti86 : TI := ⟨1, false, some [.int .u64 0], .int .u64⟩
theorem tk86 : TIOk Try.prog 86 ti86 := ⟨ty86, fun zs h => by cases h; exact ze86, Try.underlying86⟩
def ti87 : TI := ⟨1, false, some [.nilFunc], .oth⟩
theorem tk87 : TIOk Try.prog 87 ti87 := ⟨ty87, fun zs h => by cases h; exact ze87, trivial⟩
def ti88 : TI := ⟨1, false, some [.nilFunc], .oth⟩
theorem tk88 : TIOk Try.prog 88 ti88 := ⟨ty88, fun zs h => by cases h; exact ze88, trivial⟩
def ti89 : TI := ⟨1, false, some [.nilFunc], .oth⟩
theorem tk89 : TIOk Try.prog 89 ti89 := ⟨ty89, fun zs h => by cases h; exact ze89, trivial⟩
def ti90 : TI := ⟨1, false, some [.nilFunc], .oth⟩
theorem tk90 : TIOk Try.prog 90 ti90 := ⟨ty90, fun zs h => by cases h; exact ze90, trivial⟩
def ti91 : TI := ⟨1, false, some [.nilFunc], .oth⟩
theorem tk91 : TIOk Try.prog 91 ti91 := ⟨ty91, fun zs h => by cases h; exact ze91, trivial⟩
def ti92 : TI := ⟨1, false, some [.nilFunc], .oth⟩
theorem tk92 : TIOk Try.prog 92 ti92 := ⟨ty92, fun zs h => by cases h; exact ze92, trivial⟩
def ti93 : TI := ⟨1, false, some [.nilFunc], .oth⟩
theorem tk93 : TIOk Try.prog 93 ti93 := ⟨ty93, fun zs h => by cases h; exact ze93, trivial⟩
def ti94 : TI := ⟨1, false, some [.nilFunc], .oth⟩
theorem tk94 : TIOk Try.prog 94 ti94 := ⟨ty94, fun zs h => by cases h; exact ze94, trivial⟩
def ti95 : TI := ⟨1, false, some [.nilFunc], .oth⟩
theorem tk95 : TIOk Try.prog 95 ti95 := ⟨ty95, fun zs h => by cases h; exact ze95, trivial⟩
def ti96 : TI := ⟨1, false, some [.nilFunc], .oth⟩
theorem tk96 : TIOk Try.prog 96 ti96 := ⟨ty96, fun zs h => by cases h; exact ze96, trivial⟩
def ti97 : TI := ⟨1, false, some [.nilFunc], .oth⟩
theorem tk97 : TIOk Try.prog 97 ti97 := ⟨ty97, fun zs h => by cases h; exact ze97, trivial⟩
def ti98 : TI := ⟨1, false, some [.nilFunc], .oth⟩
theorem tk98 : TIOk Try.prog 98 ti98 := ⟨ty98, fun zs h => by cases h; exact ze98, trivial⟩
def ti99 : TI := ⟨1, false, some [.slice none 0 0], .slice 5 1 1 [.int .u8 0]⟩
theorem tk99 : TIOk Try.prog 99 ti99 := ⟨ty99, fun zs h => by cases h; exact ze99, ⟨sl99, app99, sli99⟩⟩
def ti101 : TI := ⟨1, false, some [.nilFunc], .oth⟩
theorem tk101 : TIOk Try.prog 101 ti101 := ⟨ty101, fun zs h => by cases h; exact ze101, trivial⟩
def ti102 : TI := ⟨1, false, some [.nilFunc], .oth⟩
theorem tk102 : TIOk Try.prog 102 ti102 := ⟨ty102, fun zs h => by cases h; exact ze102, trivial⟩
def ti103 : TI := ⟨1, false, some [.nilFunc], .oth⟩
theorem tk103 : TIOk Try.prog 103 ti103 := ⟨ty103, fun zs h => by cases h; exact ze103, trivial⟩
def ti104 : TI := ⟨1, false, some [.int .i64 0], .int .i64⟩
theorem tk104 : TIOk Try.prog 104 ti104 := ⟨ty104, fun zs h => by cases h; exact ze104, Try.underlying104⟩
def ti106 : TI := ⟨1, false, some [.nilFunc], .oth⟩
theorem tk106 : TIOk Try.prog 106 ti106 := ⟨ty106, fun zs h => by cases h; exact ze106, trivial⟩
def ti107 : TI := ⟨1, false, some [.nilFunc], .oth⟩
theorem tk107 : TIOk Try.prog 107 ti107 := ⟨ty107, fun zs h => by cases h; exact ze107, trivial⟩
def ti108 : TI := ⟨1, false, some [.nilFunc], .oth⟩
theorem tk108 : TIOk Try.prog 108 ti108 := ⟨ty108, fun zs h => by cases h; exact ze108, trivial⟩
def ti109 : TI := ⟨1, false, some [.nilFunc], .oth⟩
theorem tk109 : TIOk Try.prog 109 ti109 := ⟨ty109, fun zs h => by cases h; exact ze109, trivial⟩
def ti110 : TI := ⟨1, false, some [.nilFunc], .oth⟩
theorem tk110 : TIOk Try.prog 110 ti110 := ⟨ty110, fun zs h => by cases h; exact ze110, trivial⟩
def ti111 : TI := ⟨1, false, some [.int .u32 0], .int .u32⟩
theorem tk111 : TIOk Try.prog 111 ti111 := ⟨ty111, fun zs h => by cases h; exact ze111, Try.underlying111⟩
def ti112 : TI := ⟨1, false, some [.nilFunc], .oth⟩
theorem tk112 : TIOk Try.prog 112 ti112 := ⟨ty112, fun zs h => by cases h; exact ze112, trivial⟩
def ti113 : TI := ⟨1, false, some [.int .u64 0], .int .u64⟩
theorem tk113 : TIOk Try.prog 113 ti113 := ⟨ty113, fun zs h => by cases h; exact ze113, Try.underlying113⟩
def ti114 : TI := ⟨1, false, some [.nilFunc], .oth⟩
theorem tk114 : TIOk Try.prog 114 ti114 := ⟨ty114, fun zs h => by cases h; exact ze114, trivial⟩
def ti115 : TI := ⟨1, false, some [.nilFunc], .oth⟩
theorem tk115 : TIOk Try.prog 115 ti115 := ⟨ty115, fun zs h => by cases h; exact ze115, trivial⟩
def ti116 : TI := ⟨1, false, some [.nilFunc], .oth⟩
theorem tk116 : TIOk Try.prog 116 ti116 := ⟨ty116, fun zs h => by cases h; exact ze116, trivial⟩
def ti117 : TI := ⟨1, false, some [.nilFunc], .oth⟩
theorem tk117 : TIOk Try.prog 117 ti117 := ⟨ty117, fun zs h => by cases h; exact ze117, trivial⟩
def ti118 : TI := ⟨1, false, some [.nilFunc], .oth⟩
theorem tk118 : TIOk Try.prog 118 ti118 := ⟨ty118, fun zs h => by cases h; exact ze118, trivial⟩
def ti119 : TI := ⟨1, false, some [.nilFunc], .oth⟩
theorem tk119 : TIOk Try.prog 119 ti119 := ⟨ty119, fun zs h => by cases h; exact ze119, trivial⟩
def ti120 : TI := ⟨1, false, some [.nilFunc], .oth⟩
theorem tk120 : TIOk Try.prog 120 ti120 := ⟨ty120, fun zs h => by cases h; exact ze120, trivial⟩
def ti121 : TI := ⟨2, true, some [.slice none 0 0, .int .i64 0], .struct [.slice none 0 0, .int .i64 0] [(0, 1), (1, 1)] [false, false]⟩
theorem tk121 : TIOk Try.prog 121 ti121 := ⟨ty121, fun zs h => by cases h; exact ze121, kdStruct str121 ⟨fld121_0, fld121_1, trivial⟩ ⟨prt121_0, prt121_1, trivial⟩⟩
def ti122 : TI := ⟨2, true, some [.slice none 0 0, .int .i64 0], .struct [.slice none 0 0, .int .i64 0] [(0, 1), (1, 1)] [false, false]⟩
theorem tk122 : TIOk Try.prog 122 ti122 := ⟨ty122, fun zs h => by cases h; exact ze122, kdStruct str122 ⟨fld122_0, fld122_1, trivial⟩ ⟨prt122_0, prt122_1, trivial⟩⟩
def ti123 : TI := ⟨2, true, some [.slice none 0 0, .int .i64 0], .struct [.slice none 0 0, .int .i64 0] [(0, 2)] [true]⟩
theorem tk123 : TIOk Try.prog 123 ti123 := ⟨ty123, fun zs h => by cases h; exact ze123, kdStruct str123 ⟨fld123_0, trivial⟩ ⟨prt123_0, trivial⟩⟩
def ti124 : TI := ⟨2, true, some [.slice none 0 0, .int .i64 0], .struct [.slice none 0 0, .int .i64 0] [(0, 2)] [true]⟩
theorem tk124 : TIOk Try.prog 124 ti124 := ⟨ty124, fun zs h => by cases h; exact ze124, kdStruct str124 ⟨fld124_0, trivial⟩ ⟨prt124_0, trivial⟩⟩
def ti125 : TI := ⟨1, false, some [.nilFunc], .oth⟩
theorem tk125 : TIOk Try.prog 125 ti125 := ⟨ty125, fun zs h => by cases h; exact ze125, trivial⟩
def ti127 : TI := ⟨1, false, some [.nilFunc], .oth⟩
theorem tk127 : TIOk Try.prog 127 ti127 := ⟨ty127, fun zs h => by cases h; exact ze127, trivial⟩
def ti128 : TI := ⟨1, false, some [.int .u64 0], .int .u64⟩
theorem tk128 : TIOk Try.prog 128 ti128 := ⟨ty128, fun zs h => by cases h; exact ze128, Try.underlying128⟩
def ti129 : TI := ⟨1, false, some [.nilFunc], .oth⟩
theorem tk129 : TIOk Try.prog 129 ti129 := ⟨ty129, fun zs h => by cases h; exact ze129, trivial⟩
def ti130 : TI := ⟨1, false, some [.nilFunc], .oth⟩
theorem tk130 : TIOk Try.prog 130 ti130 := ⟨ty130, fun zs h => by cases h; exact ze130, trivial⟩
def ti131 : TI := ⟨1, false, some [.nilFunc], .oth⟩
theorem tk131 : TIOk Try.prog 131 ti131 := ⟨ty131, fun zs h => by cases h; exact ze131, trivial⟩
def ti132 : TI := ⟨1, false, some [.pointer none], .oth⟩
theorem tk132 : TIOk Try.prog 132 ti132 := ⟨ty132, fun zs h => by cases h; exact ze132, trivial⟩
def ti133 : TI := ⟨1, false, some [.nilFunc], .oth⟩
theorem tk133 : TIOk Try.prog 133 ti133 := ⟨ty133, fun zs h => by cases h; exact ze133, trivial⟩
def ti134 : TI := ⟨1, false, some [.nilFunc], .oth⟩
theorem tk134 : TIOk Try.prog 134 ti134 := ⟨ty134, fun zs h => by cases h; exact ze134, trivial⟩
def ti135 : TI := ⟨1, false, some [.nilFunc], .oth⟩
theorem tk135 : TIOk Try.prog 135 ti135 := ⟨ty135, fun zs h => by cases h; exact ze135, trivial⟩
def ti136 : TI := ⟨1, false, some [.nilFunc], .oth⟩
theorem tk136 : TIOk Try.prog 136 ti136 := ⟨ty136, fun zs h => by cases h; exact ze136, trivial⟩
def ti137 : TI := ⟨1, false, some [.pointer none], .oth⟩
theorem tk137 : TIOk Try.prog 137 ti137 := ⟨ty137, fun zs h => by cases h; exact ze137, trivial⟩
def ti139 : TI := ⟨1, false, some [.nilFunc], .oth⟩
theorem tk139 : TIOk Try.prog 139 ti139 := ⟨ty139, fun zs h => by cases h; exact ze139, trivial⟩
def ti140 : TI := ⟨1, false, some [.nilFunc], .oth⟩
theorem tk140 : TIOk Try.prog 140 ti140 := ⟨ty140, fun zs h => by cases h; exact ze140, trivial⟩
def ti141 : TI := ⟨1, false, some [.nilFunc], .oth⟩
theorem tk141 : TIOk Try.prog 141 ti141 := ⟨ty141, fun zs h => by cases h; exact ze141, trivial⟩
def ti142 : TI := ⟨1, false, some [.pointer none], .oth⟩
theorem tk142 : TIOk Try.prog 142 ti142 := ⟨ty142, fun zs h => by cases h; exact ze142, trivial⟩
def ti144 : TI := ⟨1, false, some [.nilFunc], .oth⟩
theorem tk144 : TIOk Try.prog 144 ti144 := ⟨ty144, fun zs h => by cases h; exact ze144, trivial⟩
def ti145 : TI := ⟨1, false, some [.nilFunc], .oth⟩
theorem tk145 : TIOk Try.prog 145 ti145 := ⟨ty145, fun zs h => by cases h; exact ze145, trivial⟩
def ti146 : TI := ⟨1, false, some [.nilFunc], .oth⟩
theorem tk146 : TIOk Try.prog 146 ti146 := ⟨ty146, fun zs h => by cases h; exact ze146, trivial⟩
def ti147 : TI := ⟨1, false, some [.nilFunc], .oth⟩
theorem tk147 : TIOk Try.prog 147 ti147 := ⟨ty147, fun zs h => by cases h; exact ze147, trivial⟩
def ti148 : TI := ⟨1, false, some [.pointer none], .oth⟩
theorem tk148 : TIOk Try.prog 148 ti148 := ⟨ty148, fun zs h => by cases h; exact ze148, trivial⟩
def ti149 : TI := ⟨1, false, some [.nilFunc], .oth⟩
theorem tk149 : TIOk Try.prog 149 ti149 := ⟨ty149, fun zs h => by cases h; exact ze149, trivial⟩
def ti150 : TI := ⟨4, true, some [.pointer none, .pointer none, .pointer none, .string ⟨#[]⟩], .struct [.pointer none, .pointer none, .pointer none, .string ⟨#[]⟩] [(0, 1), (1, 1), (2, 1), (3, 1)] [false, false, false, false]⟩
theorem tk150 : TIOk Try.prog 150 ti150 := ⟨ty150, fun zs h => by cases h; exact ze150, kdStruct str150 ⟨fld150_0, fld150_1, fld150_2, fld150_3, trivial⟩ ⟨prt150_0, prt150_1, prt150_2, prt150_3, trivial⟩⟩
def ti151 : TI := ⟨4, true, some [.pointer none, .pointer none, .pointer none, .string ⟨#[]⟩], .struct [.pointer none, .pointer none, .pointer none, .string ⟨#[]⟩] [(0, 1), (1, 1), (2, 1), (3, 1)] [false, false, false, false]⟩
theorem tk151 : TIOk Try.prog 151 ti151 := ⟨ty151, fun zs h => by cases h; exact ze151, kdStruct str151 ⟨fld151_0, fld151_1, fld151_2, fld151_3, trivial⟩ ⟨prt151_0, prt151_1, prt151_2, prt151_3, trivial⟩⟩
def ti152 : TI := ⟨0, true, some [], .oth⟩
theorem tk152 : TIOk Try.prog 152 ti152 := ⟨ty152, fun zs h => by cases h; exact ze152, trivial⟩
def ti155 : TI := ⟨1, false, some [.int .u8 0], .int .u8⟩
theorem tk155 : TIOk Try.prog 155 ti155 := ⟨ty155, fun zs h => by cases h; exact ze155, Try.underlying155⟩
def ti156 : TI := ⟨1, false, some [.int .u8 0], .int .u8⟩
theorem tk156 : TIOk Try.prog 156 ti156 := ⟨ty156, fun zs h => by cases h; exact ze156, Try.underlying156⟩
def ti157 : TI := ⟨1, false, some [.nilFunc], .oth⟩
theorem tk157 : TIOk Try.prog 157 ti157 := ⟨ty157, fun zs h => by cases h; exact ze157, trivial⟩
def ti158 : TI := ⟨1, false, some [.pointer none], .oth⟩
theorem tk158 : TIOk Try.prog 158 ti158 := ⟨ty158, fun zs h => by cases h; exact ze158, trivial⟩
def ti159 : TI := ⟨1, false, some [.int .i32 0], .int .i32⟩
theorem tk159 : TIOk Try.prog 159 ti159 := ⟨ty159, fun zs h => by cases h; exact ze159, Try.underlying159⟩
def ti160 : TI := ⟨1, false, some [.int .i32 0], .int .i32⟩
theorem tk160 : TIOk Try.prog 160 ti160 := ⟨ty160, fun zs h => by cases h; exact ze160, Try.underlying160⟩
def ti161 : TI := ⟨11, true, some [.int .u64 0, .int .u64 0, .int .u32 0, .int .u8 0, .int .u8 0, .int .u8 0, .int .u8 0, .nilFunc, .pointer none, .int .i32 0, .int .i32 0], .struct [.int .u64 0, .int .u64 0, .int .u32 0, .int .u8 0, .int .u8 0, .int .u8 0, .int .u8 0, .nilFunc, .pointer none, .int .i32 0, .int .i32 0] [(0, 1), (1, 1), (2, 1), (3, 1), (4, 1), (5, 1), (6, 1), (7, 1), (8, 1), (9, 1), (10, 1)] [false, false, false, false, false, false, false, false, false, false, false]⟩
theorem tk161 : TIOk Try.prog 161 ti161 := ⟨ty161, fun zs h => by cases h; exact ze161, kdStruct str161 ⟨fld161_0, fld161_1, fld161_2, fld161_3, fld161_4, fld161_5, fld161_6, fld161_7, fld161_8, fld161_9, fld161_10, trivial⟩ ⟨prt161_0, prt161_1, prt161_2, prt161_3, prt161_4, prt161_5, prt161_6, prt161_7, prt161_8, prt161_9, prt161_10, trivial⟩⟩
def ti162 : TI := ⟨11, true, some [.int .u64 0, .int .u64 0, .int .u32 0, .int .u8 0, .int .u8 0, .int .u8 0, .int .u8 0, .nilFunc, .pointer none, .int .i32 0, .int .i32 0], .struct [.int .u64 0, .int .u64 0, .int .u32 0, .int .u8 0, .int .u8 0, .int .u8 0, .int .u8 0, .nilFunc, .pointer none, .int .i32 0, .int .i32 0] [(0, 1), (1, 1), (2, 1), (3, 1), (4, 1), (5, 1), (6, 1), (7, 1), (8, 1), (9, 1), (10, 1)] [false, false, false, false, false, false, false, false, false, false, false]⟩
theorem tk162 : TIOk Try.prog 162 ti162 := ⟨ty162, fun zs h => by cases h; exact ze162, kdStruct str162 ⟨fld162_0, fld162_1, fld162_2, fld162_3, fld162_4, fld162_5, fld162_6, fld162_7, fld162_8, fld162_9, fld162_10, trivial⟩ ⟨prt162_0, prt162_1, prt162_2, prt162_3, prt162_4, prt162_5, prt162_6, prt162_7, prt162_8, prt162_9, prt162_10, trivial⟩⟩
def tb : Tb := [(1, ti1), (2, ti2), (3, ti3), (4, ti4), (5, ti5), (6, ti6), (7, ti7), (8, ti8), (9, ti9), (10, ti10), (11, ti11), (12, ti12), (13, ti13), (14, ti14), (15, ti15), (16, ti16), (17, ti17), (18, ti18), (19, ti19), (21, ti21), (22, ti22), (23, ti23), (24, ti24), (25, ti25), (26, ti26), (27, ti27), (28, ti28), (29, ti29), (30, ti30), (31, ti31), (32, ti32), (33, ti33), (35, ti35), (36, ti36), (37, ti37), (38, ti38), (39, ti39), (40, ti40), (41, ti41), (42, ti42), (43, ti43), (44, ti44), (45, ti45), (46, ti46), (47, ti47), (48, ti48), (49, ti49), (50, ti50), (51, ti51), (52, ti52), (53, ti53), (54, ti54), (55, ti55), (56, ti56), (57, ti57), (58, ti58), (59, ti59), (60, ti60), (61, ti61), (62, ti62), (63, ti63), (64, ti64), (66, ti66), (67, ti67), (69, ti69), (70, ti70), (71, ti71), (72, ti72), (73, ti73), (74, ti74), (75, ti75), (76, ti76), (77, ti77), (78, ti78), (80, ti80), (81, ti81), (82, ti82), (83, ti83), (84, ti84), (85, ti85), (86, ti86), (87, ti87), (88, ti88), (89, ti89), (90, ti90), (91, ti91), (92, ti92), (93, ti93), (94, ti94), (95, ti95), (96, ti96), (97, ti97), (98, ti98), (99, ti99), (101, ti101), (102, ti102), (103, ti103), (104, ti104), (106, ti106), (107, ti107), (108, ti108), (109, ti109), (110, ti110), (111, ti111), (112, ti112), (113, ti113), (114, ti114), (115, ti115), (116, ti116), (117, ti117), (118, ti118), (119, ti119), (120, ti120), (121, ti121), (122, ti122), (123, ti123), (124, ti124), (125, ti125), (127, ti127), (128, ti128), (129, ti129), (130, ti130), (131, ti131), (132, ti132), (133, ti133), (134, ti134), (135, ti135), (136, ti136), (137, ti137), (139, ti139), (140, ti140), (141, ti141), (142, ti142), (144, ti144), (145, ti145), (146, ti146), (147, ti147), (148, ti148), (149, ti149), (150, ti150), (151, ti151), (152, ti152), (155, ti155), (156, ti156), (157, ti157), (158, ti158), (159, ti159), (160, ti160), (161, ti161), (162, ti162)]
theorem W0 : Wld Try.prog tb := ⟨hmix, ⟨tk1, tk2, tk3, tk4, tk5, tk6, tk7, tk8, tk9, tk10, tk11, tk12, tk13, tk14, tk15, tk16, tk17, tk18, tk19, tk21, tk22, tk23, tk24, tk25, tk26, tk27, tk28, tk29, tk30, tk31, tk32, tk33, tk35, tk36, tk37, tk38, tk39, tk40, tk41, tk42, tk43, tk44, tk45, tk46, tk47, tk48, tk49, tk50, tk51, tk52, tk53, tk54, tk55, tk56, tk57, tk58, tk59, tk60, tk61, tk62, tk63, tk64, tk66, tk67, tk69, tk70, tk71, tk72, tk73, tk74, tk75, tk76, tk77, tk78, tk80, tk81, tk82, tk83, tk84, tk85, tk86, tk87, tk88, tk89, tk90, tk91, tk92, tk93, tk94, tk95, tk96, tk97, tk98, tk99, tk101, tk102, tk103, tk104, tk106, tk107, tk108, tk109, tk110, tk111, tk112, tk113, tk114, tk115, tk116, tk117, tk118, tk119, tk120, tk121, tk122, tk123, tk124, tk125, tk127, tk128, tk129, tk130, tk131, tk132, tk133, tk134, tk135, tk136, tk137, tk139, tk140, tk141, tk142, tk144, tk145, tk146, tk147, tk148, tk149, tk150, tk151, tk152, tk155, tk156, tk157, tk158, tk159, tk160, tk161, tk162, trivial⟩⟩
theorem ck4 : CallOk Try.prog 4 := ⟨Try.call4⟩
theorem ck5 : CallOk Try.prog 5 := ⟨Try.call5⟩
theorem ck6 : CallOk Try.prog 6 := ⟨Try.call6⟩
theorem ck7 : CallOk Try.prog 7 := ⟨Try.call7⟩
theorem ck8 : CallOk Try.prog 8 := ⟨Try.call8⟩
theorem ck9 : CallOk Try.prog 9 := ⟨Try.call9⟩
theorem ck10 : CallOk Try.prog 10 := ⟨Try.call10⟩
theorem ck11 : CallOk Try.prog 11 := ⟨Try.call11⟩
theorem ck12 : CallOk Try.prog 12 := ⟨Try.call12⟩
theorem ck13 : CallOk Try.prog 13 := ⟨Try.call13⟩
theorem ck14 : CallOk Try.prog 14 := ⟨Try.call14⟩
theorem ck15 : CallOk Try.prog 15 := ⟨Try.call15⟩
theorem ck16 : CallOk Try.prog 16 := ⟨Try.call16⟩
theorem ck17 : CallOk Try.prog 17 := ⟨Try.call17⟩
theorem ck18 : CallOk Try.prog 18 := ⟨Try.call18⟩
theorem ck19 : CallOk Try.prog 19 := ⟨Try.call19⟩
theorem ck20 : CallOk Try.prog 20 := ⟨Try.call20⟩
theorem ck21 : CallOk Try.prog 21 := ⟨Try.call21⟩
theorem ck22 : CallOk Try.prog 22 := ⟨Try.call22⟩
theorem ck23 : CallOk Try.prog 23 := ⟨Try.call23⟩
theorem ck25 : CallOk Try.prog 25 := ⟨Try.call25⟩
theorem ck26 : CallOk Try.prog 26 := ⟨Try.call26⟩
theorem ck28 : CallOk Try.prog 28 := ⟨Try.call28⟩
theorem ck29 : CallOk Try.prog 29 := ⟨Try.call29⟩
theorem ck30 : CallOk Try.prog 30 := ⟨Try.call30⟩
theorem ck31 : CallOk Try.prog 31 := ⟨Try.call31⟩
theorem ck32 : CallOk Try.prog 32 := ⟨Try.call32⟩
theorem ck33 : CallOk Try.prog 33 := ⟨Try.call33⟩
theorem ck34 : CallOk Try.prog 34 := ⟨Try.call34⟩
theorem ck35 : CallOk Try.prog 35 := ⟨Try.call35⟩
theorem ck36 : CallOk Try.prog 36 := ⟨Try.call36⟩
theorem ck37 : CallOk Try.prog 37 := ⟨Try.call37⟩
theorem ck38 : CallOk Try.prog 38 := ⟨Try.call38⟩
theorem ck39 : CallOk Try.prog 39 := ⟨Try.call39⟩
theorem ck40 : CallOk Try.prog 40 := ⟨Try.call40⟩
theorem ck43 : CallOk Try.prog 43 := ⟨Try.call43⟩
theorem ck45 : CallOk Try.prog 45 := ⟨Try.call45⟩
theorem ck46 : CallOk Try.prog 46 := ⟨Try.call46⟩
theorem ck47 : CallOk Try.prog 47 := ⟨Try.call47⟩
theorem ck48 : CallOk Try.prog 48 := ⟨Try.call48⟩
theorem ck49 : CallOk Try.prog 49 := ⟨Try.call49⟩
theorem ck50 : CallOk Try.prog 50 := ⟨Try.call50⟩
theorem ck51 : CallOk Try.prog 51 := ⟨Try.call51⟩
theorem ck52 : CallOk Try.prog 52 := ⟨Try.call52⟩
theorem ck53 : CallOk Try.prog 53 := ⟨Try.call53⟩
theorem ck54 : CallOk Try.prog 54 := ⟨Try.call54⟩
theorem ck55 : CallOk Try.prog 55 := ⟨Try.call55⟩
theorem ck56 : CallOk Try.prog 56 := ⟨Try.call56⟩
theorem ck57 : CallOk Try.prog 57 := ⟨Try.call57⟩
theorem ck58 : CallOk Try.prog 58 := ⟨Try.call58⟩
theorem ck61 : CallOk Try.prog 61 := ⟨Try.call61⟩
theorem ck62 : CallOk Try.prog 62 := ⟨Try.call62⟩
theorem ck81 : CallOk Try.prog 81 := ⟨Try.call81⟩
theorem ck82 : CallOk Try.prog 82 := ⟨Try.call82⟩
theorem ck84 : CallOk Try.prog 84 := ⟨Try.call84⟩
theorem ck85 : CallOk Try.prog 85 := ⟨Try.call85⟩
theorem ck96 : CallOk Try.prog 96 := ⟨Try.call96⟩
theorem ck97 : CallOk Try.prog 97 := ⟨Try.call97⟩
theorem ck98 : CallOk Try.prog 98 := ⟨Try.call98⟩
theorem ck101 : CallOk Try.prog 101 := ⟨Try.call101⟩
theorem ck102 : CallOk Try.prog 102 := ⟨Try.call102⟩
theorem ck103 : CallOk Try.prog 103 := ⟨Try.call103⟩
end Go.Proofs.Ytmcjffllahcclaa
