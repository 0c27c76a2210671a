/- The data of the program, as Lean data, and what is known of its types. No condition but bR bw stand in each. -/
import Derived.Test.YtmfehenfoepkfaaF
import Derived.Test.YtmfehenfoepkfaaBA
import Derived.Test.YtmfehenfoepkfaaB7
import Derived.Test.YtmfehenfoepkfaaAC
namespace Go.Proofs.Ytmfehenfoepkfaa
open Go
set_option maxRecDepth 100000
set_option linter.all false
structure aN where
 ID : Int
 vW : Bool
instance : Inhabited aN := ⟨aN.mk (0:Int) false⟩
def aH : En aN := ⟨fun x => [.int .i64 x.ID, .bool x.vW], 2, fun _ => rfl, fun _ => rfl, fun _ => rfl⟩
structure aV where
 A : Int
 B : Int
 o5 : Int
 nQ : Int
 j8 : Int
instance : Inhabited aV := ⟨aV.mk (0:Int) (0:Int) (0:Int) (0:Int) (0:Int)⟩
def bu : En aV := ⟨fun x => [.int .i64 x.A, .int .i64 x.B, .int .i64 x.o5, .int .i64 x.nQ, .int .i64 x.j8], 5, fun _ => rfl, fun _ => rfl, fun _ => rfl⟩
structure aj where
 ay : List aN
 Links : List aV
instance : Inhabited aj := ⟨aj.mk [] []⟩
def eU : En aj := ⟨fun x => [.lst false (ml aH x.ay), .lst false (ml bu x.Links)], 2, fun _ => rfl, fun _ => rfl, fun _ => rfl⟩
structure ai where
 Bit : Int
 aT : Int
 Kind : Int
 To : Int
instance : Inhabited ai := ⟨ai.mk (0:Int) (0:Int) (0:Int) (0:Int)⟩
def af : En ai := ⟨fun x => [.int .i64 x.Bit, .int .i64 x.aT, .int .i64 x.Kind, .int .i64 x.To], 4, fun _ => rfl, fun _ => rfl, fun _ => rfl⟩
def ee (a b : ai) : Bool := decide (a.Bit = b.Bit) && (decide (a.aT = b.aT) && (decide (a.Kind = b.Kind) && (decide (a.To = b.To) && true)))
structure aC where
 L : List Int
 At : Int
instance : Inhabited aC := ⟨aC.mk [] (0:Int)⟩
structure aB where
 Length : Int
 List : List ai
instance : Inhabited aB := ⟨aB.mk (0:Int) []⟩
def fD : En aB := ⟨fun x => [.int .i64 x.Length, .lst false (ml af x.List)], 2, fun _ => rfl, fun _ => rfl, fun _ => rfl⟩
structure bq where
 bJ : Int
 To : Int
instance : Inhabited bq := ⟨bq.mk (0:Int) (0:Int)⟩
def aJ : En bq := ⟨fun x => [.int .i64 x.bJ, .int .i64 x.To], 2, fun _ => rfl, fun _ => rfl, fun _ => rfl⟩
def rL (a b : bq) : Bool := decide (a.bJ = b.bJ) && (decide (a.To = b.To) && true)
structure bB where
 bL : Int
 Links : List bq
instance : Inhabited bB := ⟨bB.mk (0:Int) []⟩
def lV : En bB := ⟨fun x => [.int .i64 x.bL, .lst false (ml aJ x.Links)], 2, fun _ => rfl, fun _ => rfl, fun _ => rfl⟩
structure aG where
 gQ : Int
 lI : Int
 to_ : Int
instance : Inhabited aG := ⟨aG.mk (0:Int) (0:Int) (0:Int)⟩
def cm : En aG := ⟨fun x => [.int .i64 x.gQ, .int .i64 x.lI, .int .i64 x.to_], 3, fun _ => rfl, fun _ => rfl, fun _ => rfl⟩
def bV (a b : aG) : Bool := decide (a.gQ = b.gQ) && (decide (a.lI = b.lI) && (decide (a.to_ = b.to_) && true))
def ti2 : TI := ⟨1, false, some [.int .i64 0], .int .i64⟩
theorem tk2 : bZ Try.prog 2 ti2 := ⟨ty2, fun zs h => by cases h; exact ze2, Try.underlying2⟩
def ti3 : TI := ⟨1, false, some [.int .i64 0], .int .i64⟩
theorem tk3 : bZ Try.prog 3 ti3 := ⟨ty3, fun zs h => by cases h; exact ze3, Try.underlying3⟩
def ti4 : TI := ⟨1, false, some [.bool false], .bool⟩
theorem tk4 : bZ Try.prog 4 ti4 := ⟨ty4, fun zs h => by cases h; exact ze4, Try.underlying4⟩
def ti5 : TI := ⟨1, false, some [.int .u8 0], .int .u8⟩
theorem tk5 : bZ Try.prog 5 ti5 := ⟨ty5, fun zs h => by cases h; exact ze5, Try.underlying5⟩
def ti6 : TI := ⟨1, false, some [.int .u8 0], .int .u8⟩
theorem tk6 : bZ Try.prog 6 ti6 := ⟨ty6, fun zs h => by cases h; exact ze6, Try.underlying6⟩
def ti7 : TI := ⟨4, true, some [.int .i64 0, .int .i64 0, .bool false, .int .u8 0], .struct [.int .i64 0, .int .i64 0, .bool false, .int .u8 0] [(0, 1), (1, 1), (2, 1), (3, 1)] [false, false, false, false]⟩
theorem tk7 : bZ Try.prog 7 ti7 := ⟨ty7, fun zs h => by cases h; exact ze7, cH str7 ⟨ai5, ai6, ai7, ai8, trivial⟩ ⟨ai9, aja, ajb, ajc, trivial⟩⟩
def ti8 : TI := ⟨4, true, some [.int .i64 0, .int .i64 0, .bool false, .int .u8 0], .struct [.int .i64 0, .int .i64 0, .bool false, .int .u8 0] [(0, 1), (1, 1), (2, 1), (3, 1)] [false, false, false, false]⟩
theorem tk8 : bZ Try.prog 8 ti8 := ⟨ty8, fun zs h => by cases h; exact ze8, cH str8 ⟨ajd, aje, ajf, ajg, trivial⟩ ⟨ajh, aji, ajj, ajk, trivial⟩⟩
def ti9 : TI := ⟨1, false, some [.string ⟨#[]⟩], .str⟩
theorem tk9 : bZ Try.prog 9 ti9 := ⟨ty9, fun zs h => by cases h; exact ze9, Try.underlying9⟩
def akq : TI := ⟨1, false, some [.string ⟨#[]⟩], .str⟩
theorem tk10 : bZ Try.prog 10 akq := ⟨ty10, fun zs h => by cases h; exact ze10, Try.underlying10⟩
def akr : TI := ⟨1, false, some [.string ⟨#[]⟩], .str⟩
theorem tk11 : bZ Try.prog 11 akr := ⟨ty11, fun zs h => by cases h; exact ze11, Try.underlying11⟩
def aks : TI := ⟨1, false, some [.int .u64 0], .int .u64⟩
theorem tk12 : bZ Try.prog 12 aks := ⟨wT, fun zs h => by cases h; exact ze12, Try.underlying12⟩
def akt : TI := ⟨2, true, some [.string ⟨#[]⟩, .int .u64 0], .struct [.string ⟨#[]⟩, .int .u64 0] [(0, 1), (1, 1)] [false, false]⟩
theorem tk13 : bZ Try.prog 13 akt := ⟨ty13, fun zs h => by cases h; exact ze13, cH amc ⟨agp, agq, trivial⟩ ⟨agr, agt, trivial⟩⟩
def aku : TI := ⟨2, true, some [.string ⟨#[]⟩, .int .u64 0], .struct [.string ⟨#[]⟩, .int .u64 0] [(0, 1), (1, 1)] [false, false]⟩
theorem tk14 : bZ Try.prog 14 aku := ⟨ty14, fun zs h => by cases h; exact ze14, cH amd ⟨agu, agv, trivial⟩ ⟨agw, agx, trivial⟩⟩
def akv : TI := ⟨1, false, some [.pointer none], .oth⟩
theorem tk15 : bZ Try.prog 15 akv := ⟨ty15, fun zs h => by cases h; exact ze15, trivial⟩
def akw : TI := ⟨1, false, some [.pointer none], .oth⟩
theorem tk16 : bZ Try.prog 16 akw := ⟨ty16, fun zs h => by cases h; exact ze16, trivial⟩
def akx : TI := ⟨1, false, some [.pointer none], .oth⟩
theorem tk17 : bZ Try.prog 17 akx := ⟨tL, fun zs h => by cases h; exact ze17, trivial⟩
def aky : TI := ⟨1, true, some [.pointer none], .struct [.pointer none] [(0, 1)] [false]⟩
theorem tk18 : bZ Try.prog 18 aky := ⟨ty18, fun zs h => by cases h; exact ze18, cH ame ⟨agy, trivial⟩ ⟨agz, trivial⟩⟩
def akz : TI := ⟨1, true, some [.pointer none], .struct [.pointer none] [(0, 1)] [false]⟩
theorem tk19 : bZ Try.prog 19 akz := ⟨ty19, fun zs h => by cases h; exact ze19, cH amf ⟨agA, trivial⟩ ⟨agB, trivial⟩⟩
def akA : TI := ⟨1, false, some [.int .i32 0], .int .i32⟩
theorem tk21 : bZ Try.prog 21 akA := ⟨ty21, fun zs h => by cases h; exact ze21, Try.underlying21⟩
def akB : TI := ⟨1, false, some [.slice none 0 0], .slice 3 1 8 [.int .i64 0]⟩
theorem tk22 : bZ Try.prog 22 akB := ⟨adw, fun zs h => by cases h; exact aiU, ⟨sl22, afy, amg⟩⟩
def akC : TI := ⟨1, false, some [.slice none 0 0], .slice 79 2 16 [.int .i64 0, .int .i64 0]⟩
theorem tk23 : bZ Try.prog 23 akC := ⟨adx, fun zs h => by cases h; exact ze23, ⟨sl23, afz, amh⟩⟩
def akD : TI := ⟨2, true, some [.int .i64 0, .slice none 0 0], .struct [.int .i64 0, .slice none 0 0] [(0, 1), (1, 1)] [false, false]⟩
theorem tk24 : bZ Try.prog 24 akD := ⟨ty24, fun zs h => by cases h; exact ze24, cH ami ⟨agC, agD, trivial⟩ ⟨agE, agF, trivial⟩⟩
def akE : TI := ⟨2, true, some [.int .i64 0, .slice none 0 0], .struct [.int .i64 0, .slice none 0 0] [(0, 1), (1, 1)] [false, false]⟩
theorem tk25 : bZ Try.prog 25 akE := ⟨ty25, fun zs h => by cases h; exact aiV, cH amj ⟨agG, agH, trivial⟩ ⟨agI, agJ, trivial⟩⟩
def akF : TI := ⟨1, false, some [.pointer none], .oth⟩
theorem tk27 : bZ Try.prog 27 akF := ⟨ty27, fun zs h => by cases h; exact ze27, trivial⟩
def akG : TI := ⟨1, false, some [.slice none 0 0], .slice 57 2 16 [.int .i64 0, .bool false]⟩
theorem tk29 : bZ Try.prog 29 akG := ⟨ady, fun zs h => by cases h; exact ze29, ⟨sl29, amk, aml⟩⟩
def akH : TI := ⟨1, false, some [.slice none 0 0], .slice 85 5 40 [.int .i64 0, .int .i64 0, .int .i64 0, .int .i64 0, .int .i64 0]⟩
theorem tk30 : bZ Try.prog 30 akH := ⟨adz, fun zs h => by cases h; exact ze30, ⟨sl30, amm, amn⟩⟩
def akI : TI := ⟨2, true, some [.slice none 0 0, .slice none 0 0], .struct [.slice none 0 0, .slice none 0 0] [(0, 1), (1, 1)] [false, false]⟩
theorem tk31 : bZ Try.prog 31 akI := ⟨ty31, fun zs h => by cases h; exact ze31, cH amo ⟨agK, agL, trivial⟩ ⟨agM, agN, trivial⟩⟩
def akJ : TI := ⟨2, true, some [.slice none 0 0, .slice none 0 0], .struct [.slice none 0 0, .slice none 0 0] [(0, 1), (1, 1)] [false, false]⟩
theorem tk32 : bZ Try.prog 32 akJ := ⟨ty32, fun zs h => by cases h; exact aiW, cH amp ⟨agO, agP, trivial⟩ ⟨agQ, agR, trivial⟩⟩
def akK : TI := ⟨1, false, some [.slice none 0 0], .slice 64 4 32 [.int .i64 0, .int .i64 0, .int .i64 0, .int .i64 0]⟩
theorem tk34 : bZ Try.prog 34 akK := ⟨adA, fun zs h => by cases h; exact ze34, ⟨abA, amq, amr⟩⟩
def akL : TI := ⟨2, true, some [.int .i64 0, .slice none 0 0], .struct [.int .i64 0, .slice none 0 0] [(0, 1), (1, 1)] [false, false]⟩
theorem tk35 : bZ Try.prog 35 akL := ⟨ty35, fun zs h => by cases h; exact ze35, cH ams ⟨agS, agT, trivial⟩ ⟨agU, agV, trivial⟩⟩
def akM : TI := ⟨2, true, some [.int .i64 0, .slice none 0 0], .struct [.int .i64 0, .slice none 0 0] [(0, 1), (1, 1)] [false, false]⟩
theorem tk36 : bZ Try.prog 36 akM := ⟨ty36, fun zs h => by cases h; exact aiX, cH amt ⟨agW, agX, trivial⟩ ⟨agY, agZ, trivial⟩⟩
def akN : TI := ⟨1, false, some [.slice none 0 0], .slice 25 2 32 [.int .i64 0, .slice none 0 0]⟩
theorem tk41 : bZ Try.prog 41 akN := ⟨ty41, fun zs h => by cases h; exact ze41, ⟨sl41, amu, amv⟩⟩
def akO : TI := ⟨1, false, some [.int .i64 0], .int .i64⟩
theorem tk42 : bZ Try.prog 42 akO := ⟨ty42, fun zs h => by cases h; exact aiY, Try.underlying42⟩
def akP : TI := ⟨1, false, some [.slice none 0 0], .slice 22 1 24 [.slice none 0 0]⟩
theorem tk47 : bZ Try.prog 47 akP := ⟨ty47, fun zs h => by cases h; exact ze47, ⟨sl47, amw, amx⟩⟩
def akQ : TI := ⟨1, false, some [.slice none 0 0], .slice 36 2 32 [.int .i64 0, .slice none 0 0]⟩
theorem tk49 : bZ Try.prog 49 akQ := ⟨ty49, fun zs h => by cases h; exact ze49, ⟨sl49, amy, amz⟩⟩
def akR : TI := ⟨1, false, some [.int .u64 0], .int .u64⟩
theorem tk50 : bZ Try.prog 50 akR := ⟨ty50, fun zs h => by cases h; exact ze50, Try.underlying50⟩
def akS : TI := ⟨2, true, some [.int .i64 0, .bool false], .struct [.int .i64 0, .bool false] [(0, 1), (1, 1)] [false, false]⟩
theorem tk56 : bZ Try.prog 56 akS := ⟨ty56, fun zs h => by cases h; exact ze56, cH amA ⟨ag0, ag1, trivial⟩ ⟨ag3, ag4, trivial⟩⟩
def akT : TI := ⟨2, true, some [.int .i64 0, .bool false], .struct [.int .i64 0, .bool false] [(0, 1), (1, 1)] [false, false]⟩
theorem tk57 : bZ Try.prog 57 akT := ⟨ty57, fun zs h => by cases h; exact aiZ, cH amB ⟨ag5, ag6, trivial⟩ ⟨ag7, ag8, trivial⟩⟩
def akU : TI := ⟨1, false, some [.int .u64 0], .int .u64⟩
theorem tk59 : bZ Try.prog 59 akU := ⟨ty59, fun zs h => by cases h; exact ze59, Try.underlying59⟩
def akV : TI := ⟨4, true, some [.int .i64 0, .int .i64 0, .int .i64 0, .int .i64 0], .struct [.int .i64 0, .int .i64 0, .int .i64 0, .int .i64 0] [(0, 1), (1, 1), (2, 1), (3, 1)] [false, false, false, false]⟩
theorem tk63 : bZ Try.prog 63 akV := ⟨ty63, fun zs h => by cases h; exact ze63, cH amC ⟨ag9, aha, ahb, ahc, trivial⟩ ⟨ahd, ahe, ahf, ahg, trivial⟩⟩
def akW : TI := ⟨4, true, some [.int .i64 0, .int .i64 0, .int .i64 0, .int .i64 0], .struct [.int .i64 0, .int .i64 0, .int .i64 0, .int .i64 0] [(0, 1), (1, 1), (2, 1), (3, 1)] [false, false, false, false]⟩
theorem tk64 : bZ Try.prog 64 akW := ⟨ty64, fun zs h => by cases h; exact ai0, cH amD ⟨ahh, ahi, ahj, ahk, trivial⟩ ⟨ahl, ahm, ahn, aho, trivial⟩⟩
def akX : TI := ⟨1, false, some [.slice none 0 0], .slice 32 2 48 [.slice none 0 0, .slice none 0 0]⟩
theorem tk73 : bZ Try.prog 73 akX := ⟨ty73, fun zs h => by cases h; exact ze73, ⟨sl73, amE, amF⟩⟩
def akY : TI := ⟨2, true, some [.int .i64 0, .int .i64 0], .struct [.int .i64 0, .int .i64 0] [(0, 1), (1, 1)] [false, false]⟩
theorem tk78 : bZ Try.prog 78 akY := ⟨ty78, fun zs h => by cases h; exact ze78, cH amG ⟨ahp, ahq, trivial⟩ ⟨ahr, ahs, trivial⟩⟩
def akZ : TI := ⟨2, true, some [.int .i64 0, .int .i64 0], .struct [.int .i64 0, .int .i64 0] [(0, 1), (1, 1)] [false, false]⟩
theorem tk79 : bZ Try.prog 79 akZ := ⟨ty79, fun zs h => by cases h; exact ai1, cH amH ⟨aht, ahu, trivial⟩ ⟨ahv, ahw, trivial⟩⟩
def ak0 : TI := ⟨2, true, some [.slice none 0 0, .int .i64 0], .struct [.slice none 0 0, .int .i64 0] [(0, 1), (1, 1)] [false, false]⟩
theorem tk80 : bZ Try.prog 80 ak0 := ⟨ty80, fun zs h => by cases h; exact ze80, cH amJ ⟨ahx, ahy, trivial⟩ ⟨ahz, ahA, trivial⟩⟩
def ak1 : TI := ⟨2, true, some [.slice none 0 0, .int .i64 0], .struct [.slice none 0 0, .int .i64 0] [(0, 1), (1, 1)] [false, false]⟩
theorem tk81 : bZ Try.prog 81 ak1 := ⟨ty81, fun zs h => by cases h; exact ze81, cH amK ⟨ahB, ahC, trivial⟩ ⟨ahD, ahE, trivial⟩⟩
def ak2 : TI := ⟨1, false, some [.slice none 0 0], .slice 83 1 24 [.slice none 0 0]⟩
theorem tk82 : bZ Try.prog 82 ak2 := ⟨ty82, fun zs h => by cases h; exact ze82, ⟨uY, afB, afC⟩⟩
def ak3 : TI := ⟨1, false, some [.slice none 0 0], .slice 4 1 1 [.bool false]⟩
theorem tk83 : bZ Try.prog 83 ak3 := ⟨z7, fun zs h => by cases h; exact ai2, ⟨sl83, afD, afE⟩⟩
def ak4 : TI := ⟨5, true, some [.int .i64 0, .int .i64 0, .int .i64 0, .int .i64 0, .int .i64 0], .struct [.int .i64 0, .int .i64 0, .int .i64 0, .int .i64 0, .int .i64 0] [(0, 1), (1, 1), (2, 1), (3, 1), (4, 1)] [false, false, false, false, false]⟩
theorem tk84 : bZ Try.prog 84 ak4 := ⟨ty84, fun zs h => by cases h; exact ze84, cH amL ⟨ahF, ahG, ahH, ahI, ahJ, trivial⟩ ⟨ahK, ahL, ahM, ahN, ahO, trivial⟩⟩
def ak5 : TI := ⟨5, true, some [.int .i64 0, .int .i64 0, .int .i64 0, .int .i64 0, .int .i64 0], .struct [.int .i64 0, .int .i64 0, .int .i64 0, .int .i64 0, .int .i64 0] [(0, 1), (1, 1), (2, 1), (3, 1), (4, 1)] [false, false, false, false, false]⟩
theorem tk85 : bZ Try.prog 85 ak5 := ⟨ty85, fun zs h => by cases h; exact ai3, cH amM ⟨ahP, ahQ, ahR, ahS, ahT, trivial⟩ ⟨ahU, ahV, ahW, ahX, ahY, trivial⟩⟩
def ak6 : TI := ⟨1, false, some [.pointer none], .oth⟩
theorem tk88 : bZ Try.prog 88 ak6 := ⟨ty88, fun zs h => by cases h; exact ze88, trivial⟩
def ak7 : TI := ⟨1, false, some [.nilFunc], .oth⟩
theorem tk89 : bZ Try.prog 89 ak7 := ⟨ty89, fun zs h => by cases h; exact ze89, trivial⟩
def ak8 : TI := ⟨1, false, some [.map none], .map 3 4 .i64⟩
theorem tk90 : bZ Try.prog 90 ak8 := ⟨ty90, fun zs h => by cases h; exact ze90, afF⟩
def ak9 : TI := ⟨1, false, some [.pointer none], .oth⟩
theorem tk94 : bZ Try.prog 94 ak9 := ⟨ty94, fun zs h => by cases h; exact ze94, trivial⟩
def ala : TI := ⟨1, false, some [.slice none 0 0], .slice 99 3 24 [.int .i64 0, .int .i64 0, .int .i64 0]⟩
theorem tk96 : bZ Try.prog 96 ala := ⟨ty96, fun zs h => by cases h; exact ze96, ⟨sl96, amN, amO⟩⟩
def alb : TI := ⟨3, true, some [.int .i64 0, .int .i64 0, .int .i64 0], .struct [.int .i64 0, .int .i64 0, .int .i64 0] [(0, 1), (1, 1), (2, 1)] [false, false, false]⟩
theorem tk98 : bZ Try.prog 98 alb := ⟨ty98, fun zs h => by cases h; exact ze98, cH amP ⟨ahZ, ah0, ah1, trivial⟩ ⟨ah2, ah3, ah4, trivial⟩⟩
def alc : TI := ⟨3, true, some [.int .i64 0, .int .i64 0, .int .i64 0], .struct [.int .i64 0, .int .i64 0, .int .i64 0] [(0, 1), (1, 1), (2, 1)] [false, false, false]⟩
theorem tk99 : bZ Try.prog 99 alc := ⟨ty99, fun zs h => by cases h; exact ai4, cH amQ ⟨ah5, ah6, ah7, trivial⟩ ⟨ah8, ah9, aia, trivial⟩⟩
def afJ : TI := ⟨1, false, some [.nilFunc], .oth⟩
theorem anf : bZ Try.prog 102 afJ := ⟨amR, fun zs h => by cases h; exact alP, trivial⟩
def afK : TI := ⟨1, false, some [.slice none 0 0], .slice 42 1 8 [.int .i64 0]⟩
theorem ang : bZ Try.prog 112 afK := ⟨amS, fun zs h => by cases h; exact alQ, ⟨amT, ajl, ajm⟩⟩
def afL : TI := ⟨1, false, some [.nilFunc], .oth⟩
theorem anh : bZ Try.prog 115 afL := ⟨amU, fun zs h => by cases h; exact alR, trivial⟩
def afM : TI := ⟨1, false, some [.nilFunc], .oth⟩
theorem ani : bZ Try.prog 118 afM := ⟨amV, fun zs h => by cases h; exact alS, trivial⟩
def afN : TI := ⟨1, false, some [.nilFunc], .oth⟩
theorem anj : bZ Try.prog 120 afN := ⟨amW, fun zs h => by cases h; exact alT, trivial⟩
def afO : TI := ⟨1, false, some [.nilFunc], .oth⟩
theorem ank : bZ Try.prog 122 afO := ⟨amX, fun zs h => by cases h; exact alU, trivial⟩
def afP : TI := ⟨1, false, some [.nilFunc], .oth⟩
theorem anl : bZ Try.prog 123 afP := ⟨amY, fun zs h => by cases h; exact alV, trivial⟩
def afQ : TI := ⟨1, false, some [.int .i64 0], .int .i64⟩
theorem anm : bZ Try.prog 128 afQ := ⟨amZ, fun zs h => by cases h; exact alW, Try.underlying128⟩
def afR : TI := ⟨1, false, some [.int .u32 0], .int .u32⟩
theorem ann : bZ Try.prog 135 afR := ⟨abB, fun zs h => by cases h; exact alX, Try.underlying135⟩
def afS : TI := ⟨1, false, some [.int .u64 0], .int .u64⟩
theorem ano : bZ Try.prog 139 afS := ⟨am0, fun zs h => by cases h; exact alY, Try.underlying139⟩
def afT : TI := ⟨1, false, some [.pointer none], .oth⟩
theorem anp : bZ Try.prog 143 afT := ⟨am1, fun zs h => by cases h; exact alZ, trivial⟩
def afU : TI := ⟨1, false, some [.pointer none], .oth⟩
theorem anq : bZ Try.prog 145 afU := ⟨am2, fun zs h => by cases h; exact al0, trivial⟩
def afV : TI := ⟨4, true, some [.pointer none, .pointer none, .pointer none, .string ⟨#[]⟩], .struct [.pointer none, .pointer none, .pointer none, .string ⟨#[]⟩] [(0, 1), (1, 1), (2, 1), (3, 1)] [false, false, false, false]⟩
theorem anr : bZ Try.prog 149 afV := ⟨am3, fun zs h => by cases h; exact al1, cH ajn ⟨adD, adE, adF, adG, trivial⟩ ⟨adH, adI, adJ, adK, trivial⟩⟩
def afW : TI := ⟨4, true, some [.pointer none, .pointer none, .pointer none, .string ⟨#[]⟩], .struct [.pointer none, .pointer none, .pointer none, .string ⟨#[]⟩] [(0, 1), (1, 1), (2, 1), (3, 1)] [false, false, false, false]⟩
theorem ans : bZ Try.prog 150 afW := ⟨am4, fun zs h => by cases h; exact al2, cH ajo ⟨adL, adM, adN, adO, trivial⟩ ⟨adP, adQ, adR, adS, trivial⟩⟩
def afX : TI := ⟨0, true, some [], .oth⟩
theorem ant : bZ Try.prog 151 afX := ⟨am5, fun zs h => by cases h; exact al3, trivial⟩
def afY : TI := ⟨1, false, some [.int .u8 0], .int .u8⟩
theorem anu : bZ Try.prog 154 afY := ⟨abC, fun zs h => by cases h; exact al4, Try.underlying154⟩
def afZ : TI := ⟨1, false, some [.int .u8 0], .int .u8⟩
theorem anv : bZ Try.prog 155 afZ := ⟨abD, fun zs h => by cases h; exact al5, Try.underlying155⟩
def af0 : TI := ⟨1, false, some [.nilFunc], .oth⟩
theorem anw : bZ Try.prog 156 af0 := ⟨abE, fun zs h => by cases h; exact al6, trivial⟩
def af1 : TI := ⟨1, false, some [.pointer none], .oth⟩
theorem anx : bZ Try.prog 157 af1 := ⟨abF, fun zs h => by cases h; exact al7, trivial⟩
def af2 : TI := ⟨1, false, some [.int .i32 0], .int .i32⟩
theorem anz : bZ Try.prog 158 af2 := ⟨abG, fun zs h => by cases h; exact al8, Try.underlying158⟩
def af3 : TI := ⟨1, false, some [.int .i32 0], .int .i32⟩
theorem anA : bZ Try.prog 159 af3 := ⟨abH, fun zs h => by cases h; exact al9, Try.underlying159⟩
def af4 : TI := ⟨11, true, some [.int .u64 0, .int .u64 0, .int .u32 0, .int .u8 0, .int .u8 0, .int .u8 0, .int .u8 0, .nilFunc, .pointer none, .int .i32 0, .int .i32 0], .struct [.int .u64 0, .int .u64 0, .int .u32 0, .int .u8 0, .int .u8 0, .int .u8 0, .int .u8 0, .nilFunc, .pointer none, .int .i32 0, .int .i32 0] [(0, 1), (1, 1), (2, 1), (3, 1), (4, 1), (5, 1), (6, 1), (7, 1), (8, 1), (9, 1), (10, 1)] [false, false, false, false, false, false, false, false, false, false, false]⟩
theorem anB : bZ Try.prog 160 af4 := ⟨am6, fun zs h => by cases h; exact ama, cH ajp ⟨adT, adU, adV, adW, adX, adY, adZ, ad0, ad1, ad2, acH, trivial⟩ ⟨ad3, ad4, ad5, ad6, ad7, ad8, ad9, aea, aeb, aec, acI, trivial⟩⟩
def af5 : TI := ⟨11, true, some [.int .u64 0, .int .u64 0, .int .u32 0, .int .u8 0, .int .u8 0, .int .u8 0, .int .u8 0, .nilFunc, .pointer none, .int .i32 0, .int .i32 0], .struct [.int .u64 0, .int .u64 0, .int .u32 0, .int .u8 0, .int .u8 0, .int .u8 0, .int .u8 0, .nilFunc, .pointer none, .int .i32 0, .int .i32 0] [(0, 1), (1, 1), (2, 1), (3, 1), (4, 1), (5, 1), (6, 1), (7, 1), (8, 1), (9, 1), (10, 1)] [false, false, false, false, false, false, false, false, false, false, false]⟩
theorem anC : bZ Try.prog 161 af5 := ⟨am7, fun zs h => by cases h; exact amb, cH ajq ⟨aed, aee, aef, aeg, aeh, aei, aej, aek, ael, aem, acJ, trivial⟩ ⟨aen, aeo, aep, aeq, aer, aes, aet, aeu, aev, aew, acK, trivial⟩⟩
def tb : Tb := [(2, ti2), (3, ti3), (4, ti4), (5, ti5), (6, ti6), (7, ti7), (8, ti8), (9, ti9), (10, akq), (11, akr), (12, aks), (13, akt), (14, aku), (15, akv), (16, akw), (17, akx), (18, aky), (19, akz), (21, akA), (22, akB), (23, akC), (24, akD), (25, akE), (27, akF), (29, akG), (30, akH), (31, akI), (32, akJ), (34, akK), (35, akL), (36, akM), (41, akN), (42, akO), (47, akP), (49, akQ), (50, akR), (56, akS), (57, akT), (59, akU), (63, akV), (64, akW), (73, akX), (78, akY), (79, akZ), (80, ak0), (81, ak1), (82, ak2), (83, ak3), (84, ak4), (85, ak5), (88, ak6), (89, ak7), (90, ak8), (94, ak9), (96, ala), (98, alb), (99, alc), (102, afJ), (112, afK), (115, afL), (118, afM), (120, afN), (122, afO), (123, afP), (128, afQ), (135, afR), (139, afS), (143, afT), (145, afU), (149, afV), (150, afW), (151, afX), (154, afY), (155, afZ), (156, af0), (157, af1), (158, af2), (159, af3), (160, af4), (161, af5)]
theorem W0 : Wld Try.prog tb := ⟨hmix, ⟨tk2, tk3, tk4, tk5, tk6, tk7, tk8, tk9, tk10, tk11, tk12, tk13, tk14, tk15, tk16, tk17, tk18, tk19, tk21, tk22, tk23, tk24, tk25, tk27, tk29, tk30, tk31, tk32, tk34, tk35, tk36, tk41, tk42, tk47, tk49, tk50, tk56, tk57, tk59, tk63, tk64, tk73, tk78, tk79, tk80, tk81, tk82, tk83, tk84, tk85, tk88, tk89, tk90, tk94, tk96, tk98, tk99, anf, ang, anh, ani, anj, ank, anl, anm, ann, ano, anp, anq, anr, ans, ant, anu, anv, anw, anx, anz, anA, anB, anC, trivial⟩⟩
theorem ck7 : aQ Try.prog 7 := ⟨Try.call7⟩
theorem ck8 : aQ Try.prog 8 := ⟨Try.call8⟩
theorem ck9 : aQ Try.prog 9 := ⟨Try.call9⟩
theorem aeQ : aQ Try.prog 10 := ⟨Try.call10⟩
theorem aeR : aQ Try.prog 11 := ⟨Try.call11⟩
theorem aeS : aQ Try.prog 12 := ⟨Try.call12⟩
theorem aeT : aQ Try.prog 13 := ⟨Try.call13⟩
theorem ab1 : aQ Try.prog 14 := ⟨Try.call14⟩
theorem ab2 : aQ Try.prog 15 := ⟨Try.call15⟩
theorem aeU : aQ Try.prog 16 := ⟨Try.call16⟩
theorem ald : aQ Try.prog 17 := ⟨Try.call17⟩
theorem aaj : aQ Try.prog 18 := ⟨Try.call18⟩
theorem ck19 : aQ Try.prog 19 := ⟨Try.call19⟩
theorem ale : aQ Try.prog 20 := ⟨Try.call20⟩
theorem ab3 : aQ Try.prog 21 := ⟨Try.call21⟩
theorem ck22 : aQ Try.prog 22 := ⟨Try.call22⟩
theorem aeV : aQ Try.prog 23 := ⟨Try.call23⟩
theorem gv : aQ Try.prog 24 := ⟨Try.call24⟩
theorem ab4 : aQ Try.prog 25 := ⟨Try.call25⟩
theorem aak : aQ Try.prog 26 := ⟨Try.call26⟩
theorem aeW : aQ Try.prog 27 := ⟨Try.call27⟩
theorem aeX : aQ Try.prog 28 := ⟨Try.call28⟩
theorem alf : aQ Try.prog 29 := ⟨Try.call29⟩
theorem ck30 : aQ Try.prog 30 := ⟨Try.call30⟩
theorem yH : aQ Try.prog 31 := ⟨Try.call31⟩
theorem yI : aQ Try.prog 32 := ⟨Try.call32⟩
theorem ck33 : aQ Try.prog 33 := ⟨Try.call33⟩
theorem alg : aQ Try.prog 34 := ⟨Try.call34⟩
theorem alh : aQ Try.prog 35 := ⟨Try.call35⟩
theorem ck36 : aQ Try.prog 36 := ⟨Try.call36⟩
theorem xb : aQ Try.prog 37 := ⟨Try.call37⟩
theorem ab5 : aQ Try.prog 38 := ⟨Try.call38⟩
theorem aeY : aQ Try.prog 39 := ⟨Try.call39⟩
theorem mJ : aQ Try.prog 40 := ⟨Try.call40⟩
theorem ali : aQ Try.prog 41 := ⟨Try.call41⟩
theorem ck42 : aQ Try.prog 42 := ⟨Try.call42⟩
theorem tW : aQ Try.prog 43 := ⟨Try.call43⟩
theorem ck44 : aQ Try.prog 44 := ⟨Try.call44⟩
theorem xd : aQ Try.prog 45 := ⟨Try.call45⟩
theorem alj : aQ Try.prog 46 := ⟨Try.call46⟩
theorem aal : aQ Try.prog 47 := ⟨Try.call47⟩
theorem ck48 : aQ Try.prog 48 := ⟨Try.call48⟩
theorem xe : aQ Try.prog 49 := ⟨Try.call49⟩
theorem alk : aQ Try.prog 50 := ⟨Try.call50⟩
theorem alm : aQ Try.prog 51 := ⟨Try.call51⟩
theorem ck52 : aQ Try.prog 52 := ⟨Try.call52⟩
theorem ck53 : aQ Try.prog 53 := ⟨Try.call53⟩
theorem aln : aQ Try.prog 54 := ⟨Try.call54⟩
theorem ck55 : aQ Try.prog 55 := ⟨Try.call55⟩
theorem aeZ : aQ Try.prog 56 := ⟨Try.call56⟩
theorem alo : aQ Try.prog 57 := ⟨Try.call57⟩
theorem alp : aQ Try.prog 58 := ⟨Try.call58⟩
theorem ck59 : aQ Try.prog 59 := ⟨Try.call59⟩
theorem ck60 : aQ Try.prog 60 := ⟨Try.call60⟩
theorem ck61 : aQ Try.prog 61 := ⟨Try.call61⟩
theorem ae0 : aQ Try.prog 62 := ⟨Try.call62⟩
theorem ck63 : aQ Try.prog 63 := ⟨Try.call63⟩
theorem ae1 : aQ Try.prog 64 := ⟨Try.call64⟩
theorem alq : aQ Try.prog 65 := ⟨Try.call65⟩
theorem ck66 : aQ Try.prog 66 := ⟨Try.call66⟩
theorem yJ : aQ Try.prog 67 := ⟨Try.call67⟩
theorem ae2 : aQ Try.prog 68 := ⟨Try.call68⟩
theorem ck69 : aQ Try.prog 69 := ⟨Try.call69⟩
theorem ck70 : aQ Try.prog 70 := ⟨Try.call70⟩
theorem xg : aQ Try.prog 71 := ⟨Try.call71⟩
theorem ck72 : aQ Try.prog 72 := ⟨Try.call72⟩
theorem ck73 : aQ Try.prog 73 := ⟨Try.call73⟩
theorem ck74 : aQ Try.prog 74 := ⟨Try.call74⟩
theorem ae3 : aQ Try.prog 75 := ⟨Try.call75⟩
theorem ck76 : aQ Try.prog 76 := ⟨Try.call76⟩
theorem ck77 : aQ Try.prog 77 := ⟨Try.call77⟩
theorem ck78 : aQ Try.prog 78 := ⟨Try.call78⟩
theorem ck79 : aQ Try.prog 79 := ⟨Try.call79⟩
theorem xh : aQ Try.prog 80 := ⟨Try.call80⟩
theorem ae4 : aQ Try.prog 81 := ⟨Try.call81⟩
theorem alr : aQ Try.prog 82 := ⟨Try.call82⟩
theorem als : aQ Try.prog 83 := ⟨Try.call83⟩
theorem ae5 : aQ Try.prog 84 := ⟨Try.call84⟩
theorem ck85 : aQ Try.prog 85 := ⟨Try.call85⟩
theorem ck86 : aQ Try.prog 86 := ⟨Try.call86⟩
theorem ck87 : aQ Try.prog 87 := ⟨Try.call87⟩
theorem alu : aQ Try.prog 88 := ⟨Try.call88⟩
theorem ab6 : aQ Try.prog 89 := ⟨Try.call89⟩
theorem ck90 : aQ Try.prog 90 := ⟨Try.call90⟩
theorem ck91 : aQ Try.prog 91 := ⟨Try.call91⟩
theorem ck92 : aQ Try.prog 92 := ⟨Try.call92⟩
theorem xk : aQ Try.prog 93 := ⟨Try.call93⟩
theorem ab7 : aQ Try.prog 94 := ⟨Try.call94⟩
theorem alv : aQ Try.prog 95 := ⟨Try.call95⟩
theorem ck96 : aQ Try.prog 96 := ⟨Try.call96⟩
theorem ck97 : aQ Try.prog 97 := ⟨Try.call97⟩
theorem anD : aQ Try.prog 106 := ⟨Try.call106⟩
theorem anE : aQ Try.prog 107 := ⟨Try.call107⟩
theorem anG : aQ Try.prog 108 := ⟨Try.call108⟩
theorem qS {N : Nat} {ids : List Nat} {y : Code} {Q : Exit → Env → Sto → Prop} {env : Env} {σ : Sto} {id : Nat} {ops : Array Oper} {dr : Bool} (hs : List (Nat × Hint Try.prog)) (bU : Env) (σ2 : Sto) (k : ah ⟨Try.prog, N, ids⟩ y Q bU σ2)
  (h : tP tb N ids ops dr (ig ops dr hs).1 (ig ops dr hs).2 [] hs (o4 bU) σ2.ids env σ = some (bU, σ2, (ig ops dr hs).2.map fun i => (hintOf hs i).exp) := by kernel_rfl) : ah ⟨Try.prog, N, ids⟩ (.seq (.region id ops dr) y) Q env σ := A.RS W0 [] hs bU σ2 h k
theorem qR {N : Nat} {ids : List Nat} {Q : Exit → Env → Sto → Prop} {env : Env} {σ : Sto} {id : Nat} {ops : Array Oper} {dr : Bool} (hs : List (Nat × Hint Try.prog)) (bU : Env) (σ2 : Sto) (k : Q .normal bU σ2)
  (h : tP tb N ids ops dr (ig ops dr hs).1 (ig ops dr hs).2 [] hs (o4 bU) σ2.ids env σ = some (bU, σ2, (ig ops dr hs).2.map fun i => (hintOf hs i).exp) := by kernel_rfl) : ah ⟨Try.prog, N, ids⟩ (.region id ops dr) Q env σ := A.R W0 [] hs bU σ2 h k
def alw (n : Nat) : List Nat → Bool
 | [] => false
 | k :: r => bif Nat.beq k n then true else alw n r
def kM {α : Type} (ks : List Nat) (new : List (Nat × α)) : List (Nat × α) → List (Nat × α)
 | [] => new
 | p :: l => bif alw p.1 ks then kM ks new l else p :: kM ks new l
section
variable {N : Nat} {ids : List Nat} {y : Code} {Q : Exit → Env → Sto → Prop} {env : Env} {σ : Sto} {id : Nat} {ops : Array Oper} {dr : Bool} (hs : List (Nat × Hint Try.prog)) (ks : List Nat) (new : Env) (js : List Nat) (nws : Sto)
theorem qD (k : ah ⟨Try.prog, N, ids⟩ y Q (kM ks new env) (kM js nws σ))
  (h : tP tb N ids ops dr (ig ops dr hs).1 (ig ops dr hs).2 [] hs (o4 (kM ks new env)) (Sto.ids (kM js nws σ)) env σ = some (kM ks new env, kM js nws σ, (ig ops dr hs).2.map fun i => (hintOf hs i).exp) := by kernel_rfl) : ah ⟨Try.prog, N, ids⟩ (.seq (.region id ops dr) y) Q env σ := A.RS W0 [] hs _ _ h k
theorem qDs (k : ah ⟨Try.prog, N, ids⟩ y Q (kM ks new env) σ)
  (h : tP tb N ids ops dr (ig ops dr hs).1 (ig ops dr hs).2 [] hs (o4 (kM ks new env)) σ.ids env σ = some (kM ks new env, σ, (ig ops dr hs).2.map fun i => (hintOf hs i).exp) := by kernel_rfl) : ah ⟨Try.prog, N, ids⟩ (.seq (.region id ops dr) y) Q env σ := A.RS W0 [] hs _ _ h k
theorem qG (k : Q .normal (kM ks new env) (kM js nws σ))
  (h : tP tb N ids ops dr (ig ops dr hs).1 (ig ops dr hs).2 [] hs (o4 (kM ks new env)) (Sto.ids (kM js nws σ)) env σ = some (kM ks new env, kM js nws σ, (ig ops dr hs).2.map fun i => (hintOf hs i).exp) := by kernel_rfl) : ah ⟨Try.prog, N, ids⟩ (.region id ops dr) Q env σ := A.R W0 [] hs _ _ h k
theorem qGs (k : Q .normal (kM ks new env) σ)
  (h : tP tb N ids ops dr (ig ops dr hs).1 (ig ops dr hs).2 [] hs (o4 (kM ks new env)) σ.ids env σ = some (kM ks new env, σ, (ig ops dr hs).2.map fun i => (hintOf hs i).exp) := by kernel_rfl) : ah ⟨Try.prog, N, ids⟩ (.region id ops dr) Q env σ := A.R W0 [] hs _ _ h k
end
theorem qE {N : Nat} {ids : List Nat} {fn : Func} {env : Env} {σ σ2 : Sto} {R : AV} (h : aeH tb ids [] σ2.ids fn.results.toList env σ = some (R, σ2) := by kernel_rfl) :
  abR ⟨Try.prog, N, ids⟩ fn (fun a σ' => a = R ∧ σ' = σ2) .ret env σ := A.fin W0 [] rfl h
theorem qW {G : Gl} {env bU : Env} {σ σ2 : Sto} (h : xW G.ids [] [] (o4 bU) σ2.ids env σ = some (bU, σ2) := by kernel_rfl) : bp G env σ bU σ2 := bp.go [] [] h
theorem qX {G : Gl} {α ρ : Type} {J : α → Option ρ} {r : ρ} {env : Env} {σ : Sto} {cR : α → Env} {ep : α → Sto} (g : α) (hg : J g = some r) (h : xW G.ids [] [] (o4 (cR g)) (ep g).ids env σ = some (cR g, ep g) := by kernel_rfl) :
  ∃ g, J g = some r ∧ bp G env σ (cR g) (ep g) := ⟨g, hg, bp.go [] [] h⟩
theorem qT {G : Gl} {o : Operand} {p : Bool} {x y : Code} {Q : Exit → Env → Sto → Prop} {env : Env} {σ : Sto} (hp : p = true) (k : ah G x Q env σ) (hc : env.evo o = some (.bool p) := by kernel_rfl) : ah G (.cond o x y) Q env σ := A.cT hc hp k
theorem qF {G : Gl} {o : Operand} {p : Bool} {x y : Code} {Q : Exit → Env → Sto → Prop} {env : Env} {σ : Sto} (hp : p = false) (k : ah G y Q env σ) (hc : env.evo o = some (.bool p) := by kernel_rfl) : ah G (.cond o x y) Q env σ := A.cF hc hp k
abbrev i6 (n : Int) : AV := .int .i64 n
abbrev lf {α : Type} (e : En α) (l : List α) : AV := .lst false (ml e l)
abbrev k0 (x : aN) : List AV := [.int .i64 x.ID, .bool x.vW]
abbrev k1 (x : aV) : List AV := [.int .i64 x.A, .int .i64 x.B, .int .i64 x.o5, .int .i64 x.nQ, .int .i64 x.j8]
abbrev k2 (x : aj) : List AV := [.lst false (ml aH x.ay), .lst false (ml bu x.Links)]
abbrev k3 (x : ai) : List AV := [.int .i64 x.Bit, .int .i64 x.aT, .int .i64 x.Kind, .int .i64 x.To]
abbrev k4 (x : aC) : List AV := [.lst false (ml aA x.L), .int .i64 x.At]
abbrev k5 (x : aB) : List AV := [.int .i64 x.Length, .lst false (ml af x.List)]
abbrev k6 (x : bq) : List AV := [.int .i64 x.bJ, .int .i64 x.To]
abbrev k7 (x : bB) : List AV := [.int .i64 x.bL, .lst false (ml aJ x.Links)]
abbrev k8 (x : aG) : List AV := [.int .i64 x.gQ, .int .i64 x.lI, .int .i64 x.to_]
end Go.Proofs.Ytmfehenfoepkfaa
