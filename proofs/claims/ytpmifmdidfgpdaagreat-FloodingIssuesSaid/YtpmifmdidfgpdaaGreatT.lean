/- The data of the program, as Lean data, and what is known of its types. No condition but bT bF stand in each. -/
import Derived.Test.YtpmifmdidfgpdaaGreatF
import Derived.Test.YtpmifmdidfgpdaaGreatBA
import Derived.Test.YtpmifmdidfgpdaaGreatB7
namespace Go.Proofs.YtpmifmdidfgpdaaGreat
open Go
set_option maxRecDepth 100000
set_option linter.all false
structure aZ where
 ID : Int
 bh : Bool
instance : Inhabited aZ := ⟨aZ.mk (0:Int) false⟩
def aS : En aZ := ⟨fun x => [.int .i64 x.ID, .bool x.bh], 2, fun _ => rfl, fun _ => rfl, fun _ => rfl⟩
def sK (a b : aZ) : Bool := decide (a.ID = b.ID) && ((a.bh == b.bh) && true)
structure aX where
 A : Int
 B : Int
 jx : Int
 jc : Int
 bY : Int
instance : Inhabited aX := ⟨aX.mk (0:Int) (0:Int) (0:Int) (0:Int) (0:Int)⟩
def az : En aX := ⟨fun x => [.int .i64 x.A, .int .i64 x.B, .int .i64 x.jx, .int .i64 x.jc, .int .i64 x.bY], 5, fun _ => rfl, fun _ => rfl, fun _ => rfl⟩
def vH (a b : aX) : Bool := decide (a.A = b.A) && (decide (a.B = b.B) && (decide (a.jx = b.jx) && (decide (a.jc = b.jc) && (decide (a.bY = b.bY) && true))))
structure aB where
 aK : List aZ
 Links : List aX
instance : Inhabited aB := ⟨aB.mk [] []⟩
structure aP where
 L : List Int
 At : Int
instance : Inhabited aP := ⟨aP.mk [] (0:Int)⟩
structure aiP where
 kT : Int
 To : Int
instance : Inhabited aiP := ⟨aiP.mk (0:Int) (0:Int)⟩
structure ac2 where
 Links : List aiP
 aK : List Int
instance : Inhabited ac2 := ⟨ac2.mk [] []⟩
structure bx where
 cg : Int
 ID : Int
 Length : Int
instance : Inhabited bx := ⟨bx.mk (0:Int) (0:Int) (0:Int)⟩
def aR : En bx := ⟨fun x => [.int .i64 x.cg, .int .i64 x.ID, .int .i64 x.Length], 3, fun _ => rfl, fun _ => rfl, fun _ => rfl⟩
def fO (a b : bx) : Bool := decide (a.cg = b.cg) && (decide (a.ID = b.ID) && (decide (a.Length = b.Length) && true))
structure bu where
 bw : Int
 mg : Int
 bY : Int
instance : Inhabited bu := ⟨bu.mk (0:Int) (0:Int) (0:Int)⟩
def bn : En bu := ⟨fun x => [.int .i64 x.bw, .int .i64 x.mg, .int .i64 x.bY], 3, fun _ => rfl, fun _ => rfl, fun _ => rfl⟩
def hU (a b : bu) : Bool := decide (a.bw = b.bw) && (decide (a.mg = b.mg) && (decide (a.bY = b.bY) && true))
structure ak where
 aj : Int
 Seq : Int
 bh : Bool
 Links : List bu
 Claims : List bx
instance : Inhabited ak := ⟨ak.mk (0:Int) (0:Int) false [] []⟩
def aJ : En ak := ⟨fun x => [.int .i64 x.aj, .int .i64 x.Seq, .bool x.bh, .lst false (ml bn x.Links), .lst false (ml aR x.Claims)], 5, fun _ => rfl, fun _ => rfl, fun _ => rfl⟩
structure aH where
 ay : List ak
instance : Inhabited aH := ⟨aH.mk []⟩
def tJ : En aH := ⟨fun x => [.lst false (ml aJ x.ay)], 1, fun _ => rfl, fun _ => rfl, fun _ => rfl⟩
structure aU where
 aj : Int
 Seq : Int
 bh : Bool
 Claims : List bx
 Database : aH
instance : Inhabited aU := ⟨aU.mk (0:Int) (0:Int) false [] (aH.mk [])⟩
def aL : En aU := ⟨fun x => [.int .i64 x.aj, .int .i64 x.Seq, .bool x.bh, .lst false (ml aR x.Claims), .lst false (ml aJ x.Database.ay)], 5, fun _ => rfl, fun _ => rfl, fun _ => rfl⟩
structure bP where
 kT : Int
 To : Int
 Database : aH
instance : Inhabited bP := ⟨bP.mk (0:Int) (0:Int) (aH.mk [])⟩
def aN : En bP := ⟨fun x => [.int .i64 x.kT, .int .i64 x.To, .lst false (ml aJ x.Database.ay)], 3, fun _ => rfl, fun _ => rfl, fun _ => rfl⟩
structure gi where
 aj : Int
 Claim : bx
instance : Inhabited gi := ⟨gi.mk (0:Int) (bx.mk (0:Int) (0:Int) (0:Int))⟩
def ep : En gi := ⟨fun x => [.int .i64 x.aj, .int .i64 x.Claim.cg, .int .i64 x.Claim.ID, .int .i64 x.Claim.Length], 4, fun _ => rfl, fun _ => rfl, fun _ => rfl⟩
structure bf where
 Data : List Int
 Bits : Int
instance : Inhabited bf := ⟨bf.mk [] (0:Int)⟩
structure bL where
 s_ : bf
instance : Inhabited bL := ⟨bL.mk (bf.mk [] (0:Int))⟩
structure aA where
 Links : List aX
 aG : List aU
 aF : List bP
instance : Inhabited aA := ⟨aA.mk [] [] []⟩
def cI : En aA := ⟨fun x => [.lst false (ml az x.Links), .lst false (ml aL x.aG), .lst false (ml aN x.aF)], 3, fun _ => rfl, fun _ => rfl, fun _ => rfl⟩
structure aT where
 f_ : aA
instance : Inhabited aT := ⟨aT.mk (aA.mk [] [] [])⟩
def ti1 : TI := ⟨1, false, some [.nilFunc], .oth⟩
theorem tk1 : bX Tryz.prog 1 ti1 := ⟨ty1, fun zs h => by cases h; exact ze1, trivial⟩
def ti2 : TI := ⟨1, false, some [.int .i64 0], .int .i64⟩
theorem tk2 : bX Tryz.prog 2 ti2 := ⟨ty2, fun zs h => by cases h; exact ze2, Tryz.underlying2⟩
def ti3 : TI := ⟨1, false, some [.int .i64 0], .int .i64⟩
theorem tk3 : bX Tryz.prog 3 ti3 := ⟨ty3, fun zs h => by cases h; exact ze3, Tryz.underlying3⟩
def ti4 : TI := ⟨1, false, some [.bool false], .bool⟩
theorem tk4 : bX Tryz.prog 4 ti4 := ⟨ty4, fun zs h => by cases h; exact ze4, Tryz.underlying4⟩
def ti5 : TI := ⟨1, false, some [.int .u8 0], .int .u8⟩
theorem tk5 : bX Tryz.prog 5 ti5 := ⟨ty5, fun zs h => by cases h; exact ze5, Tryz.underlying5⟩
def ti6 : TI := ⟨1, false, some [.int .u8 0], .int .u8⟩
theorem tk6 : bX Tryz.prog 6 ti6 := ⟨ty6, fun zs h => by cases h; exact ze6, Tryz.underlying6⟩
def ti7 : TI := ⟨4, true, some [.int .i64 0, .int .i64 0, .bool false, .int .u8 0], .struct [.int .i64 0, .int .i64 0, .bool false, .int .u8 0] [(0, 1), (1, 1), (2, 1), (3, 1)] [false, false, false, false]⟩
theorem tk7 : bX Tryz.prog 7 ti7 := ⟨ty7, fun zs h => by cases h; exact ze7, cr str7 ⟨an4, an5, an6, an7, trivial⟩ ⟨an8, an9, aoa, aob, trivial⟩⟩
def ti8 : TI := ⟨4, true, some [.int .i64 0, .int .i64 0, .bool false, .int .u8 0], .struct [.int .i64 0, .int .i64 0, .bool false, .int .u8 0] [(0, 1), (1, 1), (2, 1), (3, 1)] [false, false, false, false]⟩
theorem tk8 : bX Tryz.prog 8 ti8 := ⟨ty8, fun zs h => by cases h; exact ze8, cr str8 ⟨aoc, aod, aoe, aof, trivial⟩ ⟨aog, aoh, aoi, aoj, trivial⟩⟩
def ti9 : TI := ⟨1, false, some [.string ⟨#[]⟩], .str⟩
theorem tk9 : bX Tryz.prog 9 ti9 := ⟨ty9, fun zs h => by cases h; exact ze9, Tryz.underlying9⟩
def apd : TI := ⟨1, false, some [.string ⟨#[]⟩], .str⟩
theorem tk10 : bX Tryz.prog 10 apd := ⟨ty10, fun zs h => by cases h; exact ze10, Tryz.underlying10⟩
def ape : TI := ⟨1, false, some [.string ⟨#[]⟩], .str⟩
theorem tk11 : bX Tryz.prog 11 ape := ⟨ty11, fun zs h => by cases h; exact ze11, Tryz.underlying11⟩
def apf : TI := ⟨1, false, some [.int .u64 0], .int .u64⟩
theorem tk12 : bX Tryz.prog 12 apf := ⟨zI, fun zs h => by cases h; exact ze12, Tryz.underlying12⟩
def apg : TI := ⟨2, true, some [.string ⟨#[]⟩, .int .u64 0], .struct [.string ⟨#[]⟩, .int .u64 0] [(0, 1), (1, 1)] [false, false]⟩
theorem tk13 : bX Tryz.prog 13 apg := ⟨ty13, fun zs h => by cases h; exact ze13, cr arO ⟨akS, akT, trivial⟩ ⟨akU, akV, trivial⟩⟩
def aph : TI := ⟨2, true, some [.string ⟨#[]⟩, .int .u64 0], .struct [.string ⟨#[]⟩, .int .u64 0] [(0, 1), (1, 1)] [false, false]⟩
theorem tk14 : bX Tryz.prog 14 aph := ⟨ty14, fun zs h => by cases h; exact ze14, cr arP ⟨akW, akX, trivial⟩ ⟨akY, akZ, trivial⟩⟩
def api : TI := ⟨1, false, some [.pointer none], .oth⟩
theorem tk15 : bX Tryz.prog 15 api := ⟨ty15, fun zs h => by cases h; exact ze15, trivial⟩
def apj : TI := ⟨1, false, some [.pointer none], .oth⟩
theorem tk16 : bX Tryz.prog 16 apj := ⟨ty16, fun zs h => by cases h; exact ze16, trivial⟩
def apk : TI := ⟨1, false, some [.pointer none], .oth⟩
theorem tk17 : bX Tryz.prog 17 apk := ⟨wF, fun zs h => by cases h; exact ze17, trivial⟩
def apl : TI := ⟨1, true, some [.pointer none], .struct [.pointer none] [(0, 1)] [false]⟩
theorem tk18 : bX Tryz.prog 18 apl := ⟨ty18, fun zs h => by cases h; exact ze18, cr arQ ⟨ak0, trivial⟩ ⟨ak1, trivial⟩⟩
def apm : TI := ⟨1, true, some [.pointer none], .struct [.pointer none] [(0, 1)] [false]⟩
theorem tk19 : bX Tryz.prog 19 apm := ⟨ty19, fun zs h => by cases h; exact ze19, cr arR ⟨ak2, trivial⟩ ⟨ak3, trivial⟩⟩
def apn : TI := ⟨1, false, some [.int .i32 0], .int .i32⟩
theorem tk21 : bX Tryz.prog 21 apn := ⟨ty21, fun zs h => by cases h; exact ze21, Tryz.underlying21⟩
def apo : TI := ⟨1, false, some [.slice none 0 0], .slice 3 1 8 [.int .i64 0]⟩
theorem tk22 : bX Tryz.prog 22 apo := ⟨acO, fun zs h => by cases h; exact ze22, ⟨sl22, arS, arT⟩⟩
def apq : TI := ⟨1, false, some [.slice none 0 0], .slice 78 5 40 [.int .i64 0, .int .i64 0, .int .i64 0, .int .i64 0, .int .i64 0]⟩
theorem tk23 : bX Tryz.prog 23 apq := ⟨acP, fun zs h => by cases h; exact anW, ⟨sl23, arU, arV⟩⟩
def apr : TI := ⟨1, false, some [.slice none 0 0], .slice 81 5 72 [.int .i64 0, .int .i64 0, .bool false, .slice none 0 0, .slice none 0 0]⟩
theorem tk24 : bX Tryz.prog 24 apr := ⟨agP, fun zs h => by cases h; exact ze24, ⟨sl24, arW, arX⟩⟩
def aps : TI := ⟨1, false, some [.slice none 0 0], .slice 62 3 40 [.int .i64 0, .int .i64 0, .slice none 0 0]⟩
theorem tk25 : bX Tryz.prog 25 aps := ⟨agQ, fun zs h => by cases h; exact ze25, ⟨sl25, arY, arZ⟩⟩
def apt : TI := ⟨3, true, some [.slice none 0 0, .slice none 0 0, .slice none 0 0], .struct [.slice none 0 0, .slice none 0 0, .slice none 0 0] [(0, 1), (1, 1), (2, 1)] [false, false, false]⟩
theorem tk26 : bX Tryz.prog 26 apt := ⟨ty26, fun zs h => by cases h; exact ze26, cr ar0 ⟨ak4, ak5, ak6, trivial⟩ ⟨ak7, ak8, ak9, trivial⟩⟩
def apu : TI := ⟨3, true, some [.slice none 0 0, .slice none 0 0, .slice none 0 0], .struct [.slice none 0 0, .slice none 0 0, .slice none 0 0] [(0, 1), (1, 1), (2, 1)] [false, false, false]⟩
theorem tk27 : bX Tryz.prog 27 apu := ⟨agR, fun zs h => by cases h; exact anX, cr ar1 ⟨ala, alb, alc, trivial⟩ ⟨ald, ale, alf, trivial⟩⟩
def apv : TI := ⟨1, false, some [.pointer none], .oth⟩
theorem tk28 : bX Tryz.prog 28 apv := ⟨ty28, fun zs h => by cases h; exact ze28, trivial⟩
def apw : TI := ⟨1, false, some [.slice none 0 0], .slice 27 3 72 [.slice none 0 0, .slice none 0 0, .slice none 0 0]⟩
theorem tk32 : bX Tryz.prog 32 apw := ⟨ty32, fun zs h => by cases h; exact ze32, ⟨sl32, ar2, ar3⟩⟩
def apx : TI := ⟨1, false, some [.int .i64 0], .int .i64⟩
theorem tk34 : bX Tryz.prog 34 apx := ⟨ty34, fun zs h => by cases h; exact ze34, Tryz.underlying34⟩
def apy : TI := ⟨1, false, some [.slice none 0 0], .slice 87 2 16 [.int .i64 0, .bool false]⟩
theorem tk42 : bX Tryz.prog 42 apy := ⟨agS, fun zs h => by cases h; exact ze42, ⟨sl42, ar4, ar5⟩⟩
def apz : TI := ⟨2, true, some [.slice none 0 0, .slice none 0 0], .struct [.slice none 0 0, .slice none 0 0] [(0, 1), (1, 1)] [false, false]⟩
theorem tk43 : bX Tryz.prog 43 apz := ⟨ty43, fun zs h => by cases h; exact ze43, cr ar6 ⟨alg, alh, trivial⟩ ⟨ali, alj, trivial⟩⟩
def apA : TI := ⟨2, true, some [.slice none 0 0, .slice none 0 0], .struct [.slice none 0 0, .slice none 0 0] [(0, 1), (1, 1)] [false, false]⟩
theorem tk44 : bX Tryz.prog 44 apA := ⟨ty44, fun zs h => by cases h; exact ze44, cr ar7 ⟨alk, alm, trivial⟩ ⟨aln, alo, trivial⟩⟩
def apB : TI := ⟨1, false, some [.slice none 0 0], .slice 106 3 24 [.int .i64 0, .int .i64 0, .int .i64 0]⟩
theorem tk47 : bX Tryz.prog 47 apB := ⟨agT, fun zs h => by cases h; exact ze47, ⟨sl47, ar8, ar9⟩⟩
def apC : TI := ⟨1, false, some [.slice none 0 0], .slice 85 3 24 [.int .i64 0, .int .i64 0, .int .i64 0]⟩
theorem tk48 : bX Tryz.prog 48 apC := ⟨acQ, fun zs h => by cases h; exact ze48, ⟨sl48, asa, asb⟩⟩
def apD : TI := ⟨5, true, some [.int .i64 0, .int .i64 0, .bool false, .slice none 0 0, .slice none 0 0], .struct [.int .i64 0, .int .i64 0, .bool false, .slice none 0 0, .slice none 0 0] [(0, 1), (1, 1), (2, 1), (3, 1), (4, 1)] [false, false, false, false, false]⟩
theorem tk49 : bX Tryz.prog 49 apD := ⟨ty49, fun zs h => by cases h; exact ze49, cr asd ⟨alp, alq, alr, als, alu, trivial⟩ ⟨alv, alw, alx, aly, alz, trivial⟩⟩
def apF : TI := ⟨5, true, some [.int .i64 0, .int .i64 0, .bool false, .slice none 0 0, .slice none 0 0], .struct [.int .i64 0, .int .i64 0, .bool false, .slice none 0 0, .slice none 0 0] [(0, 1), (1, 1), (2, 1), (3, 1), (4, 1)] [false, false, false, false, false]⟩
theorem tk50 : bX Tryz.prog 50 apF := ⟨ty50, fun zs h => by cases h; exact anY, cr ase ⟨alA, alB, alC, alD, alF, trivial⟩ ⟨alG, alH, alI, alJ, alK, trivial⟩⟩
def apG : TI := ⟨1, false, some [.nilFunc], .oth⟩
theorem tk53 : bX Tryz.prog 53 apG := ⟨ty53, fun zs h => by cases h; exact ze53, trivial⟩
def apH : TI := ⟨1, false, some [.slice none 0 0], .slice 50 5 72 [.int .i64 0, .int .i64 0, .bool false, .slice none 0 0, .slice none 0 0]⟩
theorem tk58 : bX Tryz.prog 58 apH := ⟨agU, fun zs h => by cases h; exact ze58, ⟨sl58, asf, asg⟩⟩
def apI : TI := ⟨1, true, some [.slice none 0 0], .struct [.slice none 0 0] [(0, 1)] [false]⟩
theorem tk59 : bX Tryz.prog 59 apI := ⟨ty59, fun zs h => by cases h; exact ze59, cr ash ⟨alL, trivial⟩ ⟨alM, trivial⟩⟩
def apJ : TI := ⟨1, true, some [.slice none 0 0], .struct [.slice none 0 0] [(0, 1)] [false]⟩
theorem tk60 : bX Tryz.prog 60 apJ := ⟨acR, fun zs h => by cases h; exact ze60, cr asi ⟨alN, trivial⟩ ⟨alO, trivial⟩⟩
def apK : TI := ⟨3, true, some [.int .i64 0, .int .i64 0, .slice none 0 0], .struct [.int .i64 0, .int .i64 0, .slice none 0 0] [(0, 1), (1, 1), (2, 1)] [false, false, true]⟩
theorem tk61 : bX Tryz.prog 61 apK := ⟨ty61, fun zs h => by cases h; exact ze61, cr asj ⟨alP, alQ, alR, trivial⟩ ⟨alS, alT, alU, trivial⟩⟩
def apL : TI := ⟨3, true, some [.int .i64 0, .int .i64 0, .slice none 0 0], .struct [.int .i64 0, .int .i64 0, .slice none 0 0] [(0, 1), (1, 1), (2, 1)] [false, false, true]⟩
theorem tk62 : bX Tryz.prog 62 apL := ⟨ty62, fun zs h => by cases h; exact anZ, cr asl ⟨alV, alW, alX, trivial⟩ ⟨alY, alZ, al0, trivial⟩⟩
def apM : TI := ⟨1, false, some [.slice none 0 0], .slice 120 2 16 [.int .i64 0, .int .i64 0]⟩
theorem tk65 : bX Tryz.prog 65 apM := ⟨agV, fun zs h => by cases h; exact ze65, ⟨sl65, asm, asn⟩⟩
def apN : TI := ⟨2, true, some [.slice none 0 0, .slice none 0 0], .struct [.slice none 0 0, .slice none 0 0] [(0, 1), (1, 1)] [false, false]⟩
theorem tk66 : bX Tryz.prog 66 apN := ⟨ty66, fun zs h => by cases h; exact ze66, cr aso ⟨al1, al2, trivial⟩ ⟨al3, al4, trivial⟩⟩
def apO : TI := ⟨2, true, some [.slice none 0 0, .slice none 0 0], .struct [.slice none 0 0, .slice none 0 0] [(0, 1), (1, 1)] [false, false]⟩
theorem tk67 : bX Tryz.prog 67 apO := ⟨ty67, fun zs h => by cases h; exact ze67, cr asp ⟨al5, al6, trivial⟩ ⟨al7, al8, trivial⟩⟩
def apP : TI := ⟨1, false, some [.slice none 0 0], .slice 23 1 24 [.slice none 0 0]⟩
theorem tk70 : bX Tryz.prog 70 apP := ⟨ty70, fun zs h => by cases h; exact ze70, ⟨sl70, asq, asr⟩⟩
def apQ : TI := ⟨2, true, some [.slice none 0 0, .int .i64 0], .struct [.slice none 0 0, .int .i64 0] [(0, 1), (1, 1)] [false, false]⟩
theorem tk73 : bX Tryz.prog 73 apQ := ⟨ty73, fun zs h => by cases h; exact ze73, cr ass ⟨al9, ama, trivial⟩ ⟨amb, amc, trivial⟩⟩
def apR : TI := ⟨2, true, some [.slice none 0 0, .int .i64 0], .struct [.slice none 0 0, .int .i64 0] [(0, 1), (1, 1)] [false, false]⟩
theorem tk74 : bX Tryz.prog 74 apR := ⟨ty74, fun zs h => by cases h; exact ze74, cr ast ⟨amd, ame, trivial⟩ ⟨amf, amg, trivial⟩⟩
def apS : TI := ⟨1, false, some [.nilFunc], .oth⟩
theorem tk75 : bX Tryz.prog 75 apS := ⟨ty75, fun zs h => by cases h; exact ze75, trivial⟩
def apT : TI := ⟨5, true, some [.int .i64 0, .int .i64 0, .int .i64 0, .int .i64 0, .int .i64 0], .struct [.int .i64 0, .int .i64 0, .int .i64 0, .int .i64 0, .int .i64 0] [(0, 1), (1, 1), (2, 1), (3, 1), (4, 1)] [false, false, false, false, false]⟩
theorem tk77 : bX Tryz.prog 77 apT := ⟨ty77, fun zs h => by cases h; exact ze77, cr asu ⟨amh, ami, amj, amk, aml, trivial⟩ ⟨amm, amn, amo, amp, amq, trivial⟩⟩
def apU : TI := ⟨5, true, some [.int .i64 0, .int .i64 0, .int .i64 0, .int .i64 0, .int .i64 0], .struct [.int .i64 0, .int .i64 0, .int .i64 0, .int .i64 0, .int .i64 0] [(0, 1), (1, 1), (2, 1), (3, 1), (4, 1)] [false, false, false, false, false]⟩
theorem tk78 : bX Tryz.prog 78 apU := ⟨ty78, fun zs h => by cases h; exact an0, cr asv ⟨amr, ams, amt, amu, amv, trivial⟩ ⟨amw, amx, amy, amz, amA, trivial⟩⟩
def apV : TI := ⟨5, true, some [.int .i64 0, .int .i64 0, .bool false, .slice none 0 0, .slice none 0 0], .struct [.int .i64 0, .int .i64 0, .bool false, .slice none 0 0, .slice none 0 0] [(0, 1), (1, 1), (2, 1), (3, 1), (4, 1)] [false, false, false, false, true]⟩
theorem tk80 : bX Tryz.prog 80 apV := ⟨ty80, fun zs h => by cases h; exact ze80, cr asx ⟨amB, amC, amD, amE, amF, trivial⟩ ⟨amG, amH, amI, amJ, amK, trivial⟩⟩
def apW : TI := ⟨5, true, some [.int .i64 0, .int .i64 0, .bool false, .slice none 0 0, .slice none 0 0], .struct [.int .i64 0, .int .i64 0, .bool false, .slice none 0 0, .slice none 0 0] [(0, 1), (1, 1), (2, 1), (3, 1), (4, 1)] [false, false, false, false, true]⟩
theorem tk81 : bX Tryz.prog 81 apW := ⟨ty81, fun zs h => by cases h; exact an1, cr asy ⟨amL, amM, amN, amO, amP, trivial⟩ ⟨amQ, amR, amS, amT, amU, trivial⟩⟩
def apX : TI := ⟨3, true, some [.int .i64 0, .int .i64 0, .int .i64 0], .struct [.int .i64 0, .int .i64 0, .int .i64 0] [(0, 1), (1, 1), (2, 1)] [false, false, false]⟩
theorem tk84 : bX Tryz.prog 84 apX := ⟨ty84, fun zs h => by cases h; exact ze84, cr asz ⟨amV, amW, amX, trivial⟩ ⟨amY, amZ, am0, trivial⟩⟩
def apY : TI := ⟨3, true, some [.int .i64 0, .int .i64 0, .int .i64 0], .struct [.int .i64 0, .int .i64 0, .int .i64 0] [(0, 1), (1, 1), (2, 1)] [false, false, false]⟩
theorem tk85 : bX Tryz.prog 85 apY := ⟨agX, fun zs h => by cases h; exact an2, cr asA ⟨am1, am2, am3, trivial⟩ ⟨am4, am5, am6, trivial⟩⟩
def apZ : TI := ⟨2, true, some [.int .i64 0, .bool false], .struct [.int .i64 0, .bool false] [(0, 1), (1, 1)] [false, false]⟩
theorem tk86 : bX Tryz.prog 86 apZ := ⟨ty86, fun zs h => by cases h; exact ze86, cr asC ⟨am7, am8, trivial⟩ ⟨am9, ana, trivial⟩⟩
def ap0 : TI := ⟨2, true, some [.int .i64 0, .bool false], .struct [.int .i64 0, .bool false] [(0, 1), (1, 1)] [false, false]⟩
theorem tk87 : bX Tryz.prog 87 ap0 := ⟨ty87, fun zs h => by cases h; exact an3, cr asD ⟨anb, anc, trivial⟩ ⟨ane, anf, trivial⟩⟩
def ap1 : TI := ⟨1, false, some [.pointer none], .oth⟩
theorem tk88 : bX Tryz.prog 88 ap1 := ⟨ty88, fun zs h => by cases h; exact ze88, trivial⟩
def ap2 : TI := ⟨3, true, some [.slice none 0 0, .slice none 0 0, .slice none 0 0], .struct [.slice none 0 0, .slice none 0 0, .slice none 0 0] [(0, 3)] [true]⟩
theorem tk90 : bX Tryz.prog 90 ap2 := ⟨ty90, fun zs h => by cases h; exact ze90, cr asF ⟨ang, trivial⟩ ⟨anh, trivial⟩⟩
def ap3 : TI := ⟨3, true, some [.slice none 0 0, .slice none 0 0, .slice none 0 0], .struct [.slice none 0 0, .slice none 0 0, .slice none 0 0] [(0, 3)] [true]⟩
theorem tk91 : bX Tryz.prog 91 ap3 := ⟨ty91, fun zs h => by cases h; exact ze91, cr asG ⟨ani, trivial⟩ ⟨anj, trivial⟩⟩
def ap4 : TI := ⟨1, false, some [.slice none 0 0], .slice 1 1 8 [.nilFunc]⟩
theorem tk92 : bX Tryz.prog 92 ap4 := ⟨ty92, fun zs h => by cases h; exact ze92, ⟨sl92, asH, asI⟩⟩
def ap5 : TI := ⟨1, false, some [.nilFunc], .oth⟩
theorem tk95 : bX Tryz.prog 95 ap5 := ⟨ty95, fun zs h => by cases h; exact ze95, trivial⟩
def ajz : TI := ⟨3, true, some [.int .i64 0, .int .i64 0, .int .i64 0], .struct [.int .i64 0, .int .i64 0, .int .i64 0] [(0, 1), (1, 1), (2, 1)] [false, false, false]⟩
theorem atq : bX Tryz.prog 105 ajz := ⟨asJ, fun zs h => by cases h; exact aq6, cr aok ⟨agZ, ag0, ag3, trivial⟩ ⟨ag4, ag5, ag6, trivial⟩⟩
def ajA : TI := ⟨3, true, some [.int .i64 0, .int .i64 0, .int .i64 0], .struct [.int .i64 0, .int .i64 0, .int .i64 0] [(0, 1), (1, 1), (2, 1)] [false, false, false]⟩
theorem atr : bX Tryz.prog 106 ajA := ⟨asK, fun zs h => by cases h; exact ajt, cr aol ⟨ag7, ag8, ag9, trivial⟩ ⟨aha, ahb, ahc, trivial⟩⟩
def ajB : TI := ⟨1, false, some [.nilFunc], .oth⟩
theorem att : bX Tryz.prog 109 ajB := ⟨asL, fun zs h => by cases h; exact aq7, trivial⟩
def ajC : TI := ⟨2, true, some [.int .i64 0, .int .i64 0], .struct [.int .i64 0, .int .i64 0] [(0, 1), (1, 1)] [false, false]⟩
theorem atu : bX Tryz.prog 119 ajC := ⟨asM, fun zs h => by cases h; exact aq8, cr aon ⟨ahd, ahe, trivial⟩ ⟨ahf, ahg, trivial⟩⟩
def ajD : TI := ⟨2, true, some [.int .i64 0, .int .i64 0], .struct [.int .i64 0, .int .i64 0] [(0, 1), (1, 1)] [false, false]⟩
theorem atv : bX Tryz.prog 120 ajD := ⟨asN, fun zs h => by cases h; exact aju, cr aoo ⟨ahh, ahi, trivial⟩ ⟨ahj, ahk, trivial⟩⟩
def ajE : TI := ⟨1, false, some [.nilFunc], .oth⟩
theorem atw : bX Tryz.prog 123 ajE := ⟨asO, fun zs h => by cases h; exact aq9, trivial⟩
def ajF : TI := ⟨1, false, some [.pointer none], .oth⟩
theorem atx : bX Tryz.prog 124 ajF := ⟨asP, fun zs h => by cases h; exact ara, trivial⟩
def ajG : TI := ⟨1, false, some [.nilFunc], .oth⟩
theorem aty : bX Tryz.prog 133 ajG := ⟨asQ, fun zs h => by cases h; exact arb, trivial⟩
def ajH : TI := ⟨1, false, some [.nilFunc], .oth⟩
theorem atz : bX Tryz.prog 135 ajH := ⟨asR, fun zs h => by cases h; exact arc, trivial⟩
def ajI : TI := ⟨1, false, some [.nilFunc], .oth⟩
theorem atA : bX Tryz.prog 137 ajI := ⟨asS, fun zs h => by cases h; exact ard, trivial⟩
def ajJ : TI := ⟨1, false, some [.nilFunc], .oth⟩
theorem atB : bX Tryz.prog 138 ajJ := ⟨asT, fun zs h => by cases h; exact arf, trivial⟩
def ajK : TI := ⟨1, false, some [.nilFunc], .oth⟩
theorem atC : bX Tryz.prog 141 ajK := ⟨asU, fun zs h => by cases h; exact arh, trivial⟩
def ajL : TI := ⟨1, false, some [.slice none 0 0], .slice 155 4 32 [.int .i64 0, .int .i64 0, .int .i64 0, .int .i64 0]⟩
theorem atD : bX Tryz.prog 152 ajL := ⟨asV, fun zs h => by cases h; exact ari, ⟨asW, aop, aoq⟩⟩
def ajM : TI := ⟨4, true, some [.int .i64 0, .int .i64 0, .int .i64 0, .int .i64 0], .struct [.int .i64 0, .int .i64 0, .int .i64 0, .int .i64 0] [(0, 1), (1, 3)] [false, true]⟩
theorem atE : bX Tryz.prog 154 ajM := ⟨asX, fun zs h => by cases h; exact arj, cr aor ⟨ahl, ahm, trivial⟩ ⟨ahn, aho, trivial⟩⟩
def ajN : TI := ⟨4, true, some [.int .i64 0, .int .i64 0, .int .i64 0, .int .i64 0], .struct [.int .i64 0, .int .i64 0, .int .i64 0, .int .i64 0] [(0, 1), (1, 3)] [false, true]⟩
theorem atF : bX Tryz.prog 155 ajN := ⟨asY, fun zs h => by cases h; exact ajv, cr aos ⟨ahp, ahq, trivial⟩ ⟨ahr, ahs, trivial⟩⟩
def ajO : TI := ⟨1, false, some [.nilFunc], .oth⟩
theorem atG : bX Tryz.prog 156 ajO := ⟨asZ, fun zs h => by cases h; exact ark, trivial⟩
def ajP : TI := ⟨1, false, some [.int .u64 0], .int .u64⟩
theorem atH : bX Tryz.prog 165 ajP := ⟨as0, fun zs h => by cases h; exact arl, Tryz.underlying165⟩
def ajQ : TI := ⟨1, false, some [.pointer none], .oth⟩
theorem atI : bX Tryz.prog 174 ajQ := ⟨as1, fun zs h => by cases h; exact arn, trivial⟩
def ajR : TI := ⟨1, false, some [.nilFunc], .oth⟩
theorem atJ : bX Tryz.prog 180 ajR := ⟨as2, fun zs h => by cases h; exact aro, trivial⟩
def ajS : TI := ⟨1, false, some [.slice none 0 0], .slice 5 1 1 [.int .u8 0]⟩
theorem atK : bX Tryz.prog 182 ajS := ⟨aeH, fun zs h => by cases h; exact arp, ⟨as3, aot, aou⟩⟩
def ajT : TI := ⟨1, false, some [.int .i64 0], .int .i64⟩
theorem atL : bX Tryz.prog 186 ajT := ⟨as4, fun zs h => by cases h; exact arq, Tryz.underlying186⟩
def ajU : TI := ⟨1, false, some [.int .u32 0], .int .u32⟩
theorem atM : bX Tryz.prog 194 ajU := ⟨aeI, fun zs h => by cases h; exact ars, Tryz.underlying194⟩
def ajV : TI := ⟨1, false, some [.int .u64 0], .int .u64⟩
theorem atN : bX Tryz.prog 196 ajV := ⟨as5, fun zs h => by cases h; exact art, Tryz.underlying196⟩
def ajW : TI := ⟨2, true, some [.slice none 0 0, .int .i64 0], .struct [.slice none 0 0, .int .i64 0] [(0, 1), (1, 1)] [false, false]⟩
theorem atO : bX Tryz.prog 200 ajW := ⟨as6, fun zs h => by cases h; exact aru, cr aov ⟨aht, ahu, trivial⟩ ⟨ahv, ahw, trivial⟩⟩
def ajX : TI := ⟨2, true, some [.slice none 0 0, .int .i64 0], .struct [.slice none 0 0, .int .i64 0] [(0, 1), (1, 1)] [false, false]⟩
theorem atP : bX Tryz.prog 201 ajX := ⟨aeJ, fun zs h => by cases h; exact arv, cr aow ⟨ahx, ahy, trivial⟩ ⟨ahz, ahA, trivial⟩⟩
def ajY : TI := ⟨1, false, some [.int .u64 0], .int .u64⟩
theorem atQ : bX Tryz.prog 207 ajY := ⟨as7, fun zs h => by cases h; exact arw, Tryz.underlying207⟩
def ajZ : TI := ⟨1, false, some [.pointer none], .oth⟩
theorem atS : bX Tryz.prog 211 ajZ := ⟨as8, fun zs h => by cases h; exact arx, trivial⟩
def aj0 : TI := ⟨2, true, some [.slice none 0 0, .int .i64 0], .struct [.slice none 0 0, .int .i64 0] [(0, 2)] [true]⟩
theorem atT : bX Tryz.prog 213 aj0 := ⟨as9, fun zs h => by cases h; exact ary, cr aox ⟨ahB, trivial⟩ ⟨ahC, trivial⟩⟩
def aj1 : TI := ⟨2, true, some [.slice none 0 0, .int .i64 0], .struct [.slice none 0 0, .int .i64 0] [(0, 2)] [true]⟩
theorem atU : bX Tryz.prog 214 aj1 := ⟨ata, fun zs h => by cases h; exact arz, cr aoy ⟨ahD, trivial⟩ ⟨ahE, trivial⟩⟩
def aj2 : TI := ⟨1, false, some [.pointer none], .oth⟩
theorem atV : bX Tryz.prog 220 aj2 := ⟨atb, fun zs h => by cases h; exact arA, trivial⟩
def aj3 : TI := ⟨1, false, some [.pointer none], .oth⟩
theorem atW : bX Tryz.prog 224 aj3 := ⟨atc, fun zs h => by cases h; exact arB, trivial⟩
def aj4 : TI := ⟨1, false, some [.pointer none], .oth⟩
theorem atX : bX Tryz.prog 228 aj4 := ⟨atd, fun zs h => by cases h; exact arC, trivial⟩
def aj5 : TI := ⟨4, true, some [.pointer none, .pointer none, .pointer none, .string ⟨#[]⟩], .struct [.pointer none, .pointer none, .pointer none, .string ⟨#[]⟩] [(0, 1), (1, 1), (2, 1), (3, 1)] [false, false, false, false]⟩
theorem atY : bX Tryz.prog 230 aj5 := ⟨ate, fun zs h => by cases h; exact arD, cr aoz ⟨ahF, ahG, ahH, ahI, trivial⟩ ⟨ahJ, ahK, ahL, ahM, trivial⟩⟩
def aj6 : TI := ⟨4, true, some [.pointer none, .pointer none, .pointer none, .string ⟨#[]⟩], .struct [.pointer none, .pointer none, .pointer none, .string ⟨#[]⟩] [(0, 1), (1, 1), (2, 1), (3, 1)] [false, false, false, false]⟩
theorem atZ : bX Tryz.prog 231 aj6 := ⟨atf, fun zs h => by cases h; exact arE, cr aoA ⟨ahN, ahO, ahP, ahQ, trivial⟩ ⟨ahR, ahS, ahT, ahU, trivial⟩⟩
def aj7 : TI := ⟨0, true, some [], .oth⟩
theorem at0 : bX Tryz.prog 232 aj7 := ⟨atg, fun zs h => by cases h; exact arF, trivial⟩
def aj8 : TI := ⟨1, false, some [.int .u8 0], .int .u8⟩
theorem at3 : bX Tryz.prog 235 aj8 := ⟨aeK, fun zs h => by cases h; exact arG, Tryz.underlying235⟩
def aj9 : TI := ⟨1, false, some [.int .u8 0], .int .u8⟩
theorem at4 : bX Tryz.prog 236 aj9 := ⟨aeL, fun zs h => by cases h; exact arH, Tryz.underlying236⟩
def aka : TI := ⟨1, false, some [.nilFunc], .oth⟩
theorem at5 : bX Tryz.prog 237 aka := ⟨aeM, fun zs h => by cases h; exact arI, trivial⟩
def akb : TI := ⟨1, false, some [.pointer none], .oth⟩
theorem at6 : bX Tryz.prog 238 akb := ⟨aeN, fun zs h => by cases h; exact arJ, trivial⟩
def akc : TI := ⟨1, false, some [.int .i32 0], .int .i32⟩
theorem at7 : bX Tryz.prog 239 akc := ⟨aeO, fun zs h => by cases h; exact arK, Tryz.underlying239⟩
def akd : TI := ⟨1, false, some [.int .i32 0], .int .i32⟩
theorem at8 : bX Tryz.prog 240 akd := ⟨aeP, fun zs h => by cases h; exact arL, Tryz.underlying240⟩
def ake : TI := ⟨11, true, some [.int .u64 0, .int .u64 0, .int .u32 0, .int .u8 0, .int .u8 0, .int .u8 0, .int .u8 0, .nilFunc, .pointer none, .int .i32 0, .int .i32 0], .struct [.int .u64 0, .int .u64 0, .int .u32 0, .int .u8 0, .int .u8 0, .int .u8 0, .int .u8 0, .nilFunc, .pointer none, .int .i32 0, .int .i32 0] [(0, 1), (1, 1), (2, 1), (3, 1), (4, 1), (5, 1), (6, 1), (7, 1), (8, 1), (9, 1), (10, 1)] [false, false, false, false, false, false, false, false, false, false, false]⟩
theorem at9 : bX Tryz.prog 241 ake := ⟨ath, fun zs h => by cases h; exact arM, cr aoB ⟨ahV, ahW, ahX, ahY, ahZ, ah0, ah1, ah2, ah3, ah4, afU, trivial⟩ ⟨ah5, ah6, ah7, ah8, ah9, aia, aib, aic, aid, aie, afV, trivial⟩⟩
def akf : TI := ⟨11, true, some [.int .u64 0, .int .u64 0, .int .u32 0, .int .u8 0, .int .u8 0, .int .u8 0, .int .u8 0, .nilFunc, .pointer none, .int .i32 0, .int .i32 0], .struct [.int .u64 0, .int .u64 0, .int .u32 0, .int .u8 0, .int .u8 0, .int .u8 0, .int .u8 0, .nilFunc, .pointer none, .int .i32 0, .int .i32 0] [(0, 1), (1, 1), (2, 1), (3, 1), (4, 1), (5, 1), (6, 1), (7, 1), (8, 1), (9, 1), (10, 1)] [false, false, false, false, false, false, false, false, false, false, false]⟩
theorem aua : bX Tryz.prog 242 akf := ⟨ati, fun zs h => by cases h; exact arN, cr aoC ⟨aif, aih, aii, aij, aik, ail, aim, ain, aio, aip, afW, trivial⟩ ⟨aiq, air, ais, ait, aiu, aiv, aiw, aix, aiy, aiz, afX, trivial⟩⟩
def tb : Tb := [(1, ti1), (2, ti2), (3, ti3), (4, ti4), (5, ti5), (6, ti6), (7, ti7), (8, ti8), (9, ti9), (10, apd), (11, ape), (12, apf), (13, apg), (14, aph), (15, api), (16, apj), (17, apk), (18, apl), (19, apm), (21, apn), (22, apo), (23, apq), (24, apr), (25, aps), (26, apt), (27, apu), (28, apv), (32, apw), (34, apx), (42, apy), (43, apz), (44, apA), (47, apB), (48, apC), (49, apD), (50, apF), (53, apG), (58, apH), (59, apI), (60, apJ), (61, apK), (62, apL), (65, apM), (66, apN), (67, apO), (70, apP), (73, apQ), (74, apR), (75, apS), (77, apT), (78, apU), (80, apV), (81, apW), (84, apX), (85, apY), (86, apZ), (87, ap0), (88, ap1), (90, ap2), (91, ap3), (92, ap4), (95, ap5), (105, ajz), (106, ajA), (109, ajB), (119, ajC), (120, ajD), (123, ajE), (124, ajF), (133, ajG), (135, ajH), (137, ajI), (138, ajJ), (141, ajK), (152, ajL), (154, ajM), (155, ajN), (156, ajO), (165, ajP), (174, ajQ), (180, ajR), (182, ajS), (186, ajT), (194, ajU), (196, ajV), (200, ajW), (201, ajX), (207, ajY), (211, ajZ), (213, aj0), (214, aj1), (220, aj2), (224, aj3), (228, aj4), (230, aj5), (231, aj6), (232, aj7), (235, aj8), (236, aj9), (237, aka), (238, akb), (239, akc), (240, akd), (241, ake), (242, akf)]
theorem W0 : Wld Tryz.prog tb := ⟨zH, ⟨tk1, tk2, tk3, tk4, tk5, tk6, tk7, tk8, tk9, tk10, tk11, tk12, tk13, tk14, tk15, tk16, tk17, tk18, tk19, tk21, tk22, tk23, tk24, tk25, tk26, tk27, tk28, tk32, tk34, tk42, tk43, tk44, tk47, tk48, tk49, tk50, tk53, tk58, tk59, tk60, tk61, tk62, tk65, tk66, tk67, tk70, tk73, tk74, tk75, tk77, tk78, tk80, tk81, tk84, tk85, tk86, tk87, tk88, tk90, tk91, tk92, tk95, atq, atr, att, atu, atv, atw, atx, aty, atz, atA, atB, atC, atD, atE, atF, atG, atH, atI, atJ, atK, atL, atM, atN, atO, atP, atQ, atS, atT, atU, atV, atW, atX, atY, atZ, at0, at3, at4, at5, at6, at7, at8, at9, aua, trivial⟩⟩
theorem ck9 : aM Tryz.prog 9 := ⟨Tryz.call9⟩
theorem ap6 : aM Tryz.prog 10 := ⟨Tryz.call10⟩
theorem aiQ : aM Tryz.prog 11 := ⟨Tryz.call11⟩
theorem ap7 : aM Tryz.prog 12 := ⟨Tryz.call12⟩
theorem ck13 : aM Tryz.prog 13 := ⟨Tryz.call13⟩
theorem td : aM Tryz.prog 15 := ⟨Tryz.call15⟩
theorem ap8 : aM Tryz.prog 16 := ⟨Tryz.call16⟩
theorem ux : aM Tryz.prog 17 := ⟨Tryz.call17⟩
theorem aiR : aM Tryz.prog 18 := ⟨Tryz.call18⟩
theorem aiS : aM Tryz.prog 19 := ⟨Tryz.call19⟩
theorem ap9 : aM Tryz.prog 20 := ⟨Tryz.call20⟩
theorem aiT : aM Tryz.prog 21 := ⟨Tryz.call21⟩
theorem zU : aM Tryz.prog 22 := ⟨Tryz.call22⟩
theorem vq : aM Tryz.prog 23 := ⟨Tryz.call23⟩
theorem vr : aM Tryz.prog 24 := ⟨Tryz.call24⟩
theorem ck25 : aM Tryz.prog 25 := ⟨Tryz.call25⟩
theorem aqa : aM Tryz.prog 26 := ⟨Tryz.call26⟩
theorem ae5 : aM Tryz.prog 27 := ⟨Tryz.call27⟩
theorem aiU : aM Tryz.prog 28 := ⟨Tryz.call28⟩
theorem ck29 : aM Tryz.prog 29 := ⟨Tryz.call29⟩
theorem ck30 : aM Tryz.prog 30 := ⟨Tryz.call30⟩
theorem ck31 : aM Tryz.prog 31 := ⟨Tryz.call31⟩
theorem ck32 : aM Tryz.prog 32 := ⟨Tryz.call32⟩
theorem ck33 : aM Tryz.prog 33 := ⟨Tryz.call33⟩
theorem ck34 : aM Tryz.prog 34 := ⟨Tryz.call34⟩
theorem ck38 : aM Tryz.prog 38 := ⟨Tryz.call38⟩
theorem zV : aM Tryz.prog 46 := ⟨Tryz.call46⟩
theorem jj : aM Tryz.prog 47 := ⟨Tryz.call47⟩
theorem zW : aM Tryz.prog 48 := ⟨Tryz.call48⟩
theorem aqb : aM Tryz.prog 49 := ⟨Tryz.call49⟩
theorem ri : aM Tryz.prog 50 := ⟨Tryz.call50⟩
theorem aqc : aM Tryz.prog 51 := ⟨Tryz.call51⟩
theorem aqd : aM Tryz.prog 52 := ⟨Tryz.call52⟩
theorem aqe : aM Tryz.prog 53 := ⟨Tryz.call53⟩
theorem aiV : aM Tryz.prog 54 := ⟨Tryz.call54⟩
theorem aqf : aM Tryz.prog 55 := ⟨Tryz.call55⟩
theorem ck56 : aM Tryz.prog 56 := ⟨Tryz.call56⟩
theorem wJ : aM Tryz.prog 57 := ⟨Tryz.call57⟩
theorem ae6 : aM Tryz.prog 59 := ⟨Tryz.call59⟩
theorem ac3 : aM Tryz.prog 60 := ⟨Tryz.call60⟩
theorem abg : aM Tryz.prog 61 := ⟨Tryz.call61⟩
theorem zX : aM Tryz.prog 62 := ⟨Tryz.call62⟩
theorem abh : aM Tryz.prog 63 := ⟨Tryz.call63⟩
theorem ae7 : aM Tryz.prog 64 := ⟨Tryz.call64⟩
theorem aqg : aM Tryz.prog 65 := ⟨Tryz.call65⟩
theorem ae8 : aM Tryz.prog 66 := ⟨Tryz.call66⟩
theorem aqh : aM Tryz.prog 67 := ⟨Tryz.call67⟩
theorem ck68 : aM Tryz.prog 68 := ⟨Tryz.call68⟩
theorem aqi : aM Tryz.prog 69 := ⟨Tryz.call69⟩
theorem aqj : aM Tryz.prog 70 := ⟨Tryz.call70⟩
theorem aiW : aM Tryz.prog 71 := ⟨Tryz.call71⟩
theorem uy : aM Tryz.prog 72 := ⟨Tryz.call72⟩
theorem aqk : aM Tryz.prog 73 := ⟨Tryz.call73⟩
theorem abi : aM Tryz.prog 74 := ⟨Tryz.call74⟩
theorem aiX : aM Tryz.prog 75 := ⟨Tryz.call75⟩
theorem aql : aM Tryz.prog 76 := ⟨Tryz.call76⟩
theorem aqm : aM Tryz.prog 77 := ⟨Tryz.call77⟩
theorem aqn : aM Tryz.prog 78 := ⟨Tryz.call78⟩
theorem aiY : aM Tryz.prog 79 := ⟨Tryz.call79⟩
theorem ck80 : aM Tryz.prog 80 := ⟨Tryz.call80⟩
theorem aiZ : aM Tryz.prog 82 := ⟨Tryz.call82⟩
theorem abj : aM Tryz.prog 83 := ⟨Tryz.call83⟩
theorem aqo : aM Tryz.prog 84 := ⟨Tryz.call84⟩
theorem ck86 : aM Tryz.prog 86 := ⟨Tryz.call86⟩
theorem ck89 : aM Tryz.prog 89 := ⟨Tryz.call89⟩
theorem aqp : aM Tryz.prog 90 := ⟨Tryz.call90⟩
theorem ck91 : aM Tryz.prog 91 := ⟨Tryz.call91⟩
theorem ck94 : aM Tryz.prog 94 := ⟨Tryz.call94⟩
theorem ck95 : aM Tryz.prog 95 := ⟨Tryz.call95⟩
theorem aqq : aM Tryz.prog 96 := ⟨Tryz.call96⟩
theorem ai0 : aM Tryz.prog 97 := ⟨Tryz.call97⟩
theorem ai1 : aM Tryz.prog 98 := ⟨Tryz.call98⟩
theorem ae9 : aM Tryz.prog 99 := ⟨Tryz.call99⟩
theorem aub : aM Tryz.prog 100 := ⟨Tryz.call100⟩
theorem auc : aM Tryz.prog 101 := ⟨Tryz.call101⟩
theorem wK : aM Tryz.prog 102 := ⟨Tryz.call102⟩
theorem afa : aM Tryz.prog 103 := ⟨Tryz.call103⟩
theorem akg : aM Tryz.prog 104 := ⟨Tryz.call104⟩
theorem akh : aM Tryz.prog 105 := ⟨Tryz.call105⟩
theorem afb : aM Tryz.prog 106 := ⟨Tryz.call106⟩
theorem aud : aM Tryz.prog 107 := ⟨Tryz.call107⟩
theorem aue : aM Tryz.prog 108 := ⟨Tryz.call108⟩
theorem auf : aM Tryz.prog 109 := ⟨Tryz.call109⟩
theorem aki : aM Tryz.prog 110 := ⟨Tryz.call110⟩
theorem fT : aM Tryz.prog 111 := ⟨Tryz.call111⟩
theorem afc : aM Tryz.prog 112 := ⟨Tryz.call112⟩
theorem aug : aM Tryz.prog 113 := ⟨Tryz.call113⟩
theorem auh : aM Tryz.prog 114 := ⟨Tryz.call114⟩
theorem aui : aM Tryz.prog 115 := ⟨Tryz.call115⟩
theorem auj : aM Tryz.prog 116 := ⟨Tryz.call116⟩
theorem auk : aM Tryz.prog 117 := ⟨Tryz.call117⟩
theorem acq : aM Tryz.prog 118 := ⟨Tryz.call118⟩
theorem akj : aM Tryz.prog 119 := ⟨Tryz.call119⟩
theorem aul : aM Tryz.prog 120 := ⟨Tryz.call120⟩
theorem wL : aM Tryz.prog 121 := ⟨Tryz.call121⟩
theorem acr : aM Tryz.prog 122 := ⟨Tryz.call122⟩
theorem aum : aM Tryz.prog 123 := ⟨Tryz.call123⟩
theorem aun : aM Tryz.prog 124 := ⟨Tryz.call124⟩
theorem yO : aM Tryz.prog 125 := ⟨Tryz.call125⟩
theorem auo : aM Tryz.prog 126 := ⟨Tryz.call126⟩
theorem aup : aM Tryz.prog 127 := ⟨Tryz.call127⟩
theorem auq : aM Tryz.prog 128 := ⟨Tryz.call128⟩
theorem aur : aM Tryz.prog 129 := ⟨Tryz.call129⟩
theorem aus : aM Tryz.prog 130 := ⟨Tryz.call130⟩
theorem aut : aM Tryz.prog 131 := ⟨Tryz.call131⟩
theorem auu : aM Tryz.prog 132 := ⟨Tryz.call132⟩
theorem akk : aM Tryz.prog 133 := ⟨Tryz.call133⟩
theorem yP : aM Tryz.prog 134 := ⟨Tryz.call134⟩
theorem akl : aM Tryz.prog 135 := ⟨Tryz.call135⟩
theorem wM : aM Tryz.prog 136 := ⟨Tryz.call136⟩
theorem acs : aM Tryz.prog 137 := ⟨Tryz.call137⟩
theorem yQ : aM Tryz.prog 139 := ⟨Tryz.call139⟩
theorem auv : aM Tryz.prog 140 := ⟨Tryz.call140⟩
theorem auw : aM Tryz.prog 141 := ⟨Tryz.call141⟩
theorem gA : aM Tryz.prog 143 := ⟨Tryz.call143⟩
theorem afd : aM Tryz.prog 144 := ⟨Tryz.call144⟩
theorem tK : aM Tryz.prog 145 := ⟨Tryz.call145⟩
theorem auy : aM Tryz.prog 146 := ⟨Tryz.call146⟩
theorem auz : aM Tryz.prog 147 := ⟨Tryz.call147⟩
theorem auA : aM Tryz.prog 148 := ⟨Tryz.call148⟩
theorem auB : aM Tryz.prog 149 := ⟨Tryz.call149⟩
theorem akm : aM Tryz.prog 150 := ⟨Tryz.call150⟩
theorem auC : aM Tryz.prog 151 := ⟨Tryz.call151⟩
theorem akn : aM Tryz.prog 152 := ⟨Tryz.call152⟩
theorem ako : aM Tryz.prog 153 := ⟨Tryz.call153⟩
theorem akp : aM Tryz.prog 154 := ⟨Tryz.call154⟩
theorem auD : aM Tryz.prog 155 := ⟨Tryz.call155⟩
theorem auE : aM Tryz.prog 156 := ⟨Tryz.call156⟩
theorem akq : aM Tryz.prog 157 := ⟨Tryz.call157⟩
theorem akr : aM Tryz.prog 158 := ⟨Tryz.call158⟩
theorem auF : aM Tryz.prog 159 := ⟨Tryz.call159⟩
theorem auG : aM Tryz.prog 160 := ⟨Tryz.call160⟩
theorem auH : aM Tryz.prog 161 := ⟨Tryz.call161⟩
theorem aks : aM Tryz.prog 162 := ⟨Tryz.call162⟩
theorem auI : aM Tryz.prog 163 := ⟨Tryz.call163⟩
theorem auJ : aM Tryz.prog 164 := ⟨Tryz.call164⟩
theorem auK : aM Tryz.prog 165 := ⟨Tryz.call165⟩
theorem auL : aM Tryz.prog 166 := ⟨Tryz.call166⟩
theorem auM : aM Tryz.prog 167 := ⟨Tryz.call167⟩
theorem auN : aM Tryz.prog 168 := ⟨Tryz.call168⟩
theorem akt : aM Tryz.prog 169 := ⟨Tryz.call169⟩
theorem auO : aM Tryz.prog 170 := ⟨Tryz.call170⟩
theorem auP : aM Tryz.prog 180 := ⟨Tryz.call180⟩
theorem aku : aM Tryz.prog 183 := ⟨Tryz.call183⟩
theorem auQ : aM Tryz.prog 184 := ⟨Tryz.call184⟩
theorem pR : aM Tryz.prog 185 := ⟨Tryz.call185⟩
theorem auR : aM Tryz.prog 186 := ⟨Tryz.call186⟩
theorem auS : aM Tryz.prog 187 := ⟨Tryz.call187⟩
theorem auT : aM Tryz.prog 188 := ⟨Tryz.call188⟩
theorem pS : aM Tryz.prog 195 := ⟨Tryz.call195⟩
theorem auU : aM Tryz.prog 196 := ⟨Tryz.call196⟩
theorem auV : aM Tryz.prog 198 := ⟨Tryz.call198⟩
theorem afe : aM Tryz.prog 199 := ⟨Tryz.call199⟩
theorem akv : aM Tryz.prog 200 := ⟨Tryz.call200⟩
theorem akw : aM Tryz.prog 201 := ⟨Tryz.call201⟩
theorem auW : aM Tryz.prog 204 := ⟨Tryz.call204⟩
theorem akx : aM Tryz.prog 205 := ⟨Tryz.call205⟩
theorem auX : aM Tryz.prog 206 := ⟨Tryz.call206⟩
theorem auZ : aM Tryz.prog 207 := ⟨Tryz.call207⟩
theorem au0 : aM Tryz.prog 208 := ⟨Tryz.call208⟩
theorem au1 : aM Tryz.prog 209 := ⟨Tryz.call209⟩
theorem qS {N : Nat} {ids : List Nat} {y : Code} {Q : Exit → Env → Sto → Prop} {env : Env} {σ : Sto} {id : Nat} {ops : Array Oper} {dr : Bool} (hs : List (Nat × Hint Tryz.prog)) (cz : Env) (σ2 : Sto) (k : ai ⟨Tryz.prog, N, ids⟩ y Q cz σ2)
  (h : wI tb N ids ops dr (jF ops dr hs).1 (jF ops dr hs).2 [] hs (qV cz) σ2.ids env σ = some (cz, σ2, (jF ops dr hs).2.map fun i => (hintOf hs i).exp) := by kernel_rfl) : ai ⟨Tryz.prog, N, ids⟩ (.seq (.region id ops dr) y) Q env σ := A.RS W0 [] hs cz σ2 h k
theorem qR {N : Nat} {ids : List Nat} {Q : Exit → Env → Sto → Prop} {env : Env} {σ : Sto} {id : Nat} {ops : Array Oper} {dr : Bool} (hs : List (Nat × Hint Tryz.prog)) (cz : Env) (σ2 : Sto) (k : Q .normal cz σ2)
  (h : wI tb N ids ops dr (jF ops dr hs).1 (jF ops dr hs).2 [] hs (qV cz) σ2.ids env σ = some (cz, σ2, (jF ops dr hs).2.map fun i => (hintOf hs i).exp) := by kernel_rfl) : ai ⟨Tryz.prog, N, ids⟩ (.region id ops dr) Q env σ := A.R W0 [] hs cz σ2 h k
def aqr (n : Nat) : List Nat → Bool
 | [] => false
 | k :: r => bif Nat.beq k n then true else aqr n r
def mQ {α : Type} (ks : List Nat) (new : List (Nat × α)) : List (Nat × α) → List (Nat × α)
 | [] => new
 | p :: l => bif aqr p.1 ks then mQ ks new l else p :: mQ ks new l
section
variable {N : Nat} {ids : List Nat} {y : Code} {Q : Exit → Env → Sto → Prop} {env : Env} {σ : Sto} {id : Nat} {ops : Array Oper} {dr : Bool} (hs : List (Nat × Hint Tryz.prog)) (ks : List Nat) (new : Env) (js : List Nat) (nws : Sto)
theorem qD (k : ai ⟨Tryz.prog, N, ids⟩ y Q (mQ ks new env) (mQ js nws σ))
  (h : wI tb N ids ops dr (jF ops dr hs).1 (jF ops dr hs).2 [] hs (qV (mQ ks new env)) (Sto.ids (mQ js nws σ)) env σ = some (mQ ks new env, mQ js nws σ, (jF ops dr hs).2.map fun i => (hintOf hs i).exp) := by kernel_rfl) : ai ⟨Tryz.prog, N, ids⟩ (.seq (.region id ops dr) y) Q env σ := A.RS W0 [] hs _ _ h k
theorem qDs (k : ai ⟨Tryz.prog, N, ids⟩ y Q (mQ ks new env) σ)
  (h : wI tb N ids ops dr (jF ops dr hs).1 (jF ops dr hs).2 [] hs (qV (mQ ks new env)) σ.ids env σ = some (mQ ks new env, σ, (jF ops dr hs).2.map fun i => (hintOf hs i).exp) := by kernel_rfl) : ai ⟨Tryz.prog, N, ids⟩ (.seq (.region id ops dr) y) Q env σ := A.RS W0 [] hs _ _ h k
theorem qG (k : Q .normal (mQ ks new env) (mQ js nws σ))
  (h : wI tb N ids ops dr (jF ops dr hs).1 (jF ops dr hs).2 [] hs (qV (mQ ks new env)) (Sto.ids (mQ js nws σ)) env σ = some (mQ ks new env, mQ js nws σ, (jF ops dr hs).2.map fun i => (hintOf hs i).exp) := by kernel_rfl) : ai ⟨Tryz.prog, N, ids⟩ (.region id ops dr) Q env σ := A.R W0 [] hs _ _ h k
theorem qGs (k : Q .normal (mQ ks new env) σ)
  (h : wI tb N ids ops dr (jF ops dr hs).1 (jF ops dr hs).2 [] hs (qV (mQ ks new env)) σ.ids env σ = some (mQ ks new env, σ, (jF ops dr hs).2.map fun i => (hintOf hs i).exp) := by kernel_rfl) : ai ⟨Tryz.prog, N, ids⟩ (.region id ops dr) Q env σ := A.R W0 [] hs _ _ h k
end
theorem qE {N : Nat} {ids : List Nat} {fn : Func} {env : Env} {σ σ2 : Sto} {R : AV} (h : aiL tb ids [] σ2.ids fn.results.toList env σ = some (R, σ2) := by kernel_rfl) :
  aeZ ⟨Tryz.prog, N, ids⟩ fn (fun a σ' => a = R ∧ σ' = σ2) .ret env σ := A.fin W0 [] rfl h
theorem qW {G : Gl} {env cz : Env} {σ σ2 : Sto} (h : aaJ G.ids [] [] (qV cz) σ2.ids env σ = some (cz, σ2) := by kernel_rfl) : bz G env σ cz σ2 := bz.go [] [] h
theorem qX {G : Gl} {α ρ : Type} {J : α → Option ρ} {r : ρ} {env : Env} {σ : Sto} {ga : α → Env} {iX : α → Sto} (g : α) (hg : J g = some r) (h : aaJ G.ids [] [] (qV (ga g)) (iX g).ids env σ = some (ga g, iX g) := by kernel_rfl) :
  ∃ g, J g = some r ∧ bz G env σ (ga g) (iX g) := ⟨g, hg, bz.go [] [] h⟩
theorem qT {G : Gl} {o : Operand} {p : Bool} {x y : Code} {Q : Exit → Env → Sto → Prop} {env : Env} {σ : Sto} (hp : p = true) (k : ai G x Q env σ) (hc : env.evo o = some (.bool p) := by kernel_rfl) : ai G (.cond o x y) Q env σ := A.cT hc hp k
theorem qF {G : Gl} {o : Operand} {p : Bool} {x y : Code} {Q : Exit → Env → Sto → Prop} {env : Env} {σ : Sto} (hp : p = false) (k : ai G y Q env σ) (hc : env.evo o = some (.bool p) := by kernel_rfl) : ai G (.cond o x y) Q env σ := A.cF hc hp k
abbrev i6 (n : Int) : AV := .int .i64 n
abbrev lf {α : Type} (e : En α) (l : List α) : AV := .lst false (ml e l)
abbrev k0 (x : aZ) : List AV := [.int .i64 x.ID, .bool x.bh]
abbrev k1 (x : aX) : List AV := [.int .i64 x.A, .int .i64 x.B, .int .i64 x.jx, .int .i64 x.jc, .int .i64 x.bY]
abbrev k2 (x : aB) : List AV := [.lst false (ml aS x.aK), .lst false (ml az x.Links)]
abbrev k3 (x : aP) : List AV := [.lst false (ml aY x.L), .int .i64 x.At]
abbrev k4 (x : bx) : List AV := [.int .i64 x.cg, .int .i64 x.ID, .int .i64 x.Length]
abbrev k5 (x : bu) : List AV := [.int .i64 x.bw, .int .i64 x.mg, .int .i64 x.bY]
abbrev k6 (x : ak) : List AV := [.int .i64 x.aj, .int .i64 x.Seq, .bool x.bh, .lst false (ml bn x.Links), .lst false (ml aR x.Claims)]
abbrev k7 (x : aH) : List AV := [.lst false (ml aJ x.ay)]
abbrev k8 (x : aU) : List AV := [.int .i64 x.aj, .int .i64 x.Seq, .bool x.bh, .lst false (ml aR x.Claims), .lst false (ml aJ x.Database.ay)]
abbrev k9 (x : bP) : List AV := [.int .i64 x.kT, .int .i64 x.To, .lst false (ml aJ x.Database.ay)]
abbrev k10 (x : gi) : List AV := [.int .i64 x.aj, .int .i64 x.Claim.cg, .int .i64 x.Claim.ID, .int .i64 x.Claim.Length]
abbrev k11 (x : aA) : List AV := [.lst false (ml az x.Links), .lst false (ml aL x.aG), .lst false (ml aN x.aF)]
end Go.Proofs.YtpmifmdidfgpdaaGreat
