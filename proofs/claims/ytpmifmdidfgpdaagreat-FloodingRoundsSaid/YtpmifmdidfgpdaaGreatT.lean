/- The data of the program, as Lean data, and what is known of its types. No condition but bT bB stand in each. -/
import Derived.Test.YtpmifmdidfgpdaaGreatF
import Derived.Test.YtpmifmdidfgpdaaGreatBA
import Derived.Test.YtpmifmdidfgpdaaGreatB7
namespace Go.Proofs.YtpmifmdidfgpdaaGreat
open Go
set_option maxRecDepth 100000
set_option linter.all false
structure aY where
 ID : Int
 aX : Bool
instance : Inhabited aY := ⟨aY.mk (0:Int) false⟩
def aU : En aY := ⟨fun x => [.int .i64 x.ID, .bool x.aX], 2, fun _ => rfl, fun _ => rfl, fun _ => rfl⟩
def rW (a b : aY) : Bool := decide (a.ID = b.ID) && ((a.aX == b.aX) && true)
structure aQ where
 A : Int
 B : Int
 ja : Int
 iF : Int
 bY : Int
instance : Inhabited aQ := ⟨aQ.mk (0:Int) (0:Int) (0:Int) (0:Int) (0:Int)⟩
def az : En aQ := ⟨fun x => [.int .i64 x.A, .int .i64 x.B, .int .i64 x.ja, .int .i64 x.iF, .int .i64 x.bY], 5, fun _ => rfl, fun _ => rfl, fun _ => rfl⟩
def u0 (a b : aQ) : Bool := decide (a.A = b.A) && (decide (a.B = b.B) && (decide (a.ja = b.ja) && (decide (a.iF = b.iF) && (decide (a.bY = b.bY) && true))))
structure aD where
 aI : List aY
 Links : List aQ
instance : Inhabited aD := ⟨aD.mk [] []⟩
structure aR where
 L : List Int
 At : Int
instance : Inhabited aR := ⟨aR.mk [] (0:Int)⟩
structure ahG where
 gW : Int
 To : Int
instance : Inhabited ahG := ⟨ahG.mk (0:Int) (0:Int)⟩
structure acd where
 Links : List ahG
 aI : List Int
instance : Inhabited acd := ⟨acd.mk [] []⟩
structure bz where
 b9 : Int
 ID : Int
 Length : Int
instance : Inhabited bz := ⟨bz.mk (0:Int) (0:Int) (0:Int)⟩
def aS : En bz := ⟨fun x => [.int .i64 x.b9, .int .i64 x.ID, .int .i64 x.Length], 3, fun _ => rfl, fun _ => rfl, fun _ => rfl⟩
def gH (a b : bz) : Bool := decide (a.b9 = b.b9) && (decide (a.ID = b.ID) && (decide (a.Length = b.Length) && true))
structure bu where
 bw : Int
 lM : Int
 bY : Int
instance : Inhabited bu := ⟨bu.mk (0:Int) (0:Int) (0:Int)⟩
def bk : En bu := ⟨fun x => [.int .i64 x.bw, .int .i64 x.lM, .int .i64 x.bY], 3, fun _ => rfl, fun _ => rfl, fun _ => rfl⟩
def jE (a b : bu) : Bool := decide (a.bw = b.bw) && (decide (a.lM = b.lM) && (decide (a.bY = b.bY) && true))
structure aj where
 ak : Int
 Seq : Int
 aX : Bool
 Links : List bu
 Claims : List bz
instance : Inhabited aj := ⟨aj.mk (0:Int) (0:Int) false [] []⟩
def aH : En aj := ⟨fun x => [.int .i64 x.ak, .int .i64 x.Seq, .bool x.aX, .lst false (ml bk x.Links), .lst false (ml aS x.Claims)], 5, fun _ => rfl, fun _ => rfl, fun _ => rfl⟩
structure aF where
 aq : List aj
instance : Inhabited aF := ⟨aF.mk []⟩
def zR : En aF := ⟨fun x => [.lst false (ml aH x.aq)], 1, fun _ => rfl, fun _ => rfl, fun _ => rfl⟩
structure aV where
 ak : Int
 Seq : Int
 aX : Bool
 Claims : List bz
 Database : aF
instance : Inhabited aV := ⟨aV.mk (0:Int) (0:Int) false [] (aF.mk [])⟩
def aO : En aV := ⟨fun x => [.int .i64 x.ak, .int .i64 x.Seq, .bool x.aX, .lst false (ml aS x.Claims), .lst false (ml aH x.Database.aq)], 5, fun _ => rfl, fun _ => rfl, fun _ => rfl⟩
structure bn where
 gW : Int
 To : Int
 Database : aF
instance : Inhabited bn := ⟨bn.mk (0:Int) (0:Int) (aF.mk [])⟩
def aN : En bn := ⟨fun x => [.int .i64 x.gW, .int .i64 x.To, .lst false (ml aH x.Database.aq)], 3, fun _ => rfl, fun _ => rfl, fun _ => rfl⟩
structure fQ where
 ak : Int
 Claim : bz
instance : Inhabited fQ := ⟨fQ.mk (0:Int) (bz.mk (0:Int) (0:Int) (0:Int))⟩
def dV : En fQ := ⟨fun x => [.int .i64 x.ak, .int .i64 x.Claim.b9, .int .i64 x.Claim.ID, .int .i64 x.Claim.Length], 4, fun _ => rfl, fun _ => rfl, fun _ => rfl⟩
structure aZ where
 Data : List Int
 Bits : Int
instance : Inhabited aZ := ⟨aZ.mk [] (0:Int)⟩
structure bK where
 s_ : aZ
instance : Inhabited bK := ⟨bK.mk (aZ.mk [] (0:Int))⟩
structure aB where
 Links : List aQ
 aC : List aV
 aA : List bn
instance : Inhabited aB := ⟨aB.mk [] [] []⟩
def kQ : En aB := ⟨fun x => [.lst false (ml az x.Links), .lst false (ml aO x.aC), .lst false (ml aN x.aA)], 3, fun _ => rfl, fun _ => rfl, fun _ => rfl⟩
structure aL where
 f_ : aB
instance : Inhabited aL := ⟨aL.mk (aB.mk [] [] [])⟩
def ti1 : TI := ⟨1, false, some [.nilFunc], .oth⟩
theorem tk1 : bX Tryz.prog 1 ti1 := ⟨ty1, fun zs h => by cases h; exact ze1, trivial⟩
def ti2 : TI := ⟨1, false, some [.int .i64 0], .int .i64⟩
theorem tk2 : bX Tryz.prog 2 ti2 := ⟨ty2, fun zs h => by cases h; exact ze2, Tryz.underlying2⟩
def ti3 : TI := ⟨1, false, some [.int .i64 0], .int .i64⟩
theorem tk3 : bX Tryz.prog 3 ti3 := ⟨ty3, fun zs h => by cases h; exact ze3, Tryz.underlying3⟩
def ti4 : TI := ⟨1, false, some [.bool false], .bool⟩
theorem tk4 : bX Tryz.prog 4 ti4 := ⟨ty4, fun zs h => by cases h; exact ze4, Tryz.underlying4⟩
def ti5 : TI := ⟨1, false, some [.int .u8 0], .int .u8⟩
theorem tk5 : bX Tryz.prog 5 ti5 := ⟨ty5, fun zs h => by cases h; exact ze5, Tryz.underlying5⟩
def ti6 : TI := ⟨1, false, some [.int .u8 0], .int .u8⟩
theorem tk6 : bX Tryz.prog 6 ti6 := ⟨ty6, fun zs h => by cases h; exact ze6, Tryz.underlying6⟩
def ti7 : TI := ⟨4, true, some [.int .i64 0, .int .i64 0, .bool false, .int .u8 0], .struct [.int .i64 0, .int .i64 0, .bool false, .int .u8 0] [(0, 1), (1, 1), (2, 1), (3, 1)] [false, false, false, false]⟩
theorem tk7 : bX Tryz.prog 7 ti7 := ⟨ty7, fun zs h => by cases h; exact ze7, cq str7 ⟨anb, anc, ane, anf, trivial⟩ ⟨ang, anh, ani, anj, trivial⟩⟩
def ti8 : TI := ⟨4, true, some [.int .i64 0, .int .i64 0, .bool false, .int .u8 0], .struct [.int .i64 0, .int .i64 0, .bool false, .int .u8 0] [(0, 1), (1, 1), (2, 1), (3, 1)] [false, false, false, false]⟩
theorem tk8 : bX Tryz.prog 8 ti8 := ⟨ty8, fun zs h => by cases h; exact ze8, cq str8 ⟨ank, anl, anm, ann, trivial⟩ ⟨ano, anp, anq, anr, trivial⟩⟩
def ti9 : TI := ⟨1, false, some [.string ⟨#[]⟩], .str⟩
theorem tk9 : bX Tryz.prog 9 ti9 := ⟨ty9, fun zs h => by cases h; exact ze9, Tryz.underlying9⟩
def aom : TI := ⟨1, false, some [.string ⟨#[]⟩], .str⟩
theorem tk10 : bX Tryz.prog 10 aom := ⟨ty10, fun zs h => by cases h; exact ze10, Tryz.underlying10⟩
def aon : TI := ⟨1, false, some [.string ⟨#[]⟩], .str⟩
theorem tk11 : bX Tryz.prog 11 aon := ⟨ty11, fun zs h => by cases h; exact ze11, Tryz.underlying11⟩
def aoo : TI := ⟨1, false, some [.int .u64 0], .int .u64⟩
theorem tk12 : bX Tryz.prog 12 aoo := ⟨yQ, fun zs h => by cases h; exact ze12, Tryz.underlying12⟩
def aop : TI := ⟨2, true, some [.string ⟨#[]⟩, .int .u64 0], .struct [.string ⟨#[]⟩, .int .u64 0] [(0, 1), (1, 1)] [false, false]⟩
theorem tk13 : bX Tryz.prog 13 aop := ⟨ty13, fun zs h => by cases h; exact ze13, cq aqY ⟨ajU, ajV, trivial⟩ ⟨ajW, ajX, trivial⟩⟩
def aoq : TI := ⟨2, true, some [.string ⟨#[]⟩, .int .u64 0], .struct [.string ⟨#[]⟩, .int .u64 0] [(0, 1), (1, 1)] [false, false]⟩
theorem tk14 : bX Tryz.prog 14 aoq := ⟨ty14, fun zs h => by cases h; exact ze14, cq aqZ ⟨ajY, ajZ, trivial⟩ ⟨aj0, aj1, trivial⟩⟩
def aor : TI := ⟨1, false, some [.pointer none], .oth⟩
theorem tk15 : bX Tryz.prog 15 aor := ⟨ty15, fun zs h => by cases h; exact ze15, trivial⟩
def aos : TI := ⟨1, false, some [.pointer none], .oth⟩
theorem tk16 : bX Tryz.prog 16 aos := ⟨ty16, fun zs h => by cases h; exact ze16, trivial⟩
def aot : TI := ⟨1, false, some [.pointer none], .oth⟩
theorem tk17 : bX Tryz.prog 17 aot := ⟨vJ, fun zs h => by cases h; exact ze17, trivial⟩
def aou : TI := ⟨1, true, some [.pointer none], .struct [.pointer none] [(0, 1)] [false]⟩
theorem tk18 : bX Tryz.prog 18 aou := ⟨ty18, fun zs h => by cases h; exact ze18, cq aq0 ⟨aj2, trivial⟩ ⟨aj3, trivial⟩⟩
def aov : TI := ⟨1, true, some [.pointer none], .struct [.pointer none] [(0, 1)] [false]⟩
theorem tk19 : bX Tryz.prog 19 aov := ⟨ty19, fun zs h => by cases h; exact ze19, cq aq1 ⟨aj4, trivial⟩ ⟨aj5, trivial⟩⟩
def aow : TI := ⟨1, false, some [.int .i32 0], .int .i32⟩
theorem tk21 : bX Tryz.prog 21 aow := ⟨ty21, fun zs h => by cases h; exact ze21, Tryz.underlying21⟩
def aox : TI := ⟨1, false, some [.slice none 0 0], .slice 3 1 8 [.int .i64 0]⟩
theorem tk22 : bX Tryz.prog 22 aox := ⟨abY, fun zs h => by cases h; exact ze22, ⟨sl22, aq2, aq3⟩⟩
def aoy : TI := ⟨1, false, some [.slice none 0 0], .slice 78 5 40 [.int .i64 0, .int .i64 0, .int .i64 0, .int .i64 0, .int .i64 0]⟩
theorem tk23 : bX Tryz.prog 23 aoy := ⟨abZ, fun zs h => by cases h; exact am3, ⟨sl23, aq4, aq5⟩⟩
def aoz : TI := ⟨1, false, some [.slice none 0 0], .slice 81 5 72 [.int .i64 0, .int .i64 0, .bool false, .slice none 0 0, .slice none 0 0]⟩
theorem tk24 : bX Tryz.prog 24 aoz := ⟨afB, fun zs h => by cases h; exact ze24, ⟨sl24, aq6, aq7⟩⟩
def aoA : TI := ⟨1, false, some [.slice none 0 0], .slice 62 3 40 [.int .i64 0, .int .i64 0, .slice none 0 0]⟩
theorem tk25 : bX Tryz.prog 25 aoA := ⟨afC, fun zs h => by cases h; exact ze25, ⟨sl25, aq8, aq9⟩⟩
def aoB : TI := ⟨3, true, some [.slice none 0 0, .slice none 0 0, .slice none 0 0], .struct [.slice none 0 0, .slice none 0 0, .slice none 0 0] [(0, 1), (1, 1), (2, 1)] [false, false, false]⟩
theorem tk26 : bX Tryz.prog 26 aoB := ⟨ty26, fun zs h => by cases h; exact ze26, cq ara ⟨aj6, aj7, aj8, trivial⟩ ⟨aj9, aka, akb, trivial⟩⟩
def aoC : TI := ⟨3, true, some [.slice none 0 0, .slice none 0 0, .slice none 0 0], .struct [.slice none 0 0, .slice none 0 0, .slice none 0 0] [(0, 1), (1, 1), (2, 1)] [false, false, false]⟩
theorem tk27 : bX Tryz.prog 27 aoC := ⟨afD, fun zs h => by cases h; exact am4, cq arb ⟨akc, akd, ake, trivial⟩ ⟨akf, akg, akh, trivial⟩⟩
def aoD : TI := ⟨1, false, some [.pointer none], .oth⟩
theorem tk28 : bX Tryz.prog 28 aoD := ⟨ty28, fun zs h => by cases h; exact ze28, trivial⟩
def aoE : TI := ⟨1, false, some [.slice none 0 0], .slice 27 3 72 [.slice none 0 0, .slice none 0 0, .slice none 0 0]⟩
theorem tk32 : bX Tryz.prog 32 aoE := ⟨ty32, fun zs h => by cases h; exact ze32, ⟨sl32, arc, ard⟩⟩
def aoF : TI := ⟨1, false, some [.int .i64 0], .int .i64⟩
theorem tk34 : bX Tryz.prog 34 aoF := ⟨ty34, fun zs h => by cases h; exact ze34, Tryz.underlying34⟩
def aoG : TI := ⟨1, false, some [.slice none 0 0], .slice 87 2 16 [.int .i64 0, .bool false]⟩
theorem tk42 : bX Tryz.prog 42 aoG := ⟨afE, fun zs h => by cases h; exact ze42, ⟨sl42, arf, arh⟩⟩
def aoH : TI := ⟨2, true, some [.slice none 0 0, .slice none 0 0], .struct [.slice none 0 0, .slice none 0 0] [(0, 1), (1, 1)] [false, false]⟩
theorem tk43 : bX Tryz.prog 43 aoH := ⟨ty43, fun zs h => by cases h; exact ze43, cq ari ⟨aki, akj, trivial⟩ ⟨akk, akl, trivial⟩⟩
def aoI : TI := ⟨2, true, some [.slice none 0 0, .slice none 0 0], .struct [.slice none 0 0, .slice none 0 0] [(0, 1), (1, 1)] [false, false]⟩
theorem tk44 : bX Tryz.prog 44 aoI := ⟨ty44, fun zs h => by cases h; exact ze44, cq arj ⟨akm, akn, trivial⟩ ⟨ako, akp, trivial⟩⟩
def aoJ : TI := ⟨1, false, some [.slice none 0 0], .slice 106 3 24 [.int .i64 0, .int .i64 0, .int .i64 0]⟩
theorem tk47 : bX Tryz.prog 47 aoJ := ⟨afF, fun zs h => by cases h; exact ze47, ⟨sl47, ark, arl⟩⟩
def aoK : TI := ⟨1, false, some [.slice none 0 0], .slice 85 3 24 [.int .i64 0, .int .i64 0, .int .i64 0]⟩
theorem tk48 : bX Tryz.prog 48 aoK := ⟨ab0, fun zs h => by cases h; exact ze48, ⟨sl48, arn, aro⟩⟩
def aoL : TI := ⟨5, true, some [.int .i64 0, .int .i64 0, .bool false, .slice none 0 0, .slice none 0 0], .struct [.int .i64 0, .int .i64 0, .bool false, .slice none 0 0, .slice none 0 0] [(0, 1), (1, 1), (2, 1), (3, 1), (4, 1)] [false, false, false, false, false]⟩
theorem tk49 : bX Tryz.prog 49 aoL := ⟨ty49, fun zs h => by cases h; exact ze49, cq arp ⟨akq, akr, aks, akt, aku, trivial⟩ ⟨akv, akw, akx, aky, akz, trivial⟩⟩
def aoM : TI := ⟨5, true, some [.int .i64 0, .int .i64 0, .bool false, .slice none 0 0, .slice none 0 0], .struct [.int .i64 0, .int .i64 0, .bool false, .slice none 0 0, .slice none 0 0] [(0, 1), (1, 1), (2, 1), (3, 1), (4, 1)] [false, false, false, false, false]⟩
theorem tk50 : bX Tryz.prog 50 aoM := ⟨ty50, fun zs h => by cases h; exact am5, cq arq ⟨akA, akB, akC, akD, akE, trivial⟩ ⟨akF, akG, akH, akI, akJ, trivial⟩⟩
def aoN : TI := ⟨1, false, some [.nilFunc], .oth⟩
theorem tk53 : bX Tryz.prog 53 aoN := ⟨ty53, fun zs h => by cases h; exact ze53, trivial⟩
def aoO : TI := ⟨1, false, some [.slice none 0 0], .slice 50 5 72 [.int .i64 0, .int .i64 0, .bool false, .slice none 0 0, .slice none 0 0]⟩
theorem tk58 : bX Tryz.prog 58 aoO := ⟨afG, fun zs h => by cases h; exact ze58, ⟨sl58, ars, art⟩⟩
def aoP : TI := ⟨1, true, some [.slice none 0 0], .struct [.slice none 0 0] [(0, 1)] [false]⟩
theorem tk59 : bX Tryz.prog 59 aoP := ⟨ty59, fun zs h => by cases h; exact ze59, cq aru ⟨akK, trivial⟩ ⟨akL, trivial⟩⟩
def aoQ : TI := ⟨1, true, some [.slice none 0 0], .struct [.slice none 0 0] [(0, 1)] [false]⟩
theorem tk60 : bX Tryz.prog 60 aoQ := ⟨ab1, fun zs h => by cases h; exact ze60, cq arv ⟨akM, trivial⟩ ⟨akN, trivial⟩⟩
def aoR : TI := ⟨3, true, some [.int .i64 0, .int .i64 0, .slice none 0 0], .struct [.int .i64 0, .int .i64 0, .slice none 0 0] [(0, 1), (1, 1), (2, 1)] [false, false, true]⟩
theorem tk61 : bX Tryz.prog 61 aoR := ⟨ty61, fun zs h => by cases h; exact ze61, cq arw ⟨akO, akP, akQ, trivial⟩ ⟨akR, akS, akT, trivial⟩⟩
def aoS : TI := ⟨3, true, some [.int .i64 0, .int .i64 0, .slice none 0 0], .struct [.int .i64 0, .int .i64 0, .slice none 0 0] [(0, 1), (1, 1), (2, 1)] [false, false, true]⟩
theorem tk62 : bX Tryz.prog 62 aoS := ⟨ty62, fun zs h => by cases h; exact am6, cq arx ⟨akU, akV, akW, trivial⟩ ⟨akX, akY, akZ, trivial⟩⟩
def aoT : TI := ⟨1, false, some [.slice none 0 0], .slice 120 2 16 [.int .i64 0, .int .i64 0]⟩
theorem tk65 : bX Tryz.prog 65 aoT := ⟨afH, fun zs h => by cases h; exact ze65, ⟨sl65, ary, arz⟩⟩
def aoU : TI := ⟨2, true, some [.slice none 0 0, .slice none 0 0], .struct [.slice none 0 0, .slice none 0 0] [(0, 1), (1, 1)] [false, false]⟩
theorem tk66 : bX Tryz.prog 66 aoU := ⟨ty66, fun zs h => by cases h; exact ze66, cq arA ⟨ak0, ak1, trivial⟩ ⟨ak2, ak3, trivial⟩⟩
def aoV : TI := ⟨2, true, some [.slice none 0 0, .slice none 0 0], .struct [.slice none 0 0, .slice none 0 0] [(0, 1), (1, 1)] [false, false]⟩
theorem tk67 : bX Tryz.prog 67 aoV := ⟨ty67, fun zs h => by cases h; exact ze67, cq arB ⟨ak4, ak5, trivial⟩ ⟨ak6, ak7, trivial⟩⟩
def aoW : TI := ⟨1, false, some [.slice none 0 0], .slice 23 1 24 [.slice none 0 0]⟩
theorem tk70 : bX Tryz.prog 70 aoW := ⟨ty70, fun zs h => by cases h; exact ze70, ⟨sl70, arC, arD⟩⟩
def aoX : TI := ⟨2, true, some [.slice none 0 0, .int .i64 0], .struct [.slice none 0 0, .int .i64 0] [(0, 1), (1, 1)] [false, false]⟩
theorem tk73 : bX Tryz.prog 73 aoX := ⟨ty73, fun zs h => by cases h; exact ze73, cq arE ⟨ak8, ak9, trivial⟩ ⟨ala, alb, trivial⟩⟩
def aoY : TI := ⟨2, true, some [.slice none 0 0, .int .i64 0], .struct [.slice none 0 0, .int .i64 0] [(0, 1), (1, 1)] [false, false]⟩
theorem tk74 : bX Tryz.prog 74 aoY := ⟨ty74, fun zs h => by cases h; exact ze74, cq arF ⟨alc, ald, trivial⟩ ⟨ale, alf, trivial⟩⟩
def aoZ : TI := ⟨1, false, some [.nilFunc], .oth⟩
theorem tk75 : bX Tryz.prog 75 aoZ := ⟨ty75, fun zs h => by cases h; exact ze75, trivial⟩
def ao0 : TI := ⟨5, true, some [.int .i64 0, .int .i64 0, .int .i64 0, .int .i64 0, .int .i64 0], .struct [.int .i64 0, .int .i64 0, .int .i64 0, .int .i64 0, .int .i64 0] [(0, 1), (1, 1), (2, 1), (3, 1), (4, 1)] [false, false, false, false, false]⟩
theorem tk77 : bX Tryz.prog 77 ao0 := ⟨ty77, fun zs h => by cases h; exact ze77, cq arG ⟨alg, alh, ali, alj, alk, trivial⟩ ⟨alm, aln, alo, alp, alq, trivial⟩⟩
def ao1 : TI := ⟨5, true, some [.int .i64 0, .int .i64 0, .int .i64 0, .int .i64 0, .int .i64 0], .struct [.int .i64 0, .int .i64 0, .int .i64 0, .int .i64 0, .int .i64 0] [(0, 1), (1, 1), (2, 1), (3, 1), (4, 1)] [false, false, false, false, false]⟩
theorem tk78 : bX Tryz.prog 78 ao1 := ⟨ty78, fun zs h => by cases h; exact am7, cq arH ⟨alr, als, alu, alv, alw, trivial⟩ ⟨alx, aly, alz, alA, alB, trivial⟩⟩
def ao2 : TI := ⟨5, true, some [.int .i64 0, .int .i64 0, .bool false, .slice none 0 0, .slice none 0 0], .struct [.int .i64 0, .int .i64 0, .bool false, .slice none 0 0, .slice none 0 0] [(0, 1), (1, 1), (2, 1), (3, 1), (4, 1)] [false, false, false, false, true]⟩
theorem tk80 : bX Tryz.prog 80 ao2 := ⟨ty80, fun zs h => by cases h; exact ze80, cq arJ ⟨alC, alD, alF, alG, alH, trivial⟩ ⟨alI, alJ, alK, alL, alM, trivial⟩⟩
def ao3 : TI := ⟨5, true, some [.int .i64 0, .int .i64 0, .bool false, .slice none 0 0, .slice none 0 0], .struct [.int .i64 0, .int .i64 0, .bool false, .slice none 0 0, .slice none 0 0] [(0, 1), (1, 1), (2, 1), (3, 1), (4, 1)] [false, false, false, false, true]⟩
theorem tk81 : bX Tryz.prog 81 ao3 := ⟨ty81, fun zs h => by cases h; exact am8, cq arK ⟨alN, alO, alP, alQ, alR, trivial⟩ ⟨alS, alT, alU, alV, alW, trivial⟩⟩
def ao4 : TI := ⟨3, true, some [.int .i64 0, .int .i64 0, .int .i64 0], .struct [.int .i64 0, .int .i64 0, .int .i64 0] [(0, 1), (1, 1), (2, 1)] [false, false, false]⟩
theorem tk84 : bX Tryz.prog 84 ao4 := ⟨ty84, fun zs h => by cases h; exact ze84, cq arL ⟨alX, alY, alZ, trivial⟩ ⟨al0, al1, al2, trivial⟩⟩
def ao5 : TI := ⟨3, true, some [.int .i64 0, .int .i64 0, .int .i64 0], .struct [.int .i64 0, .int .i64 0, .int .i64 0] [(0, 1), (1, 1), (2, 1)] [false, false, false]⟩
theorem tk85 : bX Tryz.prog 85 ao5 := ⟨afJ, fun zs h => by cases h; exact am9, cq arM ⟨al3, al4, al5, trivial⟩ ⟨al6, al7, al8, trivial⟩⟩
def ao6 : TI := ⟨2, true, some [.int .i64 0, .bool false], .struct [.int .i64 0, .bool false] [(0, 1), (1, 1)] [false, false]⟩
theorem tk86 : bX Tryz.prog 86 ao6 := ⟨ty86, fun zs h => by cases h; exact ze86, cq arO ⟨al9, ama, trivial⟩ ⟨amb, amc, trivial⟩⟩
def ao7 : TI := ⟨2, true, some [.int .i64 0, .bool false], .struct [.int .i64 0, .bool false] [(0, 1), (1, 1)] [false, false]⟩
theorem tk87 : bX Tryz.prog 87 ao7 := ⟨ty87, fun zs h => by cases h; exact ana, cq arP ⟨amd, ame, trivial⟩ ⟨amf, amg, trivial⟩⟩
def ao8 : TI := ⟨1, false, some [.pointer none], .oth⟩
theorem tk88 : bX Tryz.prog 88 ao8 := ⟨ty88, fun zs h => by cases h; exact ze88, trivial⟩
def ao9 : TI := ⟨3, true, some [.slice none 0 0, .slice none 0 0, .slice none 0 0], .struct [.slice none 0 0, .slice none 0 0, .slice none 0 0] [(0, 3)] [true]⟩
theorem tk90 : bX Tryz.prog 90 ao9 := ⟨ty90, fun zs h => by cases h; exact ze90, cq arR ⟨amh, trivial⟩ ⟨ami, trivial⟩⟩
def apa : TI := ⟨3, true, some [.slice none 0 0, .slice none 0 0, .slice none 0 0], .struct [.slice none 0 0, .slice none 0 0, .slice none 0 0] [(0, 3)] [true]⟩
theorem tk91 : bX Tryz.prog 91 apa := ⟨ty91, fun zs h => by cases h; exact ze91, cq arS ⟨amj, trivial⟩ ⟨amk, trivial⟩⟩
def apb : TI := ⟨1, false, some [.slice none 0 0], .slice 1 1 8 [.nilFunc]⟩
theorem tk92 : bX Tryz.prog 92 apb := ⟨ty92, fun zs h => by cases h; exact ze92, ⟨sl92, arT, arU⟩⟩
def apc : TI := ⟨1, false, some [.nilFunc], .oth⟩
theorem tk95 : bX Tryz.prog 95 apc := ⟨ty95, fun zs h => by cases h; exact ze95, trivial⟩
def aiz : TI := ⟨3, true, some [.int .i64 0, .int .i64 0, .int .i64 0], .struct [.int .i64 0, .int .i64 0, .int .i64 0] [(0, 1), (1, 1), (2, 1)] [false, false, false]⟩
theorem asE : bX Tryz.prog 105 aiz := ⟨arV, fun zs h => by cases h; exact aqk, cq ans ⟨afL, afM, afN, trivial⟩ ⟨afO, afP, afQ, trivial⟩⟩
def aiA : TI := ⟨3, true, some [.int .i64 0, .int .i64 0, .int .i64 0], .struct [.int .i64 0, .int .i64 0, .int .i64 0] [(0, 1), (1, 1), (2, 1)] [false, false, false]⟩
theorem asF : bX Tryz.prog 106 aiA := ⟨arW, fun zs h => by cases h; exact ais, cq ant ⟨afR, afS, afT, trivial⟩ ⟨afU, afV, afW, trivial⟩⟩
def aiB : TI := ⟨1, false, some [.nilFunc], .oth⟩
theorem asG : bX Tryz.prog 109 aiB := ⟨arX, fun zs h => by cases h; exact aql, trivial⟩
def aiC : TI := ⟨2, true, some [.int .i64 0, .int .i64 0], .struct [.int .i64 0, .int .i64 0] [(0, 1), (1, 1)] [false, false]⟩
theorem asH : bX Tryz.prog 119 aiC := ⟨arY, fun zs h => by cases h; exact aqm, cq anv ⟨afX, afY, trivial⟩ ⟨afZ, af0, trivial⟩⟩
def aiD : TI := ⟨2, true, some [.int .i64 0, .int .i64 0], .struct [.int .i64 0, .int .i64 0] [(0, 1), (1, 1)] [false, false]⟩
theorem asI : bX Tryz.prog 120 aiD := ⟨arZ, fun zs h => by cases h; exact ait, cq anw ⟨af1, af2, trivial⟩ ⟨af3, af4, trivial⟩⟩
def aiE : TI := ⟨1, false, some [.nilFunc], .oth⟩
theorem asJ : bX Tryz.prog 123 aiE := ⟨ar0, fun zs h => by cases h; exact aqn, trivial⟩
def aiF : TI := ⟨1, false, some [.pointer none], .oth⟩
theorem asK : bX Tryz.prog 124 aiF := ⟨ar1, fun zs h => by cases h; exact aqo, trivial⟩
def aiG : TI := ⟨1, false, some [.nilFunc], .oth⟩
theorem asL : bX Tryz.prog 133 aiG := ⟨ar2, fun zs h => by cases h; exact aqp, trivial⟩
def aiH : TI := ⟨1, false, some [.nilFunc], .oth⟩
theorem asM : bX Tryz.prog 135 aiH := ⟨ar3, fun zs h => by cases h; exact aqq, trivial⟩
def aiI : TI := ⟨1, false, some [.nilFunc], .oth⟩
theorem asN : bX Tryz.prog 137 aiI := ⟨ar4, fun zs h => by cases h; exact aqr, trivial⟩
def aiJ : TI := ⟨1, false, some [.nilFunc], .oth⟩
theorem asO : bX Tryz.prog 138 aiJ := ⟨ar5, fun zs h => by cases h; exact aqs, trivial⟩
def aiK : TI := ⟨1, false, some [.nilFunc], .oth⟩
theorem asP : bX Tryz.prog 141 aiK := ⟨ar6, fun zs h => by cases h; exact aqt, trivial⟩
def aiL : TI := ⟨1, false, some [.slice none 0 0], .slice 155 4 32 [.int .i64 0, .int .i64 0, .int .i64 0, .int .i64 0]⟩
theorem asQ : bX Tryz.prog 152 aiL := ⟨ar7, fun zs h => by cases h; exact aqu, ⟨ar8, anx, anz⟩⟩
def aiM : TI := ⟨4, true, some [.int .i64 0, .int .i64 0, .int .i64 0, .int .i64 0], .struct [.int .i64 0, .int .i64 0, .int .i64 0, .int .i64 0] [(0, 1), (1, 3)] [false, true]⟩
theorem asR : bX Tryz.prog 154 aiM := ⟨ar9, fun zs h => by cases h; exact aqv, cq anA ⟨af5, af6, trivial⟩ ⟨af7, af8, trivial⟩⟩
def aiN : TI := ⟨4, true, some [.int .i64 0, .int .i64 0, .int .i64 0, .int .i64 0], .struct [.int .i64 0, .int .i64 0, .int .i64 0, .int .i64 0] [(0, 1), (1, 3)] [false, true]⟩
theorem asS : bX Tryz.prog 155 aiN := ⟨asa, fun zs h => by cases h; exact aiu, cq anB ⟨af9, aga, trivial⟩ ⟨agb, agc, trivial⟩⟩
def aiO : TI := ⟨1, false, some [.nilFunc], .oth⟩
theorem asT : bX Tryz.prog 156 aiO := ⟨asb, fun zs h => by cases h; exact aqw, trivial⟩
def aiP : TI := ⟨1, false, some [.int .u64 0], .int .u64⟩
theorem asU : bX Tryz.prog 165 aiP := ⟨asd, fun zs h => by cases h; exact aqx, Tryz.underlying165⟩
def aiQ : TI := ⟨1, false, some [.pointer none], .oth⟩
theorem asV : bX Tryz.prog 174 aiQ := ⟨ase, fun zs h => by cases h; exact aqy, trivial⟩
def aiR : TI := ⟨1, false, some [.nilFunc], .oth⟩
theorem asW : bX Tryz.prog 180 aiR := ⟨asf, fun zs h => by cases h; exact aqz, trivial⟩
def aiS : TI := ⟨1, false, some [.slice none 0 0], .slice 5 1 1 [.int .u8 0]⟩
theorem asX : bX Tryz.prog 182 aiS := ⟨adO, fun zs h => by cases h; exact aqA, ⟨asg, anC, anD⟩⟩
def aiT : TI := ⟨1, false, some [.int .i64 0], .int .i64⟩
theorem asY : bX Tryz.prog 186 aiT := ⟨ash, fun zs h => by cases h; exact aqB, Tryz.underlying186⟩
def aiU : TI := ⟨1, false, some [.int .u32 0], .int .u32⟩
theorem asZ : bX Tryz.prog 194 aiU := ⟨adP, fun zs h => by cases h; exact aqC, Tryz.underlying194⟩
def aiV : TI := ⟨1, false, some [.int .u64 0], .int .u64⟩
theorem as0 : bX Tryz.prog 196 aiV := ⟨asi, fun zs h => by cases h; exact aqD, Tryz.underlying196⟩
def aiW : TI := ⟨2, true, some [.slice none 0 0, .int .i64 0], .struct [.slice none 0 0, .int .i64 0] [(0, 1), (1, 1)] [false, false]⟩
theorem as1 : bX Tryz.prog 200 aiW := ⟨asj, fun zs h => by cases h; exact aqE, cq anE ⟨agd, age, trivial⟩ ⟨agf, agh, trivial⟩⟩
def aiX : TI := ⟨2, true, some [.slice none 0 0, .int .i64 0], .struct [.slice none 0 0, .int .i64 0] [(0, 1), (1, 1)] [false, false]⟩
theorem as2 : bX Tryz.prog 201 aiX := ⟨adQ, fun zs h => by cases h; exact aqF, cq anF ⟨agi, agj, trivial⟩ ⟨agk, agl, trivial⟩⟩
def aiY : TI := ⟨1, false, some [.int .u64 0], .int .u64⟩
theorem as3 : bX Tryz.prog 207 aiY := ⟨asl, fun zs h => by cases h; exact aqG, Tryz.underlying207⟩
def aiZ : TI := ⟨1, false, some [.pointer none], .oth⟩
theorem as4 : bX Tryz.prog 211 aiZ := ⟨asm, fun zs h => by cases h; exact aqH, trivial⟩
def ai0 : TI := ⟨2, true, some [.slice none 0 0, .int .i64 0], .struct [.slice none 0 0, .int .i64 0] [(0, 2)] [true]⟩
theorem as5 : bX Tryz.prog 213 ai0 := ⟨asn, fun zs h => by cases h; exact aqI, cq anG ⟨agm, trivial⟩ ⟨agn, trivial⟩⟩
def ai1 : TI := ⟨2, true, some [.slice none 0 0, .int .i64 0], .struct [.slice none 0 0, .int .i64 0] [(0, 2)] [true]⟩
theorem as6 : bX Tryz.prog 214 ai1 := ⟨aso, fun zs h => by cases h; exact aqJ, cq anH ⟨ago, trivial⟩ ⟨agp, trivial⟩⟩
def ai2 : TI := ⟨1, false, some [.pointer none], .oth⟩
theorem as7 : bX Tryz.prog 220 ai2 := ⟨asp, fun zs h => by cases h; exact aqK, trivial⟩
def ai3 : TI := ⟨1, false, some [.pointer none], .oth⟩
theorem as8 : bX Tryz.prog 224 ai3 := ⟨asq, fun zs h => by cases h; exact aqL, trivial⟩
def ai4 : TI := ⟨1, false, some [.pointer none], .oth⟩
theorem as9 : bX Tryz.prog 228 ai4 := ⟨asr, fun zs h => by cases h; exact aqM, trivial⟩
def ai5 : TI := ⟨4, true, some [.pointer none, .pointer none, .pointer none, .string ⟨#[]⟩], .struct [.pointer none, .pointer none, .pointer none, .string ⟨#[]⟩] [(0, 1), (1, 1), (2, 1), (3, 1)] [false, false, false, false]⟩
theorem ata : bX Tryz.prog 230 ai5 := ⟨ass, fun zs h => by cases h; exact aqN, cq anI ⟨agq, agr, agt, agu, trivial⟩ ⟨agv, agw, agx, agy, trivial⟩⟩
def ai6 : TI := ⟨4, true, some [.pointer none, .pointer none, .pointer none, .string ⟨#[]⟩], .struct [.pointer none, .pointer none, .pointer none, .string ⟨#[]⟩] [(0, 1), (1, 1), (2, 1), (3, 1)] [false, false, false, false]⟩
theorem atb : bX Tryz.prog 231 ai6 := ⟨ast, fun zs h => by cases h; exact aqO, cq anJ ⟨agz, agA, agB, agC, trivial⟩ ⟨agD, agE, agF, agG, trivial⟩⟩
def ai7 : TI := ⟨0, true, some [], .oth⟩
theorem atc : bX Tryz.prog 232 ai7 := ⟨asu, fun zs h => by cases h; exact aqP, trivial⟩
def ai8 : TI := ⟨1, false, some [.int .u8 0], .int .u8⟩
theorem atd : bX Tryz.prog 235 ai8 := ⟨adR, fun zs h => by cases h; exact aqQ, Tryz.underlying235⟩
def ai9 : TI := ⟨1, false, some [.int .u8 0], .int .u8⟩
theorem ate : bX Tryz.prog 236 ai9 := ⟨adS, fun zs h => by cases h; exact aqR, Tryz.underlying236⟩
def aja : TI := ⟨1, false, some [.nilFunc], .oth⟩
theorem atf : bX Tryz.prog 237 aja := ⟨adT, fun zs h => by cases h; exact aqS, trivial⟩
def ajb : TI := ⟨1, false, some [.pointer none], .oth⟩
theorem atg : bX Tryz.prog 238 ajb := ⟨adU, fun zs h => by cases h; exact aqT, trivial⟩
def ajc : TI := ⟨1, false, some [.int .i32 0], .int .i32⟩
theorem ath : bX Tryz.prog 239 ajc := ⟨adV, fun zs h => by cases h; exact aqU, Tryz.underlying239⟩
def ajd : TI := ⟨1, false, some [.int .i32 0], .int .i32⟩
theorem ati : bX Tryz.prog 240 ajd := ⟨adW, fun zs h => by cases h; exact aqV, Tryz.underlying240⟩
def aje : TI := ⟨11, true, some [.int .u64 0, .int .u64 0, .int .u32 0, .int .u8 0, .int .u8 0, .int .u8 0, .int .u8 0, .nilFunc, .pointer none, .int .i32 0, .int .i32 0], .struct [.int .u64 0, .int .u64 0, .int .u32 0, .int .u8 0, .int .u8 0, .int .u8 0, .int .u8 0, .nilFunc, .pointer none, .int .i32 0, .int .i32 0] [(0, 1), (1, 1), (2, 1), (3, 1), (4, 1), (5, 1), (6, 1), (7, 1), (8, 1), (9, 1), (10, 1)] [false, false, false, false, false, false, false, false, false, false, false]⟩
theorem atj : bX Tryz.prog 241 aje := ⟨asv, fun zs h => by cases h; exact aqW, cq anK ⟨agH, agI, agJ, agK, agL, agM, agN, agO, agP, agQ, aeH, trivial⟩ ⟨agR, agS, agT, agU, agV, agW, agX, agY, agZ, ag0, aeI, trivial⟩⟩
def ajf : TI := ⟨11, true, some [.int .u64 0, .int .u64 0, .int .u32 0, .int .u8 0, .int .u8 0, .int .u8 0, .int .u8 0, .nilFunc, .pointer none, .int .i32 0, .int .i32 0], .struct [.int .u64 0, .int .u64 0, .int .u32 0, .int .u8 0, .int .u8 0, .int .u8 0, .int .u8 0, .nilFunc, .pointer none, .int .i32 0, .int .i32 0] [(0, 1), (1, 1), (2, 1), (3, 1), (4, 1), (5, 1), (6, 1), (7, 1), (8, 1), (9, 1), (10, 1)] [false, false, false, false, false, false, false, false, false, false, false]⟩
theorem atk : bX Tryz.prog 242 ajf := ⟨asw, fun zs h => by cases h; exact aqX, cq anL ⟨ag3, ag4, ag5, ag6, ag7, ag8, ag9, aha, ahb, ahc, aeJ, trivial⟩ ⟨ahd, ahe, ahf, ahg, ahh, ahi, ahj, ahk, ahl, ahm, aeK, trivial⟩⟩
def tb : Tb := [(1, ti1), (2, ti2), (3, ti3), (4, ti4), (5, ti5), (6, ti6), (7, ti7), (8, ti8), (9, ti9), (10, aom), (11, aon), (12, aoo), (13, aop), (14, aoq), (15, aor), (16, aos), (17, aot), (18, aou), (19, aov), (21, aow), (22, aox), (23, aoy), (24, aoz), (25, aoA), (26, aoB), (27, aoC), (28, aoD), (32, aoE), (34, aoF), (42, aoG), (43, aoH), (44, aoI), (47, aoJ), (48, aoK), (49, aoL), (50, aoM), (53, aoN), (58, aoO), (59, aoP), (60, aoQ), (61, aoR), (62, aoS), (65, aoT), (66, aoU), (67, aoV), (70, aoW), (73, aoX), (74, aoY), (75, aoZ), (77, ao0), (78, ao1), (80, ao2), (81, ao3), (84, ao4), (85, ao5), (86, ao6), (87, ao7), (88, ao8), (90, ao9), (91, apa), (92, apb), (95, apc), (105, aiz), (106, aiA), (109, aiB), (119, aiC), (120, aiD), (123, aiE), (124, aiF), (133, aiG), (135, aiH), (137, aiI), (138, aiJ), (141, aiK), (152, aiL), (154, aiM), (155, aiN), (156, aiO), (165, aiP), (174, aiQ), (180, aiR), (182, aiS), (186, aiT), (194, aiU), (196, aiV), (200, aiW), (201, aiX), (207, aiY), (211, aiZ), (213, ai0), (214, ai1), (220, ai2), (224, ai3), (228, ai4), (230, ai5), (231, ai6), (232, ai7), (235, ai8), (236, ai9), (237, aja), (238, ajb), (239, ajc), (240, ajd), (241, aje), (242, ajf)]
theorem W0 : Wld Tryz.prog tb := ⟨yP, ⟨tk1, tk2, tk3, tk4, tk5, tk6, tk7, tk8, tk9, tk10, tk11, tk12, tk13, tk14, tk15, tk16, tk17, tk18, tk19, tk21, tk22, tk23, tk24, tk25, tk26, tk27, tk28, tk32, tk34, tk42, tk43, tk44, tk47, tk48, tk49, tk50, tk53, tk58, tk59, tk60, tk61, tk62, tk65, tk66, tk67, tk70, tk73, tk74, tk75, tk77, tk78, tk80, tk81, tk84, tk85, tk86, tk87, tk88, tk90, tk91, tk92, tk95, asE, asF, asG, asH, asI, asJ, asK, asL, asM, asN, asO, asP, asQ, asR, asS, asT, asU, asV, asW, asX, asY, asZ, as0, as1, as2, as3, as4, as5, as6, as7, as8, as9, ata, atb, atc, atd, ate, atf, atg, ath, ati, atj, atk, trivial⟩⟩
theorem ck9 : aM Tryz.prog 9 := ⟨Tryz.call9⟩
theorem ck10 : aM Tryz.prog 10 := ⟨Tryz.call10⟩
theorem apd : aM Tryz.prog 11 := ⟨Tryz.call11⟩
theorem ck12 : aM Tryz.prog 12 := ⟨Tryz.call12⟩
theorem ape : aM Tryz.prog 13 := ⟨Tryz.call13⟩
theorem ck14 : aM Tryz.prog 14 := ⟨Tryz.call14⟩
theorem apf : aM Tryz.prog 15 := ⟨Tryz.call15⟩
theorem ck16 : aM Tryz.prog 16 := ⟨Tryz.call16⟩
theorem aau : aM Tryz.prog 17 := ⟨Tryz.call17⟩
theorem ck19 : aM Tryz.prog 19 := ⟨Tryz.call19⟩
theorem apg : aM Tryz.prog 21 := ⟨Tryz.call21⟩
theorem aav : aM Tryz.prog 22 := ⟨Tryz.call22⟩
theorem vN : aM Tryz.prog 23 := ⟨Tryz.call23⟩
theorem w6 : aM Tryz.prog 24 := ⟨Tryz.call24⟩
theorem ahH : aM Tryz.prog 27 := ⟨Tryz.call27⟩
theorem aph : aM Tryz.prog 28 := ⟨Tryz.call28⟩
theorem ck33 : aM Tryz.prog 33 := ⟨Tryz.call33⟩
theorem ck34 : aM Tryz.prog 34 := ⟨Tryz.call34⟩
theorem ck38 : aM Tryz.prog 38 := ⟨Tryz.call38⟩
theorem y4 : aM Tryz.prog 46 := ⟨Tryz.call46⟩
theorem iN : aM Tryz.prog 47 := ⟨Tryz.call47⟩
theorem y5 : aM Tryz.prog 48 := ⟨Tryz.call48⟩
theorem api : aM Tryz.prog 49 := ⟨Tryz.call49⟩
theorem qw : aM Tryz.prog 50 := ⟨Tryz.call50⟩
theorem apj : aM Tryz.prog 51 := ⟨Tryz.call51⟩
theorem apk : aM Tryz.prog 52 := ⟨Tryz.call52⟩
theorem apl : aM Tryz.prog 53 := ⟨Tryz.call53⟩
theorem ahI : aM Tryz.prog 54 := ⟨Tryz.call54⟩
theorem apm : aM Tryz.prog 55 := ⟨Tryz.call55⟩
theorem ck56 : aM Tryz.prog 56 := ⟨Tryz.call56⟩
theorem apn : aM Tryz.prog 57 := ⟨Tryz.call57⟩
theorem apo : aM Tryz.prog 58 := ⟨Tryz.call58⟩
theorem ahJ : aM Tryz.prog 59 := ⟨Tryz.call59⟩
theorem ace : aM Tryz.prog 60 := ⟨Tryz.call60⟩
theorem aaw : aM Tryz.prog 61 := ⟨Tryz.call61⟩
theorem y6 : aM Tryz.prog 62 := ⟨Tryz.call62⟩
theorem acf : aM Tryz.prog 63 := ⟨Tryz.call63⟩
theorem ahK : aM Tryz.prog 64 := ⟨Tryz.call64⟩
theorem apq : aM Tryz.prog 65 := ⟨Tryz.call65⟩
theorem aeb : aM Tryz.prog 66 := ⟨Tryz.call66⟩
theorem apr : aM Tryz.prog 67 := ⟨Tryz.call67⟩
theorem ck68 : aM Tryz.prog 68 := ⟨Tryz.call68⟩
theorem aps : aM Tryz.prog 69 := ⟨Tryz.call69⟩
theorem ahL : aM Tryz.prog 71 := ⟨Tryz.call71⟩
theorem vO : aM Tryz.prog 72 := ⟨Tryz.call72⟩
theorem apt : aM Tryz.prog 73 := ⟨Tryz.call73⟩
theorem apu : aM Tryz.prog 74 := ⟨Tryz.call74⟩
theorem apv : aM Tryz.prog 75 := ⟨Tryz.call75⟩
theorem ck76 : aM Tryz.prog 76 := ⟨Tryz.call76⟩
theorem apw : aM Tryz.prog 77 := ⟨Tryz.call77⟩
theorem ck78 : aM Tryz.prog 78 := ⟨Tryz.call78⟩
theorem apx : aM Tryz.prog 79 := ⟨Tryz.call79⟩
theorem ck80 : aM Tryz.prog 80 := ⟨Tryz.call80⟩
theorem ahM : aM Tryz.prog 82 := ⟨Tryz.call82⟩
theorem aax : aM Tryz.prog 83 := ⟨Tryz.call83⟩
theorem ck86 : aM Tryz.prog 86 := ⟨Tryz.call86⟩
theorem ck89 : aM Tryz.prog 89 := ⟨Tryz.call89⟩
theorem ahN : aM Tryz.prog 90 := ⟨Tryz.call90⟩
theorem ck91 : aM Tryz.prog 91 := ⟨Tryz.call91⟩
theorem ck92 : aM Tryz.prog 92 := ⟨Tryz.call92⟩
theorem ck93 : aM Tryz.prog 93 := ⟨Tryz.call93⟩
theorem ck94 : aM Tryz.prog 94 := ⟨Tryz.call94⟩
theorem ck95 : aM Tryz.prog 95 := ⟨Tryz.call95⟩
theorem apy : aM Tryz.prog 96 := ⟨Tryz.call96⟩
theorem ahO : aM Tryz.prog 97 := ⟨Tryz.call97⟩
theorem ahP : aM Tryz.prog 98 := ⟨Tryz.call98⟩
theorem y7 : aM Tryz.prog 99 := ⟨Tryz.call99⟩
theorem atl : aM Tryz.prog 100 := ⟨Tryz.call100⟩
theorem atm : aM Tryz.prog 101 := ⟨Tryz.call101⟩
theorem vP : aM Tryz.prog 102 := ⟨Tryz.call102⟩
theorem aec : aM Tryz.prog 103 := ⟨Tryz.call103⟩
theorem ajg : aM Tryz.prog 104 := ⟨Tryz.call104⟩
theorem ajh : aM Tryz.prog 105 := ⟨Tryz.call105⟩
theorem aed : aM Tryz.prog 106 := ⟨Tryz.call106⟩
theorem atn : aM Tryz.prog 107 := ⟨Tryz.call107⟩
theorem ato : aM Tryz.prog 108 := ⟨Tryz.call108⟩
theorem atp : aM Tryz.prog 109 := ⟨Tryz.call109⟩
theorem aji : aM Tryz.prog 110 := ⟨Tryz.call110⟩
theorem fH : aM Tryz.prog 111 := ⟨Tryz.call111⟩
theorem aee : aM Tryz.prog 112 := ⟨Tryz.call112⟩
theorem atq : aM Tryz.prog 113 := ⟨Tryz.call113⟩
theorem atr : aM Tryz.prog 114 := ⟨Tryz.call114⟩
theorem att : aM Tryz.prog 115 := ⟨Tryz.call115⟩
theorem atu : aM Tryz.prog 116 := ⟨Tryz.call116⟩
theorem atv : aM Tryz.prog 117 := ⟨Tryz.call117⟩
theorem abz : aM Tryz.prog 118 := ⟨Tryz.call118⟩
theorem ajj : aM Tryz.prog 119 := ⟨Tryz.call119⟩
theorem atw : aM Tryz.prog 120 := ⟨Tryz.call120⟩
theorem vQ : aM Tryz.prog 121 := ⟨Tryz.call121⟩
theorem abA : aM Tryz.prog 122 := ⟨Tryz.call122⟩
theorem atx : aM Tryz.prog 123 := ⟨Tryz.call123⟩
theorem aty : aM Tryz.prog 124 := ⟨Tryz.call124⟩
theorem atz : aM Tryz.prog 125 := ⟨Tryz.call125⟩
theorem atA : aM Tryz.prog 127 := ⟨Tryz.call127⟩
theorem atB : aM Tryz.prog 128 := ⟨Tryz.call128⟩
theorem ajk : aM Tryz.prog 129 := ⟨Tryz.call129⟩
theorem atC : aM Tryz.prog 130 := ⟨Tryz.call130⟩
theorem atD : aM Tryz.prog 131 := ⟨Tryz.call131⟩
theorem atE : aM Tryz.prog 132 := ⟨Tryz.call132⟩
theorem ajl : aM Tryz.prog 133 := ⟨Tryz.call133⟩
theorem xZ : aM Tryz.prog 134 := ⟨Tryz.call134⟩
theorem ajm : aM Tryz.prog 135 := ⟨Tryz.call135⟩
theorem vR : aM Tryz.prog 136 := ⟨Tryz.call136⟩
theorem abB : aM Tryz.prog 137 := ⟨Tryz.call137⟩
theorem x2 : aM Tryz.prog 139 := ⟨Tryz.call139⟩
theorem atF : aM Tryz.prog 140 := ⟨Tryz.call140⟩
theorem atG : aM Tryz.prog 141 := ⟨Tryz.call141⟩
theorem atH : aM Tryz.prog 142 := ⟨Tryz.call142⟩
theorem gd : aM Tryz.prog 143 := ⟨Tryz.call143⟩
theorem aef : aM Tryz.prog 144 := ⟨Tryz.call144⟩
theorem sX : aM Tryz.prog 145 := ⟨Tryz.call145⟩
theorem atI : aM Tryz.prog 146 := ⟨Tryz.call146⟩
theorem atJ : aM Tryz.prog 147 := ⟨Tryz.call147⟩
theorem atK : aM Tryz.prog 148 := ⟨Tryz.call148⟩
theorem atL : aM Tryz.prog 149 := ⟨Tryz.call149⟩
theorem ajn : aM Tryz.prog 150 := ⟨Tryz.call150⟩
theorem atM : aM Tryz.prog 151 := ⟨Tryz.call151⟩
theorem ajo : aM Tryz.prog 152 := ⟨Tryz.call152⟩
theorem ajp : aM Tryz.prog 153 := ⟨Tryz.call153⟩
theorem ajq : aM Tryz.prog 154 := ⟨Tryz.call154⟩
theorem atN : aM Tryz.prog 156 := ⟨Tryz.call156⟩
theorem ajr : aM Tryz.prog 157 := ⟨Tryz.call157⟩
theorem ajs : aM Tryz.prog 158 := ⟨Tryz.call158⟩
theorem atO : aM Tryz.prog 159 := ⟨Tryz.call159⟩
theorem atP : aM Tryz.prog 160 := ⟨Tryz.call160⟩
theorem atQ : aM Tryz.prog 161 := ⟨Tryz.call161⟩
theorem ajt : aM Tryz.prog 162 := ⟨Tryz.call162⟩
theorem atS : aM Tryz.prog 163 := ⟨Tryz.call163⟩
theorem atT : aM Tryz.prog 164 := ⟨Tryz.call164⟩
theorem atU : aM Tryz.prog 165 := ⟨Tryz.call165⟩
theorem atV : aM Tryz.prog 166 := ⟨Tryz.call166⟩
theorem atW : aM Tryz.prog 167 := ⟨Tryz.call167⟩
theorem atX : aM Tryz.prog 168 := ⟨Tryz.call168⟩
theorem aju : aM Tryz.prog 169 := ⟨Tryz.call169⟩
theorem atY : aM Tryz.prog 170 := ⟨Tryz.call170⟩
theorem atZ : aM Tryz.prog 180 := ⟨Tryz.call180⟩
theorem ajv : aM Tryz.prog 183 := ⟨Tryz.call183⟩
theorem at0 : aM Tryz.prog 184 := ⟨Tryz.call184⟩
theorem o8 : aM Tryz.prog 185 := ⟨Tryz.call185⟩
theorem at3 : aM Tryz.prog 186 := ⟨Tryz.call186⟩
theorem at4 : aM Tryz.prog 187 := ⟨Tryz.call187⟩
theorem at5 : aM Tryz.prog 188 := ⟨Tryz.call188⟩
theorem o9 : aM Tryz.prog 195 := ⟨Tryz.call195⟩
theorem at6 : aM Tryz.prog 196 := ⟨Tryz.call196⟩
theorem at7 : aM Tryz.prog 198 := ⟨Tryz.call198⟩
theorem aeg : aM Tryz.prog 199 := ⟨Tryz.call199⟩
theorem ajw : aM Tryz.prog 200 := ⟨Tryz.call200⟩
theorem ajx : aM Tryz.prog 201 := ⟨Tryz.call201⟩
theorem at8 : aM Tryz.prog 204 := ⟨Tryz.call204⟩
theorem ajy : aM Tryz.prog 205 := ⟨Tryz.call205⟩
theorem at9 : aM Tryz.prog 206 := ⟨Tryz.call206⟩
theorem aua : aM Tryz.prog 207 := ⟨Tryz.call207⟩
theorem aub : aM Tryz.prog 208 := ⟨Tryz.call208⟩
theorem auc : aM Tryz.prog 209 := ⟨Tryz.call209⟩
theorem qS {N : Nat} {ids : List Nat} {y : Code} {Q : Exit → Env → Sto → Prop} {env : Env} {σ : Sto} {id : Nat} {ops : Array Oper} {dr : Bool} (hs : List (Nat × Hint Tryz.prog)) (cw : Env) (σ2 : Sto) (k : ah ⟨Tryz.prog, N, ids⟩ y Q cw σ2)
  (h : vM tb N ids ops dr (jh ops dr hs).1 (jh ops dr hs).2 [] hs (qt cw) σ2.ids env σ = some (cw, σ2, (jh ops dr hs).2.map fun i => (hintOf hs i).exp) := by kernel_rfl) : ah ⟨Tryz.prog, N, ids⟩ (.seq (.region id ops dr) y) Q env σ := A.RS W0 [] hs cw σ2 h k
theorem qR {N : Nat} {ids : List Nat} {Q : Exit → Env → Sto → Prop} {env : Env} {σ : Sto} {id : Nat} {ops : Array Oper} {dr : Bool} (hs : List (Nat × Hint Tryz.prog)) (cw : Env) (σ2 : Sto) (k : Q .normal cw σ2)
  (h : vM tb N ids ops dr (jh ops dr hs).1 (jh ops dr hs).2 [] hs (qt cw) σ2.ids env σ = some (cw, σ2, (jh ops dr hs).2.map fun i => (hintOf hs i).exp) := by kernel_rfl) : ah ⟨Tryz.prog, N, ids⟩ (.region id ops dr) Q env σ := A.R W0 [] hs cw σ2 h k
def apz (n : Nat) : List Nat → Bool
 | [] => false
 | k :: r => bif Nat.beq k n then true else apz n r
def mc {α : Type} (ks : List Nat) (new : List (Nat × α)) : List (Nat × α) → List (Nat × α)
 | [] => new
 | p :: l => bif apz p.1 ks then mc ks new l else p :: mc ks new l
section
variable {N : Nat} {ids : List Nat} {y : Code} {Q : Exit → Env → Sto → Prop} {env : Env} {σ : Sto} {id : Nat} {ops : Array Oper} {dr : Bool} (hs : List (Nat × Hint Tryz.prog)) (ks : List Nat) (new : Env) (js : List Nat) (nws : Sto)
theorem qD (k : ah ⟨Tryz.prog, N, ids⟩ y Q (mc ks new env) (mc js nws σ))
  (h : vM tb N ids ops dr (jh ops dr hs).1 (jh ops dr hs).2 [] hs (qt (mc ks new env)) (Sto.ids (mc js nws σ)) env σ = some (mc ks new env, mc js nws σ, (jh ops dr hs).2.map fun i => (hintOf hs i).exp) := by kernel_rfl) : ah ⟨Tryz.prog, N, ids⟩ (.seq (.region id ops dr) y) Q env σ := A.RS W0 [] hs _ _ h k
theorem qDs (k : ah ⟨Tryz.prog, N, ids⟩ y Q (mc ks new env) σ)
  (h : vM tb N ids ops dr (jh ops dr hs).1 (jh ops dr hs).2 [] hs (qt (mc ks new env)) σ.ids env σ = some (mc ks new env, σ, (jh ops dr hs).2.map fun i => (hintOf hs i).exp) := by kernel_rfl) : ah ⟨Tryz.prog, N, ids⟩ (.seq (.region id ops dr) y) Q env σ := A.RS W0 [] hs _ _ h k
theorem qG (k : Q .normal (mc ks new env) (mc js nws σ))
  (h : vM tb N ids ops dr (jh ops dr hs).1 (jh ops dr hs).2 [] hs (qt (mc ks new env)) (Sto.ids (mc js nws σ)) env σ = some (mc ks new env, mc js nws σ, (jh ops dr hs).2.map fun i => (hintOf hs i).exp) := by kernel_rfl) : ah ⟨Tryz.prog, N, ids⟩ (.region id ops dr) Q env σ := A.R W0 [] hs _ _ h k
theorem qGs (k : Q .normal (mc ks new env) σ)
  (h : vM tb N ids ops dr (jh ops dr hs).1 (jh ops dr hs).2 [] hs (qt (mc ks new env)) σ.ids env σ = some (mc ks new env, σ, (jh ops dr hs).2.map fun i => (hintOf hs i).exp) := by kernel_rfl) : ah ⟨Tryz.prog, N, ids⟩ (.region id ops dr) Q env σ := A.R W0 [] hs _ _ h k
end
theorem qE {N : Nat} {ids : List Nat} {fn : Func} {env : Env} {σ σ2 : Sto} {R : AV} (h : ahz tb ids [] σ2.ids fn.results.toList env σ = some (R, σ2) := by kernel_rfl) :
  ad5 ⟨Tryz.prog, N, ids⟩ fn (fun a σ' => a = R ∧ σ' = σ2) .ret env σ := A.fin W0 [] rfl h
theorem qW {G : Gl} {env cw : Env} {σ σ2 : Sto} (h : zN G.ids [] [] (qt cw) σ2.ids env σ = some (cw, σ2) := by kernel_rfl) : bA G env σ cw σ2 := bA.go [] [] h
theorem qX {G : Gl} {α ρ : Type} {J : α → Option ρ} {r : ρ} {env : Env} {σ : Sto} {fN : α → Env} {iC : α → Sto} (g : α) (hg : J g = some r) (h : zN G.ids [] [] (qt (fN g)) (iC g).ids env σ = some (fN g, iC g) := by kernel_rfl) :
  ∃ g, J g = some r ∧ bA G env σ (fN g) (iC g) := ⟨g, hg, bA.go [] [] h⟩
theorem qT {G : Gl} {o : Operand} {p : Bool} {x y : Code} {Q : Exit → Env → Sto → Prop} {env : Env} {σ : Sto} (hp : p = true) (k : ah G x Q env σ) (hc : env.evo o = some (.bool p) := by kernel_rfl) : ah G (.cond o x y) Q env σ := A.cT hc hp k
theorem qF {G : Gl} {o : Operand} {p : Bool} {x y : Code} {Q : Exit → Env → Sto → Prop} {env : Env} {σ : Sto} (hp : p = false) (k : ah G y Q env σ) (hc : env.evo o = some (.bool p) := by kernel_rfl) : ah G (.cond o x y) Q env σ := A.cF hc hp k
abbrev i6 (n : Int) : AV := .int .i64 n
abbrev lf {α : Type} (e : En α) (l : List α) : AV := .lst false (ml e l)
abbrev k0 (x : aY) : List AV := [.int .i64 x.ID, .bool x.aX]
abbrev k1 (x : aQ) : List AV := [.int .i64 x.A, .int .i64 x.B, .int .i64 x.ja, .int .i64 x.iF, .int .i64 x.bY]
abbrev k2 (x : aD) : List AV := [.lst false (ml aU x.aI), .lst false (ml az x.Links)]
abbrev k3 (x : aR) : List AV := [.lst false (ml bL x.L), .int .i64 x.At]
abbrev k4 (x : bz) : List AV := [.int .i64 x.b9, .int .i64 x.ID, .int .i64 x.Length]
abbrev k5 (x : bu) : List AV := [.int .i64 x.bw, .int .i64 x.lM, .int .i64 x.bY]
abbrev k6 (x : aj) : List AV := [.int .i64 x.ak, .int .i64 x.Seq, .bool x.aX, .lst false (ml bk x.Links), .lst false (ml aS x.Claims)]
abbrev k7 (x : aF) : List AV := [.lst false (ml aH x.aq)]
abbrev k8 (x : aV) : List AV := [.int .i64 x.ak, .int .i64 x.Seq, .bool x.aX, .lst false (ml aS x.Claims), .lst false (ml aH x.Database.aq)]
abbrev k9 (x : bn) : List AV := [.int .i64 x.gW, .int .i64 x.To, .lst false (ml aH x.Database.aq)]
abbrev k10 (x : fQ) : List AV := [.int .i64 x.ak, .int .i64 x.Claim.b9, .int .i64 x.Claim.ID, .int .i64 x.Claim.Length]
abbrev k11 (x : aB) : List AV := [.lst false (ml az x.Links), .lst false (ml aO x.aC), .lst false (ml aN x.aA)]
end Go.Proofs.YtpmifmdidfgpdaaGreat
