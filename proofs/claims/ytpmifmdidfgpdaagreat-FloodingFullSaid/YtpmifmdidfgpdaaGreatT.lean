/- The data of the program, as Lean data, and what is known of its types. No condition but bU bB stand in each. -/
import Derived.Test.YtpmifmdidfgpdaaGreatF
import Derived.Test.YtpmifmdidfgpdaaGreatBA
import Derived.Test.YtpmifmdidfgpdaaGreatB7
namespace Go.Proofs.YtpmifmdidfgpdaaGreat
open Go
set_option maxRecDepth 100000
set_option linter.all false
structure aX where
 ID : Int
 aW : Bool
instance : Inhabited aX := ⟨aX.mk (0:Int) false⟩
def aU : En aX := ⟨fun x => [.int .i64 x.ID, .bool x.aW], 2, fun _ => rfl, fun _ => rfl, fun _ => rfl⟩
def sF (a b : aX) : Bool := decide (a.ID = b.ID) && ((a.aW == b.aW) && true)
structure aT where
 A : Int
 B : Int
 jh : Int
 iN : Int
 bY : Int
instance : Inhabited aT := ⟨aT.mk (0:Int) (0:Int) (0:Int) (0:Int) (0:Int)⟩
def aA : En aT := ⟨fun x => [.int .i64 x.A, .int .i64 x.B, .int .i64 x.jh, .int .i64 x.iN, .int .i64 x.bY], 5, fun _ => rfl, fun _ => rfl, fun _ => rfl⟩
def vu (a b : aT) : Bool := decide (a.A = b.A) && (decide (a.B = b.B) && (decide (a.jh = b.jh) && (decide (a.iN = b.iN) && (decide (a.bY = b.bY) && true))))
structure aH where
 aK : List aX
 Links : List aT
instance : Inhabited aH := ⟨aH.mk [] []⟩
structure aQ where
 L : List Int
 At : Int
instance : Inhabited aQ := ⟨aQ.mk [] (0:Int)⟩
structure ah7 where
 gM : Int
 To : Int
instance : Inhabited ah7 := ⟨ah7.mk (0:Int) (0:Int)⟩
structure acJ where
 Links : List ah7
 aK : List Int
instance : Inhabited acJ := ⟨acJ.mk [] []⟩
structure bz where
 cc : Int
 ID : Int
 Length : Int
instance : Inhabited bz := ⟨bz.mk (0:Int) (0:Int) (0:Int)⟩
def aS : En bz := ⟨fun x => [.int .i64 x.cc, .int .i64 x.ID, .int .i64 x.Length], 3, fun _ => rfl, fun _ => rfl, fun _ => rfl⟩
def gN (a b : bz) : Bool := decide (a.cc = b.cc) && (decide (a.ID = b.ID) && (decide (a.Length = b.Length) && true))
structure bu where
 bw : Int
 lY : Int
 bY : Int
instance : Inhabited bu := ⟨bu.mk (0:Int) (0:Int) (0:Int)⟩
def bh : En bu := ⟨fun x => [.int .i64 x.bw, .int .i64 x.lY, .int .i64 x.bY], 3, fun _ => rfl, fun _ => rfl, fun _ => rfl⟩
def jN (a b : bu) : Bool := decide (a.bw = b.bw) && (decide (a.lY = b.lY) && (decide (a.bY = b.bY) && true))
structure ak where
 aq : Int
 Seq : Int
 aW : Bool
 Links : List bu
 Claims : List bz
instance : Inhabited ak := ⟨ak.mk (0:Int) (0:Int) false [] []⟩
def aI : En ak := ⟨fun x => [.int .i64 x.aq, .int .i64 x.Seq, .bool x.aW, .lst false (ml bh x.Links), .lst false (ml aS x.Claims)], 5, fun _ => rfl, fun _ => rfl, fun _ => rfl⟩
structure aD where
 az : List ak
instance : Inhabited aD := ⟨aD.mk []⟩
def aar : En aD := ⟨fun x => [.lst false (ml aI x.az)], 1, fun _ => rfl, fun _ => rfl, fun _ => rfl⟩
structure aZ where
 aq : Int
 Seq : Int
 aW : Bool
 Claims : List bz
 Database : aD
instance : Inhabited aZ := ⟨aZ.mk (0:Int) (0:Int) false [] (aD.mk [])⟩
def aN : En aZ := ⟨fun x => [.int .i64 x.aq, .int .i64 x.Seq, .bool x.aW, .lst false (ml aS x.Claims), .lst false (ml aI x.Database.az)], 5, fun _ => rfl, fun _ => rfl, fun _ => rfl⟩
structure br where
 gM : Int
 To : Int
 Database : aD
instance : Inhabited br := ⟨br.mk (0:Int) (0:Int) (aD.mk [])⟩
def aF : En br := ⟨fun x => [.int .i64 x.gM, .int .i64 x.To, .lst false (ml aI x.Database.az)], 3, fun _ => rfl, fun _ => rfl, fun _ => rfl⟩
structure gb where
 aq : Int
 Claim : bz
instance : Inhabited gb := ⟨gb.mk (0:Int) (bz.mk (0:Int) (0:Int) (0:Int))⟩
def ec : En gb := ⟨fun x => [.int .i64 x.aq, .int .i64 x.Claim.cc, .int .i64 x.Claim.ID, .int .i64 x.Claim.Length], 4, fun _ => rfl, fun _ => rfl, fun _ => rfl⟩
structure aY where
 Data : List Int
 Bits : Int
instance : Inhabited aY := ⟨aY.mk [] (0:Int)⟩
structure bL where
 s_ : aY
instance : Inhabited bL := ⟨bL.mk (aY.mk [] (0:Int))⟩
structure aB where
 Links : List aT
 aG : List aZ
 aj : List br
instance : Inhabited aB := ⟨aB.mk [] [] []⟩
def gU : En aB := ⟨fun x => [.lst false (ml aA x.Links), .lst false (ml aN x.aG), .lst false (ml aF x.aj)], 3, fun _ => rfl, fun _ => rfl, fun _ => rfl⟩
structure aO where
 f_ : aB
instance : Inhabited aO := ⟨aO.mk (aB.mk [] [] [])⟩
def ti1 : TI := ⟨1, false, some [.nilFunc], .oth⟩
theorem tk1 : bX Tryz.prog 1 ti1 := ⟨ty1, fun zs h => by cases h; exact ze1, trivial⟩
def ti2 : TI := ⟨1, false, some [.int .i64 0], .int .i64⟩
theorem tk2 : bX Tryz.prog 2 ti2 := ⟨ty2, fun zs h => by cases h; exact ze2, Tryz.underlying2⟩
def ti3 : TI := ⟨1, false, some [.int .i64 0], .int .i64⟩
theorem tk3 : bX Tryz.prog 3 ti3 := ⟨ty3, fun zs h => by cases h; exact ze3, Tryz.underlying3⟩
def ti4 : TI := ⟨1, false, some [.bool false], .bool⟩
theorem tk4 : bX Tryz.prog 4 ti4 := ⟨ty4, fun zs h => by cases h; exact ze4, Tryz.underlying4⟩
def ti5 : TI := ⟨1, false, some [.int .u8 0], .int .u8⟩
theorem tk5 : bX Tryz.prog 5 ti5 := ⟨ty5, fun zs h => by cases h; exact ze5, Tryz.underlying5⟩
def ti6 : TI := ⟨1, false, some [.int .u8 0], .int .u8⟩
theorem tk6 : bX Tryz.prog 6 ti6 := ⟨ty6, fun zs h => by cases h; exact ze6, Tryz.underlying6⟩
def ti7 : TI := ⟨4, true, some [.int .i64 0, .int .i64 0, .bool false, .int .u8 0], .struct [.int .i64 0, .int .i64 0, .bool false, .int .u8 0] [(0, 1), (1, 1), (2, 1), (3, 1)] [false, false, false, false]⟩
theorem tk7 : bX Tryz.prog 7 ti7 := ⟨ty7, fun zs h => by cases h; exact ze7, cq str7 ⟨ant, anu, anv, anw, trivial⟩ ⟨anx, anz, anA, anB, trivial⟩⟩
def ti8 : TI := ⟨4, true, some [.int .i64 0, .int .i64 0, .bool false, .int .u8 0], .struct [.int .i64 0, .int .i64 0, .bool false, .int .u8 0] [(0, 1), (1, 1), (2, 1), (3, 1)] [false, false, false, false]⟩
theorem tk8 : bX Tryz.prog 8 ti8 := ⟨ty8, fun zs h => by cases h; exact ze8, cq str8 ⟨anC, anD, anE, anF, trivial⟩ ⟨anG, anH, anI, anJ, trivial⟩⟩
def ti9 : TI := ⟨1, false, some [.string ⟨#[]⟩], .str⟩
theorem tk9 : bX Tryz.prog 9 ti9 := ⟨ty9, fun zs h => by cases h; exact ze9, Tryz.underlying9⟩
def aoD : TI := ⟨1, false, some [.string ⟨#[]⟩], .str⟩
theorem tk10 : bX Tryz.prog 10 aoD := ⟨ty10, fun zs h => by cases h; exact ze10, Tryz.underlying10⟩
def aoE : TI := ⟨1, false, some [.string ⟨#[]⟩], .str⟩
theorem tk11 : bX Tryz.prog 11 aoE := ⟨ty11, fun zs h => by cases h; exact ze11, Tryz.underlying11⟩
def aoF : TI := ⟨1, false, some [.int .u64 0], .int .u64⟩
theorem tk12 : bX Tryz.prog 12 aoF := ⟨zj, fun zs h => by cases h; exact ze12, Tryz.underlying12⟩
def aoG : TI := ⟨2, true, some [.string ⟨#[]⟩, .int .u64 0], .struct [.string ⟨#[]⟩, .int .u64 0] [(0, 1), (1, 1)] [false, false]⟩
theorem tk13 : bX Tryz.prog 13 aoG := ⟨ty13, fun zs h => by cases h; exact ze13, cq ari ⟨akd, ake, trivial⟩ ⟨akf, akg, trivial⟩⟩
def aoH : TI := ⟨2, true, some [.string ⟨#[]⟩, .int .u64 0], .struct [.string ⟨#[]⟩, .int .u64 0] [(0, 1), (1, 1)] [false, false]⟩
theorem tk14 : bX Tryz.prog 14 aoH := ⟨ty14, fun zs h => by cases h; exact ze14, cq arj ⟨akh, aki, trivial⟩ ⟨akj, akk, trivial⟩⟩
def aoI : TI := ⟨1, false, some [.pointer none], .oth⟩
theorem tk15 : bX Tryz.prog 15 aoI := ⟨ty15, fun zs h => by cases h; exact ze15, trivial⟩
def aoJ : TI := ⟨1, false, some [.pointer none], .oth⟩
theorem tk16 : bX Tryz.prog 16 aoJ := ⟨ty16, fun zs h => by cases h; exact ze16, trivial⟩
def aoK : TI := ⟨1, false, some [.pointer none], .oth⟩
theorem tk17 : bX Tryz.prog 17 aoK := ⟨wh, fun zs h => by cases h; exact ze17, trivial⟩
def aoL : TI := ⟨1, true, some [.pointer none], .struct [.pointer none] [(0, 1)] [false]⟩
theorem tk18 : bX Tryz.prog 18 aoL := ⟨ty18, fun zs h => by cases h; exact ze18, cq ark ⟨akl, trivial⟩ ⟨akm, trivial⟩⟩
def aoM : TI := ⟨1, true, some [.pointer none], .struct [.pointer none] [(0, 1)] [false]⟩
theorem tk19 : bX Tryz.prog 19 aoM := ⟨ty19, fun zs h => by cases h; exact ze19, cq arl ⟨akn, trivial⟩ ⟨ako, trivial⟩⟩
def aoN : TI := ⟨1, false, some [.int .i32 0], .int .i32⟩
theorem tk21 : bX Tryz.prog 21 aoN := ⟨ty21, fun zs h => by cases h; exact ze21, Tryz.underlying21⟩
def aoO : TI := ⟨1, false, some [.slice none 0 0], .slice 3 1 8 [.int .i64 0]⟩
theorem tk22 : bX Tryz.prog 22 aoO := ⟨acv, fun zs h => by cases h; exact ze22, ⟨sl22, arn, aro⟩⟩
def aoP : TI := ⟨1, false, some [.slice none 0 0], .slice 78 5 40 [.int .i64 0, .int .i64 0, .int .i64 0, .int .i64 0, .int .i64 0]⟩
theorem tk23 : bX Tryz.prog 23 aoP := ⟨acw, fun zs h => by cases h; exact anl, ⟨sl23, arp, arq⟩⟩
def aoQ : TI := ⟨1, false, some [.slice none 0 0], .slice 81 5 72 [.int .i64 0, .int .i64 0, .bool false, .slice none 0 0, .slice none 0 0]⟩
theorem tk24 : bX Tryz.prog 24 aoQ := ⟨af5, fun zs h => by cases h; exact ze24, ⟨sl24, ars, art⟩⟩
def aoR : TI := ⟨1, false, some [.slice none 0 0], .slice 62 3 40 [.int .i64 0, .int .i64 0, .slice none 0 0]⟩
theorem tk25 : bX Tryz.prog 25 aoR := ⟨af6, fun zs h => by cases h; exact ze25, ⟨sl25, aru, arv⟩⟩
def aoS : TI := ⟨3, true, some [.slice none 0 0, .slice none 0 0, .slice none 0 0], .struct [.slice none 0 0, .slice none 0 0, .slice none 0 0] [(0, 1), (1, 1), (2, 1)] [false, false, false]⟩
theorem tk26 : bX Tryz.prog 26 aoS := ⟨ty26, fun zs h => by cases h; exact ze26, cq arw ⟨akp, akq, akr, trivial⟩ ⟨aks, akt, aku, trivial⟩⟩
def aoT : TI := ⟨3, true, some [.slice none 0 0, .slice none 0 0, .slice none 0 0], .struct [.slice none 0 0, .slice none 0 0, .slice none 0 0] [(0, 1), (1, 1), (2, 1)] [false, false, false]⟩
theorem tk27 : bX Tryz.prog 27 aoT := ⟨af7, fun zs h => by cases h; exact anm, cq arx ⟨akv, akw, akx, trivial⟩ ⟨aky, akz, akA, trivial⟩⟩
def aoU : TI := ⟨1, false, some [.pointer none], .oth⟩
theorem tk28 : bX Tryz.prog 28 aoU := ⟨ty28, fun zs h => by cases h; exact ze28, trivial⟩
def aoV : TI := ⟨1, false, some [.slice none 0 0], .slice 27 3 72 [.slice none 0 0, .slice none 0 0, .slice none 0 0]⟩
theorem tk32 : bX Tryz.prog 32 aoV := ⟨ty32, fun zs h => by cases h; exact ze32, ⟨sl32, ary, arz⟩⟩
def aoW : TI := ⟨1, false, some [.int .i64 0], .int .i64⟩
theorem tk34 : bX Tryz.prog 34 aoW := ⟨ty34, fun zs h => by cases h; exact ze34, Tryz.underlying34⟩
def aoX : TI := ⟨1, false, some [.slice none 0 0], .slice 87 2 16 [.int .i64 0, .bool false]⟩
theorem tk42 : bX Tryz.prog 42 aoX := ⟨af8, fun zs h => by cases h; exact ze42, ⟨sl42, arA, arB⟩⟩
def aoY : TI := ⟨2, true, some [.slice none 0 0, .slice none 0 0], .struct [.slice none 0 0, .slice none 0 0] [(0, 1), (1, 1)] [false, false]⟩
theorem tk43 : bX Tryz.prog 43 aoY := ⟨ty43, fun zs h => by cases h; exact ze43, cq arC ⟨akB, akC, trivial⟩ ⟨akD, akE, trivial⟩⟩
def aoZ : TI := ⟨2, true, some [.slice none 0 0, .slice none 0 0], .struct [.slice none 0 0, .slice none 0 0] [(0, 1), (1, 1)] [false, false]⟩
theorem tk44 : bX Tryz.prog 44 aoZ := ⟨ty44, fun zs h => by cases h; exact ze44, cq arD ⟨akF, akG, trivial⟩ ⟨akH, akI, trivial⟩⟩
def ao0 : TI := ⟨1, false, some [.slice none 0 0], .slice 106 3 24 [.int .i64 0, .int .i64 0, .int .i64 0]⟩
theorem tk47 : bX Tryz.prog 47 ao0 := ⟨af9, fun zs h => by cases h; exact ze47, ⟨sl47, arE, arF⟩⟩
def ao1 : TI := ⟨1, false, some [.slice none 0 0], .slice 85 3 24 [.int .i64 0, .int .i64 0, .int .i64 0]⟩
theorem tk48 : bX Tryz.prog 48 ao1 := ⟨acy, fun zs h => by cases h; exact ze48, ⟨sl48, arG, arH⟩⟩
def ao2 : TI := ⟨5, true, some [.int .i64 0, .int .i64 0, .bool false, .slice none 0 0, .slice none 0 0], .struct [.int .i64 0, .int .i64 0, .bool false, .slice none 0 0, .slice none 0 0] [(0, 1), (1, 1), (2, 1), (3, 1), (4, 1)] [false, false, false, false, false]⟩
theorem tk49 : bX Tryz.prog 49 ao2 := ⟨ty49, fun zs h => by cases h; exact ze49, cq arI ⟨akJ, akK, akL, akM, akN, trivial⟩ ⟨akO, akP, akQ, akR, akS, trivial⟩⟩
def ao3 : TI := ⟨5, true, some [.int .i64 0, .int .i64 0, .bool false, .slice none 0 0, .slice none 0 0], .struct [.int .i64 0, .int .i64 0, .bool false, .slice none 0 0, .slice none 0 0] [(0, 1), (1, 1), (2, 1), (3, 1), (4, 1)] [false, false, false, false, false]⟩
theorem tk50 : bX Tryz.prog 50 ao3 := ⟨ty50, fun zs h => by cases h; exact ann, cq arJ ⟨akT, akU, akV, akW, akX, trivial⟩ ⟨akY, akZ, ak0, ak1, ak2, trivial⟩⟩
def ao4 : TI := ⟨1, false, some [.nilFunc], .oth⟩
theorem tk53 : bX Tryz.prog 53 ao4 := ⟨ty53, fun zs h => by cases h; exact ze53, trivial⟩
def ao5 : TI := ⟨1, false, some [.slice none 0 0], .slice 50 5 72 [.int .i64 0, .int .i64 0, .bool false, .slice none 0 0, .slice none 0 0]⟩
theorem tk58 : bX Tryz.prog 58 ao5 := ⟨aga, fun zs h => by cases h; exact ze58, ⟨sl58, arK, arL⟩⟩
def ao6 : TI := ⟨1, true, some [.slice none 0 0], .struct [.slice none 0 0] [(0, 1)] [false]⟩
theorem tk59 : bX Tryz.prog 59 ao6 := ⟨ty59, fun zs h => by cases h; exact ze59, cq arM ⟨ak3, trivial⟩ ⟨ak4, trivial⟩⟩
def ao7 : TI := ⟨1, true, some [.slice none 0 0], .struct [.slice none 0 0] [(0, 1)] [false]⟩
theorem tk60 : bX Tryz.prog 60 ao7 := ⟨acz, fun zs h => by cases h; exact ze60, cq arN ⟨ak5, trivial⟩ ⟨ak6, trivial⟩⟩
def ao8 : TI := ⟨3, true, some [.int .i64 0, .int .i64 0, .slice none 0 0], .struct [.int .i64 0, .int .i64 0, .slice none 0 0] [(0, 1), (1, 1), (2, 1)] [false, false, true]⟩
theorem tk61 : bX Tryz.prog 61 ao8 := ⟨ty61, fun zs h => by cases h; exact ze61, cq arO ⟨ak7, ak8, ak9, trivial⟩ ⟨ala, alb, alc, trivial⟩⟩
def ao9 : TI := ⟨3, true, some [.int .i64 0, .int .i64 0, .slice none 0 0], .struct [.int .i64 0, .int .i64 0, .slice none 0 0] [(0, 1), (1, 1), (2, 1)] [false, false, true]⟩
theorem tk62 : bX Tryz.prog 62 ao9 := ⟨ty62, fun zs h => by cases h; exact ano, cq arP ⟨ald, ale, alf, trivial⟩ ⟨alg, alh, ali, trivial⟩⟩
def apa : TI := ⟨1, false, some [.slice none 0 0], .slice 120 2 16 [.int .i64 0, .int .i64 0]⟩
theorem tk65 : bX Tryz.prog 65 apa := ⟨agb, fun zs h => by cases h; exact ze65, ⟨sl65, arQ, arR⟩⟩
def apb : TI := ⟨2, true, some [.slice none 0 0, .slice none 0 0], .struct [.slice none 0 0, .slice none 0 0] [(0, 1), (1, 1)] [false, false]⟩
theorem tk66 : bX Tryz.prog 66 apb := ⟨ty66, fun zs h => by cases h; exact ze66, cq arS ⟨alj, alk, trivial⟩ ⟨alm, aln, trivial⟩⟩
def apc : TI := ⟨2, true, some [.slice none 0 0, .slice none 0 0], .struct [.slice none 0 0, .slice none 0 0] [(0, 1), (1, 1)] [false, false]⟩
theorem tk67 : bX Tryz.prog 67 apc := ⟨ty67, fun zs h => by cases h; exact ze67, cq arT ⟨alo, alp, trivial⟩ ⟨alq, alr, trivial⟩⟩
def apd : TI := ⟨1, false, some [.slice none 0 0], .slice 23 1 24 [.slice none 0 0]⟩
theorem tk70 : bX Tryz.prog 70 apd := ⟨ty70, fun zs h => by cases h; exact ze70, ⟨sl70, arU, arV⟩⟩
def ape : TI := ⟨2, true, some [.slice none 0 0, .int .i64 0], .struct [.slice none 0 0, .int .i64 0] [(0, 1), (1, 1)] [false, false]⟩
theorem tk73 : bX Tryz.prog 73 ape := ⟨ty73, fun zs h => by cases h; exact ze73, cq arW ⟨als, alu, trivial⟩ ⟨alv, alw, trivial⟩⟩
def apf : TI := ⟨2, true, some [.slice none 0 0, .int .i64 0], .struct [.slice none 0 0, .int .i64 0] [(0, 1), (1, 1)] [false, false]⟩
theorem tk74 : bX Tryz.prog 74 apf := ⟨ty74, fun zs h => by cases h; exact ze74, cq arX ⟨alx, aly, trivial⟩ ⟨alz, alA, trivial⟩⟩
def apg : TI := ⟨1, false, some [.nilFunc], .oth⟩
theorem tk75 : bX Tryz.prog 75 apg := ⟨ty75, fun zs h => by cases h; exact ze75, trivial⟩
def aph : TI := ⟨5, true, some [.int .i64 0, .int .i64 0, .int .i64 0, .int .i64 0, .int .i64 0], .struct [.int .i64 0, .int .i64 0, .int .i64 0, .int .i64 0, .int .i64 0] [(0, 1), (1, 1), (2, 1), (3, 1), (4, 1)] [false, false, false, false, false]⟩
theorem tk77 : bX Tryz.prog 77 aph := ⟨ty77, fun zs h => by cases h; exact ze77, cq arY ⟨alB, alC, alD, alF, alG, trivial⟩ ⟨alH, alI, alJ, alK, alL, trivial⟩⟩
def api : TI := ⟨5, true, some [.int .i64 0, .int .i64 0, .int .i64 0, .int .i64 0, .int .i64 0], .struct [.int .i64 0, .int .i64 0, .int .i64 0, .int .i64 0, .int .i64 0] [(0, 1), (1, 1), (2, 1), (3, 1), (4, 1)] [false, false, false, false, false]⟩
theorem tk78 : bX Tryz.prog 78 api := ⟨ty78, fun zs h => by cases h; exact anp, cq arZ ⟨alM, alN, alO, alP, alQ, trivial⟩ ⟨alR, alS, alT, alU, alV, trivial⟩⟩
def apj : TI := ⟨5, true, some [.int .i64 0, .int .i64 0, .bool false, .slice none 0 0, .slice none 0 0], .struct [.int .i64 0, .int .i64 0, .bool false, .slice none 0 0, .slice none 0 0] [(0, 1), (1, 1), (2, 1), (3, 1), (4, 1)] [false, false, false, false, true]⟩
theorem tk80 : bX Tryz.prog 80 apj := ⟨ty80, fun zs h => by cases h; exact ze80, cq ar1 ⟨alW, alX, alY, alZ, al0, trivial⟩ ⟨al1, al2, al3, al4, al5, trivial⟩⟩
def apk : TI := ⟨5, true, some [.int .i64 0, .int .i64 0, .bool false, .slice none 0 0, .slice none 0 0], .struct [.int .i64 0, .int .i64 0, .bool false, .slice none 0 0, .slice none 0 0] [(0, 1), (1, 1), (2, 1), (3, 1), (4, 1)] [false, false, false, false, true]⟩
theorem tk81 : bX Tryz.prog 81 apk := ⟨ty81, fun zs h => by cases h; exact anq, cq ar2 ⟨al6, al7, al8, al9, ama, trivial⟩ ⟨amb, amc, amd, ame, amf, trivial⟩⟩
def apl : TI := ⟨3, true, some [.int .i64 0, .int .i64 0, .int .i64 0], .struct [.int .i64 0, .int .i64 0, .int .i64 0] [(0, 1), (1, 1), (2, 1)] [false, false, false]⟩
theorem tk84 : bX Tryz.prog 84 apl := ⟨ty84, fun zs h => by cases h; exact ze84, cq ar3 ⟨amg, amh, ami, trivial⟩ ⟨amj, amk, aml, trivial⟩⟩
def apm : TI := ⟨3, true, some [.int .i64 0, .int .i64 0, .int .i64 0], .struct [.int .i64 0, .int .i64 0, .int .i64 0] [(0, 1), (1, 1), (2, 1)] [false, false, false]⟩
theorem tk85 : bX Tryz.prog 85 apm := ⟨agd, fun zs h => by cases h; exact anr, cq ar4 ⟨amm, amn, amo, trivial⟩ ⟨amp, amq, amr, trivial⟩⟩
def apn : TI := ⟨2, true, some [.int .i64 0, .bool false], .struct [.int .i64 0, .bool false] [(0, 1), (1, 1)] [false, false]⟩
theorem tk86 : bX Tryz.prog 86 apn := ⟨ty86, fun zs h => by cases h; exact ze86, cq ar6 ⟨ams, amt, trivial⟩ ⟨amu, amv, trivial⟩⟩
def apo : TI := ⟨2, true, some [.int .i64 0, .bool false], .struct [.int .i64 0, .bool false] [(0, 1), (1, 1)] [false, false]⟩
theorem tk87 : bX Tryz.prog 87 apo := ⟨ty87, fun zs h => by cases h; exact ans, cq ar7 ⟨amw, amx, trivial⟩ ⟨amy, amz, trivial⟩⟩
def apq : TI := ⟨1, false, some [.pointer none], .oth⟩
theorem tk88 : bX Tryz.prog 88 apq := ⟨ty88, fun zs h => by cases h; exact ze88, trivial⟩
def apr : TI := ⟨3, true, some [.slice none 0 0, .slice none 0 0, .slice none 0 0], .struct [.slice none 0 0, .slice none 0 0, .slice none 0 0] [(0, 3)] [true]⟩
theorem tk90 : bX Tryz.prog 90 apr := ⟨ty90, fun zs h => by cases h; exact ze90, cq ar9 ⟨amA, trivial⟩ ⟨amB, trivial⟩⟩
def aps : TI := ⟨3, true, some [.slice none 0 0, .slice none 0 0, .slice none 0 0], .struct [.slice none 0 0, .slice none 0 0, .slice none 0 0] [(0, 3)] [true]⟩
theorem tk91 : bX Tryz.prog 91 aps := ⟨ty91, fun zs h => by cases h; exact ze91, cq asa ⟨amC, trivial⟩ ⟨amD, trivial⟩⟩
def apt : TI := ⟨1, false, some [.slice none 0 0], .slice 1 1 8 [.nilFunc]⟩
theorem tk92 : bX Tryz.prog 92 apt := ⟨ty92, fun zs h => by cases h; exact ze92, ⟨sl92, asb, asd⟩⟩
def apu : TI := ⟨1, false, some [.nilFunc], .oth⟩
theorem tk95 : bX Tryz.prog 95 apu := ⟨ty95, fun zs h => by cases h; exact ze95, trivial⟩
def aiR : TI := ⟨3, true, some [.int .i64 0, .int .i64 0, .int .i64 0], .struct [.int .i64 0, .int .i64 0, .int .i64 0] [(0, 1), (1, 1), (2, 1)] [false, false, false]⟩
theorem asW : bX Tryz.prog 105 aiR := ⟨ase, fun zs h => by cases h; exact aqC, cq anK ⟨agf, agh, agi, trivial⟩ ⟨agj, agk, agl, trivial⟩⟩
def aiS : TI := ⟨3, true, some [.int .i64 0, .int .i64 0, .int .i64 0], .struct [.int .i64 0, .int .i64 0, .int .i64 0] [(0, 1), (1, 1), (2, 1)] [false, false, false]⟩
theorem asX : bX Tryz.prog 106 aiS := ⟨asf, fun zs h => by cases h; exact aiK, cq anL ⟨agm, agn, ago, trivial⟩ ⟨agp, agq, agr, trivial⟩⟩
def aiT : TI := ⟨1, false, some [.nilFunc], .oth⟩
theorem asY : bX Tryz.prog 109 aiT := ⟨asg, fun zs h => by cases h; exact aqD, trivial⟩
def aiU : TI := ⟨2, true, some [.int .i64 0, .int .i64 0], .struct [.int .i64 0, .int .i64 0] [(0, 1), (1, 1)] [false, false]⟩
theorem asZ : bX Tryz.prog 119 aiU := ⟨ash, fun zs h => by cases h; exact aqE, cq anN ⟨agt, agu, trivial⟩ ⟨agv, agw, trivial⟩⟩
def aiV : TI := ⟨2, true, some [.int .i64 0, .int .i64 0], .struct [.int .i64 0, .int .i64 0] [(0, 1), (1, 1)] [false, false]⟩
theorem as0 : bX Tryz.prog 120 aiV := ⟨asi, fun zs h => by cases h; exact aiL, cq anO ⟨agx, agy, trivial⟩ ⟨agz, agA, trivial⟩⟩
def aiW : TI := ⟨1, false, some [.nilFunc], .oth⟩
theorem as1 : bX Tryz.prog 123 aiW := ⟨asj, fun zs h => by cases h; exact aqF, trivial⟩
def aiX : TI := ⟨1, false, some [.pointer none], .oth⟩
theorem as2 : bX Tryz.prog 124 aiX := ⟨asl, fun zs h => by cases h; exact aqG, trivial⟩
def aiY : TI := ⟨1, false, some [.nilFunc], .oth⟩
theorem as3 : bX Tryz.prog 133 aiY := ⟨asm, fun zs h => by cases h; exact aqH, trivial⟩
def aiZ : TI := ⟨1, false, some [.nilFunc], .oth⟩
theorem as4 : bX Tryz.prog 135 aiZ := ⟨asn, fun zs h => by cases h; exact aqI, trivial⟩
def ai0 : TI := ⟨1, false, some [.nilFunc], .oth⟩
theorem as5 : bX Tryz.prog 137 ai0 := ⟨aso, fun zs h => by cases h; exact aqJ, trivial⟩
def ai1 : TI := ⟨1, false, some [.nilFunc], .oth⟩
theorem as6 : bX Tryz.prog 138 ai1 := ⟨asp, fun zs h => by cases h; exact aqK, trivial⟩
def ai2 : TI := ⟨1, false, some [.nilFunc], .oth⟩
theorem as7 : bX Tryz.prog 141 ai2 := ⟨asq, fun zs h => by cases h; exact aqL, trivial⟩
def ai3 : TI := ⟨1, false, some [.slice none 0 0], .slice 155 4 32 [.int .i64 0, .int .i64 0, .int .i64 0, .int .i64 0]⟩
theorem as8 : bX Tryz.prog 152 ai3 := ⟨asr, fun zs h => by cases h; exact aqM, ⟨ass, anP, anQ⟩⟩
def ai4 : TI := ⟨4, true, some [.int .i64 0, .int .i64 0, .int .i64 0, .int .i64 0], .struct [.int .i64 0, .int .i64 0, .int .i64 0, .int .i64 0] [(0, 1), (1, 3)] [false, true]⟩
theorem as9 : bX Tryz.prog 154 ai4 := ⟨ast, fun zs h => by cases h; exact aqN, cq anR ⟨agB, agC, trivial⟩ ⟨agD, agE, trivial⟩⟩
def ai5 : TI := ⟨4, true, some [.int .i64 0, .int .i64 0, .int .i64 0, .int .i64 0], .struct [.int .i64 0, .int .i64 0, .int .i64 0, .int .i64 0] [(0, 1), (1, 3)] [false, true]⟩
theorem ata : bX Tryz.prog 155 ai5 := ⟨asu, fun zs h => by cases h; exact aiM, cq anS ⟨agF, agG, trivial⟩ ⟨agH, agI, trivial⟩⟩
def ai6 : TI := ⟨1, false, some [.nilFunc], .oth⟩
theorem atb : bX Tryz.prog 156 ai6 := ⟨asv, fun zs h => by cases h; exact aqO, trivial⟩
def ai7 : TI := ⟨1, false, some [.int .u64 0], .int .u64⟩
theorem atc : bX Tryz.prog 165 ai7 := ⟨asw, fun zs h => by cases h; exact aqP, Tryz.underlying165⟩
def ai8 : TI := ⟨1, false, some [.pointer none], .oth⟩
theorem atd : bX Tryz.prog 174 ai8 := ⟨asx, fun zs h => by cases h; exact aqQ, trivial⟩
def ai9 : TI := ⟨1, false, some [.nilFunc], .oth⟩
theorem ate : bX Tryz.prog 180 ai9 := ⟨asy, fun zs h => by cases h; exact aqR, trivial⟩
def aja : TI := ⟨1, false, some [.slice none 0 0], .slice 5 1 1 [.int .u8 0]⟩
theorem atf : bX Tryz.prog 182 aja := ⟨aej, fun zs h => by cases h; exact aqS, ⟨asz, anT, anU⟩⟩
def ajb : TI := ⟨1, false, some [.int .i64 0], .int .i64⟩
theorem atg : bX Tryz.prog 186 ajb := ⟨asA, fun zs h => by cases h; exact aqT, Tryz.underlying186⟩
def ajc : TI := ⟨1, false, some [.int .u32 0], .int .u32⟩
theorem ath : bX Tryz.prog 194 ajc := ⟨aek, fun zs h => by cases h; exact aqU, Tryz.underlying194⟩
def ajd : TI := ⟨1, false, some [.int .u64 0], .int .u64⟩
theorem ati : bX Tryz.prog 196 ajd := ⟨asB, fun zs h => by cases h; exact aqV, Tryz.underlying196⟩
def aje : TI := ⟨2, true, some [.slice none 0 0, .int .i64 0], .struct [.slice none 0 0, .int .i64 0] [(0, 1), (1, 1)] [false, false]⟩
theorem atj : bX Tryz.prog 200 aje := ⟨asC, fun zs h => by cases h; exact aqW, cq anV ⟨agJ, agK, trivial⟩ ⟨agL, agM, trivial⟩⟩
def ajf : TI := ⟨2, true, some [.slice none 0 0, .int .i64 0], .struct [.slice none 0 0, .int .i64 0] [(0, 1), (1, 1)] [false, false]⟩
theorem atk : bX Tryz.prog 201 ajf := ⟨ael, fun zs h => by cases h; exact aqX, cq anW ⟨agN, agO, trivial⟩ ⟨agP, agQ, trivial⟩⟩
def ajg : TI := ⟨1, false, some [.int .u64 0], .int .u64⟩
theorem atl : bX Tryz.prog 207 ajg := ⟨asD, fun zs h => by cases h; exact aqY, Tryz.underlying207⟩
def ajh : TI := ⟨1, false, some [.pointer none], .oth⟩
theorem atm : bX Tryz.prog 211 ajh := ⟨asE, fun zs h => by cases h; exact aqZ, trivial⟩
def aji : TI := ⟨2, true, some [.slice none 0 0, .int .i64 0], .struct [.slice none 0 0, .int .i64 0] [(0, 2)] [true]⟩
theorem atn : bX Tryz.prog 213 aji := ⟨asF, fun zs h => by cases h; exact aq0, cq anX ⟨agR, trivial⟩ ⟨agS, trivial⟩⟩
def ajj : TI := ⟨2, true, some [.slice none 0 0, .int .i64 0], .struct [.slice none 0 0, .int .i64 0] [(0, 2)] [true]⟩
theorem ato : bX Tryz.prog 214 ajj := ⟨asG, fun zs h => by cases h; exact aq1, cq anY ⟨agT, trivial⟩ ⟨agU, trivial⟩⟩
def ajk : TI := ⟨1, false, some [.pointer none], .oth⟩
theorem atp : bX Tryz.prog 220 ajk := ⟨asH, fun zs h => by cases h; exact aq2, trivial⟩
def ajl : TI := ⟨1, false, some [.pointer none], .oth⟩
theorem atq : bX Tryz.prog 224 ajl := ⟨asI, fun zs h => by cases h; exact aq3, trivial⟩
def ajm : TI := ⟨1, false, some [.pointer none], .oth⟩
theorem atr : bX Tryz.prog 228 ajm := ⟨asJ, fun zs h => by cases h; exact aq4, trivial⟩
def ajn : TI := ⟨4, true, some [.pointer none, .pointer none, .pointer none, .string ⟨#[]⟩], .struct [.pointer none, .pointer none, .pointer none, .string ⟨#[]⟩] [(0, 1), (1, 1), (2, 1), (3, 1)] [false, false, false, false]⟩
theorem att : bX Tryz.prog 230 ajn := ⟨asK, fun zs h => by cases h; exact aq5, cq anZ ⟨agV, agW, agX, agY, trivial⟩ ⟨agZ, ag0, ag3, ag4, trivial⟩⟩
def ajo : TI := ⟨4, true, some [.pointer none, .pointer none, .pointer none, .string ⟨#[]⟩], .struct [.pointer none, .pointer none, .pointer none, .string ⟨#[]⟩] [(0, 1), (1, 1), (2, 1), (3, 1)] [false, false, false, false]⟩
theorem atu : bX Tryz.prog 231 ajo := ⟨asL, fun zs h => by cases h; exact aq6, cq an0 ⟨ag5, ag6, ag7, ag8, trivial⟩ ⟨ag9, aha, ahb, ahc, trivial⟩⟩
def ajp : TI := ⟨0, true, some [], .oth⟩
theorem atv : bX Tryz.prog 232 ajp := ⟨asM, fun zs h => by cases h; exact aq7, trivial⟩
def ajq : TI := ⟨1, false, some [.int .u8 0], .int .u8⟩
theorem atw : bX Tryz.prog 235 ajq := ⟨aem, fun zs h => by cases h; exact aq8, Tryz.underlying235⟩
def ajr : TI := ⟨1, false, some [.int .u8 0], .int .u8⟩
theorem atx : bX Tryz.prog 236 ajr := ⟨aen, fun zs h => by cases h; exact aq9, Tryz.underlying236⟩
def ajs : TI := ⟨1, false, some [.nilFunc], .oth⟩
theorem aty : bX Tryz.prog 237 ajs := ⟨aeo, fun zs h => by cases h; exact ara, trivial⟩
def ajt : TI := ⟨1, false, some [.pointer none], .oth⟩
theorem atz : bX Tryz.prog 238 ajt := ⟨aep, fun zs h => by cases h; exact arb, trivial⟩
def aju : TI := ⟨1, false, some [.int .i32 0], .int .i32⟩
theorem atA : bX Tryz.prog 239 aju := ⟨aeq, fun zs h => by cases h; exact arc, Tryz.underlying239⟩
def ajv : TI := ⟨1, false, some [.int .i32 0], .int .i32⟩
theorem atB : bX Tryz.prog 240 ajv := ⟨aer, fun zs h => by cases h; exact ard, Tryz.underlying240⟩
def ajw : TI := ⟨11, true, some [.int .u64 0, .int .u64 0, .int .u32 0, .int .u8 0, .int .u8 0, .int .u8 0, .int .u8 0, .nilFunc, .pointer none, .int .i32 0, .int .i32 0], .struct [.int .u64 0, .int .u64 0, .int .u32 0, .int .u8 0, .int .u8 0, .int .u8 0, .int .u8 0, .nilFunc, .pointer none, .int .i32 0, .int .i32 0] [(0, 1), (1, 1), (2, 1), (3, 1), (4, 1), (5, 1), (6, 1), (7, 1), (8, 1), (9, 1), (10, 1)] [false, false, false, false, false, false, false, false, false, false, false]⟩
theorem atC : bX Tryz.prog 241 ajw := ⟨asN, fun zs h => by cases h; exact arf, cq an1 ⟨ahd, ahe, ahf, ahg, ahh, ahi, ahj, ahk, ahl, ahm, afb, trivial⟩ ⟨ahn, aho, ahp, ahq, ahr, ahs, aht, ahu, ahv, ahw, afc, trivial⟩⟩
def ajx : TI := ⟨11, true, some [.int .u64 0, .int .u64 0, .int .u32 0, .int .u8 0, .int .u8 0, .int .u8 0, .int .u8 0, .nilFunc, .pointer none, .int .i32 0, .int .i32 0], .struct [.int .u64 0, .int .u64 0, .int .u32 0, .int .u8 0, .int .u8 0, .int .u8 0, .int .u8 0, .nilFunc, .pointer none, .int .i32 0, .int .i32 0] [(0, 1), (1, 1), (2, 1), (3, 1), (4, 1), (5, 1), (6, 1), (7, 1), (8, 1), (9, 1), (10, 1)] [false, false, false, false, false, false, false, false, false, false, false]⟩
theorem atD : bX Tryz.prog 242 ajx := ⟨asO, fun zs h => by cases h; exact arh, cq an2 ⟨ahx, ahy, ahz, ahA, ahB, ahC, ahD, ahE, ahF, ahG, afd, trivial⟩ ⟨ahH, ahI, ahJ, ahK, ahL, ahM, ahN, ahO, ahP, ahQ, afe, trivial⟩⟩
def tb : Tb := [(1, ti1), (2, ti2), (3, ti3), (4, ti4), (5, ti5), (6, ti6), (7, ti7), (8, ti8), (9, ti9), (10, aoD), (11, aoE), (12, aoF), (13, aoG), (14, aoH), (15, aoI), (16, aoJ), (17, aoK), (18, aoL), (19, aoM), (21, aoN), (22, aoO), (23, aoP), (24, aoQ), (25, aoR), (26, aoS), (27, aoT), (28, aoU), (32, aoV), (34, aoW), (42, aoX), (43, aoY), (44, aoZ), (47, ao0), (48, ao1), (49, ao2), (50, ao3), (53, ao4), (58, ao5), (59, ao6), (60, ao7), (61, ao8), (62, ao9), (65, apa), (66, apb), (67, apc), (70, apd), (73, ape), (74, apf), (75, apg), (77, aph), (78, api), (80, apj), (81, apk), (84, apl), (85, apm), (86, apn), (87, apo), (88, apq), (90, apr), (91, aps), (92, apt), (95, apu), (105, aiR), (106, aiS), (109, aiT), (119, aiU), (120, aiV), (123, aiW), (124, aiX), (133, aiY), (135, aiZ), (137, ai0), (138, ai1), (141, ai2), (152, ai3), (154, ai4), (155, ai5), (156, ai6), (165, ai7), (174, ai8), (180, ai9), (182, aja), (186, ajb), (194, ajc), (196, ajd), (200, aje), (201, ajf), (207, ajg), (211, ajh), (213, aji), (214, ajj), (220, ajk), (224, ajl), (228, ajm), (230, ajn), (231, ajo), (232, ajp), (235, ajq), (236, ajr), (237, ajs), (238, ajt), (239, aju), (240, ajv), (241, ajw), (242, ajx)]
theorem W0 : Wld Tryz.prog tb := ⟨zi, ⟨tk1, tk2, tk3, tk4, tk5, tk6, tk7, tk8, tk9, tk10, tk11, tk12, tk13, tk14, tk15, tk16, tk17, tk18, tk19, tk21, tk22, tk23, tk24, tk25, tk26, tk27, tk28, tk32, tk34, tk42, tk43, tk44, tk47, tk48, tk49, tk50, tk53, tk58, tk59, tk60, tk61, tk62, tk65, tk66, tk67, tk70, tk73, tk74, tk75, tk77, tk78, tk80, tk81, tk84, tk85, tk86, tk87, tk88, tk90, tk91, tk92, tk95, asW, asX, asY, asZ, as0, as1, as2, as3, as4, as5, as6, as7, as8, as9, ata, atb, atc, atd, ate, atf, atg, ath, ati, atj, atk, atl, atm, atn, ato, atp, atq, atr, att, atu, atv, atw, atx, aty, atz, atA, atB, atC, atD, trivial⟩⟩
theorem ck9 : aM Tryz.prog 9 := ⟨Tryz.call9⟩
theorem ck10 : aM Tryz.prog 10 := ⟨Tryz.call10⟩
theorem apv : aM Tryz.prog 11 := ⟨Tryz.call11⟩
theorem ck12 : aM Tryz.prog 12 := ⟨Tryz.call12⟩
theorem ck13 : aM Tryz.prog 13 := ⟨Tryz.call13⟩
theorem s7 : aM Tryz.prog 15 := ⟨Tryz.call15⟩
theorem ah8 : aM Tryz.prog 16 := ⟨Tryz.call16⟩
theorem xG : aM Tryz.prog 17 := ⟨Tryz.call17⟩
theorem ck19 : aM Tryz.prog 19 := ⟨Tryz.call19⟩
theorem apw : aM Tryz.prog 21 := ⟨Tryz.call21⟩
theorem aaX : aM Tryz.prog 22 := ⟨Tryz.call22⟩
theorem xH : aM Tryz.prog 23 := ⟨Tryz.call23⟩
theorem wq : aM Tryz.prog 24 := ⟨Tryz.call24⟩
theorem ah9 : aM Tryz.prog 27 := ⟨Tryz.call27⟩
theorem apx : aM Tryz.prog 28 := ⟨Tryz.call28⟩
theorem ck32 : aM Tryz.prog 32 := ⟨Tryz.call32⟩
theorem apy : aM Tryz.prog 34 := ⟨Tryz.call34⟩
theorem apz : aM Tryz.prog 35 := ⟨Tryz.call35⟩
theorem ck38 : aM Tryz.prog 38 := ⟨Tryz.call38⟩
theorem ck41 : aM Tryz.prog 41 := ⟨Tryz.call41⟩
theorem ck42 : aM Tryz.prog 42 := ⟨Tryz.call42⟩
theorem ck43 : aM Tryz.prog 43 := ⟨Tryz.call43⟩
theorem ck44 : aM Tryz.prog 44 := ⟨Tryz.call44⟩
theorem ck45 : aM Tryz.prog 45 := ⟨Tryz.call45⟩
theorem zx : aM Tryz.prog 46 := ⟨Tryz.call46⟩
theorem iX : aM Tryz.prog 47 := ⟨Tryz.call47⟩
theorem zy : aM Tryz.prog 48 := ⟨Tryz.call48⟩
theorem apA : aM Tryz.prog 49 := ⟨Tryz.call49⟩
theorem qY : aM Tryz.prog 50 := ⟨Tryz.call50⟩
theorem apB : aM Tryz.prog 51 := ⟨Tryz.call51⟩
theorem apC : aM Tryz.prog 52 := ⟨Tryz.call52⟩
theorem apD : aM Tryz.prog 53 := ⟨Tryz.call53⟩
theorem acK : aM Tryz.prog 54 := ⟨Tryz.call54⟩
theorem apF : aM Tryz.prog 55 := ⟨Tryz.call55⟩
theorem ck56 : aM Tryz.prog 56 := ⟨Tryz.call56⟩
theorem aia : aM Tryz.prog 57 := ⟨Tryz.call57⟩
theorem aib : aM Tryz.prog 59 := ⟨Tryz.call59⟩
theorem acL : aM Tryz.prog 60 := ⟨Tryz.call60⟩
theorem aaY : aM Tryz.prog 61 := ⟨Tryz.call61⟩
theorem zz : aM Tryz.prog 62 := ⟨Tryz.call62⟩
theorem acM : aM Tryz.prog 63 := ⟨Tryz.call63⟩
theorem aic : aM Tryz.prog 64 := ⟨Tryz.call64⟩
theorem apG : aM Tryz.prog 65 := ⟨Tryz.call65⟩
theorem aeG : aM Tryz.prog 66 := ⟨Tryz.call66⟩
theorem apH : aM Tryz.prog 67 := ⟨Tryz.call67⟩
theorem ck68 : aM Tryz.prog 68 := ⟨Tryz.call68⟩
theorem apI : aM Tryz.prog 69 := ⟨Tryz.call69⟩
theorem aid : aM Tryz.prog 71 := ⟨Tryz.call71⟩
theorem xI : aM Tryz.prog 72 := ⟨Tryz.call72⟩
theorem apJ : aM Tryz.prog 73 := ⟨Tryz.call73⟩
theorem aeH : aM Tryz.prog 74 := ⟨Tryz.call74⟩
theorem apK : aM Tryz.prog 75 := ⟨Tryz.call75⟩
theorem ck76 : aM Tryz.prog 76 := ⟨Tryz.call76⟩
theorem apL : aM Tryz.prog 77 := ⟨Tryz.call77⟩
theorem apM : aM Tryz.prog 78 := ⟨Tryz.call78⟩
theorem ck79 : aM Tryz.prog 79 := ⟨Tryz.call79⟩
theorem ck80 : aM Tryz.prog 80 := ⟨Tryz.call80⟩
theorem aaZ : aM Tryz.prog 81 := ⟨Tryz.call81⟩
theorem acN : aM Tryz.prog 82 := ⟨Tryz.call82⟩
theorem aa0 : aM Tryz.prog 83 := ⟨Tryz.call83⟩
theorem ck86 : aM Tryz.prog 86 := ⟨Tryz.call86⟩
theorem ck89 : aM Tryz.prog 89 := ⟨Tryz.call89⟩
theorem aie : aM Tryz.prog 90 := ⟨Tryz.call90⟩
theorem apN : aM Tryz.prog 91 := ⟨Tryz.call91⟩
theorem ck92 : aM Tryz.prog 92 := ⟨Tryz.call92⟩
theorem apO : aM Tryz.prog 93 := ⟨Tryz.call93⟩
theorem apP : aM Tryz.prog 94 := ⟨Tryz.call94⟩
theorem ck95 : aM Tryz.prog 95 := ⟨Tryz.call95⟩
theorem apQ : aM Tryz.prog 96 := ⟨Tryz.call96⟩
theorem aif : aM Tryz.prog 97 := ⟨Tryz.call97⟩
theorem aih : aM Tryz.prog 98 := ⟨Tryz.call98⟩
theorem zA : aM Tryz.prog 99 := ⟨Tryz.call99⟩
theorem atE : aM Tryz.prog 100 := ⟨Tryz.call100⟩
theorem atF : aM Tryz.prog 101 := ⟨Tryz.call101⟩
theorem wu : aM Tryz.prog 102 := ⟨Tryz.call102⟩
theorem aeI : aM Tryz.prog 103 := ⟨Tryz.call103⟩
theorem ajy : aM Tryz.prog 104 := ⟨Tryz.call104⟩
theorem ajz : aM Tryz.prog 105 := ⟨Tryz.call105⟩
theorem aeJ : aM Tryz.prog 106 := ⟨Tryz.call106⟩
theorem atG : aM Tryz.prog 107 := ⟨Tryz.call107⟩
theorem atH : aM Tryz.prog 108 := ⟨Tryz.call108⟩
theorem atI : aM Tryz.prog 109 := ⟨Tryz.call109⟩
theorem ajA : aM Tryz.prog 110 := ⟨Tryz.call110⟩
theorem fL : aM Tryz.prog 111 := ⟨Tryz.call111⟩
theorem aeK : aM Tryz.prog 112 := ⟨Tryz.call112⟩
theorem atJ : aM Tryz.prog 113 := ⟨Tryz.call113⟩
theorem atK : aM Tryz.prog 114 := ⟨Tryz.call114⟩
theorem atL : aM Tryz.prog 115 := ⟨Tryz.call115⟩
theorem atM : aM Tryz.prog 116 := ⟨Tryz.call116⟩
theorem atN : aM Tryz.prog 117 := ⟨Tryz.call117⟩
theorem ab1 : aM Tryz.prog 118 := ⟨Tryz.call118⟩
theorem ajB : aM Tryz.prog 119 := ⟨Tryz.call119⟩
theorem atO : aM Tryz.prog 120 := ⟨Tryz.call120⟩
theorem wz : aM Tryz.prog 121 := ⟨Tryz.call121⟩
theorem ab2 : aM Tryz.prog 122 := ⟨Tryz.call122⟩
theorem atP : aM Tryz.prog 123 := ⟨Tryz.call123⟩
theorem atQ : aM Tryz.prog 124 := ⟨Tryz.call124⟩
theorem atS : aM Tryz.prog 125 := ⟨Tryz.call125⟩
theorem atT : aM Tryz.prog 127 := ⟨Tryz.call127⟩
theorem atU : aM Tryz.prog 128 := ⟨Tryz.call128⟩
theorem ajC : aM Tryz.prog 129 := ⟨Tryz.call129⟩
theorem atV : aM Tryz.prog 130 := ⟨Tryz.call130⟩
theorem atW : aM Tryz.prog 131 := ⟨Tryz.call131⟩
theorem atX : aM Tryz.prog 132 := ⟨Tryz.call132⟩
theorem ajD : aM Tryz.prog 133 := ⟨Tryz.call133⟩
theorem yz : aM Tryz.prog 134 := ⟨Tryz.call134⟩
theorem ajE : aM Tryz.prog 135 := ⟨Tryz.call135⟩
theorem wA : aM Tryz.prog 136 := ⟨Tryz.call136⟩
theorem ab3 : aM Tryz.prog 137 := ⟨Tryz.call137⟩
theorem yA : aM Tryz.prog 139 := ⟨Tryz.call139⟩
theorem atY : aM Tryz.prog 140 := ⟨Tryz.call140⟩
theorem atZ : aM Tryz.prog 141 := ⟨Tryz.call141⟩
theorem at0 : aM Tryz.prog 142 := ⟨Tryz.call142⟩
theorem gu : aM Tryz.prog 143 := ⟨Tryz.call143⟩
theorem aeL : aM Tryz.prog 144 := ⟨Tryz.call144⟩
theorem tF : aM Tryz.prog 145 := ⟨Tryz.call145⟩
theorem at3 : aM Tryz.prog 146 := ⟨Tryz.call146⟩
theorem at4 : aM Tryz.prog 147 := ⟨Tryz.call147⟩
theorem at5 : aM Tryz.prog 148 := ⟨Tryz.call148⟩
theorem at6 : aM Tryz.prog 149 := ⟨Tryz.call149⟩
theorem ajF : aM Tryz.prog 150 := ⟨Tryz.call150⟩
theorem at7 : aM Tryz.prog 151 := ⟨Tryz.call151⟩
theorem ajG : aM Tryz.prog 152 := ⟨Tryz.call152⟩
theorem ajH : aM Tryz.prog 153 := ⟨Tryz.call153⟩
theorem ajI : aM Tryz.prog 154 := ⟨Tryz.call154⟩
theorem at8 : aM Tryz.prog 156 := ⟨Tryz.call156⟩
theorem ajJ : aM Tryz.prog 157 := ⟨Tryz.call157⟩
theorem ajK : aM Tryz.prog 158 := ⟨Tryz.call158⟩
theorem at9 : aM Tryz.prog 159 := ⟨Tryz.call159⟩
theorem aua : aM Tryz.prog 160 := ⟨Tryz.call160⟩
theorem aub : aM Tryz.prog 161 := ⟨Tryz.call161⟩
theorem ajL : aM Tryz.prog 162 := ⟨Tryz.call162⟩
theorem auc : aM Tryz.prog 163 := ⟨Tryz.call163⟩
theorem aud : aM Tryz.prog 164 := ⟨Tryz.call164⟩
theorem aue : aM Tryz.prog 165 := ⟨Tryz.call165⟩
theorem auf : aM Tryz.prog 166 := ⟨Tryz.call166⟩
theorem aug : aM Tryz.prog 167 := ⟨Tryz.call167⟩
theorem auh : aM Tryz.prog 168 := ⟨Tryz.call168⟩
theorem ajM : aM Tryz.prog 169 := ⟨Tryz.call169⟩
theorem aui : aM Tryz.prog 170 := ⟨Tryz.call170⟩
theorem auj : aM Tryz.prog 180 := ⟨Tryz.call180⟩
theorem ajN : aM Tryz.prog 183 := ⟨Tryz.call183⟩
theorem auk : aM Tryz.prog 184 := ⟨Tryz.call184⟩
theorem pR : aM Tryz.prog 185 := ⟨Tryz.call185⟩
theorem aul : aM Tryz.prog 186 := ⟨Tryz.call186⟩
theorem aum : aM Tryz.prog 187 := ⟨Tryz.call187⟩
theorem aun : aM Tryz.prog 188 := ⟨Tryz.call188⟩
theorem pS : aM Tryz.prog 195 := ⟨Tryz.call195⟩
theorem auo : aM Tryz.prog 196 := ⟨Tryz.call196⟩
theorem aup : aM Tryz.prog 198 := ⟨Tryz.call198⟩
theorem aeM : aM Tryz.prog 199 := ⟨Tryz.call199⟩
theorem ajO : aM Tryz.prog 200 := ⟨Tryz.call200⟩
theorem ajP : aM Tryz.prog 201 := ⟨Tryz.call201⟩
theorem auq : aM Tryz.prog 204 := ⟨Tryz.call204⟩
theorem ajQ : aM Tryz.prog 205 := ⟨Tryz.call205⟩
theorem aur : aM Tryz.prog 206 := ⟨Tryz.call206⟩
theorem aus : aM Tryz.prog 207 := ⟨Tryz.call207⟩
theorem aut : aM Tryz.prog 208 := ⟨Tryz.call208⟩
theorem auu : aM Tryz.prog 209 := ⟨Tryz.call209⟩
theorem qS {N : Nat} {ids : List Nat} {y : Code} {Q : Exit → Env → Sto → Prop} {env : Env} {σ : Sto} {id : Nat} {ops : Array Oper} {dr : Bool} (hs : List (Nat × Hint Tryz.prog)) (cw : Env) (σ2 : Sto) (k : ai ⟨Tryz.prog, N, ids⟩ y Q cw σ2)
  (h : wo tb N ids ops dr (jo ops dr hs).1 (jo ops dr hs).2 [] hs (qQ cw) σ2.ids env σ = some (cw, σ2, (jo ops dr hs).2.map fun i => (hintOf hs i).exp) := by kernel_rfl) : ai ⟨Tryz.prog, N, ids⟩ (.seq (.region id ops dr) y) Q env σ := A.RS W0 [] hs cw σ2 h k
theorem qR {N : Nat} {ids : List Nat} {Q : Exit → Env → Sto → Prop} {env : Env} {σ : Sto} {id : Nat} {ops : Array Oper} {dr : Bool} (hs : List (Nat × Hint Tryz.prog)) (cw : Env) (σ2 : Sto) (k : Q .normal cw σ2)
  (h : wo tb N ids ops dr (jo ops dr hs).1 (jo ops dr hs).2 [] hs (qQ cw) σ2.ids env σ = some (cw, σ2, (jo ops dr hs).2.map fun i => (hintOf hs i).exp) := by kernel_rfl) : ai ⟨Tryz.prog, N, ids⟩ (.region id ops dr) Q env σ := A.R W0 [] hs cw σ2 h k
def apR (n : Nat) : List Nat → Bool
 | [] => false
 | k :: r => bif Nat.beq k n then true else apR n r
def mD {α : Type} (ks : List Nat) (new : List (Nat × α)) : List (Nat × α) → List (Nat × α)
 | [] => new
 | p :: l => bif apR p.1 ks then mD ks new l else p :: mD ks new l
section
variable {N : Nat} {ids : List Nat} {y : Code} {Q : Exit → Env → Sto → Prop} {env : Env} {σ : Sto} {id : Nat} {ops : Array Oper} {dr : Bool} (hs : List (Nat × Hint Tryz.prog)) (ks : List Nat) (new : Env) (js : List Nat) (nws : Sto)
theorem qD (k : ai ⟨Tryz.prog, N, ids⟩ y Q (mD ks new env) (mD js nws σ))
  (h : wo tb N ids ops dr (jo ops dr hs).1 (jo ops dr hs).2 [] hs (qQ (mD ks new env)) (Sto.ids (mD js nws σ)) env σ = some (mD ks new env, mD js nws σ, (jo ops dr hs).2.map fun i => (hintOf hs i).exp) := by kernel_rfl) : ai ⟨Tryz.prog, N, ids⟩ (.seq (.region id ops dr) y) Q env σ := A.RS W0 [] hs _ _ h k
theorem qDs (k : ai ⟨Tryz.prog, N, ids⟩ y Q (mD ks new env) σ)
  (h : wo tb N ids ops dr (jo ops dr hs).1 (jo ops dr hs).2 [] hs (qQ (mD ks new env)) σ.ids env σ = some (mD ks new env, σ, (jo ops dr hs).2.map fun i => (hintOf hs i).exp) := by kernel_rfl) : ai ⟨Tryz.prog, N, ids⟩ (.seq (.region id ops dr) y) Q env σ := A.RS W0 [] hs _ _ h k
theorem qG (k : Q .normal (mD ks new env) (mD js nws σ))
  (h : wo tb N ids ops dr (jo ops dr hs).1 (jo ops dr hs).2 [] hs (qQ (mD ks new env)) (Sto.ids (mD js nws σ)) env σ = some (mD ks new env, mD js nws σ, (jo ops dr hs).2.map fun i => (hintOf hs i).exp) := by kernel_rfl) : ai ⟨Tryz.prog, N, ids⟩ (.region id ops dr) Q env σ := A.R W0 [] hs _ _ h k
theorem qGs (k : Q .normal (mD ks new env) σ)
  (h : wo tb N ids ops dr (jo ops dr hs).1 (jo ops dr hs).2 [] hs (qQ (mD ks new env)) σ.ids env σ = some (mD ks new env, σ, (jo ops dr hs).2.map fun i => (hintOf hs i).exp) := by kernel_rfl) : ai ⟨Tryz.prog, N, ids⟩ (.region id ops dr) Q env σ := A.R W0 [] hs _ _ h k
end
theorem qE {N : Nat} {ids : List Nat} {fn : Func} {env : Env} {σ σ2 : Sto} {R : AV} (h : ah2 tb ids [] σ2.ids fn.results.toList env σ = some (R, σ2) := by kernel_rfl) :
  aeA ⟨Tryz.prog, N, ids⟩ fn (fun a σ' => a = R ∧ σ' = σ2) .ret env σ := A.fin W0 [] rfl h
theorem qW {G : Gl} {env cw : Env} {σ σ2 : Sto} (h : aan G.ids [] [] (qQ cw) σ2.ids env σ = some (cw, σ2) := by kernel_rfl) : bA G env σ cw σ2 := bA.go [] [] h
theorem qX {G : Gl} {α ρ : Type} {J : α → Option ρ} {r : ρ} {env : Env} {σ : Sto} {fT : α → Env} {iK : α → Sto} (g : α) (hg : J g = some r) (h : aan G.ids [] [] (qQ (fT g)) (iK g).ids env σ = some (fT g, iK g) := by kernel_rfl) :
  ∃ g, J g = some r ∧ bA G env σ (fT g) (iK g) := ⟨g, hg, bA.go [] [] h⟩
theorem qT {G : Gl} {o : Operand} {p : Bool} {x y : Code} {Q : Exit → Env → Sto → Prop} {env : Env} {σ : Sto} (hp : p = true) (k : ai G x Q env σ) (hc : env.evo o = some (.bool p) := by kernel_rfl) : ai G (.cond o x y) Q env σ := A.cT hc hp k
theorem qF {G : Gl} {o : Operand} {p : Bool} {x y : Code} {Q : Exit → Env → Sto → Prop} {env : Env} {σ : Sto} (hp : p = false) (k : ai G y Q env σ) (hc : env.evo o = some (.bool p) := by kernel_rfl) : ai G (.cond o x y) Q env σ := A.cF hc hp k
abbrev i6 (n : Int) : AV := .int .i64 n
abbrev lf {α : Type} (e : En α) (l : List α) : AV := .lst false (ml e l)
abbrev k0 (x : aX) : List AV := [.int .i64 x.ID, .bool x.aW]
abbrev k1 (x : aT) : List AV := [.int .i64 x.A, .int .i64 x.B, .int .i64 x.jh, .int .i64 x.iN, .int .i64 x.bY]
abbrev k2 (x : aH) : List AV := [.lst false (ml aU x.aK), .lst false (ml aA x.Links)]
abbrev k3 (x : aQ) : List AV := [.lst false (ml bJ x.L), .int .i64 x.At]
abbrev k4 (x : bz) : List AV := [.int .i64 x.cc, .int .i64 x.ID, .int .i64 x.Length]
abbrev k5 (x : bu) : List AV := [.int .i64 x.bw, .int .i64 x.lY, .int .i64 x.bY]
abbrev k6 (x : ak) : List AV := [.int .i64 x.aq, .int .i64 x.Seq, .bool x.aW, .lst false (ml bh x.Links), .lst false (ml aS x.Claims)]
abbrev k7 (x : aD) : List AV := [.lst false (ml aI x.az)]
abbrev k8 (x : aZ) : List AV := [.int .i64 x.aq, .int .i64 x.Seq, .bool x.aW, .lst false (ml aS x.Claims), .lst false (ml aI x.Database.az)]
abbrev k9 (x : br) : List AV := [.int .i64 x.gM, .int .i64 x.To, .lst false (ml aI x.Database.az)]
abbrev k10 (x : gb) : List AV := [.int .i64 x.aq, .int .i64 x.Claim.cc, .int .i64 x.Claim.ID, .int .i64 x.Claim.Length]
abbrev k11 (x : aB) : List AV := [.lst false (ml aA x.Links), .lst false (ml aN x.aG), .lst false (ml aF x.aj)]
end Go.Proofs.YtpmifmdidfgpdaaGreat
