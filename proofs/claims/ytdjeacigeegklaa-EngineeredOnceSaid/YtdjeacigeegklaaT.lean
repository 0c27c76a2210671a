/- The data of the program, as Lean data, and what is known of its types. No condition but bL aY stand in each. -/
import Derived.Test.YtdjeacigeegklaaF
import Derived.Test.YtdjeacigeegklaaBA
import Derived.Test.YtdjeacigeegklaaB7
import Derived.Test.YtdjeacigeegklaaAC
namespace Go.Proofs.Ytdjeacigeegklaa
open Go
set_option maxRecDepth 100000
set_option linter.all false
structure aP where
 ID : Int
 vH : Bool
instance : Inhabited aP := ⟨aP.mk (0:Int) false⟩
def aL : En aP := ⟨fun x => [.int .i64 x.ID, .bool x.vH], 2, fun _ => rfl, fun _ => rfl, fun _ => rfl⟩
structure bf where
 A : Int
 B : Int
 jL : Int
 jM : Int
 lC : Int
instance : Inhabited bf := ⟨bf.mk (0:Int) (0:Int) (0:Int) (0:Int) (0:Int)⟩
def b9 : En bf := ⟨fun x => [.int .i64 x.A, .int .i64 x.B, .int .i64 x.jL, .int .i64 x.jM, .int .i64 x.lC], 5, fun _ => rfl, fun _ => rfl, fun _ => rfl⟩
structure aa where
 aC : List aP
 Links : List bf
instance : Inhabited aa := ⟨aa.mk [] []⟩
structure aQ where
 L : List Int
 At : Int
instance : Inhabited aQ := ⟨aQ.mk [] (0:Int)⟩
structure ah where
 Bit : Int
 aR : Int
 Kind : Int
 To : Int
instance : Inhabited ah := ⟨ah.mk (0:Int) (0:Int) (0:Int) (0:Int)⟩
def ak : En ah := ⟨fun x => [.int .i64 x.Bit, .int .i64 x.aR, .int .i64 x.Kind, .int .i64 x.To], 4, fun _ => rfl, fun _ => rfl, fun _ => rfl⟩
structure aM where
 Length : Int
 List : List ah
instance : Inhabited aM := ⟨aM.mk (0:Int) []⟩
structure bZ where
 bq : Int
 vJ : Int
 to_ : Int
instance : Inhabited bZ := ⟨bZ.mk (0:Int) (0:Int) (0:Int)⟩
def iC : En bZ := ⟨fun x => [.int .i64 x.bq, .int .i64 x.vJ, .int .i64 x.to_], 3, fun _ => rfl, fun _ => rfl, fun _ => rfl⟩
def cZ (a b : bZ) : Bool := decide (a.bq = b.bq) && (decide (a.vJ = b.vJ) && (decide (a.to_ = b.to_) && true))
structure az where
 to_ : Int
 eY : Int
instance : Inhabited az := ⟨az.mk (0:Int) (0:Int)⟩
def aq : En az := ⟨fun x => [.int .i64 x.to_, .int .i64 x.eY], 2, fun _ => rfl, fun _ => rfl, fun _ => rfl⟩
structure eD where
 jZ : List (Int × List az)
 in_ : List (Int × List az)
instance : Inhabited eD := ⟨eD.mk [] []⟩
structure aS where
 Mode : Int
 bQ : Int
 Set : Int
 Length : Int
 TTL : Int
 cv : Int
 cw : Int
 dx : Int
 Bits : Int
 cz : ByteArray
instance : Inhabited aS := ⟨aS.mk (0:Int) (0:Int) (0:Int) (0:Int) (0:Int) (0:Int) (0:Int) (0:Int) (0:Int) (⟨#[]⟩)⟩
structure nc where
 vK : List Int
 aJ : aS
instance : Inhabited nc := ⟨nc.mk [] (aS.mk (0:Int) (0:Int) (0:Int) (0:Int) (0:Int) (0:Int) (0:Int) (0:Int) (0:Int) ⟨#[]⟩)⟩
structure gU where
 To : Int
 Frame : nc
instance : Inhabited gU := ⟨gU.mk (0:Int) (nc.mk [] (aS.mk (0:Int) (0:Int) (0:Int) (0:Int) (0:Int) (0:Int) (0:Int) (0:Int) (0:Int) ⟨#[]⟩))⟩
def lN : En gU := ⟨fun x => [.int .i64 x.To, .lst false (ml bx x.Frame.vK), .int .i64 x.Frame.aJ.Mode, .int .i64 x.Frame.aJ.bQ, .int .i64 x.Frame.aJ.Set, .int .i64 x.Frame.aJ.Length, .int .i64 x.Frame.aJ.TTL, .int .i64 x.Frame.aJ.cv, .int .i64 x.Frame.aJ.cw, .int .i64 x.Frame.aJ.dx, .int .u64 x.Frame.aJ.Bits, .str x.Frame.aJ.cz], 12, fun _ => rfl, fun _ => rfl, fun _ => rfl⟩
structure fI where
 Local : Int
 mg : Int
 kH : List gU
instance : Inhabited fI := ⟨fI.mk (0:Int) (0:Int) []⟩
structure aX where
 eE : ah
 copy_ : gU
instance : Inhabited aX := ⟨aX.mk (ah.mk (0:Int) (0:Int) (0:Int) (0:Int)) (gU.mk (0:Int) (nc.mk [] (aS.mk (0:Int) (0:Int) (0:Int) (0:Int) (0:Int) (0:Int) (0:Int) (0:Int) (0:Int) ⟨#[]⟩)))⟩
def cE : En aX := ⟨fun x => [.int .i64 x.eE.Bit, .int .i64 x.eE.aR, .int .i64 x.eE.Kind, .int .i64 x.eE.To, .int .i64 x.copy_.To, .lst false (ml bx x.copy_.Frame.vK), .int .i64 x.copy_.Frame.aJ.Mode, .int .i64 x.copy_.Frame.aJ.bQ, .int .i64 x.copy_.Frame.aJ.Set, .int .i64 x.copy_.Frame.aJ.Length, .int .i64 x.copy_.Frame.aJ.TTL, .int .i64 x.copy_.Frame.aJ.cv, .int .i64 x.copy_.Frame.aJ.cw, .int .i64 x.copy_.Frame.aJ.dx, .int .u64 x.copy_.Frame.aJ.Bits, .str x.copy_.Frame.aJ.cz], 16, fun _ => rfl, fun _ => rfl, fun _ => rfl⟩
structure cA where
 aR : Int
 aJ : aS
instance : Inhabited cA := ⟨cA.mk (0:Int) (aS.mk (0:Int) (0:Int) (0:Int) (0:Int) (0:Int) (0:Int) (0:Int) (0:Int) (0:Int) ⟨#[]⟩)⟩
def ck : En cA := ⟨fun x => [.int .i64 x.aR, .int .i64 x.aJ.Mode, .int .i64 x.aJ.bQ, .int .i64 x.aJ.Set, .int .i64 x.aJ.Length, .int .i64 x.aJ.TTL, .int .i64 x.aJ.cv, .int .i64 x.aJ.cw, .int .i64 x.aJ.dx, .int .u64 x.aJ.Bits, .str x.aJ.cz], 11, fun _ => rfl, fun _ => rfl, fun _ => rfl⟩
structure bp where
 nD : Int
 To : Int
 Bits : Int
instance : Inhabited bp := ⟨bp.mk (0:Int) (0:Int) (0:Int)⟩
def cG : En bp := ⟨fun x => [.int .i64 x.nD, .int .i64 x.To, .int .u64 x.Bits], 3, fun _ => rfl, fun _ => rfl, fun _ => rfl⟩
structure cH where
 aR : Int
 Bits : Int
instance : Inhabited cH := ⟨cH.mk (0:Int) (0:Int)⟩
def gl : En cH := ⟨fun x => [.int .i64 x.aR, .int .u64 x.Bits], 2, fun _ => rfl, fun _ => rfl, fun _ => rfl⟩
def o3 (a b : cH) : Bool := decide (a.aR = b.aR) && (decide (a.Bits = b.Bits) && true)
structure eF where
 cK : List cA
 cB : List bp
 ng : List cH
instance : Inhabited eF := ⟨eF.mk [] [] []⟩
structure aB where
 bq : Int
 bA : aS
instance : Inhabited aB := ⟨aB.mk (0:Int) (aS.mk (0:Int) (0:Int) (0:Int) (0:Int) (0:Int) (0:Int) (0:Int) (0:Int) (0:Int) ⟨#[]⟩)⟩
def cQ : En aB := ⟨fun x => [.int .i64 x.bq, .int .i64 x.bA.Mode, .int .i64 x.bA.bQ, .int .i64 x.bA.Set, .int .i64 x.bA.Length, .int .i64 x.bA.TTL, .int .i64 x.bA.cv, .int .i64 x.bA.cw, .int .i64 x.bA.dx, .int .u64 x.bA.Bits, .str x.bA.cz], 11, fun _ => rfl, fun _ => rfl, fun _ => rfl⟩
def ti2 : TI := ⟨1, false, some [.int .i64 0], .int .i64⟩
theorem tk2 : bR Try.prog 2 ti2 := ⟨ty2, fun zs h => by cases h; exact ze2, Try.underlying2⟩
def ti3 : TI := ⟨1, false, some [.int .i64 0], .int .i64⟩
theorem tk3 : bR Try.prog 3 ti3 := ⟨ty3, fun zs h => by cases h; exact ze3, Try.underlying3⟩
def ti4 : TI := ⟨1, false, some [.bool false], .bool⟩
theorem tk4 : bR Try.prog 4 ti4 := ⟨ty4, fun zs h => by cases h; exact ze4, Try.underlying4⟩
def ti5 : TI := ⟨1, false, some [.int .u8 0], .int .u8⟩
theorem tk5 : bR Try.prog 5 ti5 := ⟨ty5, fun zs h => by cases h; exact ze5, Try.underlying5⟩
def ti6 : TI := ⟨1, false, some [.int .u8 0], .int .u8⟩
theorem tk6 : bR Try.prog 6 ti6 := ⟨ty6, fun zs h => by cases h; exact ze6, Try.underlying6⟩
def ti7 : TI := ⟨4, true, some [.int .i64 0, .int .i64 0, .bool false, .int .u8 0], .struct [.int .i64 0, .int .i64 0, .bool false, .int .u8 0] [(0, 1), (1, 1), (2, 1), (3, 1)] [false, false, false, false]⟩
theorem tk7 : bR Try.prog 7 ti7 := ⟨ty7, fun zs h => by cases h; exact ze7, bU str7 ⟨alq, alr, als, alu, trivial⟩ ⟨alv, alw, alx, aly, trivial⟩⟩
def ti8 : TI := ⟨4, true, some [.int .i64 0, .int .i64 0, .bool false, .int .u8 0], .struct [.int .i64 0, .int .i64 0, .bool false, .int .u8 0] [(0, 1), (1, 1), (2, 1), (3, 1)] [false, false, false, false]⟩
theorem tk8 : bR Try.prog 8 ti8 := ⟨ty8, fun zs h => by cases h; exact ze8, bU str8 ⟨alz, alA, alB, alC, trivial⟩ ⟨alD, alF, alG, alH, trivial⟩⟩
def ti9 : TI := ⟨1, false, some [.string ⟨#[]⟩], .str⟩
theorem tk9 : bR Try.prog 9 ti9 := ⟨ty9, fun zs h => by cases h; exact ze9, Try.underlying9⟩
def am2 : TI := ⟨1, false, some [.string ⟨#[]⟩], .str⟩
theorem tk10 : bR Try.prog 10 am2 := ⟨ty10, fun zs h => by cases h; exact ze10, Try.underlying10⟩
def am3 : TI := ⟨1, false, some [.string ⟨#[]⟩], .str⟩
theorem tk11 : bR Try.prog 11 am3 := ⟨ty11, fun zs h => by cases h; exact ze11, Try.underlying11⟩
def am4 : TI := ⟨1, false, some [.int .u64 0], .int .u64⟩
theorem tk12 : bR Try.prog 12 am4 := ⟨wH, fun zs h => by cases h; exact ze12, Try.underlying12⟩
def am5 : TI := ⟨2, true, some [.string ⟨#[]⟩, .int .u64 0], .struct [.string ⟨#[]⟩, .int .u64 0] [(0, 1), (1, 1)] [false, false]⟩
theorem tk13 : bR Try.prog 13 am5 := ⟨ty13, fun zs h => by cases h; exact ze13, bU aph ⟨ag4, ag5, trivial⟩ ⟨ag6, ag7, trivial⟩⟩
def am6 : TI := ⟨2, true, some [.string ⟨#[]⟩, .int .u64 0], .struct [.string ⟨#[]⟩, .int .u64 0] [(0, 1), (1, 1)] [false, false]⟩
theorem tk14 : bR Try.prog 14 am6 := ⟨ty14, fun zs h => by cases h; exact ze14, bU api ⟨ag8, ag9, trivial⟩ ⟨aha, ahb, trivial⟩⟩
def am7 : TI := ⟨1, false, some [.pointer none], .oth⟩
theorem tk15 : bR Try.prog 15 am7 := ⟨ty15, fun zs h => by cases h; exact ze15, trivial⟩
def am8 : TI := ⟨1, false, some [.pointer none], .oth⟩
theorem tk16 : bR Try.prog 16 am8 := ⟨ty16, fun zs h => by cases h; exact ze16, trivial⟩
def am9 : TI := ⟨1, false, some [.pointer none], .oth⟩
theorem tk17 : bR Try.prog 17 am9 := ⟨tv, fun zs h => by cases h; exact ze17, trivial⟩
def ana : TI := ⟨1, true, some [.pointer none], .struct [.pointer none] [(0, 1)] [false]⟩
theorem tk18 : bR Try.prog 18 ana := ⟨ty18, fun zs h => by cases h; exact ze18, bU apj ⟨ahc, trivial⟩ ⟨ahd, trivial⟩⟩
def anb : TI := ⟨1, true, some [.pointer none], .struct [.pointer none] [(0, 1)] [false]⟩
theorem tk19 : bR Try.prog 19 anb := ⟨ty19, fun zs h => by cases h; exact ze19, bU apk ⟨ahe, trivial⟩ ⟨ahf, trivial⟩⟩
def anc : TI := ⟨1, false, some [.int .i32 0], .int .i32⟩
theorem tk21 : bR Try.prog 21 anc := ⟨ty21, fun zs h => by cases h; exact ze21, Try.underlying21⟩
def ane : TI := ⟨1, false, some [.slice none 0 0], .slice 3 1 8 [.int .i64 0]⟩
theorem tk22 : bR Try.prog 22 ane := ⟨z8, fun zs h => by cases h; exact ze22, ⟨sl22, apl, apm⟩⟩
def anf : TI := ⟨1, false, some [.pointer none], .oth⟩
theorem tk23 : bR Try.prog 23 anf := ⟨ty23, fun zs h => by cases h; exact ze23, trivial⟩
def ang : TI := ⟨1, false, some [.slice none 0 0], .slice 50 2 16 [.int .i64 0, .bool false]⟩
theorem tk25 : bR Try.prog 25 ang := ⟨adF, fun zs h => by cases h; exact ze25, ⟨sl25, apn, apo⟩⟩
def anh : TI := ⟨1, false, some [.slice none 0 0], .slice 80 5 40 [.int .i64 0, .int .i64 0, .int .i64 0, .int .i64 0, .int .i64 0]⟩
theorem tk26 : bR Try.prog 26 anh := ⟨adG, fun zs h => by cases h; exact ze26, ⟨sl26, apq, apr⟩⟩
def ani : TI := ⟨2, true, some [.slice none 0 0, .slice none 0 0], .struct [.slice none 0 0, .slice none 0 0] [(0, 1), (1, 1)] [false, false]⟩
theorem tk27 : bR Try.prog 27 ani := ⟨ty27, fun zs h => by cases h; exact ze27, bU aps ⟨ahg, ahh, trivial⟩ ⟨ahi, ahj, trivial⟩⟩
def anj : TI := ⟨2, true, some [.slice none 0 0, .slice none 0 0], .struct [.slice none 0 0, .slice none 0 0] [(0, 1), (1, 1)] [false, false]⟩
theorem tk28 : bR Try.prog 28 anj := ⟨ty28, fun zs h => by cases h; exact ze28, bU apt ⟨ahk, ahl, trivial⟩ ⟨ahm, ahn, trivial⟩⟩
def ank : TI := ⟨1, false, some [.slice none 0 0], .slice 39 4 32 [.int .i64 0, .int .i64 0, .int .i64 0, .int .i64 0]⟩
theorem tk30 : bR Try.prog 30 ank := ⟨adH, fun zs h => by cases h; exact ze30, ⟨alI, apu, apv⟩⟩
def anl : TI := ⟨2, true, some [.int .i64 0, .slice none 0 0], .struct [.int .i64 0, .slice none 0 0] [(0, 1), (1, 1)] [false, false]⟩
theorem tk31 : bR Try.prog 31 anl := ⟨ty31, fun zs h => by cases h; exact ze31, bU apw ⟨aho, ahp, trivial⟩ ⟨ahq, ahr, trivial⟩⟩
def anm : TI := ⟨2, true, some [.int .i64 0, .slice none 0 0], .struct [.int .i64 0, .slice none 0 0] [(0, 1), (1, 1)] [false, false]⟩
theorem tk32 : bR Try.prog 32 anm := ⟨ty32, fun zs h => by cases h; exact ze32, bU apx ⟨ahs, aht, trivial⟩ ⟨ahu, ahv, trivial⟩⟩
def ann : TI := ⟨1, false, some [.int .u64 0], .int .u64⟩
theorem tk34 : bR Try.prog 34 ann := ⟨qV, fun zs h => by cases h; exact ze34, Try.underlying34⟩
def ano : TI := ⟨10, true, some [.int .i64 0, .int .i64 0, .int .i64 0, .int .i64 0, .int .i64 0, .int .i64 0, .int .i64 0, .int .i64 0, .int .u64 0, .string ⟨#[]⟩], .struct [.int .i64 0, .int .i64 0, .int .i64 0, .int .i64 0, .int .i64 0, .int .i64 0, .int .i64 0, .int .i64 0, .int .u64 0, .string ⟨#[]⟩] [(0, 1), (1, 1), (2, 1), (3, 1), (4, 1), (5, 1), (6, 1), (7, 1), (8, 1), (9, 1)] [false, false, false, false, false, false, false, false, false, false]⟩
theorem tk35 : bR Try.prog 35 ano := ⟨ty35, fun zs h => by cases h; exact ze35, bU apy ⟨ahw, ahx, ahy, ahz, ahA, ahB, ahC, ahD, ahE, ahF, trivial⟩ ⟨ahG, ahH, ahI, ahJ, ahK, ahL, ahM, ahN, ahO, ahP, trivial⟩⟩
def anp : TI := ⟨10, true, some [.int .i64 0, .int .i64 0, .int .i64 0, .int .i64 0, .int .i64 0, .int .i64 0, .int .i64 0, .int .i64 0, .int .u64 0, .string ⟨#[]⟩], .struct [.int .i64 0, .int .i64 0, .int .i64 0, .int .i64 0, .int .i64 0, .int .i64 0, .int .i64 0, .int .i64 0, .int .u64 0, .string ⟨#[]⟩] [(0, 1), (1, 1), (2, 1), (3, 1), (4, 1), (5, 1), (6, 1), (7, 1), (8, 1), (9, 1)] [false, false, false, false, false, false, false, false, false, false]⟩
theorem tk36 : bR Try.prog 36 anp := ⟨wI, fun zs h => by cases h; exact ze36, bU apz ⟨ahQ, ahR, ahS, ahT, ahU, ahV, ahW, ahX, ahY, ahZ, trivial⟩ ⟨ah0, ah1, ah2, ah3, ah4, ah5, ah6, ah7, ah8, ah9, trivial⟩⟩
def anq : TI := ⟨4, true, some [.int .i64 0, .int .i64 0, .int .i64 0, .int .i64 0], .struct [.int .i64 0, .int .i64 0, .int .i64 0, .int .i64 0] [(0, 1), (1, 1), (2, 1), (3, 1)] [false, false, false, false]⟩
theorem tk38 : bR Try.prog 38 anq := ⟨ty38, fun zs h => by cases h; exact ze38, bU apA ⟨aia, aib, aic, aid, trivial⟩ ⟨aie, aif, aih, aii, trivial⟩⟩
def anr : TI := ⟨4, true, some [.int .i64 0, .int .i64 0, .int .i64 0, .int .i64 0], .struct [.int .i64 0, .int .i64 0, .int .i64 0, .int .i64 0] [(0, 1), (1, 1), (2, 1), (3, 1)] [false, false, false, false]⟩
theorem tk39 : bR Try.prog 39 anr := ⟨adI, fun zs h => by cases h; exact alf, bU apB ⟨aij, aik, ail, aim, trivial⟩ ⟨ain, aio, aip, aiq, trivial⟩⟩
def ans : TI := ⟨1, false, some [.int .u64 0], .int .u64⟩
theorem tk40 : bR Try.prog 40 ans := ⟨ty40, fun zs h => by cases h; exact ze40, Try.underlying40⟩
def ant : TI := ⟨1, false, some [.slice none 0 0], .slice 59 11 96 [.int .i64 0, .int .i64 0, .int .i64 0, .int .i64 0, .int .i64 0, .int .i64 0, .int .i64 0, .int .i64 0, .int .i64 0, .int .u64 0, .string ⟨#[]⟩]⟩
theorem tk41 : bR Try.prog 41 ant := ⟨adJ, fun zs h => by cases h; exact ze41, ⟨sl41, apC, apD⟩⟩
def anu : TI := ⟨1, false, some [.slice none 0 0], .slice 54 3 24 [.int .i64 0, .int .i64 0, .int .u64 0]⟩
theorem tk42 : bR Try.prog 42 anu := ⟨adK, fun zs h => by cases h; exact ze42, ⟨sl42, apF, apG⟩⟩
def anv : TI := ⟨1, false, some [.slice none 0 0], .slice 62 2 16 [.int .i64 0, .int .u64 0]⟩
theorem tk43 : bR Try.prog 43 anv := ⟨adL, fun zs h => by cases h; exact ze43, ⟨sl43, apH, apI⟩⟩
def anw : TI := ⟨3, true, some [.slice none 0 0, .slice none 0 0, .slice none 0 0], .struct [.slice none 0 0, .slice none 0 0, .slice none 0 0] [(0, 1), (1, 1), (2, 1)] [false, false, false]⟩
theorem tk44 : bR Try.prog 44 anw := ⟨ty44, fun zs h => by cases h; exact ze44, bU apJ ⟨air, ais, ait, trivial⟩ ⟨aiu, aiv, aiw, trivial⟩⟩
def anx : TI := ⟨3, true, some [.slice none 0 0, .slice none 0 0, .slice none 0 0], .struct [.slice none 0 0, .slice none 0 0, .slice none 0 0] [(0, 1), (1, 1), (2, 1)] [false, false, false]⟩
theorem tk45 : bR Try.prog 45 anx := ⟨ty45, fun zs h => by cases h; exact ze45, bU apK ⟨aix, aiy, aiz, trivial⟩ ⟨aiA, aiB, aiC, trivial⟩⟩
def anz : TI := ⟨1, false, some [.int .i64 0], .int .i64⟩
theorem tk46 : bR Try.prog 46 anz := ⟨ty46, fun zs h => by cases h; exact ze46, Try.underlying46⟩
def anA : TI := ⟨2, true, some [.int .i64 0, .bool false], .struct [.int .i64 0, .bool false] [(0, 1), (1, 1)] [false, false]⟩
theorem tk49 : bR Try.prog 49 anA := ⟨ty49, fun zs h => by cases h; exact ze49, bU apL ⟨aiD, aiE, trivial⟩ ⟨aiF, aiG, trivial⟩⟩
def anB : TI := ⟨2, true, some [.int .i64 0, .bool false], .struct [.int .i64 0, .bool false] [(0, 1), (1, 1)] [false, false]⟩
theorem tk50 : bR Try.prog 50 anB := ⟨ty50, fun zs h => by cases h; exact alg, bU apM ⟨aiH, aiI, trivial⟩ ⟨aiJ, aiK, trivial⟩⟩
def anC : TI := ⟨3, true, some [.int .i64 0, .int .i64 0, .int .u64 0], .struct [.int .i64 0, .int .i64 0, .int .u64 0] [(0, 1), (1, 1), (2, 1)] [false, false, false]⟩
theorem tk53 : bR Try.prog 53 anC := ⟨ty53, fun zs h => by cases h; exact ze53, bU apN ⟨aiL, aiM, aiN, trivial⟩ ⟨aiO, aiP, aiQ, trivial⟩⟩
def anD : TI := ⟨3, true, some [.int .i64 0, .int .i64 0, .int .u64 0], .struct [.int .i64 0, .int .i64 0, .int .u64 0] [(0, 1), (1, 1), (2, 1)] [false, false, false]⟩
theorem tk54 : bR Try.prog 54 anD := ⟨ty54, fun zs h => by cases h; exact alh, bU apO ⟨aiR, aiS, aiT, trivial⟩ ⟨aiU, aiV, aiW, trivial⟩⟩
def anE : TI := ⟨11, true, some [.int .i64 0, .int .i64 0, .int .i64 0, .int .i64 0, .int .i64 0, .int .i64 0, .int .i64 0, .int .i64 0, .int .i64 0, .int .u64 0, .string ⟨#[]⟩], .struct [.int .i64 0, .int .i64 0, .int .i64 0, .int .i64 0, .int .i64 0, .int .i64 0, .int .i64 0, .int .i64 0, .int .i64 0, .int .u64 0, .string ⟨#[]⟩] [(0, 1), (1, 10)] [false, true]⟩
theorem tk58 : bR Try.prog 58 anE := ⟨ty58, fun zs h => by cases h; exact ze58, bU apP ⟨aiX, aiY, trivial⟩ ⟨aiZ, ai0, trivial⟩⟩
def anF : TI := ⟨11, true, some [.int .i64 0, .int .i64 0, .int .i64 0, .int .i64 0, .int .i64 0, .int .i64 0, .int .i64 0, .int .i64 0, .int .i64 0, .int .u64 0, .string ⟨#[]⟩], .struct [.int .i64 0, .int .i64 0, .int .i64 0, .int .i64 0, .int .i64 0, .int .i64 0, .int .i64 0, .int .i64 0, .int .i64 0, .int .u64 0, .string ⟨#[]⟩] [(0, 1), (1, 10)] [false, true]⟩
theorem tk59 : bR Try.prog 59 anF := ⟨ty59, fun zs h => by cases h; exact ali, bU apQ ⟨ai1, ai2, trivial⟩ ⟨ai3, ai4, trivial⟩⟩
def anG : TI := ⟨2, true, some [.int .i64 0, .int .u64 0], .struct [.int .i64 0, .int .u64 0] [(0, 1), (1, 1)] [false, false]⟩
theorem tk61 : bR Try.prog 61 anG := ⟨ty61, fun zs h => by cases h; exact ze61, bU apR ⟨ai5, ai6, trivial⟩ ⟨ai7, ai8, trivial⟩⟩
def anH : TI := ⟨2, true, some [.int .i64 0, .int .u64 0], .struct [.int .i64 0, .int .u64 0] [(0, 1), (1, 1)] [false, false]⟩
theorem tk62 : bR Try.prog 62 anH := ⟨ty62, fun zs h => by cases h; exact alj, bU apS ⟨ai9, aja, trivial⟩ ⟨ajb, ajc, trivial⟩⟩
def anI : TI := ⟨1, false, some [.slice none 0 0], .slice 72 12 120 [.int .i64 0, .slice none 0 0, .int .i64 0, .int .i64 0, .int .i64 0, .int .i64 0, .int .i64 0, .int .i64 0, .int .i64 0, .int .i64 0, .int .u64 0, .string ⟨#[]⟩]⟩
theorem tk63 : bR Try.prog 63 anI := ⟨adM, fun zs h => by cases h; exact ze63, ⟨sl63, apU, apV⟩⟩
def anJ : TI := ⟨3, true, some [.int .u64 0, .int .u64 0, .slice none 0 0], .struct [.int .u64 0, .int .u64 0, .slice none 0 0] [(0, 1), (1, 1), (2, 1)] [false, false, false]⟩
theorem tk64 : bR Try.prog 64 anJ := ⟨ty64, fun zs h => by cases h; exact ze64, bU apW ⟨ajd, aje, ajf, trivial⟩ ⟨ajg, ajh, aji, trivial⟩⟩
def anK : TI := ⟨3, true, some [.int .u64 0, .int .u64 0, .slice none 0 0], .struct [.int .u64 0, .int .u64 0, .slice none 0 0] [(0, 1), (1, 1), (2, 1)] [false, false, false]⟩
theorem tk65 : bR Try.prog 65 anK := ⟨ty65, fun zs h => by cases h; exact ze65, bU apX ⟨ajj, ajk, ajl, trivial⟩ ⟨ajm, ajn, ajo, trivial⟩⟩
def anL : TI := ⟨11, true, some [.slice none 0 0, .int .i64 0, .int .i64 0, .int .i64 0, .int .i64 0, .int .i64 0, .int .i64 0, .int .i64 0, .int .i64 0, .int .u64 0, .string ⟨#[]⟩], .struct [.slice none 0 0, .int .i64 0, .int .i64 0, .int .i64 0, .int .i64 0, .int .i64 0, .int .i64 0, .int .i64 0, .int .i64 0, .int .u64 0, .string ⟨#[]⟩] [(0, 1), (1, 10)] [false, true]⟩
theorem tk69 : bR Try.prog 69 anL := ⟨ty69, fun zs h => by cases h; exact ze69, bU apY ⟨ajp, ajq, trivial⟩ ⟨ajr, ajs, trivial⟩⟩
def anM : TI := ⟨11, true, some [.slice none 0 0, .int .i64 0, .int .i64 0, .int .i64 0, .int .i64 0, .int .i64 0, .int .i64 0, .int .i64 0, .int .i64 0, .int .u64 0, .string ⟨#[]⟩], .struct [.slice none 0 0, .int .i64 0, .int .i64 0, .int .i64 0, .int .i64 0, .int .i64 0, .int .i64 0, .int .i64 0, .int .i64 0, .int .u64 0, .string ⟨#[]⟩] [(0, 1), (1, 10)] [false, true]⟩
theorem tk70 : bR Try.prog 70 anM := ⟨adN, fun zs h => by cases h; exact ze70, bU apZ ⟨ajt, aju, trivial⟩ ⟨ajv, ajw, trivial⟩⟩
def anN : TI := ⟨12, true, some [.int .i64 0, .slice none 0 0, .int .i64 0, .int .i64 0, .int .i64 0, .int .i64 0, .int .i64 0, .int .i64 0, .int .i64 0, .int .i64 0, .int .u64 0, .string ⟨#[]⟩], .struct [.int .i64 0, .slice none 0 0, .int .i64 0, .int .i64 0, .int .i64 0, .int .i64 0, .int .i64 0, .int .i64 0, .int .i64 0, .int .i64 0, .int .u64 0, .string ⟨#[]⟩] [(0, 1), (1, 11)] [false, true]⟩
theorem tk71 : bR Try.prog 71 anN := ⟨ty71, fun zs h => by cases h; exact ze71, bU ap0 ⟨ajx, ajy, trivial⟩ ⟨ajz, ajA, trivial⟩⟩
def anO : TI := ⟨12, true, some [.int .i64 0, .slice none 0 0, .int .i64 0, .int .i64 0, .int .i64 0, .int .i64 0, .int .i64 0, .int .i64 0, .int .i64 0, .int .i64 0, .int .u64 0, .string ⟨#[]⟩], .struct [.int .i64 0, .slice none 0 0, .int .i64 0, .int .i64 0, .int .i64 0, .int .i64 0, .int .i64 0, .int .i64 0, .int .i64 0, .int .i64 0, .int .u64 0, .string ⟨#[]⟩] [(0, 1), (1, 11)] [false, true]⟩
theorem tk72 : bR Try.prog 72 anO := ⟨adO, fun zs h => by cases h; exact alk, bU ap1 ⟨ajB, ajC, trivial⟩ ⟨ajD, ajE, trivial⟩⟩
def anP : TI := ⟨2, true, some [.slice none 0 0, .int .i64 0], .struct [.slice none 0 0, .int .i64 0] [(0, 1), (1, 1)] [false, false]⟩
theorem tk73 : bR Try.prog 73 anP := ⟨ty73, fun zs h => by cases h; exact ze73, bU ap2 ⟨ajF, ajG, trivial⟩ ⟨ajH, ajI, trivial⟩⟩
def anQ : TI := ⟨2, true, some [.slice none 0 0, .int .i64 0], .struct [.slice none 0 0, .int .i64 0] [(0, 1), (1, 1)] [false, false]⟩
theorem tk74 : bR Try.prog 74 anQ := ⟨ty74, fun zs h => by cases h; exact ze74, bU ap3 ⟨ajJ, ajK, trivial⟩ ⟨ajL, ajM, trivial⟩⟩
def anR : TI := ⟨1, false, some [.slice none 0 0], .slice 78 1 24 [.slice none 0 0]⟩
theorem tk77 : bR Try.prog 77 anR := ⟨ty77, fun zs h => by cases h; exact ze77, ⟨uE, af7, af8⟩⟩
def anS : TI := ⟨1, false, some [.slice none 0 0], .slice 4 1 1 [.bool false]⟩
theorem tk78 : bR Try.prog 78 anS := ⟨aaa, fun zs h => by cases h; exact alm, ⟨sl78, af9, aga⟩⟩
def anT : TI := ⟨5, true, some [.int .i64 0, .int .i64 0, .int .i64 0, .int .i64 0, .int .i64 0], .struct [.int .i64 0, .int .i64 0, .int .i64 0, .int .i64 0, .int .i64 0] [(0, 1), (1, 1), (2, 1), (3, 1), (4, 1)] [false, false, false, false, false]⟩
theorem tk79 : bR Try.prog 79 anT := ⟨ty79, fun zs h => by cases h; exact ze79, bU ap4 ⟨ajN, ajO, ajP, ajQ, ajR, trivial⟩ ⟨ajS, ajT, ajU, ajV, ajW, trivial⟩⟩
def anU : TI := ⟨5, true, some [.int .i64 0, .int .i64 0, .int .i64 0, .int .i64 0, .int .i64 0], .struct [.int .i64 0, .int .i64 0, .int .i64 0, .int .i64 0, .int .i64 0] [(0, 1), (1, 1), (2, 1), (3, 1), (4, 1)] [false, false, false, false, false]⟩
theorem tk80 : bR Try.prog 80 anU := ⟨ty80, fun zs h => by cases h; exact aln, bU ap5 ⟨ajX, ajY, ajZ, aj0, aj1, trivial⟩ ⟨aj2, aj3, aj4, aj5, aj6, trivial⟩⟩
def anV : TI := ⟨11, true, some [.int .i64 0, .int .i64 0, .int .i64 0, .int .i64 0, .int .i64 0, .int .i64 0, .int .i64 0, .int .i64 0, .int .i64 0, .int .u64 0, .string ⟨#[]⟩], .struct [.int .i64 0, .int .i64 0, .int .i64 0, .int .i64 0, .int .i64 0, .int .i64 0, .int .i64 0, .int .i64 0, .int .i64 0, .int .u64 0, .string ⟨#[]⟩] [(0, 1), (1, 10)] [false, true]⟩
theorem tk88 : bR Try.prog 88 anV := ⟨ty88, fun zs h => by cases h; exact ze88, bU ap6 ⟨aj7, aj8, trivial⟩ ⟨aj9, aka, trivial⟩⟩
def anW : TI := ⟨11, true, some [.int .i64 0, .int .i64 0, .int .i64 0, .int .i64 0, .int .i64 0, .int .i64 0, .int .i64 0, .int .i64 0, .int .i64 0, .int .u64 0, .string ⟨#[]⟩], .struct [.int .i64 0, .int .i64 0, .int .i64 0, .int .i64 0, .int .i64 0, .int .i64 0, .int .i64 0, .int .i64 0, .int .i64 0, .int .u64 0, .string ⟨#[]⟩] [(0, 1), (1, 10)] [false, true]⟩
theorem tk89 : bR Try.prog 89 anW := ⟨ty89, fun zs h => by cases h; exact alo, bU ap7 ⟨akb, akc, trivial⟩ ⟨akd, ake, trivial⟩⟩
def anX : TI := ⟨1, false, some [.slice none 0 0], .slice 89 11 96 [.int .i64 0, .int .i64 0, .int .i64 0, .int .i64 0, .int .i64 0, .int .i64 0, .int .i64 0, .int .i64 0, .int .i64 0, .int .u64 0, .string ⟨#[]⟩]⟩
theorem tk90 : bR Try.prog 90 anX := ⟨ty90, fun zs h => by cases h; exact ze90, ⟨sl90, ap8, ap9⟩⟩
def anY : TI := ⟨1, false, some [.slice none 0 0], .slice 96 16 152 [.int .i64 0, .int .i64 0, .int .i64 0, .int .i64 0, .int .i64 0, .slice none 0 0, .int .i64 0, .int .i64 0, .int .i64 0, .int .i64 0, .int .i64 0, .int .i64 0, .int .i64 0, .int .i64 0, .int .u64 0, .string ⟨#[]⟩]⟩
theorem tk91 : bR Try.prog 91 anY := ⟨ty91, fun zs h => by cases h; exact ze91, ⟨sl91, aqa, aqb⟩⟩
def anZ : TI := ⟨16, true, some [.int .i64 0, .int .i64 0, .int .i64 0, .int .i64 0, .int .i64 0, .slice none 0 0, .int .i64 0, .int .i64 0, .int .i64 0, .int .i64 0, .int .i64 0, .int .i64 0, .int .i64 0, .int .i64 0, .int .u64 0, .string ⟨#[]⟩], .struct [.int .i64 0, .int .i64 0, .int .i64 0, .int .i64 0, .int .i64 0, .slice none 0 0, .int .i64 0, .int .i64 0, .int .i64 0, .int .i64 0, .int .i64 0, .int .i64 0, .int .i64 0, .int .i64 0, .int .u64 0, .string ⟨#[]⟩] [(0, 4), (4, 12)] [true, true]⟩
theorem tk95 : bR Try.prog 95 anZ := ⟨ty95, fun zs h => by cases h; exact ze95, bU aqc ⟨akf, akg, trivial⟩ ⟨akh, aki, trivial⟩⟩
def an0 : TI := ⟨16, true, some [.int .i64 0, .int .i64 0, .int .i64 0, .int .i64 0, .int .i64 0, .slice none 0 0, .int .i64 0, .int .i64 0, .int .i64 0, .int .i64 0, .int .i64 0, .int .i64 0, .int .i64 0, .int .i64 0, .int .u64 0, .string ⟨#[]⟩], .struct [.int .i64 0, .int .i64 0, .int .i64 0, .int .i64 0, .int .i64 0, .slice none 0 0, .int .i64 0, .int .i64 0, .int .i64 0, .int .i64 0, .int .i64 0, .int .i64 0, .int .i64 0, .int .i64 0, .int .u64 0, .string ⟨#[]⟩] [(0, 4), (4, 12)] [true, true]⟩
theorem tk96 : bR Try.prog 96 an0 := ⟨ty96, fun zs h => by cases h; exact alp, bU aqd ⟨akj, akk, trivial⟩ ⟨akl, akm, trivial⟩⟩
def age : TI := ⟨1, false, some [.nilFunc], .oth⟩
theorem aqP : bR Try.prog 101 age := ⟨aqe, fun zs h => by cases h; exact aoN, trivial⟩
def agf : TI := ⟨3, true, some [.int .i64 0, .int .i64 0, .int .i64 0], .struct [.int .i64 0, .int .i64 0, .int .i64 0] [(0, 1), (1, 1), (2, 1)] [false, false, false]⟩
theorem aqQ : bR Try.prog 104 agf := ⟨aqf, fun zs h => by cases h; exact aoO, bU alJ ⟨adP, adQ, adR, trivial⟩ ⟨adS, adT, adU, trivial⟩⟩
def agh : TI := ⟨3, true, some [.int .i64 0, .int .i64 0, .int .i64 0], .struct [.int .i64 0, .int .i64 0, .int .i64 0] [(0, 1), (1, 1), (2, 1)] [false, false, false]⟩
theorem aqR : bR Try.prog 105 agh := ⟨aqg, fun zs h => by cases h; exact aoP, bU alK ⟨adV, adW, adX, trivial⟩ ⟨adY, adZ, ad0, trivial⟩⟩
def agi : TI := ⟨1, false, some [.nilFunc], .oth⟩
theorem aqS : bR Try.prog 109 agi := ⟨aqh, fun zs h => by cases h; exact aoQ, trivial⟩
def agj : TI := ⟨1, false, some [.nilFunc], .oth⟩
theorem aqT : bR Try.prog 111 agj := ⟨aqi, fun zs h => by cases h; exact aoR, trivial⟩
def agk : TI := ⟨1, false, some [.nilFunc], .oth⟩
theorem aqU : bR Try.prog 113 agk := ⟨aqj, fun zs h => by cases h; exact aoS, trivial⟩
def agl : TI := ⟨1, false, some [.nilFunc], .oth⟩
theorem aqV : bR Try.prog 114 agl := ⟨aqk, fun zs h => by cases h; exact aoT, trivial⟩
def agm : TI := ⟨1, false, some [.map none], .map 3 133 .i64⟩
theorem aqW : bR Try.prog 125 agm := ⟨xN, fun zs h => by cases h; exact aoU, iz⟩
def agn : TI := ⟨2, true, some [.map none, .map none], .struct [.map none, .map none] [(0, 1), (1, 1)] [false, false]⟩
theorem aqX : bR Try.prog 126 agn := ⟨aql, fun zs h => by cases h; exact aoV, bU alM ⟨ad1, ad2, trivial⟩ ⟨ad3, ad4, trivial⟩⟩
def ago : TI := ⟨2, true, some [.map none, .map none], .struct [.map none, .map none] [(0, 1), (1, 1)] [false, false]⟩
theorem aqY : bR Try.prog 127 ago := ⟨aqm, fun zs h => by cases h; exact aoW, bU alN ⟨ad5, ad6, trivial⟩ ⟨ad7, ad8, trivial⟩⟩
def agp : TI := ⟨1, false, some [.map none], .map 3 3 .i64⟩
theorem aqZ : bR Try.prog 129 agp := ⟨aqn, fun zs h => by cases h; exact aoX, mX⟩
def agq : TI := ⟨1, false, some [.slice none 0 0], .slice 135 2 16 [.int .i64 0, .int .i64 0]⟩
theorem aq0 : bR Try.prog 133 agq := ⟨aqo, fun zs h => by cases h; exact aoY, ⟨aqp, alO, alP⟩⟩
def agr : TI := ⟨2, true, some [.int .i64 0, .int .i64 0], .struct [.int .i64 0, .int .i64 0] [(0, 1), (1, 1)] [false, false]⟩
theorem aq1 : bR Try.prog 134 agr := ⟨aqq, fun zs h => by cases h; exact aoZ, bU alQ ⟨ad9, aea, trivial⟩ ⟨aeb, aec, trivial⟩⟩
def agt : TI := ⟨2, true, some [.int .i64 0, .int .i64 0], .struct [.int .i64 0, .int .i64 0] [(0, 1), (1, 1)] [false, false]⟩
theorem aq2 : bR Try.prog 135 agt := ⟨aqr, fun zs h => by cases h; exact af6, bU alR ⟨aed, aee, trivial⟩ ⟨aef, aeg, trivial⟩⟩
def agu : TI := ⟨1, false, some [.nilFunc], .oth⟩
theorem aq3 : bR Try.prog 137 agu := ⟨aqs, fun zs h => by cases h; exact ao0, trivial⟩
def agv : TI := ⟨1, false, some [.int .i64 0], .int .i64⟩
theorem aq4 : bR Try.prog 142 agv := ⟨aqt, fun zs h => by cases h; exact ao1, Try.underlying142⟩
def agw : TI := ⟨1, false, some [.int .u32 0], .int .u32⟩
theorem aq5 : bR Try.prog 149 agw := ⟨abF, fun zs h => by cases h; exact ao2, Try.underlying149⟩
def agx : TI := ⟨1, false, some [.int .u64 0], .int .u64⟩
theorem aq6 : bR Try.prog 151 agx := ⟨aqu, fun zs h => by cases h; exact ao3, Try.underlying151⟩
def agy : TI := ⟨1, false, some [.pointer none], .oth⟩
theorem aq7 : bR Try.prog 155 agy := ⟨aqv, fun zs h => by cases h; exact ao4, trivial⟩
def agz : TI := ⟨1, false, some [.pointer none], .oth⟩
theorem aq8 : bR Try.prog 157 agz := ⟨aqw, fun zs h => by cases h; exact ao5, trivial⟩
def agA : TI := ⟨4, true, some [.pointer none, .pointer none, .pointer none, .string ⟨#[]⟩], .struct [.pointer none, .pointer none, .pointer none, .string ⟨#[]⟩] [(0, 1), (1, 1), (2, 1), (3, 1)] [false, false, false, false]⟩
theorem aq9 : bR Try.prog 161 agA := ⟨aqx, fun zs h => by cases h; exact ao6, bU alS ⟨aeh, aei, aej, aek, trivial⟩ ⟨ael, aem, aen, aeo, trivial⟩⟩
def agB : TI := ⟨4, true, some [.pointer none, .pointer none, .pointer none, .string ⟨#[]⟩], .struct [.pointer none, .pointer none, .pointer none, .string ⟨#[]⟩] [(0, 1), (1, 1), (2, 1), (3, 1)] [false, false, false, false]⟩
theorem ara : bR Try.prog 162 agB := ⟨aqy, fun zs h => by cases h; exact ao7, bU alT ⟨aep, aeq, aer, aes, trivial⟩ ⟨aet, aeu, aev, aew, trivial⟩⟩
def agC : TI := ⟨0, true, some [], .oth⟩
theorem arb : bR Try.prog 163 agC := ⟨aqz, fun zs h => by cases h; exact ao8, trivial⟩
def agD : TI := ⟨1, false, some [.int .u8 0], .int .u8⟩
theorem arc : bR Try.prog 166 agD := ⟨abG, fun zs h => by cases h; exact ao9, Try.underlying166⟩
def agE : TI := ⟨1, false, some [.int .u8 0], .int .u8⟩
theorem ard : bR Try.prog 167 agE := ⟨abH, fun zs h => by cases h; exact apa, Try.underlying167⟩
def agF : TI := ⟨1, false, some [.nilFunc], .oth⟩
theorem arf : bR Try.prog 168 agF := ⟨abI, fun zs h => by cases h; exact apb, trivial⟩
def agG : TI := ⟨1, false, some [.pointer none], .oth⟩
theorem arh : bR Try.prog 169 agG := ⟨abJ, fun zs h => by cases h; exact apc, trivial⟩
def agH : TI := ⟨1, false, some [.int .i32 0], .int .i32⟩
theorem ari : bR Try.prog 170 agH := ⟨abK, fun zs h => by cases h; exact apd, Try.underlying170⟩
def agI : TI := ⟨1, false, some [.int .i32 0], .int .i32⟩
theorem arj : bR Try.prog 171 agI := ⟨abL, fun zs h => by cases h; exact ape, Try.underlying171⟩
def agJ : TI := ⟨11, true, some [.int .u64 0, .int .u64 0, .int .u32 0, .int .u8 0, .int .u8 0, .int .u8 0, .int .u8 0, .nilFunc, .pointer none, .int .i32 0, .int .i32 0], .struct [.int .u64 0, .int .u64 0, .int .u32 0, .int .u8 0, .int .u8 0, .int .u8 0, .int .u8 0, .nilFunc, .pointer none, .int .i32 0, .int .i32 0] [(0, 1), (1, 1), (2, 1), (3, 1), (4, 1), (5, 1), (6, 1), (7, 1), (8, 1), (9, 1), (10, 1)] [false, false, false, false, false, false, false, false, false, false, false]⟩
theorem ark : bR Try.prog 172 agJ := ⟨aqA, fun zs h => by cases h; exact apf, bU alU ⟨aex, aey, aez, aeA, aeB, aeC, aeD, aeE, aeF, aeG, acN, trivial⟩ ⟨aeH, aeI, aeJ, aeK, aeL, aeM, aeN, aeO, aeP, aeQ, acO, trivial⟩⟩
def agK : TI := ⟨11, true, some [.int .u64 0, .int .u64 0, .int .u32 0, .int .u8 0, .int .u8 0, .int .u8 0, .int .u8 0, .nilFunc, .pointer none, .int .i32 0, .int .i32 0], .struct [.int .u64 0, .int .u64 0, .int .u32 0, .int .u8 0, .int .u8 0, .int .u8 0, .int .u8 0, .nilFunc, .pointer none, .int .i32 0, .int .i32 0] [(0, 1), (1, 1), (2, 1), (3, 1), (4, 1), (5, 1), (6, 1), (7, 1), (8, 1), (9, 1), (10, 1)] [false, false, false, false, false, false, false, false, false, false, false]⟩
theorem arl : bR Try.prog 173 agK := ⟨aqB, fun zs h => by cases h; exact apg, bU alV ⟨aeR, aeS, aeT, aeU, aeV, aeW, aeX, aeY, aeZ, ae0, acP, trivial⟩ ⟨ae1, ae2, ae3, ae4, ae5, ae6, ae7, ae8, ae9, afa, acQ, trivial⟩⟩
def tb : Tb := [(2, ti2), (3, ti3), (4, ti4), (5, ti5), (6, ti6), (7, ti7), (8, ti8), (9, ti9), (10, am2), (11, am3), (12, am4), (13, am5), (14, am6), (15, am7), (16, am8), (17, am9), (18, ana), (19, anb), (21, anc), (22, ane), (23, anf), (25, ang), (26, anh), (27, ani), (28, anj), (30, ank), (31, anl), (32, anm), (34, ann), (35, ano), (36, anp), (38, anq), (39, anr), (40, ans), (41, ant), (42, anu), (43, anv), (44, anw), (45, anx), (46, anz), (49, anA), (50, anB), (53, anC), (54, anD), (58, anE), (59, anF), (61, anG), (62, anH), (63, anI), (64, anJ), (65, anK), (69, anL), (70, anM), (71, anN), (72, anO), (73, anP), (74, anQ), (77, anR), (78, anS), (79, anT), (80, anU), (88, anV), (89, anW), (90, anX), (91, anY), (95, anZ), (96, an0), (101, age), (104, agf), (105, agh), (109, agi), (111, agj), (113, agk), (114, agl), (125, agm), (126, agn), (127, ago), (129, agp), (133, agq), (134, agr), (135, agt), (137, agu), (142, agv), (149, agw), (151, agx), (155, agy), (157, agz), (161, agA), (162, agB), (163, agC), (166, agD), (167, agE), (168, agF), (169, agG), (170, agH), (171, agI), (172, agJ), (173, agK)]
theorem W0 : Wld Try.prog tb := ⟨hmix, ⟨tk2, tk3, tk4, tk5, tk6, tk7, tk8, tk9, tk10, tk11, tk12, tk13, tk14, tk15, tk16, tk17, tk18, tk19, tk21, tk22, tk23, tk25, tk26, tk27, tk28, tk30, tk31, tk32, tk34, tk35, tk36, tk38, tk39, tk40, tk41, tk42, tk43, tk44, tk45, tk46, tk49, tk50, tk53, tk54, tk58, tk59, tk61, tk62, tk63, tk64, tk65, tk69, tk70, tk71, tk72, tk73, tk74, tk77, tk78, tk79, tk80, tk88, tk89, tk90, tk91, tk95, tk96, aqP, aqQ, aqR, aqS, aqT, aqU, aqV, aqW, aqX, aqY, aqZ, aq0, aq1, aq2, aq3, aq4, aq5, aq6, aq7, aq8, aq9, ara, arb, arc, ard, arf, arh, ari, arj, ark, arl, trivial⟩⟩
theorem ck6 : bt Try.prog 6 := ⟨Try.call6⟩
theorem ck7 : bt Try.prog 7 := ⟨Try.call7⟩
theorem ck8 : bt Try.prog 8 := ⟨Try.call8⟩
theorem ck9 : bt Try.prog 9 := ⟨Try.call9⟩
theorem afo : bt Try.prog 10 := ⟨Try.call10⟩
theorem jl : bt Try.prog 11 := ⟨Try.call11⟩
theorem w6 : bt Try.prog 12 := ⟨Try.call12⟩
theorem ck13 : bt Try.prog 13 := ⟨Try.call13⟩
theorem an1 : bt Try.prog 14 := ⟨Try.call14⟩
theorem ck15 : bt Try.prog 15 := ⟨Try.call15⟩
theorem ck16 : bt Try.prog 16 := ⟨Try.call16⟩
theorem afp : bt Try.prog 17 := ⟨Try.call17⟩
theorem w8 : bt Try.prog 18 := ⟨Try.call18⟩
theorem an2 : bt Try.prog 19 := ⟨Try.call19⟩
theorem yC : bt Try.prog 20 := ⟨Try.call20⟩
theorem ab4 : bt Try.prog 21 := ⟨Try.call21⟩
theorem yD : bt Try.prog 22 := ⟨Try.call22⟩
theorem ck23 : bt Try.prog 23 := ⟨Try.call23⟩
theorem an3 : bt Try.prog 24 := ⟨Try.call24⟩
theorem an4 : bt Try.prog 25 := ⟨Try.call25⟩
theorem ck26 : bt Try.prog 26 := ⟨Try.call26⟩
theorem ck27 : bt Try.prog 27 := ⟨Try.call27⟩
theorem ck28 : bt Try.prog 28 := ⟨Try.call28⟩
theorem ck29 : bt Try.prog 29 := ⟨Try.call29⟩
theorem an5 : bt Try.prog 30 := ⟨Try.call30⟩
theorem an6 : bt Try.prog 31 := ⟨Try.call31⟩
theorem an7 : bt Try.prog 32 := ⟨Try.call32⟩
theorem an8 : bt Try.prog 33 := ⟨Try.call33⟩
theorem ck34 : bt Try.prog 34 := ⟨Try.call34⟩
theorem ab5 : bt Try.prog 35 := ⟨Try.call35⟩
theorem afq : bt Try.prog 36 := ⟨Try.call36⟩
theorem an9 : bt Try.prog 37 := ⟨Try.call37⟩
theorem ck38 : bt Try.prog 38 := ⟨Try.call38⟩
theorem ck39 : bt Try.prog 39 := ⟨Try.call39⟩
theorem w9 : bt Try.prog 40 := ⟨Try.call40⟩
theorem afr : bt Try.prog 41 := ⟨Try.call41⟩
theorem aoa : bt Try.prog 42 := ⟨Try.call42⟩
theorem aob : bt Try.prog 43 := ⟨Try.call43⟩
theorem afs : bt Try.prog 44 := ⟨Try.call44⟩
theorem ck45 : bt Try.prog 45 := ⟨Try.call45⟩
theorem ck46 : bt Try.prog 46 := ⟨Try.call46⟩
theorem ck47 : bt Try.prog 47 := ⟨Try.call47⟩
theorem aoc : bt Try.prog 48 := ⟨Try.call48⟩
theorem gJ : bt Try.prog 49 := ⟨Try.call49⟩
theorem yE : bt Try.prog 50 := ⟨Try.call50⟩
theorem ck51 : bt Try.prog 51 := ⟨Try.call51⟩
theorem aft : bt Try.prog 52 := ⟨Try.call52⟩
theorem ck53 : bt Try.prog 53 := ⟨Try.call53⟩
theorem ck54 : bt Try.prog 54 := ⟨Try.call54⟩
theorem ck55 : bt Try.prog 55 := ⟨Try.call55⟩
theorem afu : bt Try.prog 56 := ⟨Try.call56⟩
theorem xb : bt Try.prog 57 := ⟨Try.call57⟩
theorem afv : bt Try.prog 58 := ⟨Try.call58⟩
theorem ck59 : bt Try.prog 59 := ⟨Try.call59⟩
theorem ck60 : bt Try.prog 60 := ⟨Try.call60⟩
theorem ab6 : bt Try.prog 61 := ⟨Try.call61⟩
theorem ck62 : bt Try.prog 62 := ⟨Try.call62⟩
theorem ck63 : bt Try.prog 63 := ⟨Try.call63⟩
theorem ck64 : bt Try.prog 64 := ⟨Try.call64⟩
theorem aod : bt Try.prog 65 := ⟨Try.call65⟩
theorem ck66 : bt Try.prog 66 := ⟨Try.call66⟩
theorem ck67 : bt Try.prog 67 := ⟨Try.call67⟩
theorem ck68 : bt Try.prog 68 := ⟨Try.call68⟩
theorem ck69 : bt Try.prog 69 := ⟨Try.call69⟩
theorem ck70 : bt Try.prog 70 := ⟨Try.call70⟩
theorem aoe : bt Try.prog 71 := ⟨Try.call71⟩
theorem ck72 : bt Try.prog 72 := ⟨Try.call72⟩
theorem qS {N : Nat} {ids : List Nat} {y : Code} {Q : Exit → Env → Sto → Prop} {env : Env} {σ : Sto} {id : Nat} {ops : Array Oper} {dr : Bool} (hs : List (Nat × Hint Try.prog)) (cm : Env) (σ2 : Sto) (k : aj ⟨Try.prog, N, ids⟩ y Q cm σ2)
  (h : tF tb N ids ops dr (iB ops dr hs).1 (iB ops dr hs).2 [] hs (oC cm) σ2.ids env σ = some (cm, σ2, (iB ops dr hs).2.map fun i => (hintOf hs i).exp) := by kernel_rfl) : aj ⟨Try.prog, N, ids⟩ (.seq (.region id ops dr) y) Q env σ := A.RS W0 [] hs cm σ2 h k
theorem qR {N : Nat} {ids : List Nat} {Q : Exit → Env → Sto → Prop} {env : Env} {σ : Sto} {id : Nat} {ops : Array Oper} {dr : Bool} (hs : List (Nat × Hint Try.prog)) (cm : Env) (σ2 : Sto) (k : Q .normal cm σ2)
  (h : tF tb N ids ops dr (iB ops dr hs).1 (iB ops dr hs).2 [] hs (oC cm) σ2.ids env σ = some (cm, σ2, (iB ops dr hs).2.map fun i => (hintOf hs i).exp) := by kernel_rfl) : aj ⟨Try.prog, N, ids⟩ (.region id ops dr) Q env σ := A.R W0 [] hs cm σ2 h k
def aof (n : Nat) : List Nat → Bool
 | [] => false
 | k :: r => bif Nat.beq k n then true else aof n r
def kI {α : Type} (ks : List Nat) (new : List (Nat × α)) : List (Nat × α) → List (Nat × α)
 | [] => new
 | p :: l => bif aof p.1 ks then kI ks new l else p :: kI ks new l
section
variable {N : Nat} {ids : List Nat} {y : Code} {Q : Exit → Env → Sto → Prop} {env : Env} {σ : Sto} {id : Nat} {ops : Array Oper} {dr : Bool} (hs : List (Nat × Hint Try.prog)) (ks : List Nat) (new : Env) (js : List Nat) (nws : Sto)
theorem qD (k : aj ⟨Try.prog, N, ids⟩ y Q (kI ks new env) (kI js nws σ))
  (h : tF tb N ids ops dr (iB ops dr hs).1 (iB ops dr hs).2 [] hs (oC (kI ks new env)) (Sto.ids (kI js nws σ)) env σ = some (kI ks new env, kI js nws σ, (iB ops dr hs).2.map fun i => (hintOf hs i).exp) := by kernel_rfl) : aj ⟨Try.prog, N, ids⟩ (.seq (.region id ops dr) y) Q env σ := A.RS W0 [] hs _ _ h k
theorem qDs (k : aj ⟨Try.prog, N, ids⟩ y Q (kI ks new env) σ)
  (h : tF tb N ids ops dr (iB ops dr hs).1 (iB ops dr hs).2 [] hs (oC (kI ks new env)) σ.ids env σ = some (kI ks new env, σ, (iB ops dr hs).2.map fun i => (hintOf hs i).exp) := by kernel_rfl) : aj ⟨Try.prog, N, ids⟩ (.seq (.region id ops dr) y) Q env σ := A.RS W0 [] hs _ _ h k
theorem qG (k : Q .normal (kI ks new env) (kI js nws σ))
  (h : tF tb N ids ops dr (iB ops dr hs).1 (iB ops dr hs).2 [] hs (oC (kI ks new env)) (Sto.ids (kI js nws σ)) env σ = some (kI ks new env, kI js nws σ, (iB ops dr hs).2.map fun i => (hintOf hs i).exp) := by kernel_rfl) : aj ⟨Try.prog, N, ids⟩ (.region id ops dr) Q env σ := A.R W0 [] hs _ _ h k
theorem qGs (k : Q .normal (kI ks new env) σ)
  (h : tF tb N ids ops dr (iB ops dr hs).1 (iB ops dr hs).2 [] hs (oC (kI ks new env)) σ.ids env σ = some (kI ks new env, σ, (iB ops dr hs).2.map fun i => (hintOf hs i).exp) := by kernel_rfl) : aj ⟨Try.prog, N, ids⟩ (.region id ops dr) Q env σ := A.R W0 [] hs _ _ h k
end
theorem qE {N : Nat} {ids : List Nat} {fn : Func} {env : Env} {σ σ2 : Sto} {R : AV} (h : afh tb ids [] σ2.ids fn.results.toList env σ = some (R, σ2) := by kernel_rfl) :
  abW ⟨Try.prog, N, ids⟩ fn (fun a σ' => a = R ∧ σ' = σ2) .ret env σ := A.fin W0 [] rfl h
theorem qW {G : Gl} {env cm : Env} {σ σ2 : Sto} (h : xQ G.ids [] [] (oC cm) σ2.ids env σ = some (cm, σ2) := by kernel_rfl) : bz G env σ cm σ2 := bz.go [] [] h
theorem qX {G : Gl} {α ρ : Type} {J : α → Option ρ} {r : ρ} {env : Env} {σ : Sto} {dG : α → Env} {fc : α → Sto} (g : α) (hg : J g = some r) (h : xQ G.ids [] [] (oC (dG g)) (fc g).ids env σ = some (dG g, fc g) := by kernel_rfl) :
  ∃ g, J g = some r ∧ bz G env σ (dG g) (fc g) := ⟨g, hg, bz.go [] [] h⟩
theorem qT {G : Gl} {o : Operand} {p : Bool} {x y : Code} {Q : Exit → Env → Sto → Prop} {env : Env} {σ : Sto} (hp : p = true) (k : aj G x Q env σ) (hc : env.evo o = some (.bool p) := by kernel_rfl) : aj G (.cond o x y) Q env σ := A.cT hc hp k
theorem qF {G : Gl} {o : Operand} {p : Bool} {x y : Code} {Q : Exit → Env → Sto → Prop} {env : Env} {σ : Sto} (hp : p = false) (k : aj G y Q env σ) (hc : env.evo o = some (.bool p) := by kernel_rfl) : aj G (.cond o x y) Q env σ := A.cF hc hp k
abbrev i6 (n : Int) : AV := .int .i64 n
abbrev lf {α : Type} (e : En α) (l : List α) : AV := .lst false (ml e l)
abbrev k0 (x : aP) : List AV := [.int .i64 x.ID, .bool x.vH]
abbrev k1 (x : bf) : List AV := [.int .i64 x.A, .int .i64 x.B, .int .i64 x.jL, .int .i64 x.jM, .int .i64 x.lC]
abbrev k2 (x : aa) : List AV := [.lst false (ml aL x.aC), .lst false (ml b9 x.Links)]
abbrev k3 (x : aQ) : List AV := [.lst false (ml bx x.L), .int .i64 x.At]
abbrev k4 (x : ah) : List AV := [.int .i64 x.Bit, .int .i64 x.aR, .int .i64 x.Kind, .int .i64 x.To]
abbrev k5 (x : aM) : List AV := [.int .i64 x.Length, .lst false (ml ak x.List)]
abbrev k6 (x : az) : List AV := [.int .i64 x.to_, .int .i64 x.eY]
abbrev k7 (x : aS) : List AV := [.int .i64 x.Mode, .int .i64 x.bQ, .int .i64 x.Set, .int .i64 x.Length, .int .i64 x.TTL, .int .i64 x.cv, .int .i64 x.cw, .int .i64 x.dx, .int .u64 x.Bits, .str x.cz]
abbrev k8 (x : fI) : List AV := [.int .u64 x.Local, .int .u64 x.mg, .lst false (ml lN x.kH)]
abbrev k9 (x : aX) : List AV := [.int .i64 x.eE.Bit, .int .i64 x.eE.aR, .int .i64 x.eE.Kind, .int .i64 x.eE.To, .int .i64 x.copy_.To, .lst false (ml bx x.copy_.Frame.vK), .int .i64 x.copy_.Frame.aJ.Mode, .int .i64 x.copy_.Frame.aJ.bQ, .int .i64 x.copy_.Frame.aJ.Set, .int .i64 x.copy_.Frame.aJ.Length, .int .i64 x.copy_.Frame.aJ.TTL, .int .i64 x.copy_.Frame.aJ.cv, .int .i64 x.copy_.Frame.aJ.cw, .int .i64 x.copy_.Frame.aJ.dx, .int .u64 x.copy_.Frame.aJ.Bits, .str x.copy_.Frame.aJ.cz]
abbrev k10 (x : bp) : List AV := [.int .i64 x.nD, .int .i64 x.To, .int .u64 x.Bits]
abbrev k11 (x : cH) : List AV := [.int .i64 x.aR, .int .u64 x.Bits]
abbrev k12 (x : eF) : List AV := [.lst false (ml ck x.cK), .lst false (ml cG x.cB), .lst false (ml gl x.ng)]
abbrev k13 (x : aB) : List AV := [.int .i64 x.bq, .int .i64 x.bA.Mode, .int .i64 x.bA.bQ, .int .i64 x.bA.Set, .int .i64 x.bA.Length, .int .i64 x.bA.TTL, .int .i64 x.bA.cv, .int .i64 x.bA.cw, .int .i64 x.bA.dx, .int .u64 x.bA.Bits, .str x.bA.cz]
end Go.Proofs.Ytdjeacigeegklaa
