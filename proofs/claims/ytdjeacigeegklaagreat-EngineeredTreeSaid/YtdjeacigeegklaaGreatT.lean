/- The data of the program, as Lean data, and what is known of its types. No condition but br aM stand in each. -/
import Derived.Test.YtdjeacigeegklaaGreatF
import Derived.Test.YtdjeacigeegklaaGreatB7
import Derived.Test.YtdjeacigeegklaaGreatAC
namespace Go.Proofs.YtdjeacigeegklaaGreat
open Go Go.Proofs.Tryz
set_option maxRecDepth 100000
set_option linter.all false
structure aP where
 ID:Int
 wT:Bool
instance:Inhabited aP:=⟨aP.mk (0:Int) false⟩
def bg:En aP:=⟨λx=>[.int .i64 x.ID,.bool x.wT],2,λ_=>rfl,λ_=>rfl,λ_=>rfl⟩
structure aZ where
 A:Int
 B:Int
 kI:Int
 kJ:Int
 l7:Int
instance:Inhabited aZ:=⟨aZ.mk (0:Int) (0:Int) (0:Int) (0:Int) (0:Int)⟩
def cq:En aZ:=⟨λx=>[.int .i64 x.A,.int .i64 x.B,.int .i64 x.kI,.int .i64 x.kJ,.int .i64 x.l7],5,λ_=>rfl,λ_=>rfl,λ_=>rfl⟩
structure af where
 aF:List aP
 Links:List aZ
instance:Inhabited af:=⟨af.mk [] []⟩
structure aX where
 bh:Int
 To:Int
instance:Inhabited aX:=⟨aX.mk (0:Int) (0:Int)⟩
def bt:En aX:=⟨λx=>[.int .i64 x.bh,.int .i64 x.To],2,λ_=>rfl,λ_=>rfl,λ_=>rfl⟩
def vV(a b:aX):Bool:=decide (a.bh=b.bh)&&(decide (a.To=b.To)&&true)
structure uA where
 Links:List aX
 aF:List Int
instance:Inhabited uA:=⟨uA.mk [] []⟩
structure az where
 Bit:Int
 aR:Int
 Kind:Int
 To:Int
instance:Inhabited az:=⟨az.mk (0:Int) (0:Int) (0:Int) (0:Int)⟩
def aQ:En az:=⟨λx=>[.int .i64 x.Bit,.int .i64 x.aR,.int .i64 x.Kind,.int .i64 x.To],4,λ_=>rfl,λ_=>rfl,λ_=>rfl⟩
structure bJ where
 L:List Int
 At:Int
instance:Inhabited bJ:=⟨bJ.mk [] (0:Int)⟩
structure aI where
 Length:Int
 List:List az
instance:Inhabited aI:=⟨aI.mk (0:Int) []⟩
structure cE where
 b9:Int
 Links:List aX
instance:Inhabited cE:=⟨cE.mk (0:Int) []⟩
structure aD where
 aT:Int
 l8:Int
 to_:Int
instance:Inhabited aD:=⟨aD.mk (0:Int) (0:Int) (0:Int)⟩
def cO:En aD:=⟨λx=>[.int .i64 x.aT,.int .i64 x.l8,.int .i64 x.to_],3,λ_=>rfl,λ_=>rfl,λ_=>rfl⟩
def cn(a b:aD):Bool:=decide (a.aT=b.aT)&&(decide (a.l8=b.l8)&&(decide (a.to_=b.to_)&&true))
structure ay where
 to_:Int
 fh:Int
instance:Inhabited ay:=⟨ay.mk (0:Int) (0:Int)⟩
def aj:En ay:=⟨λx=>[.int .i64 x.to_,.int .i64 x.fh],2,λ_=>rfl,λ_=>rfl,λ_=>rfl⟩
structure eE where
 kZ:List (Int×List ay)
 in_:List (Int×List ay)
instance:Inhabited eE:=⟨eE.mk [] []⟩
structure aK where
 Mode:Int
 cL:Int
 Set:Int
 Length:Int
 TTL:Int
 dG:Int
 dH:Int
 fk:Int
 Bits:Int
 cv:ByteArray
instance:Inhabited aK:=⟨aK.mk (0:Int) (0:Int) (0:Int) (0:Int) (0:Int) (0:Int) (0:Int) (0:Int) (0:Int) (⟨#[]⟩)⟩
structure kK where
 aaZ:List Int
 bU:aK
instance:Inhabited kK:=⟨kK.mk [] (aK.mk (0:Int) (0:Int) (0:Int) (0:Int) (0:Int) (0:Int) (0:Int) (0:Int) (0:Int) ⟨#[]⟩)⟩
structure iM where
 To:Int
 Frame:kK
instance:Inhabited iM:=⟨iM.mk (0:Int) (kK.mk [] (aK.mk (0:Int) (0:Int) (0:Int) (0:Int) (0:Int) (0:Int) (0:Int) (0:Int) (0:Int) ⟨#[]⟩))⟩
def r9:En iM:=⟨λx=>[.int .i64 x.To,.lst false (ml aG x.Frame.aaZ),.int .i64 x.Frame.bU.Mode,.int .i64 x.Frame.bU.cL,.int .i64 x.Frame.bU.Set,.int .i64 x.Frame.bU.Length,.int .i64 x.Frame.bU.TTL,.int .i64 x.Frame.bU.dG,.int .i64 x.Frame.bU.dH,.int .i64 x.Frame.bU.fk,.int .u64 x.Frame.bU.Bits,.str x.Frame.bU.cv],12,λ_=>rfl,λ_=>rfl,λ_=>rfl⟩
structure jk where
 Local:Int
 tj:Int
 anE:List iM
instance:Inhabited jk:=⟨jk.mk (0:Int) (0:Int) []⟩
structure aW where
 eF:az
 copy_:iM
instance:Inhabited aW:=⟨aW.mk (az.mk (0:Int) (0:Int) (0:Int) (0:Int)) (iM.mk (0:Int) (kK.mk [] (aK.mk (0:Int) (0:Int) (0:Int) (0:Int) (0:Int) (0:Int) (0:Int) (0:Int) (0:Int) ⟨#[]⟩)))⟩
def cG:En aW:=⟨λx=>[.int .i64 x.eF.Bit,.int .i64 x.eF.aR,.int .i64 x.eF.Kind,.int .i64 x.eF.To,.int .i64 x.copy_.To,.lst false (ml aG x.copy_.Frame.aaZ),.int .i64 x.copy_.Frame.bU.Mode,.int .i64 x.copy_.Frame.bU.cL,.int .i64 x.copy_.Frame.bU.Set,.int .i64 x.copy_.Frame.bU.Length,.int .i64 x.copy_.Frame.bU.TTL,.int .i64 x.copy_.Frame.bU.dG,.int .i64 x.copy_.Frame.bU.dH,.int .i64 x.copy_.Frame.bU.fk,.int .u64 x.copy_.Frame.bU.Bits,.str x.copy_.Frame.bU.cv],16,λ_=>rfl,λ_=>rfl,λ_=>rfl⟩
structure cu where
 aR:Int
 bU:aK
instance:Inhabited cu:=⟨cu.mk (0:Int) (aK.mk (0:Int) (0:Int) (0:Int) (0:Int) (0:Int) (0:Int) (0:Int) (0:Int) (0:Int) ⟨#[]⟩)⟩
def dn:En cu:=⟨λx=>[.int .i64 x.aR,.int .i64 x.bU.Mode,.int .i64 x.bU.cL,.int .i64 x.bU.Set,.int .i64 x.bU.Length,.int .i64 x.bU.TTL,.int .i64 x.bU.dG,.int .i64 x.bU.dH,.int .i64 x.bU.fk,.int .u64 x.bU.Bits,.str x.bU.cv],11,λ_=>rfl,λ_=>rfl,λ_=>rfl⟩
structure aV where
 bh:Int
 To:Int
 Bits:Int
instance:Inhabited aV:=⟨aV.mk (0:Int) (0:Int) (0:Int)⟩
def dI:En aV:=⟨λx=>[.int .i64 x.bh,.int .i64 x.To,.int .u64 x.Bits],3,λ_=>rfl,λ_=>rfl,λ_=>rfl⟩
structure dz where
 aR:Int
 Bits:Int
instance:Inhabited dz:=⟨dz.mk (0:Int) (0:Int)⟩
def jN:En dz:=⟨λx=>[.int .i64 x.aR,.int .u64 x.Bits],2,λ_=>rfl,λ_=>rfl,λ_=>rfl⟩
structure fe where
 cm:List cu
 cH:List aV
 jo:List dz
instance:Inhabited fe:=⟨fe.mk [] [] []⟩
structure aC where
 aT:Int
 bI:aK
instance:Inhabited aC:=⟨aC.mk (0:Int) (aK.mk (0:Int) (0:Int) (0:Int) (0:Int) (0:Int) (0:Int) (0:Int) (0:Int) (0:Int) ⟨#[]⟩)⟩
def cU:En aC:=⟨λx=>[.int .i64 x.aT,.int .i64 x.bI.Mode,.int .i64 x.bI.cL,.int .i64 x.bI.Set,.int .i64 x.bI.Length,.int .i64 x.bI.TTL,.int .i64 x.bI.dG,.int .i64 x.bI.dH,.int .i64 x.bI.fk,.int .u64 x.bI.Bits,.str x.bI.cv],11,λ_=>rfl,λ_=>rfl,λ_=>rfl⟩
structure aaC where
 aR:Int
 bU:aK
instance:Inhabited aaC:=⟨aaC.mk (0:Int) (aK.mk (0:Int) (0:Int) (0:Int) (0:Int) (0:Int) (0:Int) (0:Int) (0:Int) (0:Int) ⟨#[]⟩)⟩
structure si where
 aT:Int
 frame_:kK
instance:Inhabited si:=⟨si.mk (0:Int) (kK.mk [] (aK.mk (0:Int) (0:Int) (0:Int) (0:Int) (0:Int) (0:Int) (0:Int) (0:Int) (0:Int) ⟨#[]⟩))⟩
structure va where
 engine_:aI
 before_:af
 left_:af
 failure_:uA
 trace_:fe
 queue_:List si
instance:Inhabited va:=⟨va.mk (aI.mk (0:Int) []) (af.mk [] []) (af.mk [] []) (uA.mk [] []) (fe.mk [] [] []) []⟩
structure xA where
 aR:Int
 Frame:kK
instance:Inhabited xA:=⟨xA.mk (0:Int) (kK.mk [] (aK.mk (0:Int) (0:Int) (0:Int) (0:Int) (0:Int) (0:Int) (0:Int) (0:Int) (0:Int) ⟨#[]⟩))⟩
structure aaD where
 E0:Int
 E1:Int
instance:Inhabited aaD:=⟨aaD.mk (0:Int) (0:Int)⟩
def ti2:TI:=⟨1,false,some [zI0],.int .i64⟩
theorem tk2:ct prog 2 ti2:=⟨ty2,λzs h=>by cases h;exact ze2,underlying2⟩
def ti3:TI:=⟨1,false,some [zI0],.int .i64⟩
theorem tk3:ct prog 3 ti3:=⟨ty3,λzs h=>by cases h;exact ze3,underlying3⟩
def ti4:TI:=⟨1,false,some [.bool false],.bool⟩
theorem tk4:ct prog 4 ti4:=⟨ty4,λzs h=>by cases h;exact ze4,underlying4⟩
def ti5:TI:=⟨1,false,some [.int .u8 0],.int .u8⟩
theorem tk5:ct prog 5 ti5:=⟨ty5,λzs h=>by cases h;exact ze5,underlying5⟩
def ti6:TI:=⟨1,false,some [.int .u8 0],.int .u8⟩
theorem tk6:ct prog 6 ti6:=⟨ty6,λzs h=>by cases h;exact ze6,underlying6⟩
def ti7:TI:=⟨4,true,some [zI0,zI0,.bool false,.int .u8 0],.struct [zI0,zI0,.bool false,.int .u8 0] [(0,1),(1,1),(2,1),(3,1)] [false,false,false,false]⟩
theorem tk7:ct prog 7 ti7:=⟨ty7,λzs h=>by cases h;exact ze7,cS str7 ⟨alP,alQ,alR,alS,trivial⟩ ⟨alT,alU,alV,alW,trivial⟩⟩
def ti8:TI:=⟨4,true,some [zI0,zI0,.bool false,.int .u8 0],.struct [zI0,zI0,.bool false,.int .u8 0] [(0,1),(1,1),(2,1),(3,1)] [false,false,false,false]⟩
theorem tk8:ct prog 8 ti8:=⟨ty8,λzs h=>by cases h;exact ze8,cS str8 ⟨alX,alY,alZ,al0,trivial⟩ ⟨al1,al2,al3,al4,trivial⟩⟩
def ti9:TI:=⟨1,false,some [.string ⟨#[]⟩],.str⟩
theorem tk9:ct prog 9 ti9:=⟨ty9,λzs h=>by cases h;exact ze9,underlying9⟩
def anG:TI:=⟨1,false,some [.string ⟨#[]⟩],.str⟩
theorem tk10:ct prog 10 anG:=⟨ty10,λzs h=>by cases h;exact ze10,underlying10⟩
def anH:TI:=⟨1,false,some [.string ⟨#[]⟩],.str⟩
theorem tk11:ct prog 11 anH:=⟨ty11,λzs h=>by cases h;exact ze11,underlying11⟩
def anI:TI:=⟨1,false,some [.int .u64 0],.int .u64⟩
theorem tk12:ct prog 12 anI:=⟨afp,λzs h=>by cases h;exact ze12,underlying12⟩
def anJ:TI:=⟨2,true,some [.string ⟨#[]⟩,.int .u64 0],.struct [.string ⟨#[]⟩,.int .u64 0] [(0,1),(1,1)] [false,false]⟩
theorem tk13:ct prog 13 anJ:=⟨ty13,λzs h=>by cases h;exact ze13,cS apr ⟨aij,aik,trivial⟩ ⟨ail,aim,trivial⟩⟩
def anK:TI:=⟨2,true,some [.string ⟨#[]⟩,.int .u64 0],.struct [.string ⟨#[]⟩,.int .u64 0] [(0,1),(1,1)] [false,false]⟩
theorem tk14:ct prog 14 anK:=⟨ty14,λzs h=>by cases h;exact ze14,cS aps ⟨ain,aio,trivial⟩ ⟨aip,aiq,trivial⟩⟩
def anL:TI:=⟨1,false,some [.pointer none],.oth⟩
theorem tk15:ct prog 15 anL:=⟨ty15,λzs h=>by cases h;exact ze15,trivial⟩
def anM:TI:=⟨1,false,some [.pointer none],.oth⟩
theorem tk16:ct prog 16 anM:=⟨ty16,λzs h=>by cases h;exact ze16,trivial⟩
def anN:TI:=⟨1,false,some [.pointer none],.oth⟩
theorem tk17:ct prog 17 anN:=⟨afq,λzs h=>by cases h;exact ze17,trivial⟩
def anO:TI:=⟨1,true,some [.pointer none],.struct [.pointer none] [(0,1)] [false]⟩
theorem tk18:ct prog 18 anO:=⟨ty18,λzs h=>by cases h;exact ze18,cS apt ⟨air,trivial⟩ ⟨ais,trivial⟩⟩
def anP:TI:=⟨1,true,some [.pointer none],.struct [.pointer none] [(0,1)] [false]⟩
theorem tk19:ct prog 19 anP:=⟨ty19,λzs h=>by cases h;exact ze19,cS apu ⟨ait,trivial⟩ ⟨aiu,trivial⟩⟩
def anQ:TI:=⟨1,false,some [.int .i32 0],.int .i32⟩
theorem tk21:ct prog 21 anQ:=⟨ty21,λzs h=>by cases h;exact ze21,underlying21⟩
def anR:TI:=⟨1,false,some [zS0],.slice 3 1 8 [zI0]⟩
theorem tk22:ct prog 22 anR:=⟨afr,λzs h=>by cases h;exact ze22,⟨sl22,ahl,apv⟩⟩
def anS:TI:=⟨1,false,some [.pointer none],.oth⟩
theorem tk23:ct prog 23 anS:=⟨ty23,λzs h=>by cases h;exact ze23,trivial⟩
def anT:TI:=⟨1,false,some [zS0],.slice 42 2 16 [zI0,.bool false]⟩
theorem tk25:ct prog 25 anT:=⟨afs,λzs h=>by cases h;exact ze25,⟨sl25,apw,apx⟩⟩
def anU:TI:=⟨1,false,some [zS0],.slice 89 5 40 [zI0,zI0,zI0,zI0,zI0]⟩
theorem tk26:ct prog 26 anU:=⟨aft,λzs h=>by cases h;exact ze26,⟨sl26,apy,apz⟩⟩
def anV:TI:=⟨2,true,some [zS0,zS0],.struct [zS0,zS0] [(0,1),(1,1)] [false,false]⟩
theorem tk27:ct prog 27 anV:=⟨ty27,λzs h=>by cases h;exact ze27,cS apA ⟨aiv,aiw,trivial⟩ ⟨aix,aiy,trivial⟩⟩
def anW:TI:=⟨2,true,some [zS0,zS0],.struct [zS0,zS0] [(0,1),(1,1)] [false,false]⟩
theorem tk28:ct prog 28 anW:=⟨ty28,λzs h=>by cases h;exact ze28,cS apB ⟨aiz,aiA,trivial⟩ ⟨aiB,aiC,trivial⟩⟩
def anX:TI:=⟨1,false,some [zS0],.slice 38 4 32 [zI0,zI0,zI0,zI0]⟩
theorem tk30:ct prog 30 anX:=⟨afu,λzs h=>by cases h;exact ze30,⟨sl30,apC,apD⟩⟩
def anY:TI:=⟨2,true,some [zI0,zS0],.struct [zI0,zS0] [(0,1),(1,1)] [false,false]⟩
theorem tk31:ct prog 31 anY:=⟨ty31,λzs h=>by cases h;exact ze31,cS apF ⟨aiD,aiE,trivial⟩ ⟨aiF,aiG,trivial⟩⟩
def anZ:TI:=⟨2,true,some [zI0,zS0],.struct [zI0,zS0] [(0,1),(1,1)] [false,false]⟩
theorem tk32:ct prog 32 anZ:=⟨ty32,λzs h=>by cases h;exact ze32,cS apG ⟨aiH,aiI,trivial⟩ ⟨aiJ,aiK,trivial⟩⟩
def an0:TI:=⟨1,false,some [.int .u64 0],.int .u64⟩
theorem tk34:ct prog 34 an0:=⟨uu,λzs h=>by cases h;exact ze34,underlying34⟩
def an1:TI:=⟨10,true,some [zI0,zI0,zI0,zI0,zI0,zI0,zI0,zI0,.int .u64 0,.string ⟨#[]⟩],.struct [zI0,zI0,zI0,zI0,zI0,zI0,zI0,zI0,.int .u64 0,.string ⟨#[]⟩] [(0,1),(1,1),(2,1),(3,1),(4,1),(5,1),(6,1),(7,1),(8,1),(9,1)] [false,false,false,false,false,false,false,false,false,false]⟩
theorem tk35:ct prog 35 an1:=⟨ty35,λzs h=>by cases h;exact ze35,cS apH ⟨aiL,aiM,aiN,aiO,aiP,aiQ,aiR,aiS,aiT,aiU,trivial⟩ ⟨aiV,aiW,aiX,aiY,aiZ,ai0,ai1,ai2,ai3,ai4,trivial⟩⟩
def an2:TI:=⟨10,true,some [zI0,zI0,zI0,zI0,zI0,zI0,zI0,zI0,.int .u64 0,.string ⟨#[]⟩],.struct [zI0,zI0,zI0,zI0,zI0,zI0,zI0,zI0,.int .u64 0,.string ⟨#[]⟩] [(0,1),(1,1),(2,1),(3,1),(4,1),(5,1),(6,1),(7,1),(8,1),(9,1)] [false,false,false,false,false,false,false,false,false,false]⟩
theorem tk36:ct prog 36 an2:=⟨adl,λzs h=>by cases h;exact ze36,cS apI ⟨ai5,ai6,ai7,ai8,ai9,aja,ajb,ajc,ajd,aje,trivial⟩ ⟨ajf,ajg,ajh,aji,ajj,ajk,ajl,ajm,ajn,ajo,trivial⟩⟩
def an3:TI:=⟨4,true,some [zI0,zI0,zI0,zI0],.struct [zI0,zI0,zI0,zI0] [(0,1),(1,1),(2,1),(3,1)] [false,false,false,false]⟩
theorem tk37:ct prog 37 an3:=⟨ty37,λzs h=>by cases h;exact ze37,cS apJ ⟨ajp,ajq,ajr,ajs,trivial⟩ ⟨ajt,aju,ajv,ajw,trivial⟩⟩
def an4:TI:=⟨4,true,some [zI0,zI0,zI0,zI0],.struct [zI0,zI0,zI0,zI0] [(0,1),(1,1),(2,1),(3,1)] [false,false,false,false]⟩
theorem tk38:ct prog 38 an4:=⟨al5,λzs h=>by cases h;exact alG,cS apK ⟨ajx,ajy,ajz,ajA,trivial⟩ ⟨ajB,ajC,ajD,ajE,trivial⟩⟩
def an5:TI:=⟨1,false,some [.int .u64 0],.int .u64⟩
theorem tk40:ct prog 40 an5:=⟨ty40,λzs h=>by cases h;exact ze40,underlying40⟩
def an6:TI:=⟨2,true,some [zI0,.bool false],.struct [zI0,.bool false] [(0,1),(1,1)] [false,false]⟩
theorem tk41:ct prog 41 an6:=⟨ty41,λzs h=>by cases h;exact ze41,cS apL ⟨ajF,ajG,trivial⟩ ⟨ajH,ajI,trivial⟩⟩
def an7:TI:=⟨2,true,some [zI0,.bool false],.struct [zI0,.bool false] [(0,1),(1,1)] [false,false]⟩
theorem tk42:ct prog 42 an7:=⟨ty42,λzs h=>by cases h;exact alH,cS apM ⟨ajJ,ajK,trivial⟩ ⟨ajL,ajM,trivial⟩⟩
def an8:TI:=⟨1,false,some [zS0],.slice 54 12 120 [zI0,zS0,zI0,zI0,zI0,zI0,zI0,zI0,zI0,zI0,.int .u64 0,.string ⟨#[]⟩]⟩
theorem tk44:ct prog 44 an8:=⟨afv,λzs h=>by cases h;exact ze44,⟨sl44,apN,apO⟩⟩
def an9:TI:=⟨3,true,some [.int .u64 0,.int .u64 0,zS0],.struct [.int .u64 0,.int .u64 0,zS0] [(0,1),(1,1),(2,1)] [false,false,false]⟩
theorem tk45:ct prog 45 an9:=⟨ty45,λzs h=>by cases h;exact ze45,cS apP ⟨ajN,ajO,ajP,trivial⟩ ⟨ajQ,ajR,ajS,trivial⟩⟩
def aoa:TI:=⟨3,true,some [.int .u64 0,.int .u64 0,zS0],.struct [.int .u64 0,.int .u64 0,zS0] [(0,1),(1,1),(2,1)] [false,false,false]⟩
theorem tk46:ct prog 46 aoa:=⟨ty46,λzs h=>by cases h;exact ze46,cS apQ ⟨ajT,ajU,ajV,trivial⟩ ⟨ajW,ajX,ajY,trivial⟩⟩
def aob:TI:=⟨1,false,some [zI0],.int .i64⟩
theorem tk47:ct prog 47 aob:=⟨ty47,λzs h=>by cases h;exact alI,underlying47⟩
def aoc:TI:=⟨11,true,some [zS0,zI0,zI0,zI0,zI0,zI0,zI0,zI0,zI0,.int .u64 0,.string ⟨#[]⟩],.struct [zS0,zI0,zI0,zI0,zI0,zI0,zI0,zI0,zI0,.int .u64 0,.string ⟨#[]⟩] [(0,1),(1,10)] [false,true]⟩
theorem tk52:ct prog 52 aoc:=⟨al6,λzs h=>by cases h;exact ze52,cS apR ⟨ajZ,aj0,trivial⟩ ⟨aj1,aj2,trivial⟩⟩
def aod:TI:=⟨12,true,some [zI0,zS0,zI0,zI0,zI0,zI0,zI0,zI0,zI0,zI0,.int .u64 0,.string ⟨#[]⟩],.struct [zI0,zS0,zI0,zI0,zI0,zI0,zI0,zI0,zI0,zI0,.int .u64 0,.string ⟨#[]⟩] [(0,1),(1,11)] [false,true]⟩
theorem tk54:ct prog 54 aod:=⟨al7,λzs h=>by cases h;exact alJ,cS apS ⟨aj3,aj4,trivial⟩ ⟨aj5,aj6,trivial⟩⟩
def aoe:TI:=⟨1,false,some [zS0],.slice 67 2 16 [zI0,zI0]⟩
theorem tk61:ct prog 61 aoe:=⟨al8,λzs h=>by cases h;exact ze61,⟨sl61,ahm,apT⟩⟩
def aof:TI:=⟨2,true,some [zI0,zS0],.struct [zI0,zS0] [(0,1),(1,1)] [false,false]⟩
theorem tk63:ct prog 63 aof:=⟨ty63,λzs h=>by cases h;exact alK,cS apU ⟨aj7,aj8,trivial⟩ ⟨aj9,aka,trivial⟩⟩
def aog:TI:=⟨2,true,some [zI0,zI0],.struct [zI0,zI0] [(0,1),(1,1)] [false,false]⟩
theorem tk67:ct prog 67 aog:=⟨ty67,λzs h=>by cases h;exact alL,cS apV ⟨akb,akc,trivial⟩ ⟨akd,ake,trivial⟩⟩
def aoh:TI:=⟨1,false,some [zS0],.slice 78 11 96 [zI0,zI0,zI0,zI0,zI0,zI0,zI0,zI0,zI0,.int .u64 0,.string ⟨#[]⟩]⟩
theorem tk70:ct prog 70 aoh:=⟨al9,λzs h=>by cases h;exact ze70,⟨sl70,apX,apY⟩⟩
def aoi:TI:=⟨1,false,some [zS0],.slice 81 3 24 [zI0,zI0,.int .u64 0]⟩
theorem tk71:ct prog 71 aoi:=⟨ama,λzs h=>by cases h;exact ze71,⟨sl71,apZ,ap0⟩⟩
def aoj:TI:=⟨1,false,some [zS0],.slice 141 2 16 [zI0,.int .u64 0]⟩
theorem tk72:ct prog 72 aoj:=⟨amb,λzs h=>by cases h;exact ze72,⟨sl72,ap1,ap2⟩⟩
def aok:TI:=⟨3,true,some [zS0,zS0,zS0],.struct [zS0,zS0,zS0] [(0,1),(1,1),(2,1)] [false,false,false]⟩
theorem tk74:ct prog 74 aok:=⟨ty74,λzs h=>by cases h;exact ze74,cS ap3 ⟨akf,akg,akh,trivial⟩ ⟨aki,akj,akk,trivial⟩⟩
def aol:TI:=⟨11,true,some [zI0,zI0,zI0,zI0,zI0,zI0,zI0,zI0,zI0,.int .u64 0,.string ⟨#[]⟩],.struct [zI0,zI0,zI0,zI0,zI0,zI0,zI0,zI0,zI0,.int .u64 0,.string ⟨#[]⟩] [(0,1),(1,10)] [false,true]⟩
theorem tk78:ct prog 78 aol:=⟨ty78,λzs h=>by cases h;exact alM,cS ap4 ⟨akl,akm,trivial⟩ ⟨akn,ako,trivial⟩⟩
def aom:TI:=⟨3,true,some [zI0,zI0,.int .u64 0],.struct [zI0,zI0,.int .u64 0] [(0,1),(1,1),(2,1)] [false,false,false]⟩
theorem tk81:ct prog 81 aom:=⟨ty81,λzs h=>by cases h;exact alN,cS ap5 ⟨akp,akq,akr,trivial⟩ ⟨aks,akt,aku,trivial⟩⟩
def aon:TI:=⟨5,true,some [zI0,zI0,zI0,zI0,zI0],.struct [zI0,zI0,zI0,zI0,zI0] [(0,1),(1,1),(2,1),(3,1),(4,1)] [false,false,false,false,false]⟩
theorem tk89:ct prog 89 aon:=⟨ty89,λzs h=>by cases h;exact alO,cS ap6 ⟨akv,akw,akx,aky,akz,trivial⟩ ⟨akA,akB,akC,akD,akE,trivial⟩⟩
def aoo:TI:=⟨1,false,some [zS0],.slice 63 2 32 [zI0,zS0]⟩
theorem tk96:ct prog 96 aoo:=⟨ty96,λzs h=>by cases h;exact ze96,⟨sl96,ap7,ap8⟩⟩
def ahq:TI:=⟨2,true,some [zS0,zI0],.struct [zS0,zI0] [(0,1),(1,1)] [false,false]⟩
theorem aqP:ct prog 115 ahq:=⟨ap9,λzs h=>by cases h;exact ao6,cS amc ⟨afx,afy,trivial⟩ ⟨afz,afA,trivial⟩⟩
def ahr:TI:=⟨1,false,some [zS0],.slice 118 1 24 [zS0]⟩
theorem aqQ:ct prog 117 ahr:=⟨aqa,λzs h=>by cases h;exact ao7,⟨sM,ael,aem⟩⟩
def ahs:TI:=⟨1,false,some [zS0],.slice 4 1 1 [.bool false]⟩
theorem aqR:ct prog 118 ahs:=⟨yJ,λzs h=>by cases h;exact ahf,⟨aqb,aen,aeo⟩⟩
def aht:TI:=⟨1,false,some [.nilFunc],.oth⟩
theorem aqS:ct prog 130 aht:=⟨aqc,λzs h=>by cases h;exact ao8,trivial⟩
def ahu:TI:=⟨11,true,some [zI0,zI0,zI0,zI0,zI0,zI0,zI0,zI0,zI0,.int .u64 0,.string ⟨#[]⟩],.struct [zI0,zI0,zI0,zI0,zI0,zI0,zI0,zI0,zI0,.int .u64 0,.string ⟨#[]⟩] [(0,1),(1,10)] [false,true]⟩
theorem aqT:ct prog 134 ahu:=⟨aqd,λzs h=>by cases h;exact ahg,cS amd ⟨afB,afC,trivial⟩ ⟨afD,afE,trivial⟩⟩
def ahv:TI:=⟨1,false,some [zS0],.slice 134 11 96 [zI0,zI0,zI0,zI0,zI0,zI0,zI0,zI0,zI0,.int .u64 0,.string ⟨#[]⟩]⟩
theorem aqU:ct prog 135 ahv:=⟨aqe,λzs h=>by cases h;exact ao9,⟨aqf,ame,amf⟩⟩
def ahw:TI:=⟨1,false,some [zS0],.slice 143 16 152 [zI0,zI0,zI0,zI0,zI0,zS0,zI0,zI0,zI0,zI0,zI0,zI0,zI0,zI0,.int .u64 0,.string ⟨#[]⟩]⟩
theorem aqV:ct prog 136 ahw:=⟨aqg,λzs h=>by cases h;exact apa,⟨aqh,amg,amh⟩⟩
def ahx:TI:=⟨2,true,some [zI0,.int .u64 0],.struct [zI0,.int .u64 0] [(0,1),(1,1)] [false,false]⟩
theorem aqW:ct prog 141 ahx:=⟨aqi,λzs h=>by cases h;exact ahh,cS ami ⟨afF,afG,trivial⟩ ⟨afH,afI,trivial⟩⟩
def ahy:TI:=⟨16,true,some [zI0,zI0,zI0,zI0,zI0,zS0,zI0,zI0,zI0,zI0,zI0,zI0,zI0,zI0,.int .u64 0,.string ⟨#[]⟩],.struct [zI0,zI0,zI0,zI0,zI0,zS0,zI0,zI0,zI0,zI0,zI0,zI0,zI0,zI0,.int .u64 0,.string ⟨#[]⟩] [(0,4),(4,12)] [true,true]⟩
theorem aqX:ct prog 143 ahy:=⟨aqj,λzs h=>by cases h;exact ahi,cS amj ⟨afJ,afK,trivial⟩ ⟨afL,afM,trivial⟩⟩
def ahz:TI:=⟨1,false,some [.nilFunc],.oth⟩
theorem aqY:ct prog 152 ahz:=⟨aqk,λzs h=>by cases h;exact apb,trivial⟩
def ahA:TI:=⟨1,false,some [.nilFunc],.oth⟩
theorem aqZ:ct prog 168 ahA:=⟨aql,λzs h=>by cases h;exact apc,trivial⟩
def ahB:TI:=⟨1,false,some [.nilFunc],.oth⟩
theorem aq0:ct prog 170 ahB:=⟨aqm,λzs h=>by cases h;exact apd,trivial⟩
def ahC:TI:=⟨1,false,some [.nilFunc],.oth⟩
theorem aq1:ct prog 172 ahC:=⟨aqn,λzs h=>by cases h;exact ape,trivial⟩
def ahD:TI:=⟨1,false,some [.nilFunc],.oth⟩
theorem aq2:ct prog 173 ahD:=⟨aqo,λzs h=>by cases h;exact apf,trivial⟩
def ahE:TI:=⟨1,false,some [zS0],.slice 184 3 24 [zI0,zI0,zI0]⟩
theorem aq3:ct prog 181 ahE:=⟨aqp,λzs h=>by cases h;exact apg,⟨aqq,amk,aml⟩⟩
def ahF:TI:=⟨3,true,some [zI0,zI0,zI0],.struct [zI0,zI0,zI0] [(0,1),(1,1),(2,1)] [false,false,false]⟩
theorem aq4:ct prog 184 ahF:=⟨aqr,λzs h=>by cases h;exact ahj,cS amm ⟨afN,afO,afP,trivial⟩ ⟨afQ,afR,afS,trivial⟩⟩
def ahG:TI:=⟨1,false,some [.map none],.map 3 216 .i64⟩
theorem aq5:ct prog 200 ahG:=⟨adm,λzs h=>by cases h;exact aph,iT⟩
def ahH:TI:=⟨2,true,some [.map none,.map none],.struct [.map none,.map none] [(0,1),(1,1)] [false,false]⟩
theorem aq6:ct prog 202 ahH:=⟨aqs,λzs h=>by cases h;exact api,cS amn ⟨afT,afU,trivial⟩ ⟨afV,afW,trivial⟩⟩
def ahI:TI:=⟨1,false,some [.map none],.map 3 3 .i64⟩
theorem aq7:ct prog 204 ahI:=⟨aqt,λzs h=>by cases h;exact apj,nQ⟩
def ahJ:TI:=⟨1,false,some [zS0],.slice 47 1 8 [zI0]⟩
theorem aq8:ct prog 207 ahJ:=⟨aqu,λzs h=>by cases h;exact apk,⟨aqv,amo,amp⟩⟩
def ahK:TI:=⟨1,false,some [.map none],.map 3 4 .i64⟩
theorem aq9:ct prog 208 ahK:=⟨aqw,λzs h=>by cases h;exact apl,aer⟩
def ahL:TI:=⟨1,false,some [zS0],.slice 218 2 16 [zI0,zI0]⟩
theorem ara:ct prog 216 ahL:=⟨aqx,λzs h=>by cases h;exact apm,⟨aqy,amq,amr⟩⟩
def ahM:TI:=⟨2,true,some [zI0,zI0],.struct [zI0,zI0] [(0,1),(1,1)] [false,false]⟩
theorem arb:ct prog 218 ahM:=⟨aqz,λzs h=>by cases h;exact ahk,cS ams ⟨afX,afY,trivial⟩ ⟨afZ,af0,trivial⟩⟩
def ahN:TI:=⟨1,false,some [.nilFunc],.oth⟩
theorem arc:ct prog 220 ahN:=⟨aqA,λzs h=>by cases h;exact apn,trivial⟩
def ahO:TI:=⟨1,false,some [zI0],.int .i64⟩
theorem ard:ct prog 228 ahO:=⟨aqB,λzs h=>by cases h;exact apo,underlying228⟩
def ahP:TI:=⟨1,false,some [.int .u32 0],.int .u32⟩
theorem arf:ct prog 235 ahP:=⟨aqC,λzs h=>by cases h;exact apq,underlying235⟩
def tb:Tb:=[(2,ti2),(3,ti3),(4,ti4),(5,ti5),(6,ti6),(7,ti7),(8,ti8),(9,ti9),(10,anG),(11,anH),(12,anI),(13,anJ),(14,anK),(15,anL),(16,anM),(17,anN),(18,anO),(19,anP),(21,anQ),(22,anR),(23,anS),(25,anT),(26,anU),(27,anV),(28,anW),(30,anX),(31,anY),(32,anZ),(34,an0),(35,an1),(36,an2),(37,an3),(38,an4),(40,an5),(41,an6),(42,an7),(44,an8),(45,an9),(46,aoa),(47,aob),(52,aoc),(54,aod),(61,aoe),(63,aof),(67,aog),(70,aoh),(71,aoi),(72,aoj),(74,aok),(78,aol),(81,aom),(89,aon),(96,aoo),(115,ahq),(117,ahr),(118,ahs),(130,aht),(134,ahu),(135,ahv),(136,ahw),(141,ahx),(143,ahy),(152,ahz),(168,ahA),(170,ahB),(172,ahC),(173,ahD),(181,ahE),(184,ahF),(200,ahG),(202,ahH),(204,ahI),(207,ahJ),(208,ahK),(216,ahL),(218,ahM),(220,ahN),(228,ahO),(235,ahP)]
theorem W0:Wld prog tb:=⟨hmix,⟨tk2,tk3,tk4,tk5,tk6,tk7,tk8,tk9,tk10,tk11,tk12,tk13,tk14,tk15,tk16,tk17,tk18,tk19,tk21,tk22,tk23,tk25,tk26,tk27,tk28,tk30,tk31,tk32,tk34,tk35,tk36,tk37,tk38,tk40,tk41,tk42,tk44,tk45,tk46,tk47,tk52,tk54,tk61,tk63,tk67,tk70,tk71,tk72,tk74,tk78,tk81,tk89,tk96,aqP,aqQ,aqR,aqS,aqT,aqU,aqV,aqW,aqX,aqY,aqZ,aq0,aq1,aq2,aq3,aq4,aq5,aq6,aq7,aq8,aq9,ara,arb,arc,ard,arf,trivial⟩⟩
theorem ck9:aN prog 9:=⟨call9⟩
theorem ck10:aN prog 10:=⟨call10⟩
theorem qC:aN prog 12:=⟨call12⟩
theorem vW:aN prog 16:=⟨call16⟩
theorem aop:aN prog 19:=⟨call19⟩
theorem aoq:aN prog 20:=⟨call20⟩
theorem ck21:aN prog 21:=⟨call21⟩
theorem ck22:aN prog 22:=⟨call22⟩
theorem ck23:aN prog 23:=⟨call23⟩
theorem aor:aN prog 24:=⟨call24⟩
theorem aos:aN prog 25:=⟨call25⟩
theorem aot:aN prog 26:=⟨call26⟩
theorem agn:aN prog 27:=⟨call27⟩
theorem aou:aN prog 28:=⟨call28⟩
theorem adF:aN prog 39:=⟨call39⟩
theorem ck43:aN prog 43:=⟨call43⟩
theorem ago:aN prog 51:=⟨call51⟩
theorem ck52:aN prog 52:=⟨call52⟩
theorem ck53:aN prog 53:=⟨call53⟩
theorem adG:aN prog 58:=⟨call58⟩
theorem aov:aN prog 63:=⟨call63⟩
theorem ck64:aN prog 64:=⟨call64⟩
theorem aow:aN prog 65:=⟨call65⟩
theorem ck66:aN prog 66:=⟨call66⟩
theorem ck67:aN prog 67:=⟨call67⟩
theorem zx:aN prog 68:=⟨call68⟩
theorem abC:aN prog 69:=⟨call69⟩
theorem ck70:aN prog 70:=⟨call70⟩
theorem ck71:aN prog 71:=⟨call71⟩
theorem ck72:aN prog 72:=⟨call72⟩
theorem ck73:aN prog 73:=⟨call73⟩
theorem ck74:aN prog 74:=⟨call74⟩
theorem ck81:aN prog 81:=⟨call81⟩
theorem ck89:aN prog 89:=⟨call89⟩
theorem adH:aN prog 90:=⟨call90⟩
theorem ck93:aN prog 93:=⟨call93⟩
theorem ck94:aN prog 94:=⟨call94⟩
theorem x6:aN prog 95:=⟨call95⟩
theorem agp:aN prog 96:=⟨call96⟩
theorem aox:aN prog 97:=⟨call97⟩
theorem aoy:aN prog 98:=⟨call98⟩
theorem agq:aN prog 99:=⟨call99⟩
theorem arh:aN prog 100:=⟨call100⟩
theorem ari:aN prog 101:=⟨call101⟩
theorem arj:aN prog 102:=⟨call102⟩
theorem ahQ:aN prog 103:=⟨call103⟩
theorem ark:aN prog 105:=⟨call105⟩
theorem arl:aN prog 108:=⟨call108⟩
theorem uB:aN prog 111:=⟨call111⟩
theorem adI:aN prog 112:=⟨call112⟩
theorem arn:aN prog 113:=⟨call113⟩
theorem ahR:aN prog 114:=⟨call114⟩
theorem aro:aN prog 115:=⟨call115⟩
theorem arp:aN prog 116:=⟨call116⟩
theorem arq:aN prog 117:=⟨call117⟩
theorem fR:aN prog 118:=⟨call118⟩
theorem wU:aN prog 119:=⟨call119⟩
theorem aa0:aN prog 120:=⟨call120⟩
theorem uC:aN prog 121:=⟨call121⟩
theorem adJ:aN prog 122:=⟨call122⟩
theorem ars:aN prog 123:=⟨call123⟩
theorem adK:aN prog 124:=⟨call124⟩
theorem art:aN prog 125:=⟨call125⟩
theorem aru:aN prog 127:=⟨call127⟩
theorem arv:aN prog 135:=⟨call135⟩
theorem wW:aN prog 136:=⟨call136⟩
theorem arw:aN prog 137:=⟨call137⟩
theorem ahS:aN prog 138:=⟨call138⟩
theorem ahT:aN prog 141:=⟨call141⟩
theorem arx:aN prog 142:=⟨call142⟩
theorem ary:aN prog 143:=⟨call143⟩
theorem arz:aN prog 144:=⟨call144⟩
theorem arA:aN prog 145:=⟨call145⟩
theorem arB:aN prog 146:=⟨call146⟩
theorem arC:aN prog 147:=⟨call147⟩
theorem adL:aN prog 148:=⟨call148⟩
theorem arD:aN prog 149:=⟨call149⟩
theorem arE:aN prog 150:=⟨call150⟩
theorem arF:aN prog 151:=⟨call151⟩
theorem uD:aN prog 158:=⟨call158⟩
theorem arG:aN prog 161:=⟨call161⟩
theorem arH:aN prog 163:=⟨call163⟩
theorem arI:aN prog 164:=⟨call164⟩
theorem arJ:aN prog 168:=⟨call168⟩
theorem arK:aN prog 177:=⟨call177⟩
theorem qS{N:Nat}{ids:List Nat}{y:Code}{Q:Exit→Env→Sto→Prop}{env:Env}{σ:Sto}{id:Nat}{ops:Array Oper}{dr:Bool}(hs:List (Nat×Hint prog))(ck:Env)(σ2:Sto)(k:ah ⟨prog,N,ids⟩ y Q ck σ2)
  (h:ux tb N ids ops dr (iV ops dr hs).1 (iV ops dr hs).2 [] hs (pE ck) σ2.ids env σ=some (ck,σ2,(iV ops dr hs).2.map λi=>(hintOf hs i).exp):=by kernel_rfl):ah ⟨prog,N,ids⟩ (.seq (.region id ops dr) y) Q env σ:=A.RS W0 [] hs ck σ2 h k
theorem qR{N:Nat}{ids:List Nat}{Q:Exit→Env→Sto→Prop}{env:Env}{σ:Sto}{id:Nat}{ops:Array Oper}{dr:Bool}(hs:List (Nat×Hint prog))(ck:Env)(σ2:Sto)(k:Q .normal ck σ2)
  (h:ux tb N ids ops dr (iV ops dr hs).1 (iV ops dr hs).2 [] hs (pE ck) σ2.ids env σ=some (ck,σ2,(iV ops dr hs).2.map λi=>(hintOf hs i).exp):=by kernel_rfl):ah ⟨prog,N,ids⟩ (.region id ops dr) Q env σ:=A.R W0 [] hs ck σ2 h k
def aoz(n:Nat):List Nat→Bool
 |[]=>false
 |k::r=>bif Nat.beq k n then true else aoz n r
def lH{α:Type}(ks:List Nat)(new:List (Nat×α)):List (Nat×α)→List (Nat×α)
 |[]=>new
 |p::l=>bif aoz p.1 ks then lH ks new l else p::lH ks new l
section
variable {N:Nat}{ids:List Nat}{y:Code}{Q:Exit→Env→Sto→Prop}{env:Env}{σ:Sto}{id:Nat}{ops:Array Oper}{dr:Bool}(hs:List (Nat×Hint prog))(ks:List Nat)(new:Env)(js:List Nat)(nws:Sto)
theorem qD(k:ah ⟨prog,N,ids⟩ y Q (lH ks new env) (lH js nws σ))
  (h:ux tb N ids ops dr (iV ops dr hs).1 (iV ops dr hs).2 [] hs (pE (lH ks new env)) (Sto.ids (lH js nws σ)) env σ=some (lH ks new env,lH js nws σ,(iV ops dr hs).2.map λi=>(hintOf hs i).exp):=by kernel_rfl):ah ⟨prog,N,ids⟩ (.seq (.region id ops dr) y) Q env σ:=A.RS W0 [] hs _ _ h k
theorem qDs(k:ah ⟨prog,N,ids⟩ y Q (lH ks new env) σ)
  (h:ux tb N ids ops dr (iV ops dr hs).1 (iV ops dr hs).2 [] hs (pE (lH ks new env)) σ.ids env σ=some (lH ks new env,σ,(iV ops dr hs).2.map λi=>(hintOf hs i).exp):=by kernel_rfl):ah ⟨prog,N,ids⟩ (.seq (.region id ops dr) y) Q env σ:=A.RS W0 [] hs _ _ h k
theorem qG(k:Q .normal (lH ks new env) (lH js nws σ))
  (h:ux tb N ids ops dr (iV ops dr hs).1 (iV ops dr hs).2 [] hs (pE (lH ks new env)) (Sto.ids (lH js nws σ)) env σ=some (lH ks new env,lH js nws σ,(iV ops dr hs).2.map λi=>(hintOf hs i).exp):=by kernel_rfl):ah ⟨prog,N,ids⟩ (.region id ops dr) Q env σ:=A.R W0 [] hs _ _ h k
theorem qGs(k:Q .normal (lH ks new env) σ)
  (h:ux tb N ids ops dr (iV ops dr hs).1 (iV ops dr hs).2 [] hs (pE (lH ks new env)) σ.ids env σ=some (lH ks new env,σ,(iV ops dr hs).2.map λi=>(hintOf hs i).exp):=by kernel_rfl):ah ⟨prog,N,ids⟩ (.region id ops dr) Q env σ:=A.R W0 [] hs _ _ h k
end
theorem qE{N:Nat}{ids:List Nat}{fn:Func}{env:Env}{σ σ2:Sto}{R:AV}(h:agc tb ids [] σ2.ids fn.results.toList env σ=some (R,σ2):=by kernel_rfl):
  adx ⟨prog,N,ids⟩ fn (λa σ'=>a=R∧σ'=σ2) .ret env σ:=A.fin W0 [] rfl h
variable {G:Gl}
theorem qW{env ck:Env}{σ σ2:Sto}(h:yM G.ids [] [] (pE ck) σ2.ids env σ=some (ck,σ2):=by kernel_rfl):bp G env σ ck σ2:=bp.go [] [] h
theorem qX{α ρ:Type}{J:α→Option ρ}{r:ρ}{env:Env}{σ:Sto}{dN:α→Env}{fq:α→Sto}(g:α)(hg:J g=some r)(h:yM G.ids [] [] (pE (dN g)) (fq g).ids env σ=some (dN g,fq g):=by kernel_rfl):
  ∃g,J g=some r∧bp G env σ (dN g) (fq g):=⟨g,hg,bp.go [] [] h⟩
variable {o:Operand}
theorem qT{p:Bool}{x y:Code}{Q:Exit→Env→Sto→Prop}{env:Env}{σ:Sto}(hp:p=true)(k:ah G x Q env σ)(hc:env.evo o=some (.bool p):=by kernel_rfl):ah G (.cond o x y) Q env σ:=A.cT hc hp k
theorem qF{p:Bool}{x y:Code}{Q:Exit→Env→Sto→Prop}{env:Env}{σ:Sto}(hp:p=false)(k:ah G y Q env σ)(hc:env.evo o=some (.bool p):=by kernel_rfl):ah G (.cond o x y) Q env σ:=A.cF hc hp k
abbrev i6(n:Int):AV:=.int .i64 n
abbrev lf{α:Type}(e:En α)(l:List α):AV:=.lst false (ml e l)
abbrev k0(x:aP):List AV:=[.int .i64 x.ID,.bool x.wT]
abbrev k1(x:aZ):List AV:=[.int .i64 x.A,.int .i64 x.B,.int .i64 x.kI,.int .i64 x.kJ,.int .i64 x.l7]
abbrev k2(x:af):List AV:=[.lst false (ml bg x.aF),.lst false (ml cq x.Links)]
abbrev k3(x:aX):List AV:=[.int .i64 x.bh,.int .i64 x.To]
abbrev k4(x:az):List AV:=[.int .i64 x.Bit,.int .i64 x.aR,.int .i64 x.Kind,.int .i64 x.To]
abbrev k5(x:bJ):List AV:=[.lst false (ml aG x.L),.int .i64 x.At]
abbrev k6(x:aI):List AV:=[.int .i64 x.Length,.lst false (ml aQ x.List)]
abbrev k7(x:cE):List AV:=[.int .i64 x.b9,.lst false (ml bt x.Links)]
abbrev k8(x:aD):List AV:=[.int .i64 x.aT,.int .i64 x.l8,.int .i64 x.to_]
abbrev k9(x:ay):List AV:=[.int .i64 x.to_,.int .i64 x.fh]
abbrev k10(x:aK):List AV:=[.int .i64 x.Mode,.int .i64 x.cL,.int .i64 x.Set,.int .i64 x.Length,.int .i64 x.TTL,.int .i64 x.dG,.int .i64 x.dH,.int .i64 x.fk,.int .u64 x.Bits,.str x.cv]
abbrev k11(x:jk):List AV:=[.int .u64 x.Local,.int .u64 x.tj,.lst false (ml r9 x.anE)]
abbrev k12(x:aW):List AV:=[.int .i64 x.eF.Bit,.int .i64 x.eF.aR,.int .i64 x.eF.Kind,.int .i64 x.eF.To,.int .i64 x.copy_.To,.lst false (ml aG x.copy_.Frame.aaZ),.int .i64 x.copy_.Frame.bU.Mode,.int .i64 x.copy_.Frame.bU.cL,.int .i64 x.copy_.Frame.bU.Set,.int .i64 x.copy_.Frame.bU.Length,.int .i64 x.copy_.Frame.bU.TTL,.int .i64 x.copy_.Frame.bU.dG,.int .i64 x.copy_.Frame.bU.dH,.int .i64 x.copy_.Frame.bU.fk,.int .u64 x.copy_.Frame.bU.Bits,.str x.copy_.Frame.bU.cv]
abbrev k13(x:fe):List AV:=[.lst false (ml dn x.cm),.lst false (ml dI x.cH),.lst false (ml jN x.jo)]
abbrev k14(x:aC):List AV:=[.int .i64 x.aT,.int .i64 x.bI.Mode,.int .i64 x.bI.cL,.int .i64 x.bI.Set,.int .i64 x.bI.Length,.int .i64 x.bI.TTL,.int .i64 x.bI.dG,.int .i64 x.bI.dH,.int .i64 x.bI.fk,.int .u64 x.bI.Bits,.str x.bI.cv]
end Go.Proofs.YtdjeacigeegklaaGreat
