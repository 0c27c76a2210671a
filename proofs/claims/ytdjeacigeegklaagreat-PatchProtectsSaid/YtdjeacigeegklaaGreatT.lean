/- The data of the program, as Lean data, and what is known of its types. No condition but bJ aY stand in each. -/
import Derived.Test.YtdjeacigeegklaaGreatF
import Derived.Test.YtdjeacigeegklaaGreatB7
import Derived.Test.YtdjeacigeegklaaGreatAC
namespace Go.Proofs.YtdjeacigeegklaaGreat
open Go Go.Proofs.Tryz
set_option maxRecDepth 100000
set_option linter.all false
structure aR where
 ID:Int
 aa2:Bool
instance:Inhabited aR:=⟨aR.mk (0:Int) false⟩
def aJ:En aR:=⟨λx=>[.int .i64 x.ID,.bool x.aa2],2,λ_=>rfl,λ_=>rfl,λ_=>rfl⟩
structure aW where
 A:Int
 B:Int
 jh:Int
 ji:Int
 oL:Int
instance:Inhabited aW:=⟨aW.mk (0:Int) (0:Int) (0:Int) (0:Int) (0:Int)⟩
def aV:En aW:=⟨λx=>[.int .i64 x.A,.int .i64 x.B,.int .i64 x.jh,.int .i64 x.ji,.int .i64 x.oL],5,λ_=>rfl,λ_=>rfl,λ_=>rfl⟩
structure aa where
 ah:List aR
 Links:List aW
instance:Inhabited aa:=⟨aa.mk [] []⟩
structure aN where
 bn:Int
 To:Int
instance:Inhabited aN:=⟨aN.mk (0:Int) (0:Int)⟩
def bz:En aN:=⟨λx=>[.int .i64 x.bn,.int .i64 x.To],2,λ_=>rfl,λ_=>rfl,λ_=>rfl⟩
def kj(a b:aN):Bool:=decide (a.bn=b.bn)&&(decide (a.To=b.To)&&true)
structure bg where
 Links:List aN
 ah:List Int
instance:Inhabited bg:=⟨bg.mk [] []⟩
structure aq where
 Bit:Int
 aO:Int
 Kind:Int
 To:Int
instance:Inhabited aq:=⟨aq.mk (0:Int) (0:Int) (0:Int) (0:Int)⟩
def aF:En aq:=⟨λx=>[.int .i64 x.Bit,.int .i64 x.aO,.int .i64 x.Kind,.int .i64 x.To],4,λ_=>rfl,λ_=>rfl,λ_=>rfl⟩
structure bM where
 L:List Int
 At:Int
instance:Inhabited bM:=⟨bM.mk [] (0:Int)⟩
structure aC where
 Length:Int
 List:List aq
instance:Inhabited aC:=⟨aC.mk (0:Int) []⟩
structure dz where
 cz:Int
 Links:List aN
instance:Inhabited dz:=⟨dz.mk (0:Int) []⟩
structure bN where
 cc:Int
 sU:Int
 to_:Int
instance:Inhabited bN:=⟨bN.mk (0:Int) (0:Int) (0:Int)⟩
def lu:En bN:=⟨λx=>[.int .i64 x.cc,.int .i64 x.sU,.int .i64 x.to_],3,λ_=>rfl,λ_=>rfl,λ_=>rfl⟩
def eo(a b:bN):Bool:=decide (a.cc=b.cc)&&(decide (a.sU=b.sU)&&(decide (a.to_=b.to_)&&true))
structure aG where
 to_:Int
 gn:Int
instance:Inhabited aG:=⟨aG.mk (0:Int) (0:Int)⟩
def aD:En aG:=⟨λx=>[.int .i64 x.to_,.int .i64 x.gn],2,λ_=>rfl,λ_=>rfl,λ_=>rfl⟩
structure fT where
 nP:List (Int×List aG)
 in_:List (Int×List aG)
instance:Inhabited fT:=⟨fT.mk [] []⟩
structure aH where
 Mode:Int
 cC:Int
 Set:Int
 Length:Int
 TTL:Int
 dG:Int
 dH:Int
 eO:Int
 Bits:Int
 cM:ByteArray
instance:Inhabited aH:=⟨aH.mk (0:Int) (0:Int) (0:Int) (0:Int) (0:Int) (0:Int) (0:Int) (0:Int) (0:Int) (⟨#[]⟩)⟩
structure bL where
 fU:List Int
 aB:aH
instance:Inhabited bL:=⟨bL.mk [] (aH.mk (0:Int) (0:Int) (0:Int) (0:Int) (0:Int) (0:Int) (0:Int) (0:Int) (0:Int) ⟨#[]⟩)⟩
structure aZ where
 To:Int
 Frame:bL
instance:Inhabited aZ:=⟨aZ.mk (0:Int) (bL.mk [] (aH.mk (0:Int) (0:Int) (0:Int) (0:Int) (0:Int) (0:Int) (0:Int) (0:Int) (0:Int) ⟨#[]⟩))⟩
def dQ:En aZ:=⟨λx=>[.int .i64 x.To,.lst false (ml aA x.Frame.fU),.int .i64 x.Frame.aB.Mode,.int .i64 x.Frame.aB.cC,.int .i64 x.Frame.aB.Set,.int .i64 x.Frame.aB.Length,.int .i64 x.Frame.aB.TTL,.int .i64 x.Frame.aB.dG,.int .i64 x.Frame.aB.dH,.int .i64 x.Frame.aB.eO,.int .u64 x.Frame.aB.Bits,.str x.Frame.aB.cM],12,λ_=>rfl,λ_=>rfl,λ_=>rfl⟩
structure cE where
 Local:Int
 mL:Int
 cg:List aZ
instance:Inhabited cE:=⟨cE.mk (0:Int) (0:Int) []⟩
structure cA where
 afq:aq
 copy_:aZ
instance:Inhabited cA:=⟨cA.mk (aq.mk (0:Int) (0:Int) (0:Int) (0:Int)) (aZ.mk (0:Int) (bL.mk [] (aH.mk (0:Int) (0:Int) (0:Int) (0:Int) (0:Int) (0:Int) (0:Int) (0:Int) (0:Int) ⟨#[]⟩)))⟩
def iE:En cA:=⟨λx=>[.int .i64 x.afq.Bit,.int .i64 x.afq.aO,.int .i64 x.afq.Kind,.int .i64 x.afq.To,.int .i64 x.copy_.To,.lst false (ml aA x.copy_.Frame.fU),.int .i64 x.copy_.Frame.aB.Mode,.int .i64 x.copy_.Frame.aB.cC,.int .i64 x.copy_.Frame.aB.Set,.int .i64 x.copy_.Frame.aB.Length,.int .i64 x.copy_.Frame.aB.TTL,.int .i64 x.copy_.Frame.aB.dG,.int .i64 x.copy_.Frame.aB.dH,.int .i64 x.copy_.Frame.aB.eO,.int .u64 x.copy_.Frame.aB.Bits,.str x.copy_.Frame.aB.cM],16,λ_=>rfl,λ_=>rfl,λ_=>rfl⟩
structure bX where
 aO:Int
 aB:aH
instance:Inhabited bX:=⟨bX.mk (0:Int) (aH.mk (0:Int) (0:Int) (0:Int) (0:Int) (0:Int) (0:Int) (0:Int) (0:Int) (0:Int) ⟨#[]⟩)⟩
def ep:En bX:=⟨λx=>[.int .i64 x.aO,.int .i64 x.aB.Mode,.int .i64 x.aB.cC,.int .i64 x.aB.Set,.int .i64 x.aB.Length,.int .i64 x.aB.TTL,.int .i64 x.aB.dG,.int .i64 x.aB.dH,.int .i64 x.aB.eO,.int .u64 x.aB.Bits,.str x.aB.cM],11,λ_=>rfl,λ_=>rfl,λ_=>rfl⟩
structure b8 where
 bn:Int
 To:Int
 Bits:Int
instance:Inhabited b8:=⟨b8.mk (0:Int) (0:Int) (0:Int)⟩
def eB:En b8:=⟨λx=>[.int .i64 x.bn,.int .i64 x.To,.int .u64 x.Bits],3,λ_=>rfl,λ_=>rfl,λ_=>rfl⟩
structure dY where
 aO:Int
 Bits:Int
instance:Inhabited dY:=⟨dY.mk (0:Int) (0:Int)⟩
def iX:En dY:=⟨λx=>[.int .i64 x.aO,.int .u64 x.Bits],2,λ_=>rfl,λ_=>rfl,λ_=>rfl⟩
structure dB where
 dD:List bX
 dI:List b8
 iA:List dY
instance:Inhabited dB:=⟨dB.mk [] [] []⟩
structure bI where
 cc:Int
 gH:aH
instance:Inhabited bI:=⟨bI.mk (0:Int) (aH.mk (0:Int) (0:Int) (0:Int) (0:Int) (0:Int) (0:Int) (0:Int) (0:Int) (0:Int) ⟨#[]⟩)⟩
structure aeQ where
 aO:Int
 aB:aH
instance:Inhabited aeQ:=⟨aeQ.mk (0:Int) (aH.mk (0:Int) (0:Int) (0:Int) (0:Int) (0:Int) (0:Int) (0:Int) (0:Int) (0:Int) ⟨#[]⟩)⟩
structure az where
 cc:Int
 cK:bL
instance:Inhabited az:=⟨az.mk (0:Int) (bL.mk [] (aH.mk (0:Int) (0:Int) (0:Int) (0:Int) (0:Int) (0:Int) (0:Int) (0:Int) (0:Int) ⟨#[]⟩))⟩
def dO:En az:=⟨λx=>[.int .i64 x.cc,.lst false (ml aA x.cK.fU),.int .i64 x.cK.aB.Mode,.int .i64 x.cK.aB.cC,.int .i64 x.cK.aB.Set,.int .i64 x.cK.aB.Length,.int .i64 x.cK.aB.TTL,.int .i64 x.cK.aB.dG,.int .i64 x.cK.aB.dH,.int .i64 x.cK.aB.eO,.int .u64 x.cK.aB.Bits,.str x.cK.aB.cM],12,λ_=>rfl,λ_=>rfl,λ_=>rfl⟩
structure cV where
 ct:aC
 cS:aa
 ei:aa
 cB:bg
 cL:dB
 iY:List az
instance:Inhabited cV:=⟨cV.mk (aC.mk (0:Int) []) (aa.mk [] []) (aa.mk [] []) (bg.mk [] []) (dB.mk [] [] []) []⟩
structure abF where
 aO:Int
 Frame:bL
instance:Inhabited abF:=⟨abF.mk (0:Int) (bL.mk [] (aH.mk (0:Int) (0:Int) (0:Int) (0:Int) (0:Int) (0:Int) (0:Int) (0:Int) (0:Int) ⟨#[]⟩))⟩
structure ck where
 E0:Int
 E1:Int
instance:Inhabited ck:=⟨ck.mk (0:Int) (0:Int)⟩
def uX:En ck:=⟨λx=>[.int .i64 x.E0,.int .i64 x.E1],2,λ_=>rfl,λ_=>rfl,λ_=>rfl⟩
def ti2:TI:=⟨1,false,some [zI0],.int .i64⟩
theorem tk2:dg prog 2 ti2:=⟨ty2,λzs h=>by cases h;exact ze2,underlying2⟩
def ti3:TI:=⟨1,false,some [zI0],.int .i64⟩
theorem tk3:dg prog 3 ti3:=⟨ty3,λzs h=>by cases h;exact ze3,underlying3⟩
def ti4:TI:=⟨1,false,some [.bool false],.bool⟩
theorem tk4:dg prog 4 ti4:=⟨ty4,λzs h=>by cases h;exact ze4,underlying4⟩
def ti5:TI:=⟨1,false,some [.int .u8 0],.int .u8⟩
theorem tk5:dg prog 5 ti5:=⟨ty5,λzs h=>by cases h;exact ze5,underlying5⟩
def ti6:TI:=⟨1,false,some [.int .u8 0],.int .u8⟩
theorem tk6:dg prog 6 ti6:=⟨ty6,λzs h=>by cases h;exact ze6,underlying6⟩
def ti7:TI:=⟨4,true,some [zI0,zI0,.bool false,.int .u8 0],.struct [zI0,zI0,.bool false,.int .u8 0] [(0,1),(1,1),(2,1),(3,1)] [false,false,false,false]⟩
theorem tk7:dg prog 7 ti7:=⟨ty7,λzs h=>by cases h;exact ze7,dM str7 ⟨arA,arB,arC,arD,trivial⟩ ⟨arE,arF,arG,arH,trivial⟩⟩
def ti8:TI:=⟨4,true,some [zI0,zI0,.bool false,.int .u8 0],.struct [zI0,zI0,.bool false,.int .u8 0] [(0,1),(1,1),(2,1),(3,1)] [false,false,false,false]⟩
theorem tk8:dg prog 8 ti8:=⟨ty8,λzs h=>by cases h;exact ze8,dM str8 ⟨arI,arJ,arK,arL,trivial⟩ ⟨arM,arN,arO,arP,trivial⟩⟩
def ti9:TI:=⟨1,false,some [.string ⟨#[]⟩],.str⟩
theorem tk9:dg prog 9 ti9:=⟨ty9,λzs h=>by cases h;exact ze9,underlying9⟩
def atv:TI:=⟨1,false,some [.string ⟨#[]⟩],.str⟩
theorem tk10:dg prog 10 atv:=⟨ty10,λzs h=>by cases h;exact ze10,underlying10⟩
def atw:TI:=⟨1,false,some [.string ⟨#[]⟩],.str⟩
theorem tk11:dg prog 11 atw:=⟨ty11,λzs h=>by cases h;exact ze11,underlying11⟩
def atx:TI:=⟨1,false,some [.int .u64 0],.int .u64⟩
theorem tk12:dg prog 12 atx:=⟨akn,λzs h=>by cases h;exact ze12,underlying12⟩
def aty:TI:=⟨2,true,some [.string ⟨#[]⟩,.int .u64 0],.struct [.string ⟨#[]⟩,.int .u64 0] [(0,1),(1,1)] [false,false]⟩
theorem tk13:dg prog 13 aty:=⟨ty13,λzs h=>by cases h;exact ze13,dM avu ⟨an1,an2,trivial⟩ ⟨an3,an4,trivial⟩⟩
def atz:TI:=⟨2,true,some [.string ⟨#[]⟩,.int .u64 0],.struct [.string ⟨#[]⟩,.int .u64 0] [(0,1),(1,1)] [false,false]⟩
theorem tk14:dg prog 14 atz:=⟨ty14,λzs h=>by cases h;exact ze14,dM avv ⟨an5,an6,trivial⟩ ⟨an7,an8,trivial⟩⟩
def atA:TI:=⟨1,false,some [.pointer none],.oth⟩
theorem tk15:dg prog 15 atA:=⟨ty15,λzs h=>by cases h;exact ze15,trivial⟩
def atB:TI:=⟨1,false,some [.pointer none],.oth⟩
theorem tk16:dg prog 16 atB:=⟨ty16,λzs h=>by cases h;exact ze16,trivial⟩
def atC:TI:=⟨1,false,some [.pointer none],.oth⟩
theorem tk17:dg prog 17 atC:=⟨ako,λzs h=>by cases h;exact ze17,trivial⟩
def atD:TI:=⟨1,true,some [.pointer none],.struct [.pointer none] [(0,1)] [false]⟩
theorem tk18:dg prog 18 atD:=⟨ty18,λzs h=>by cases h;exact ze18,dM avw ⟨an9,trivial⟩ ⟨aoa,trivial⟩⟩
def atE:TI:=⟨1,true,some [.pointer none],.struct [.pointer none] [(0,1)] [false]⟩
theorem tk19:dg prog 19 atE:=⟨ty19,λzs h=>by cases h;exact ze19,dM avx ⟨aob,trivial⟩ ⟨aoc,trivial⟩⟩
def atF:TI:=⟨1,false,some [.int .i32 0],.int .i32⟩
theorem tk21:dg prog 21 atF:=⟨ty21,λzs h=>by cases h;exact ze21,underlying21⟩
def atG:TI:=⟨1,false,some [zS0],.slice 3 1 8 [zI0]⟩
theorem tk22:dg prog 22 atG:=⟨aie,λzs h=>by cases h;exact ze22,⟨sl22,amO,avy⟩⟩
def atH:TI:=⟨1,false,some [.pointer none],.oth⟩
theorem tk23:dg prog 23 atH:=⟨ty23,λzs h=>by cases h;exact ze23,trivial⟩
def atI:TI:=⟨1,false,some [zS0],.slice 42 2 16 [zI0,.bool false]⟩
theorem tk25:dg prog 25 atI:=⟨akp,λzs h=>by cases h;exact ze25,⟨sl25,avz,avA⟩⟩
def atJ:TI:=⟨1,false,some [zS0],.slice 89 5 40 [zI0,zI0,zI0,zI0,zI0]⟩
theorem tk26:dg prog 26 atJ:=⟨akq,λzs h=>by cases h;exact ze26,⟨sl26,avB,avC⟩⟩
def atK:TI:=⟨2,true,some [zS0,zS0],.struct [zS0,zS0] [(0,1),(1,1)] [false,false]⟩
theorem tk27:dg prog 27 atK:=⟨ty27,λzs h=>by cases h;exact ze27,dM avD ⟨aod,aoe,trivial⟩ ⟨aof,aog,trivial⟩⟩
def atL:TI:=⟨2,true,some [zS0,zS0],.struct [zS0,zS0] [(0,1),(1,1)] [false,false]⟩
theorem tk28:dg prog 28 atL:=⟨akr,λzs h=>by cases h;exact ze28,dM avE ⟨aoh,aoi,trivial⟩ ⟨aoj,aok,trivial⟩⟩
def atM:TI:=⟨1,false,some [zS0],.slice 38 4 32 [zI0,zI0,zI0,zI0]⟩
theorem tk30:dg prog 30 atM:=⟨aks,λzs h=>by cases h;exact ze30,⟨sl30,avF,avG⟩⟩
def atN:TI:=⟨2,true,some [zI0,zS0],.struct [zI0,zS0] [(0,1),(1,1)] [false,false]⟩
theorem tk31:dg prog 31 atN:=⟨ty31,λzs h=>by cases h;exact ze31,dM avH ⟨aol,aom,trivial⟩ ⟨aon,aoo,trivial⟩⟩
def atO:TI:=⟨2,true,some [zI0,zS0],.struct [zI0,zS0] [(0,1),(1,1)] [false,false]⟩
theorem tk32:dg prog 32 atO:=⟨arQ,λzs h=>by cases h;exact ze32,dM avI ⟨aop,aoq,trivial⟩ ⟨aor,aos,trivial⟩⟩
def atP:TI:=⟨1,false,some [.int .u64 0],.int .u64⟩
theorem tk34:dg prog 34 atP:=⟨yD,λzs h=>by cases h;exact ze34,underlying34⟩
def atQ:TI:=⟨10,true,some [zI0,zI0,zI0,zI0,zI0,zI0,zI0,zI0,.int .u64 0,.string ⟨#[]⟩],.struct [zI0,zI0,zI0,zI0,zI0,zI0,zI0,zI0,.int .u64 0,.string ⟨#[]⟩] [(0,1),(1,1),(2,1),(3,1),(4,1),(5,1),(6,1),(7,1),(8,1),(9,1)] [false,false,false,false,false,false,false,false,false,false]⟩
theorem tk35:dg prog 35 atQ:=⟨ty35,λzs h=>by cases h;exact ze35,dM avJ ⟨aot,aou,aov,aow,aox,aoy,aoz,aoA,aoB,aoC,trivial⟩ ⟨aoD,aoE,aoF,aoG,aoH,aoI,aoJ,aoK,aoL,aoM,trivial⟩⟩
def atS:TI:=⟨10,true,some [zI0,zI0,zI0,zI0,zI0,zI0,zI0,zI0,.int .u64 0,.string ⟨#[]⟩],.struct [zI0,zI0,zI0,zI0,zI0,zI0,zI0,zI0,.int .u64 0,.string ⟨#[]⟩] [(0,1),(1,1),(2,1),(3,1),(4,1),(5,1),(6,1),(7,1),(8,1),(9,1)] [false,false,false,false,false,false,false,false,false,false]⟩
theorem tk36:dg prog 36 atS:=⟨akt,λzs h=>by cases h;exact ze36,dM avK ⟨aoN,aoO,aoP,aoQ,aoR,aoS,aoT,aoU,aoV,aoW,trivial⟩ ⟨aoX,aoY,aoZ,ao0,ao1,ao2,ao3,ao4,ao5,ao6,trivial⟩⟩
def atT:TI:=⟨4,true,some [zI0,zI0,zI0,zI0],.struct [zI0,zI0,zI0,zI0] [(0,1),(1,1),(2,1),(3,1)] [false,false,false,false]⟩
theorem tk37:dg prog 37 atT:=⟨ty37,λzs h=>by cases h;exact ze37,dM avL ⟨ao7,ao8,ao9,apa,trivial⟩ ⟨apb,apc,apd,ape,trivial⟩⟩
def atU:TI:=⟨4,true,some [zI0,zI0,zI0,zI0],.struct [zI0,zI0,zI0,zI0] [(0,1),(1,1),(2,1),(3,1)] [false,false,false,false]⟩
theorem tk38:dg prog 38 atU:=⟨arR,λzs h=>by cases h;exact ars,dM avM ⟨apf,apg,aph,api,trivial⟩ ⟨apj,apk,apl,apm,trivial⟩⟩
def atV:TI:=⟨1,false,some [.int .u64 0],.int .u64⟩
theorem tk40:dg prog 40 atV:=⟨ty40,λzs h=>by cases h;exact ze40,underlying40⟩
def atW:TI:=⟨2,true,some [zI0,.bool false],.struct [zI0,.bool false] [(0,1),(1,1)] [false,false]⟩
theorem tk41:dg prog 41 atW:=⟨ty41,λzs h=>by cases h;exact ze41,dM avN ⟨apn,apo,trivial⟩ ⟨apq,apr,trivial⟩⟩
def atX:TI:=⟨2,true,some [zI0,.bool false],.struct [zI0,.bool false] [(0,1),(1,1)] [false,false]⟩
theorem tk42:dg prog 42 atX:=⟨ty42,λzs h=>by cases h;exact art,dM avO ⟨aps,apt,trivial⟩ ⟨apu,apv,trivial⟩⟩
def atY:TI:=⟨1,false,some [zS0],.slice 54 12 120 [zI0,zS0,zI0,zI0,zI0,zI0,zI0,zI0,zI0,zI0,.int .u64 0,.string ⟨#[]⟩]⟩
theorem tk44:dg prog 44 atY:=⟨aku,λzs h=>by cases h;exact ze44,⟨sl44,avP,avQ⟩⟩
def atZ:TI:=⟨3,true,some [.int .u64 0,.int .u64 0,zS0],.struct [.int .u64 0,.int .u64 0,zS0] [(0,1),(1,1),(2,1)] [false,false,false]⟩
theorem tk45:dg prog 45 atZ:=⟨ty45,λzs h=>by cases h;exact ze45,dM avR ⟨apw,apx,apy,trivial⟩ ⟨apz,apA,apB,trivial⟩⟩
def at0:TI:=⟨3,true,some [.int .u64 0,.int .u64 0,zS0],.struct [.int .u64 0,.int .u64 0,zS0] [(0,1),(1,1),(2,1)] [false,false,false]⟩
theorem tk46:dg prog 46 at0:=⟨ty46,λzs h=>by cases h;exact ze46,dM avS ⟨apC,apD,apF,trivial⟩ ⟨apG,apH,apI,trivial⟩⟩
def at1:TI:=⟨1,false,some [zI0],.int .i64⟩
theorem tk47:dg prog 47 at1:=⟨ty47,λzs h=>by cases h;exact ze47,underlying47⟩
def at3:TI:=⟨11,true,some [zS0,zI0,zI0,zI0,zI0,zI0,zI0,zI0,zI0,.int .u64 0,.string ⟨#[]⟩],.struct [zS0,zI0,zI0,zI0,zI0,zI0,zI0,zI0,zI0,.int .u64 0,.string ⟨#[]⟩] [(0,1),(1,10)] [false,true]⟩
theorem tk52:dg prog 52 at3:=⟨aif,λzs h=>by cases h;exact ze52,dM avT ⟨apJ,apK,trivial⟩ ⟨apL,apM,trivial⟩⟩
def at4:TI:=⟨12,true,some [zI0,zS0,zI0,zI0,zI0,zI0,zI0,zI0,zI0,zI0,.int .u64 0,.string ⟨#[]⟩],.struct [zI0,zS0,zI0,zI0,zI0,zI0,zI0,zI0,zI0,zI0,.int .u64 0,.string ⟨#[]⟩] [(0,1),(1,11)] [false,true]⟩
theorem tk54:dg prog 54 at4:=⟨arS,λzs h=>by cases h;exact aru,dM avU ⟨apN,apO,trivial⟩ ⟨apP,apQ,trivial⟩⟩
def at5:TI:=⟨1,false,some [zS0],.slice 67 2 16 [zI0,zI0]⟩
theorem tk61:dg prog 61 at5:=⟨akv,λzs h=>by cases h;exact ze61,⟨sl61,amP,avV⟩⟩
def at6:TI:=⟨2,true,some [zI0,zS0],.struct [zI0,zS0] [(0,1),(1,1)] [false,false]⟩
theorem tk63:dg prog 63 at6:=⟨ty63,λzs h=>by cases h;exact arv,dM avW ⟨apR,apS,trivial⟩ ⟨apT,apU,trivial⟩⟩
def at7:TI:=⟨2,true,some [zI0,zI0],.struct [zI0,zI0] [(0,1),(1,1)] [false,false]⟩
theorem tk67:dg prog 67 at7:=⟨ty67,λzs h=>by cases h;exact arw,dM avX ⟨apV,apW,trivial⟩ ⟨apX,apY,trivial⟩⟩
def at8:TI:=⟨1,false,some [zS0],.slice 78 11 96 [zI0,zI0,zI0,zI0,zI0,zI0,zI0,zI0,zI0,.int .u64 0,.string ⟨#[]⟩]⟩
theorem tk70:dg prog 70 at8:=⟨arT,λzs h=>by cases h;exact ze70,⟨sl70,avZ,av0⟩⟩
def at9:TI:=⟨1,false,some [zS0],.slice 81 3 24 [zI0,zI0,.int .u64 0]⟩
theorem tk71:dg prog 71 at9:=⟨arU,λzs h=>by cases h;exact ze71,⟨sl71,av2,av3⟩⟩
def aua:TI:=⟨1,false,some [zS0],.slice 141 2 16 [zI0,.int .u64 0]⟩
theorem tk72:dg prog 72 aua:=⟨arV,λzs h=>by cases h;exact ze72,⟨sl72,av4,av5⟩⟩
def aub:TI:=⟨3,true,some [zS0,zS0,zS0],.struct [zS0,zS0,zS0] [(0,1),(1,1),(2,1)] [false,false,false]⟩
theorem tk74:dg prog 74 aub:=⟨arW,λzs h=>by cases h;exact ze74,dM av6 ⟨apZ,ap0,ap1,trivial⟩ ⟨ap2,ap3,ap4,trivial⟩⟩
def auc:TI:=⟨11,true,some [zI0,zI0,zI0,zI0,zI0,zI0,zI0,zI0,zI0,.int .u64 0,.string ⟨#[]⟩],.struct [zI0,zI0,zI0,zI0,zI0,zI0,zI0,zI0,zI0,.int .u64 0,.string ⟨#[]⟩] [(0,1),(1,10)] [false,true]⟩
theorem tk78:dg prog 78 auc:=⟨ty78,λzs h=>by cases h;exact arx,dM av7 ⟨ap5,ap6,trivial⟩ ⟨ap7,ap8,trivial⟩⟩
def aud:TI:=⟨3,true,some [zI0,zI0,.int .u64 0],.struct [zI0,zI0,.int .u64 0] [(0,1),(1,1),(2,1)] [false,false,false]⟩
theorem tk81:dg prog 81 aud:=⟨ty81,λzs h=>by cases h;exact ary,dM av8 ⟨ap9,aqa,aqb,trivial⟩ ⟨aqc,aqd,aqe,trivial⟩⟩
def aue:TI:=⟨5,true,some [zI0,zI0,zI0,zI0,zI0],.struct [zI0,zI0,zI0,zI0,zI0] [(0,1),(1,1),(2,1),(3,1),(4,1)] [false,false,false,false,false]⟩
theorem tk89:dg prog 89 aue:=⟨ty89,λzs h=>by cases h;exact arz,dM av9 ⟨aqf,aqg,aqh,aqi,aqj,trivial⟩ ⟨aqk,aql,aqm,aqn,aqo,trivial⟩⟩
def auf:TI:=⟨1,false,some [zS0],.slice 63 2 32 [zI0,zS0]⟩
theorem tk96:dg prog 96 auf:=⟨ty96,λzs h=>by cases h;exact ze96,⟨sl96,awa,awb⟩⟩
def amV:TI:=⟨2,true,some [zS0,zS0],.struct [zS0,zS0] [(0,1),(1,1)] [false,false]⟩
theorem awU:dg prog 100 amV:=⟨amQ,λzs h=>by cases h;exact au4,dM arX ⟨akx,aky,trivial⟩ ⟨akz,akA,trivial⟩⟩
def amW:TI:=⟨2,true,some [zS0,zI0],.struct [zS0,zI0] [(0,1),(1,1)] [false,false]⟩
theorem awV:dg prog 115 amW:=⟨awc,λzs h=>by cases h;exact au5,dM arY ⟨akB,akC,trivial⟩ ⟨akD,akE,trivial⟩⟩
def amX:TI:=⟨1,false,some [zS0],.slice 118 1 24 [zS0]⟩
theorem awW:dg prog 117 amX:=⟨awd,λzs h=>by cases h;exact au6,⟨wQ,ajh,aji⟩⟩
def amY:TI:=⟨1,false,some [zS0],.slice 4 1 1 [.bool false]⟩
theorem awX:dg prog 118 amY:=⟨acR,λzs h=>by cases h;exact amJ,⟨awe,ajj,ajk⟩⟩
def amZ:TI:=⟨1,false,some [.nilFunc],.oth⟩
theorem awY:dg prog 130 amZ:=⟨awf,λzs h=>by cases h;exact au7,trivial⟩
def am0:TI:=⟨1,false,some [zS0],.slice 143 16 152 [zI0,zI0,zI0,zI0,zI0,zS0,zI0,zI0,zI0,zI0,zI0,zI0,zI0,zI0,.int .u64 0,.string ⟨#[]⟩]⟩
theorem awZ:dg prog 136 am0:=⟨awg,λzs h=>by cases h;exact au8,⟨awh,arZ,ar0⟩⟩
def am1:TI:=⟨2,true,some [zI0,.int .u64 0],.struct [zI0,.int .u64 0] [(0,1),(1,1)] [false,false]⟩
theorem aw0:dg prog 141 am1:=⟨awi,λzs h=>by cases h;exact amK,dM ar1 ⟨akF,akG,trivial⟩ ⟨akH,akI,trivial⟩⟩
def am2:TI:=⟨16,true,some [zI0,zI0,zI0,zI0,zI0,zS0,zI0,zI0,zI0,zI0,zI0,zI0,zI0,zI0,.int .u64 0,.string ⟨#[]⟩],.struct [zI0,zI0,zI0,zI0,zI0,zS0,zI0,zI0,zI0,zI0,zI0,zI0,zI0,zI0,.int .u64 0,.string ⟨#[]⟩] [(0,4),(4,12)] [true,true]⟩
theorem aw1:dg prog 143 am2:=⟨awj,λzs h=>by cases h;exact amL,dM ar2 ⟨akJ,akK,trivial⟩ ⟨akL,akM,trivial⟩⟩
def am3:TI:=⟨1,false,some [.nilFunc],.oth⟩
theorem aw2:dg prog 152 am3:=⟨awk,λzs h=>by cases h;exact au9,trivial⟩
def am4:TI:=⟨12,true,some [zI0,zS0,zI0,zI0,zI0,zI0,zI0,zI0,zI0,zI0,.int .u64 0,.string ⟨#[]⟩],.struct [zI0,zS0,zI0,zI0,zI0,zI0,zI0,zI0,zI0,zI0,.int .u64 0,.string ⟨#[]⟩] [(0,1),(1,11)] [false,true]⟩
theorem aw3:dg prog 154 am4:=⟨awl,λzs h=>by cases h;exact amM,dM ar3 ⟨akN,akO,trivial⟩ ⟨akP,akQ,trivial⟩⟩
def am5:TI:=⟨1,false,some [zS0],.slice 154 12 120 [zI0,zS0,zI0,zI0,zI0,zI0,zI0,zI0,zI0,zI0,.int .u64 0,.string ⟨#[]⟩]⟩
theorem aw4:dg prog 155 am5:=⟨amR,λzs h=>by cases h;exact ava,⟨awm,ar4,ar5⟩⟩
def am6:TI:=⟨12,true,some [zI0,zS0,zS0,zS0,zS0,zS0,zS0,zS0,zS0,zS0,zS0,zS0],.struct [zI0,zS0,zS0,zS0,zS0,zS0,zS0,zS0,zS0,zS0,zS0,zS0] [(0,2),(2,2),(4,2),(6,2),(8,3),(11,1)] [true,true,true,true,true,false]⟩
theorem aw5:dg prog 157 am6:=⟨awn,λzs h=>by cases h;exact avb,dM ar6 ⟨akR,akS,akT,akU,akV,akW,trivial⟩ ⟨akX,akY,akZ,ak0,ak1,ak2,trivial⟩⟩
def am7:TI:=⟨12,true,some [zI0,zS0,zI0,zI0,zI0,zI0,zI0,zI0,zI0,zI0,.int .u64 0,.string ⟨#[]⟩],.struct [zI0,zS0,zI0,zI0,zI0,zI0,zI0,zI0,zI0,zI0,.int .u64 0,.string ⟨#[]⟩] [(0,1),(1,11)] [false,true]⟩
theorem aw6:dg prog 159 am7:=⟨awo,λzs h=>by cases h;exact avc,dM ar7 ⟨ak3,ak4,trivial⟩ ⟨ak5,ak6,trivial⟩⟩
def am8:TI:=⟨1,false,some [.nilFunc],.oth⟩
theorem aw7:dg prog 168 am8:=⟨awp,λzs h=>by cases h;exact avd,trivial⟩
def am9:TI:=⟨1,false,some [.nilFunc],.oth⟩
theorem aw8:dg prog 170 am9:=⟨awq,λzs h=>by cases h;exact ave,trivial⟩
def ana:TI:=⟨1,false,some [.nilFunc],.oth⟩
theorem aw9:dg prog 172 ana:=⟨awr,λzs h=>by cases h;exact avf,trivial⟩
def anb:TI:=⟨1,false,some [.nilFunc],.oth⟩
theorem axa:dg prog 173 anb:=⟨aws,λzs h=>by cases h;exact avg,trivial⟩
def anc:TI:=⟨2,true,some [zI0,zI0],.oth⟩
theorem axb:dg prog 177 anc:=⟨awt,λzs h=>by cases h;exact aaR,trivial⟩
def ane:TI:=⟨1,false,some [zS0],.slice 177 2 16 [zI0,zI0]⟩
theorem axc:dg prog 178 ane:=⟨awu,λzs h=>by cases h;exact avh,⟨awv,ar8,ar9⟩⟩
def anf:TI:=⟨3,true,some [zI0,zI0,zI0],.struct [zI0,zI0,zI0] [(0,1),(1,1),(2,1)] [false,false,false]⟩
theorem axd:dg prog 184 anf:=⟨aww,λzs h=>by cases h;exact avj,dM asa ⟨ak7,ak8,ak9,trivial⟩ ⟨ala,alb,alc,trivial⟩⟩
def ang:TI:=⟨1,false,some [.pointer none],.oth⟩
theorem axe:dg prog 193 ang:=⟨awx,λzs h=>by cases h;exact avk,trivial⟩
def anh:TI:=⟨1,false,some [.map none],.map 3 216 .i64⟩
theorem axf:dg prog 200 anh:=⟨aih,λzs h=>by cases h;exact avl,lg⟩
def ani:TI:=⟨2,true,some [.map none,.map none],.struct [.map none,.map none] [(0,1),(1,1)] [false,false]⟩
theorem axg:dg prog 202 ani:=⟨awy,λzs h=>by cases h;exact avm,dM asd ⟨ald,ale,trivial⟩ ⟨alf,alg,trivial⟩⟩
def anj:TI:=⟨1,false,some [.map none],.map 3 3 .i64⟩
theorem axh:dg prog 204 anj:=⟨awz,λzs h=>by cases h;exact avn,qP⟩
def ank:TI:=⟨1,false,some [.nilFunc],.oth⟩
theorem axi:dg prog 215 ank:=⟨awA,λzs h=>by cases h;exact avo,trivial⟩
def anl:TI:=⟨1,false,some [zS0],.slice 218 2 16 [zI0,zI0]⟩
theorem axj:dg prog 216 anl:=⟨awB,λzs h=>by cases h;exact avp,⟨awC,ase,asf⟩⟩
def anm:TI:=⟨2,true,some [zI0,zI0],.struct [zI0,zI0] [(0,1),(1,1)] [false,false]⟩
theorem axk:dg prog 218 anm:=⟨awD,λzs h=>by cases h;exact amN,dM asg ⟨alh,ali,trivial⟩ ⟨alj,alk,trivial⟩⟩
def ann:TI:=⟨1,false,some [.nilFunc],.oth⟩
theorem axl:dg prog 220 ann:=⟨awE,λzs h=>by cases h;exact avq,trivial⟩
def ano:TI:=⟨1,false,some [zI0],.int .i64⟩
theorem axm:dg prog 228 ano:=⟨awF,λzs h=>by cases h;exact avr,underlying228⟩
def anp:TI:=⟨1,false,some [.int .u32 0],.int .u32⟩
theorem axn:dg prog 235 anp:=⟨awG,λzs h=>by cases h;exact avt,underlying235⟩
def tb:Tb:=[(2,ti2),(3,ti3),(4,ti4),(5,ti5),(6,ti6),(7,ti7),(8,ti8),(9,ti9),(10,atv),(11,atw),(12,atx),(13,aty),(14,atz),(15,atA),(16,atB),(17,atC),(18,atD),(19,atE),(21,atF),(22,atG),(23,atH),(25,atI),(26,atJ),(27,atK),(28,atL),(30,atM),(31,atN),(32,atO),(34,atP),(35,atQ),(36,atS),(37,atT),(38,atU),(40,atV),(41,atW),(42,atX),(44,atY),(45,atZ),(46,at0),(47,at1),(52,at3),(54,at4),(61,at5),(63,at6),(67,at7),(70,at8),(71,at9),(72,aua),(74,aub),(78,auc),(81,aud),(89,aue),(96,auf),(100,amV),(115,amW),(117,amX),(118,amY),(130,amZ),(136,am0),(141,am1),(143,am2),(152,am3),(154,am4),(155,am5),(157,am6),(159,am7),(168,am8),(170,am9),(172,ana),(173,anb),(177,anc),(178,ane),(184,anf),(193,ang),(200,anh),(202,ani),(204,anj),(215,ank),(216,anl),(218,anm),(220,ann),(228,ano),(235,anp)]
theorem W0:Wld prog tb:=⟨hmix,⟨tk2,tk3,tk4,tk5,tk6,tk7,tk8,tk9,tk10,tk11,tk12,tk13,tk14,tk15,tk16,tk17,tk18,tk19,tk21,tk22,tk23,tk25,tk26,tk27,tk28,tk30,tk31,tk32,tk34,tk35,tk36,tk37,tk38,tk40,tk41,tk42,tk44,tk45,tk46,tk47,tk52,tk54,tk61,tk63,tk67,tk70,tk71,tk72,tk74,tk78,tk81,tk89,tk96,awU,awV,awW,awX,awY,awZ,aw0,aw1,aw2,aw3,aw4,aw5,aw6,aw7,aw8,aw9,axa,axb,axc,axd,axe,axf,axg,axh,axi,axj,axk,axl,axm,axn,trivial⟩⟩
theorem ck9:aT prog 9:=⟨call9⟩
theorem ck10:aT prog 10:=⟨call10⟩
theorem qy:aT prog 12:=⟨call12⟩
theorem aug:aT prog 15:=⟨call15⟩
theorem xC:aT prog 16:=⟨call16⟩
theorem alK:aT prog 18:=⟨call18⟩
theorem auh:aT prog 19:=⟨call19⟩
theorem ck21:aT prog 21:=⟨call21⟩
theorem aui:aT prog 22:=⟨call22⟩
theorem auj:aT prog 25:=⟨call25⟩
theorem ck26:aT prog 26:=⟨call26⟩
theorem aad:aT prog 27:=⟨call27⟩
theorem ck35:aT prog 35:=⟨call35⟩
theorem ck38:aT prog 38:=⟨call38⟩
theorem aiC:aT prog 39:=⟨call39⟩
theorem ck40:aT prog 40:=⟨call40⟩
theorem af6:aT prog 41:=⟨call41⟩
theorem ck43:aT prog 43:=⟨call43⟩
theorem ck45:aT prog 45:=⟨call45⟩
theorem ck47:aT prog 47:=⟨call47⟩
theorem ck48:aT prog 48:=⟨call48⟩
theorem ck49:aT prog 49:=⟨call49⟩
theorem ck50:aT prog 50:=⟨call50⟩
theorem alL:aT prog 51:=⟨call51⟩
theorem ck52:aT prog 52:=⟨call52⟩
theorem ck53:aT prog 53:=⟨call53⟩
theorem auk:aT prog 54:=⟨call54⟩
theorem ck55:aT prog 55:=⟨call55⟩
theorem af7:aT prog 58:=⟨call58⟩
theorem qz:aT prog 59:=⟨call59⟩
theorem ck60:aT prog 60:=⟨call60⟩
theorem aul:aT prog 61:=⟨call61⟩
theorem aum:aT prog 62:=⟨call62⟩
theorem adP:aT prog 63:=⟨call63⟩
theorem aun:aT prog 64:=⟨call64⟩
theorem auo:aT prog 66:=⟨call66⟩
theorem adQ:aT prog 68:=⟨call68⟩
theorem af8:aT prog 69:=⟨call69⟩
theorem adR:aT prog 70:=⟨call70⟩
theorem ck71:aT prog 71:=⟨call71⟩
theorem ck72:aT prog 72:=⟨call72⟩
theorem ck73:aT prog 73:=⟨call73⟩
theorem af9:aT prog 75:=⟨call75⟩
theorem ck79:aT prog 79:=⟨call79⟩
theorem ck80:aT prog 80:=⟨call80⟩
theorem aup:aT prog 81:=⟨call81⟩
theorem alM:aT prog 83:=⟨call83⟩
theorem ck84:aT prog 84:=⟨call84⟩
theorem aae:aT prog 86:=⟨call86⟩
theorem ck87:aT prog 87:=⟨call87⟩
theorem ck88:aT prog 88:=⟨call88⟩
theorem auq:aT prog 89:=⟨call89⟩
theorem acd:aT prog 90:=⟨call90⟩
theorem jD:aT prog 91:=⟨call91⟩
theorem adS:aT prog 92:=⟨call92⟩
theorem ck93:aT prog 93:=⟨call93⟩
theorem ck94:aT prog 94:=⟨call94⟩
theorem ace:aT prog 95:=⟨call95⟩
theorem alN:aT prog 96:=⟨call96⟩
theorem aur:aT prog 97:=⟨call97⟩
theorem aus:aT prog 98:=⟨call98⟩
theorem alO:aT prog 99:=⟨call99⟩
theorem axo:aT prog 100:=⟨call100⟩
theorem axp:aT prog 101:=⟨call101⟩
theorem axq:aT prog 102:=⟨call102⟩
theorem anq:aT prog 103:=⟨call103⟩
theorem axr:aT prog 104:=⟨call104⟩
theorem anr:aT prog 105:=⟨call105⟩
theorem axt:aT prog 106:=⟨call106⟩
theorem ans:aT prog 107:=⟨call107⟩
theorem ant:aT prog 108:=⟨call108⟩
theorem axu:aT prog 109:=⟨call109⟩
theorem anu:aT prog 110:=⟨call110⟩
theorem yK:aT prog 111:=⟨call111⟩
theorem afr:aT prog 112:=⟨call112⟩
theorem gP:aT prog 118:=⟨call118⟩
theorem aa3:aT prog 119:=⟨call119⟩
theorem afs:aT prog 120:=⟨call120⟩
theorem aiD:aT prog 121:=⟨call121⟩
theorem anv:aT prog 122:=⟨call122⟩
theorem axv:aT prog 123:=⟨call123⟩
theorem ac3:aT prog 124:=⟨call124⟩
theorem axw:aT prog 125:=⟨call125⟩
theorem axx:aT prog 127:=⟨call127⟩
theorem aa4:aT prog 129:=⟨call129⟩
theorem anw:aT prog 130:=⟨call130⟩
theorem axy:aT prog 131:=⟨call131⟩
theorem axz:aT prog 132:=⟨call132⟩
theorem aiE:aT prog 133:=⟨call133⟩
theorem axA:aT prog 134:=⟨call134⟩
theorem axB:aT prog 135:=⟨call135⟩
theorem aft:aT prog 136:=⟨call136⟩
theorem axC:aT prog 137:=⟨call137⟩
theorem axD:aT prog 138:=⟨call138⟩
theorem axE:aT prog 139:=⟨call139⟩
theorem axF:aT prog 140:=⟨call140⟩
theorem anx:aT prog 141:=⟨call141⟩
theorem axG:aT prog 142:=⟨call142⟩
theorem axH:aT prog 143:=⟨call143⟩
theorem axI:aT prog 144:=⟨call144⟩
theorem anz:aT prog 146:=⟨call146⟩
theorem axJ:aT prog 150:=⟨call150⟩
theorem axK:aT prog 151:=⟨call151⟩
theorem axL:aT prog 154:=⟨call154⟩
theorem axM:aT prog 155:=⟨call155⟩
theorem axN:aT prog 156:=⟨call156⟩
theorem axO:aT prog 157:=⟨call157⟩
theorem anA:aT prog 158:=⟨call158⟩
theorem anB:aT prog 159:=⟨call159⟩
theorem anC:aT prog 160:=⟨call160⟩
theorem axP:aT prog 161:=⟨call161⟩
theorem axQ:aT prog 163:=⟨call163⟩
theorem axR:aT prog 164:=⟨call164⟩
theorem axS:aT prog 168:=⟨call168⟩
theorem axT:aT prog 177:=⟨call177⟩
theorem qS{N:Nat}{ids:List Nat}{y:Code}{Q:Exit→Env→Sto→Prop}{env:Env}{σ:Sto}{id:Nat}{ops:Array Oper}{dr:Bool}(hs:List (Nat×Hint prog))(cU:Env)(σ2:Sto)(k:aj ⟨prog,N,ids⟩ y Q cU σ2)
  (h:yH tb N ids ops dr (lq ops dr hs).1 (lq ops dr hs).2 [] hs (sS cU) σ2.ids env σ=some (cU,σ2,(lq ops dr hs).2.map λi=>(hintOf hs i).exp):=by kernel_rfl):aj ⟨prog,N,ids⟩ (.seq (.region id ops dr) y) Q env σ:=A.RS W0 [] hs cU σ2 h k
theorem qR{N:Nat}{ids:List Nat}{Q:Exit→Env→Sto→Prop}{env:Env}{σ:Sto}{id:Nat}{ops:Array Oper}{dr:Bool}(hs:List (Nat×Hint prog))(cU:Env)(σ2:Sto)(k:Q .normal cU σ2)
  (h:yH tb N ids ops dr (lq ops dr hs).1 (lq ops dr hs).2 [] hs (sS cU) σ2.ids env σ=some (cU,σ2,(lq ops dr hs).2.map λi=>(hintOf hs i).exp):=by kernel_rfl):aj ⟨prog,N,ids⟩ (.region id ops dr) Q env σ:=A.R W0 [] hs cU σ2 h k
def aut(n:Nat):List Nat→Bool
 |[]=>false
 |k::r=>bif Nat.beq k n then true else aut n r
def og{α:Type}(ks:List Nat)(new:List (Nat×α)):List (Nat×α)→List (Nat×α)
 |[]=>new
 |p::l=>bif aut p.1 ks then og ks new l else p::og ks new l
section
variable {N:Nat}{ids:List Nat}{y:Code}{Q:Exit→Env→Sto→Prop}{env:Env}{σ:Sto}{id:Nat}{ops:Array Oper}{dr:Bool}(hs:List (Nat×Hint prog))(ks:List Nat)(new:Env)(js:List Nat)(nws:Sto)
theorem qD(k:aj ⟨prog,N,ids⟩ y Q (og ks new env) (og js nws σ))
  (h:yH tb N ids ops dr (lq ops dr hs).1 (lq ops dr hs).2 [] hs (sS (og ks new env)) (Sto.ids (og js nws σ)) env σ=some (og ks new env,og js nws σ,(lq ops dr hs).2.map λi=>(hintOf hs i).exp):=by kernel_rfl):aj ⟨prog,N,ids⟩ (.seq (.region id ops dr) y) Q env σ:=A.RS W0 [] hs _ _ h k
theorem qDs(k:aj ⟨prog,N,ids⟩ y Q (og ks new env) σ)
  (h:yH tb N ids ops dr (lq ops dr hs).1 (lq ops dr hs).2 [] hs (sS (og ks new env)) σ.ids env σ=some (og ks new env,σ,(lq ops dr hs).2.map λi=>(hintOf hs i).exp):=by kernel_rfl):aj ⟨prog,N,ids⟩ (.seq (.region id ops dr) y) Q env σ:=A.RS W0 [] hs _ _ h k
theorem qG(k:Q .normal (og ks new env) (og js nws σ))
  (h:yH tb N ids ops dr (lq ops dr hs).1 (lq ops dr hs).2 [] hs (sS (og ks new env)) (Sto.ids (og js nws σ)) env σ=some (og ks new env,og js nws σ,(lq ops dr hs).2.map λi=>(hintOf hs i).exp):=by kernel_rfl):aj ⟨prog,N,ids⟩ (.region id ops dr) Q env σ:=A.R W0 [] hs _ _ h k
theorem qGs(k:Q .normal (og ks new env) σ)
  (h:yH tb N ids ops dr (lq ops dr hs).1 (lq ops dr hs).2 [] hs (sS (og ks new env)) σ.ids env σ=some (og ks new env,σ,(lq ops dr hs).2.map λi=>(hintOf hs i).exp):=by kernel_rfl):aj ⟨prog,N,ids⟩ (.region id ops dr) Q env σ:=A.R W0 [] hs _ _ h k
end
theorem qE{N:Nat}{ids:List Nat}{fn:Func}{env:Env}{σ σ2:Sto}{R:AV}(h:alA tb ids [] σ2.ids fn.results.toList env σ=some (R,σ2):=by kernel_rfl):
  ait ⟨prog,N,ids⟩ fn (λa σ'=>a=R∧σ'=σ2) .ret env σ:=A.fin W0 [] rfl h
variable {G:Gl}
theorem qW{env cU:Env}{σ σ2:Sto}(h:acU G.ids [] [] (sS cU) σ2.ids env σ=some (cU,σ2):=by kernel_rfl):bx G env σ cU σ2:=bx.go [] [] h
theorem qX{α ρ:Type}{J:α→Option ρ}{r:ρ}{env:Env}{σ:Sto}{eV:α→Env}{gr:α→Sto}(g:α)(hg:J g=some r)(h:acU G.ids [] [] (sS (eV g)) (gr g).ids env σ=some (eV g,gr g):=by kernel_rfl):
  ∃g,J g=some r∧bx G env σ (eV g) (gr g):=⟨g,hg,bx.go [] [] h⟩
variable {o:Operand}
theorem qT{p:Bool}{x y:Code}{Q:Exit→Env→Sto→Prop}{env:Env}{σ:Sto}(hp:p=true)(k:aj G x Q env σ)(hc:env.evo o=some (.bool p):=by kernel_rfl):aj G (.cond o x y) Q env σ:=A.cT hc hp k
theorem qF{p:Bool}{x y:Code}{Q:Exit→Env→Sto→Prop}{env:Env}{σ:Sto}(hp:p=false)(k:aj G y Q env σ)(hc:env.evo o=some (.bool p):=by kernel_rfl):aj G (.cond o x y) Q env σ:=A.cF hc hp k
abbrev i6(n:Int):AV:=.int .i64 n
abbrev lf{α:Type}(e:En α)(l:List α):AV:=.lst false (ml e l)
abbrev k0(x:aR):List AV:=[.int .i64 x.ID,.bool x.aa2]
abbrev k1(x:aW):List AV:=[.int .i64 x.A,.int .i64 x.B,.int .i64 x.jh,.int .i64 x.ji,.int .i64 x.oL]
abbrev k2(x:aa):List AV:=[.lst false (ml aJ x.ah),.lst false (ml aV x.Links)]
abbrev k3(x:aN):List AV:=[.int .i64 x.bn,.int .i64 x.To]
abbrev k4(x:bg):List AV:=[.lst false (ml bz x.Links),.lst false (ml aA x.ah)]
abbrev k5(x:aq):List AV:=[.int .i64 x.Bit,.int .i64 x.aO,.int .i64 x.Kind,.int .i64 x.To]
abbrev k6(x:bM):List AV:=[.lst false (ml aA x.L),.int .i64 x.At]
abbrev k7(x:aC):List AV:=[.int .i64 x.Length,.lst false (ml aF x.List)]
abbrev k8(x:dz):List AV:=[.int .i64 x.cz,.lst false (ml bz x.Links)]
abbrev k9(x:aG):List AV:=[.int .i64 x.to_,.int .i64 x.gn]
abbrev k10(x:aH):List AV:=[.int .i64 x.Mode,.int .i64 x.cC,.int .i64 x.Set,.int .i64 x.Length,.int .i64 x.TTL,.int .i64 x.dG,.int .i64 x.dH,.int .i64 x.eO,.int .u64 x.Bits,.str x.cM]
abbrev k11(x:aZ):List AV:=[.int .i64 x.To,.lst false (ml aA x.Frame.fU),.int .i64 x.Frame.aB.Mode,.int .i64 x.Frame.aB.cC,.int .i64 x.Frame.aB.Set,.int .i64 x.Frame.aB.Length,.int .i64 x.Frame.aB.TTL,.int .i64 x.Frame.aB.dG,.int .i64 x.Frame.aB.dH,.int .i64 x.Frame.aB.eO,.int .u64 x.Frame.aB.Bits,.str x.Frame.aB.cM]
abbrev k12(x:cE):List AV:=[.int .u64 x.Local,.int .u64 x.mL,.lst false (ml dQ x.cg)]
abbrev k13(x:dB):List AV:=[.lst false (ml ep x.dD),.lst false (ml eB x.dI),.lst false (ml iX x.iA)]
abbrev k14(x:az):List AV:=[.int .i64 x.cc,.lst false (ml aA x.cK.fU),.int .i64 x.cK.aB.Mode,.int .i64 x.cK.aB.cC,.int .i64 x.cK.aB.Set,.int .i64 x.cK.aB.Length,.int .i64 x.cK.aB.TTL,.int .i64 x.cK.aB.dG,.int .i64 x.cK.aB.dH,.int .i64 x.cK.aB.eO,.int .u64 x.cK.aB.Bits,.str x.cK.aB.cM]
end Go.Proofs.YtdjeacigeegklaaGreat
