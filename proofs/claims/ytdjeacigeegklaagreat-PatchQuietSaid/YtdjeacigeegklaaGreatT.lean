/- The data of the program, as Lean data, and what is known of its types. No condition but bK bn stand in each. -/
import Derived.Test.YtdjeacigeegklaaGreatF
import Derived.LoopN
import Derived.Test.YtdjeacigeegklaaGreatAC
namespace Go.Proofs.YtdjeacigeegklaaGreat
open Go Go.Proofs.Tryz
set_option maxRecDepth 100000
set_option linter.all false
structure aQ where
 ID:Int
 aa3:Bool
instance:Inhabited aQ:=⟨aQ.mk (0:Int) false⟩
def aI:En aQ:=⟨λx=>[.int .i64 x.ID,.bool x.aa3],2,λ_=>rfl,λ_=>rfl,λ_=>rfl⟩
structure aW where
 A:Int
 B:Int
 iK:Int
 iL:Int
 oQ:Int
instance:Inhabited aW:=⟨aW.mk (0:Int) (0:Int) (0:Int) (0:Int) (0:Int)⟩
def aT:En aW:=⟨λx=>[.int .i64 x.A,.int .i64 x.B,.int .i64 x.iK,.int .i64 x.iL,.int .i64 x.oQ],5,λ_=>rfl,λ_=>rfl,λ_=>rfl⟩
structure aa where
 aj:List aQ
 Links:List aW
instance:Inhabited aa:=⟨aa.mk [] []⟩
structure aV where
 bx:Int
 To:Int
instance:Inhabited aV:=⟨aV.mk (0:Int) (0:Int)⟩
def bJ:En aV:=⟨λx=>[.int .i64 x.bx,.int .i64 x.To],2,λ_=>rfl,λ_=>rfl,λ_=>rfl⟩
def kH(a b:aV):Bool:=decide (a.bx=b.bx)&&(decide (a.To=b.To)&&true)
structure bF where
 Links:List aV
 aj:List Int
instance:Inhabited bF:=⟨bF.mk [] []⟩
structure ay where
 Bit:Int
 aK:Int
 Kind:Int
 To:Int
instance:Inhabited ay:=⟨ay.mk (0:Int) (0:Int) (0:Int) (0:Int)⟩
def aB:En ay:=⟨λx=>[.int .i64 x.Bit,.int .i64 x.aK,.int .i64 x.Kind,.int .i64 x.To],4,λ_=>rfl,λ_=>rfl,λ_=>rfl⟩
structure bL where
 L:List Int
 At:Int
instance:Inhabited bL:=⟨bL.mk [] (0:Int)⟩
structure aC where
 Length:Int
 List:List ay
instance:Inhabited aC:=⟨aC.mk (0:Int) []⟩
structure dY where
 dS:Int
 Links:List aV
instance:Inhabited dY:=⟨dY.mk (0:Int) []⟩
structure bP where
 cm:Int
 s9:Int
 to_:Int
instance:Inhabited bP:=⟨bP.mk (0:Int) (0:Int) (0:Int)⟩
def lB:En bP:=⟨λx=>[.int .i64 x.cm,.int .i64 x.s9,.int .i64 x.to_],3,λ_=>rfl,λ_=>rfl,λ_=>rfl⟩
def eD(a b:bP):Bool:=decide (a.cm=b.cm)&&(decide (a.s9=b.s9)&&(decide (a.to_=b.to_)&&true))
structure aG where
 to_:Int
 gp:Int
instance:Inhabited aG:=⟨aG.mk (0:Int) (0:Int)⟩
def aF:En aG:=⟨λx=>[.int .i64 x.to_,.int .i64 x.gp],2,λ_=>rfl,λ_=>rfl,λ_=>rfl⟩
structure fT where
 nQ:List (Int×List aG)
 in_:List (Int×List aG)
instance:Inhabited fT:=⟨fT.mk [] []⟩
structure aH where
 Mode:Int
 bU:Int
 Set:Int
 Length:Int
 TTL:Int
 cR:Int
 cS:Int
 dV:Int
 Bits:Int
 cu:ByteArray
instance:Inhabited aH:=⟨aH.mk (0:Int) (0:Int) (0:Int) (0:Int) (0:Int) (0:Int) (0:Int) (0:Int) (0:Int) (⟨#[]⟩)⟩
structure eP where
 gZ:List Int
 aq:aH
instance:Inhabited eP:=⟨eP.mk [] (aH.mk (0:Int) (0:Int) (0:Int) (0:Int) (0:Int) (0:Int) (0:Int) (0:Int) (0:Int) ⟨#[]⟩)⟩
structure bg where
 To:Int
 Frame:eP
instance:Inhabited bg:=⟨bg.mk (0:Int) (eP.mk [] (aH.mk (0:Int) (0:Int) (0:Int) (0:Int) (0:Int) (0:Int) (0:Int) (0:Int) (0:Int) ⟨#[]⟩))⟩
def dn:En bg:=⟨λx=>[.int .i64 x.To,.lst false (ml aA x.Frame.gZ),.int .i64 x.Frame.aq.Mode,.int .i64 x.Frame.aq.bU,.int .i64 x.Frame.aq.Set,.int .i64 x.Frame.aq.Length,.int .i64 x.Frame.aq.TTL,.int .i64 x.Frame.aq.cR,.int .i64 x.Frame.aq.cS,.int .i64 x.Frame.aq.dV,.int .u64 x.Frame.aq.Bits,.str x.Frame.aq.cu],12,λ_=>rfl,λ_=>rfl,λ_=>rfl⟩
structure cG where
 Local:Int
 jF:Int
 bY:List bg
instance:Inhabited cG:=⟨cG.mk (0:Int) (0:Int) []⟩
structure cI where
 aff:ay
 copy_:bg
instance:Inhabited cI:=⟨cI.mk (ay.mk (0:Int) (0:Int) (0:Int) (0:Int)) (bg.mk (0:Int) (eP.mk [] (aH.mk (0:Int) (0:Int) (0:Int) (0:Int) (0:Int) (0:Int) (0:Int) (0:Int) (0:Int) ⟨#[]⟩)))⟩
def iF:En cI:=⟨λx=>[.int .i64 x.aff.Bit,.int .i64 x.aff.aK,.int .i64 x.aff.Kind,.int .i64 x.aff.To,.int .i64 x.copy_.To,.lst false (ml aA x.copy_.Frame.gZ),.int .i64 x.copy_.Frame.aq.Mode,.int .i64 x.copy_.Frame.aq.bU,.int .i64 x.copy_.Frame.aq.Set,.int .i64 x.copy_.Frame.aq.Length,.int .i64 x.copy_.Frame.aq.TTL,.int .i64 x.copy_.Frame.aq.cR,.int .i64 x.copy_.Frame.aq.cS,.int .i64 x.copy_.Frame.aq.dV,.int .u64 x.copy_.Frame.aq.Bits,.str x.copy_.Frame.aq.cu],16,λ_=>rfl,λ_=>rfl,λ_=>rfl⟩
structure bO where
 aK:Int
 aq:aH
instance:Inhabited bO:=⟨bO.mk (0:Int) (aH.mk (0:Int) (0:Int) (0:Int) (0:Int) (0:Int) (0:Int) (0:Int) (0:Int) (0:Int) ⟨#[]⟩)⟩
def cO:En bO:=⟨λx=>[.int .i64 x.aK,.int .i64 x.aq.Mode,.int .i64 x.aq.bU,.int .i64 x.aq.Set,.int .i64 x.aq.Length,.int .i64 x.aq.TTL,.int .i64 x.aq.cR,.int .i64 x.aq.cS,.int .i64 x.aq.dV,.int .u64 x.aq.Bits,.str x.aq.cu],11,λ_=>rfl,λ_=>rfl,λ_=>rfl⟩
def qY(a b:bO):Bool:=decide (a.aK=b.aK)&&((decide (a.aq.Mode=b.aq.Mode)&&(decide (a.aq.bU=b.aq.bU)&&(decide (a.aq.Set=b.aq.Set)&&(decide (a.aq.Length=b.aq.Length)&&(decide (a.aq.TTL=b.aq.TTL)&&(decide (a.aq.cR=b.aq.cR)&&(decide (a.aq.cS=b.aq.cS)&&(decide (a.aq.dV=b.aq.dV)&&(decide (a.aq.Bits=b.aq.Bits)&&((a.aq.cu.toList==b.aq.cu.toList)&&true))))))))))&&true)
structure aU where
 bx:Int
 To:Int
 Bits:Int
instance:Inhabited aU:=⟨aU.mk (0:Int) (0:Int) (0:Int)⟩
def dz:En aU:=⟨λx=>[.int .i64 x.bx,.int .i64 x.To,.int .u64 x.Bits],3,λ_=>rfl,λ_=>rfl,λ_=>rfl⟩
def qZ(a b:aU):Bool:=decide (a.bx=b.bx)&&(decide (a.To=b.To)&&(decide (a.Bits=b.Bits)&&true))
structure cz where
 aK:Int
 Bits:Int
instance:Inhabited cz:=⟨cz.mk (0:Int) (0:Int)⟩
def fc:En cz:=⟨λx=>[.int .i64 x.aK,.int .u64 x.Bits],2,λ_=>rfl,λ_=>rfl,λ_=>rfl⟩
def xZ(a b:cz):Bool:=decide (a.aK=b.aK)&&(decide (a.Bits=b.Bits)&&true)
structure cC where
 cK:List bO
 cn:List aU
 dP:List cz
instance:Inhabited cC:=⟨cC.mk [] [] []⟩
structure bp where
 cm:Int
 gw:aH
instance:Inhabited bp:=⟨bp.mk (0:Int) (aH.mk (0:Int) (0:Int) (0:Int) (0:Int) (0:Int) (0:Int) (0:Int) (0:Int) (0:Int) ⟨#[]⟩)⟩
structure dD where
 aK:Int
 aq:aH
instance:Inhabited dD:=⟨dD.mk (0:Int) (aH.mk (0:Int) (0:Int) (0:Int) (0:Int) (0:Int) (0:Int) (0:Int) (0:Int) (0:Int) ⟨#[]⟩)⟩
def jG:En dD:=⟨λx=>[.int .i64 x.aK,.int .i64 x.aq.Mode,.int .i64 x.aq.bU,.int .i64 x.aq.Set,.int .i64 x.aq.Length,.int .i64 x.aq.TTL,.int .i64 x.aq.cR,.int .i64 x.aq.cS,.int .i64 x.aq.dV,.int .u64 x.aq.Bits,.str x.aq.cu],11,λ_=>rfl,λ_=>rfl,λ_=>rfl⟩
structure bh where
 cm:Int
 dA:eP
instance:Inhabited bh:=⟨bh.mk (0:Int) (eP.mk [] (aH.mk (0:Int) (0:Int) (0:Int) (0:Int) (0:Int) (0:Int) (0:Int) (0:Int) (0:Int) ⟨#[]⟩))⟩
def dQ:En bh:=⟨λx=>[.int .i64 x.cm,.lst false (ml aA x.dA.gZ),.int .i64 x.dA.aq.Mode,.int .i64 x.dA.aq.bU,.int .i64 x.dA.aq.Set,.int .i64 x.dA.aq.Length,.int .i64 x.dA.aq.TTL,.int .i64 x.dA.aq.cR,.int .i64 x.dA.aq.cS,.int .i64 x.dA.aq.dV,.int .u64 x.dA.aq.Bits,.str x.dA.aq.cu],12,λ_=>rfl,λ_=>rfl,λ_=>rfl⟩
structure dy where
 cA:aC
 dh:aa
 eA:aa
 cL:bF
 cV:cC
 je:List bh
instance:Inhabited dy:=⟨dy.mk (aC.mk (0:Int) []) (aa.mk [] []) (aa.mk [] []) (bF.mk [] []) (cC.mk [] [] []) []⟩
structure abz where
 aK:Int
 Frame:eP
instance:Inhabited abz:=⟨abz.mk (0:Int) (eP.mk [] (aH.mk (0:Int) (0:Int) (0:Int) (0:Int) (0:Int) (0:Int) (0:Int) (0:Int) (0:Int) ⟨#[]⟩))⟩
structure cq where
 E0:Int
 E1:Int
instance:Inhabited cq:=⟨cq.mk (0:Int) (0:Int)⟩
def ve:En cq:=⟨λx=>[.int .i64 x.E0,.int .i64 x.E1],2,λ_=>rfl,λ_=>rfl,λ_=>rfl⟩
def ti2:TI:=⟨1,false,some [zI0],.int .i64⟩
theorem tk2:dx prog 2 ti2:=⟨ty2,λzs h=>by cases h;exact ze2,underlying2⟩
def ti3:TI:=⟨1,false,some [zI0],.int .i64⟩
theorem tk3:dx prog 3 ti3:=⟨ty3,λzs h=>by cases h;exact ze3,underlying3⟩
def ti4:TI:=⟨1,false,some [.bool false],.bool⟩
theorem tk4:dx prog 4 ti4:=⟨ty4,λzs h=>by cases h;exact ze4,underlying4⟩
def ti5:TI:=⟨1,false,some [.int .u8 0],.int .u8⟩
theorem tk5:dx prog 5 ti5:=⟨ty5,λzs h=>by cases h;exact ze5,underlying5⟩
def ti6:TI:=⟨1,false,some [.int .u8 0],.int .u8⟩
theorem tk6:dx prog 6 ti6:=⟨ty6,λzs h=>by cases h;exact ze6,underlying6⟩
def ti7:TI:=⟨4,true,some [zI0,zI0,.bool false,.int .u8 0],.struct [zI0,zI0,.bool false,.int .u8 0] [(0,1),(1,1),(2,1),(3,1)] [false,false,false,false]⟩
theorem tk7:dx prog 7 ti7:=⟨ty7,λzs h=>by cases h;exact ze7,dL str7 ⟨art,aru,arv,arw,trivial⟩ ⟨arx,ary,arz,arA,trivial⟩⟩
def ti8:TI:=⟨4,true,some [zI0,zI0,.bool false,.int .u8 0],.struct [zI0,zI0,.bool false,.int .u8 0] [(0,1),(1,1),(2,1),(3,1)] [false,false,false,false]⟩
theorem tk8:dx prog 8 ti8:=⟨ty8,λzs h=>by cases h;exact ze8,dL str8 ⟨arB,arC,arD,arE,trivial⟩ ⟨arF,arG,arH,arI,trivial⟩⟩
def ti9:TI:=⟨1,false,some [.string ⟨#[]⟩],.str⟩
theorem tk9:dx prog 9 ti9:=⟨ty9,λzs h=>by cases h;exact ze9,underlying9⟩
def atq:TI:=⟨1,false,some [.string ⟨#[]⟩],.str⟩
theorem tk10:dx prog 10 atq:=⟨ty10,λzs h=>by cases h;exact ze10,underlying10⟩
def atr:TI:=⟨1,false,some [.string ⟨#[]⟩],.str⟩
theorem tk11:dx prog 11 atr:=⟨ty11,λzs h=>by cases h;exact ze11,underlying11⟩
def att:TI:=⟨1,false,some [.int .u64 0],.int .u64⟩
theorem tk12:dx prog 12 att:=⟨aj7,λzs h=>by cases h;exact ze12,underlying12⟩
def atu:TI:=⟨2,true,some [.string ⟨#[]⟩,.int .u64 0],.struct [.string ⟨#[]⟩,.int .u64 0] [(0,1),(1,1)] [false,false]⟩
theorem tk13:dx prog 13 atu:=⟨ty13,λzs h=>by cases h;exact ze13,dL avm ⟨anT,anU,trivial⟩ ⟨anV,anW,trivial⟩⟩
def atv:TI:=⟨2,true,some [.string ⟨#[]⟩,.int .u64 0],.struct [.string ⟨#[]⟩,.int .u64 0] [(0,1),(1,1)] [false,false]⟩
theorem tk14:dx prog 14 atv:=⟨ty14,λzs h=>by cases h;exact ze14,dL avn ⟨anX,anY,trivial⟩ ⟨anZ,an0,trivial⟩⟩
def atw:TI:=⟨1,false,some [.pointer none],.oth⟩
theorem tk15:dx prog 15 atw:=⟨ty15,λzs h=>by cases h;exact ze15,trivial⟩
def atx:TI:=⟨1,false,some [.pointer none],.oth⟩
theorem tk16:dx prog 16 atx:=⟨ty16,λzs h=>by cases h;exact ze16,trivial⟩
def aty:TI:=⟨1,false,some [.pointer none],.oth⟩
theorem tk17:dx prog 17 aty:=⟨aj8,λzs h=>by cases h;exact ze17,trivial⟩
def atz:TI:=⟨1,true,some [.pointer none],.struct [.pointer none] [(0,1)] [false]⟩
theorem tk18:dx prog 18 atz:=⟨ty18,λzs h=>by cases h;exact ze18,dL avo ⟨an1,trivial⟩ ⟨an2,trivial⟩⟩
def atA:TI:=⟨1,true,some [.pointer none],.struct [.pointer none] [(0,1)] [false]⟩
theorem tk19:dx prog 19 atA:=⟨ty19,λzs h=>by cases h;exact ze19,dL avp ⟨an3,trivial⟩ ⟨an4,trivial⟩⟩
def atB:TI:=⟨1,false,some [.int .i32 0],.int .i32⟩
theorem tk21:dx prog 21 atB:=⟨ty21,λzs h=>by cases h;exact ze21,underlying21⟩
def atC:TI:=⟨1,false,some [zS0],.slice 3 1 8 [zI0]⟩
theorem tk22:dx prog 22 atC:=⟨ahR,λzs h=>by cases h;exact ze22,⟨sl22,ahS,amD⟩⟩
def atD:TI:=⟨1,false,some [.pointer none],.oth⟩
theorem tk23:dx prog 23 atD:=⟨ty23,λzs h=>by cases h;exact ze23,trivial⟩
def atE:TI:=⟨1,false,some [zS0],.slice 42 2 16 [zI0,.bool false]⟩
theorem tk25:dx prog 25 atE:=⟨aj9,λzs h=>by cases h;exact ze25,⟨sl25,avq,avr⟩⟩
def atF:TI:=⟨1,false,some [zS0],.slice 89 5 40 [zI0,zI0,zI0,zI0,zI0]⟩
theorem tk26:dx prog 26 atF:=⟨aka,λzs h=>by cases h;exact ze26,⟨sl26,avt,avu⟩⟩
def atG:TI:=⟨2,true,some [zS0,zS0],.struct [zS0,zS0] [(0,1),(1,1)] [false,false]⟩
theorem tk27:dx prog 27 atG:=⟨ty27,λzs h=>by cases h;exact ze27,dL avv ⟨an5,an6,trivial⟩ ⟨an7,an8,trivial⟩⟩
def atH:TI:=⟨2,true,some [zS0,zS0],.struct [zS0,zS0] [(0,1),(1,1)] [false,false]⟩
theorem tk28:dx prog 28 atH:=⟨akb,λzs h=>by cases h;exact ze28,dL avw ⟨an9,aoa,trivial⟩ ⟨aob,aoc,trivial⟩⟩
def atI:TI:=⟨1,false,some [zS0],.slice 38 4 32 [zI0,zI0,zI0,zI0]⟩
theorem tk30:dx prog 30 atI:=⟨akc,λzs h=>by cases h;exact ze30,⟨sl30,avx,avy⟩⟩
def atJ:TI:=⟨2,true,some [zI0,zS0],.struct [zI0,zS0] [(0,1),(1,1)] [false,false]⟩
theorem tk31:dx prog 31 atJ:=⟨ty31,λzs h=>by cases h;exact ze31,dL avz ⟨aod,aoe,trivial⟩ ⟨aof,aog,trivial⟩⟩
def atK:TI:=⟨2,true,some [zI0,zS0],.struct [zI0,zS0] [(0,1),(1,1)] [false,false]⟩
theorem tk32:dx prog 32 atK:=⟨arJ,λzs h=>by cases h;exact ze32,dL avA ⟨aoh,aoi,trivial⟩ ⟨aoj,aok,trivial⟩⟩
def atL:TI:=⟨1,false,some [.int .u64 0],.int .u64⟩
theorem tk34:dx prog 34 atL:=⟨yH,λzs h=>by cases h;exact ze34,underlying34⟩
def atM:TI:=⟨10,true,some [zI0,zI0,zI0,zI0,zI0,zI0,zI0,zI0,.int .u64 0,.string ⟨#[]⟩],.struct [zI0,zI0,zI0,zI0,zI0,zI0,zI0,zI0,.int .u64 0,.string ⟨#[]⟩] [(0,1),(1,1),(2,1),(3,1),(4,1),(5,1),(6,1),(7,1),(8,1),(9,1)] [false,false,false,false,false,false,false,false,false,false]⟩
theorem tk35:dx prog 35 atM:=⟨ty35,λzs h=>by cases h;exact ze35,dL avB ⟨aol,aom,aon,aoo,aop,aoq,aor,aos,aot,aou,trivial⟩ ⟨aov,aow,aox,aoy,aoz,aoA,aoB,aoC,aoD,aoE,trivial⟩⟩
def atN:TI:=⟨10,true,some [zI0,zI0,zI0,zI0,zI0,zI0,zI0,zI0,.int .u64 0,.string ⟨#[]⟩],.struct [zI0,zI0,zI0,zI0,zI0,zI0,zI0,zI0,.int .u64 0,.string ⟨#[]⟩] [(0,1),(1,1),(2,1),(3,1),(4,1),(5,1),(6,1),(7,1),(8,1),(9,1)] [false,false,false,false,false,false,false,false,false,false]⟩
theorem tk36:dx prog 36 atN:=⟨ahT,λzs h=>by cases h;exact ze36,dL avC ⟨aoF,aoG,aoH,aoI,aoJ,aoK,aoL,aoM,aoN,aoO,trivial⟩ ⟨aoP,aoQ,aoR,aoS,aoT,aoU,aoV,aoW,aoX,aoY,trivial⟩⟩
def atO:TI:=⟨4,true,some [zI0,zI0,zI0,zI0],.struct [zI0,zI0,zI0,zI0] [(0,1),(1,1),(2,1),(3,1)] [false,false,false,false]⟩
theorem tk37:dx prog 37 atO:=⟨ty37,λzs h=>by cases h;exact ze37,dL avD ⟨aoZ,ao0,ao1,ao2,trivial⟩ ⟨ao3,ao4,ao5,ao6,trivial⟩⟩
def atP:TI:=⟨4,true,some [zI0,zI0,zI0,zI0],.struct [zI0,zI0,zI0,zI0] [(0,1),(1,1),(2,1),(3,1)] [false,false,false,false]⟩
theorem tk38:dx prog 38 atP:=⟨arK,λzs h=>by cases h;exact arj,dL avE ⟨ao7,ao8,ao9,apa,trivial⟩ ⟨apb,apc,apd,ape,trivial⟩⟩
def atQ:TI:=⟨1,false,some [.int .u64 0],.int .u64⟩
theorem tk40:dx prog 40 atQ:=⟨ty40,λzs h=>by cases h;exact ze40,underlying40⟩
def atS:TI:=⟨2,true,some [zI0,.bool false],.struct [zI0,.bool false] [(0,1),(1,1)] [false,false]⟩
theorem tk41:dx prog 41 atS:=⟨ty41,λzs h=>by cases h;exact ze41,dL avF ⟨apf,apg,trivial⟩ ⟨aph,api,trivial⟩⟩
def atT:TI:=⟨2,true,some [zI0,.bool false],.struct [zI0,.bool false] [(0,1),(1,1)] [false,false]⟩
theorem tk42:dx prog 42 atT:=⟨ty42,λzs h=>by cases h;exact ark,dL avG ⟨apj,apk,trivial⟩ ⟨apl,apm,trivial⟩⟩
def atU:TI:=⟨1,false,some [zS0],.slice 54 12 120 [zI0,zS0,zI0,zI0,zI0,zI0,zI0,zI0,zI0,zI0,.int .u64 0,.string ⟨#[]⟩]⟩
theorem tk44:dx prog 44 atU:=⟨akd,λzs h=>by cases h;exact ze44,⟨sl44,avH,avI⟩⟩
def atV:TI:=⟨3,true,some [.int .u64 0,.int .u64 0,zS0],.struct [.int .u64 0,.int .u64 0,zS0] [(0,1),(1,1),(2,1)] [false,false,false]⟩
theorem tk45:dx prog 45 atV:=⟨ty45,λzs h=>by cases h;exact ze45,dL avJ ⟨apn,apo,apq,trivial⟩ ⟨apr,aps,apt,trivial⟩⟩
def atW:TI:=⟨3,true,some [.int .u64 0,.int .u64 0,zS0],.struct [.int .u64 0,.int .u64 0,zS0] [(0,1),(1,1),(2,1)] [false,false,false]⟩
theorem tk46:dx prog 46 atW:=⟨ty46,λzs h=>by cases h;exact ze46,dL avK ⟨apu,apv,apw,trivial⟩ ⟨apx,apy,apz,trivial⟩⟩
def atX:TI:=⟨1,false,some [zI0],.int .i64⟩
theorem tk47:dx prog 47 atX:=⟨ty47,λzs h=>by cases h;exact ze47,underlying47⟩
def atY:TI:=⟨11,true,some [zS0,zI0,zI0,zI0,zI0,zI0,zI0,zI0,zI0,.int .u64 0,.string ⟨#[]⟩],.struct [zS0,zI0,zI0,zI0,zI0,zI0,zI0,zI0,zI0,.int .u64 0,.string ⟨#[]⟩] [(0,1),(1,10)] [false,true]⟩
theorem tk52:dx prog 52 atY:=⟨ahU,λzs h=>by cases h;exact ze52,dL avL ⟨apA,apB,trivial⟩ ⟨apC,apD,trivial⟩⟩
def atZ:TI:=⟨12,true,some [zI0,zS0,zI0,zI0,zI0,zI0,zI0,zI0,zI0,zI0,.int .u64 0,.string ⟨#[]⟩],.struct [zI0,zS0,zI0,zI0,zI0,zI0,zI0,zI0,zI0,zI0,.int .u64 0,.string ⟨#[]⟩] [(0,1),(1,11)] [false,true]⟩
theorem tk54:dx prog 54 atZ:=⟨arL,λzs h=>by cases h;exact arl,dL avM ⟨apF,apG,trivial⟩ ⟨apH,apI,trivial⟩⟩
def at0:TI:=⟨1,false,some [zS0],.slice 67 2 16 [zI0,zI0]⟩
theorem tk61:dx prog 61 at0:=⟨ake,λzs h=>by cases h;exact ze61,⟨sl61,amE,avN⟩⟩
def at1:TI:=⟨2,true,some [zI0,zS0],.struct [zI0,zS0] [(0,1),(1,1)] [false,false]⟩
theorem tk63:dx prog 63 at1:=⟨ty63,λzs h=>by cases h;exact arn,dL avO ⟨apJ,apK,trivial⟩ ⟨apL,apM,trivial⟩⟩
def at3:TI:=⟨2,true,some [zI0,zI0],.struct [zI0,zI0] [(0,1),(1,1)] [false,false]⟩
theorem tk67:dx prog 67 at3:=⟨ty67,λzs h=>by cases h;exact aro,dL avP ⟨apN,apO,trivial⟩ ⟨apP,apQ,trivial⟩⟩
def at4:TI:=⟨1,false,some [zS0],.slice 78 11 96 [zI0,zI0,zI0,zI0,zI0,zI0,zI0,zI0,zI0,.int .u64 0,.string ⟨#[]⟩]⟩
theorem tk70:dx prog 70 at4:=⟨arM,λzs h=>by cases h;exact ze70,⟨sl70,avR,avS⟩⟩
def at5:TI:=⟨1,false,some [zS0],.slice 81 3 24 [zI0,zI0,.int .u64 0]⟩
theorem tk71:dx prog 71 at5:=⟨arN,λzs h=>by cases h;exact ze71,⟨sl71,avT,avU⟩⟩
def at6:TI:=⟨1,false,some [zS0],.slice 141 2 16 [zI0,.int .u64 0]⟩
theorem tk72:dx prog 72 at6:=⟨arO,λzs h=>by cases h;exact ze72,⟨sl72,avV,avW⟩⟩
def at7:TI:=⟨3,true,some [zS0,zS0,zS0],.struct [zS0,zS0,zS0] [(0,1),(1,1),(2,1)] [false,false,false]⟩
theorem tk74:dx prog 74 at7:=⟨arP,λzs h=>by cases h;exact ze74,dL avX ⟨apR,apS,apT,trivial⟩ ⟨apU,apV,apW,trivial⟩⟩
def at8:TI:=⟨11,true,some [zI0,zI0,zI0,zI0,zI0,zI0,zI0,zI0,zI0,.int .u64 0,.string ⟨#[]⟩],.struct [zI0,zI0,zI0,zI0,zI0,zI0,zI0,zI0,zI0,.int .u64 0,.string ⟨#[]⟩] [(0,1),(1,10)] [false,true]⟩
theorem tk78:dx prog 78 at8:=⟨ty78,λzs h=>by cases h;exact arp,dL avY ⟨apX,apY,trivial⟩ ⟨apZ,ap0,trivial⟩⟩
def at9:TI:=⟨3,true,some [zI0,zI0,.int .u64 0],.struct [zI0,zI0,.int .u64 0] [(0,1),(1,1),(2,1)] [false,false,false]⟩
theorem tk81:dx prog 81 at9:=⟨ty81,λzs h=>by cases h;exact arq,dL av0 ⟨ap1,ap2,ap3,trivial⟩ ⟨ap4,ap5,ap6,trivial⟩⟩
def aua:TI:=⟨5,true,some [zI0,zI0,zI0,zI0,zI0],.struct [zI0,zI0,zI0,zI0,zI0] [(0,1),(1,1),(2,1),(3,1),(4,1)] [false,false,false,false,false]⟩
theorem tk89:dx prog 89 aua:=⟨ty89,λzs h=>by cases h;exact ars,dL av3 ⟨ap7,ap8,ap9,aqa,aqb,trivial⟩ ⟨aqc,aqd,aqe,aqf,aqg,trivial⟩⟩
def aub:TI:=⟨1,false,some [zS0],.slice 63 2 32 [zI0,zS0]⟩
theorem tk96:dx prog 96 aub:=⟨ty96,λzs h=>by cases h;exact ze96,⟨sl96,av4,av5⟩⟩
def amK:TI:=⟨2,true,some [zS0,zS0],.struct [zS0,zS0] [(0,1),(1,1)] [false,false]⟩
theorem awR:dx prog 100 amK:=⟨amF,λzs h=>by cases h;exact auV,dL arQ ⟨aki,akj,trivial⟩ ⟨akk,akl,trivial⟩⟩
def amL:TI:=⟨2,true,some [zS0,zI0],.struct [zS0,zI0] [(0,1),(1,1)] [false,false]⟩
theorem awS:dx prog 115 amL:=⟨av6,λzs h=>by cases h;exact auW,dL arR ⟨akm,akn,trivial⟩ ⟨ako,akp,trivial⟩⟩
def amM:TI:=⟨1,false,some [zS0],.slice 118 1 24 [zS0]⟩
theorem awT:dx prog 117 amM:=⟨av7,λzs h=>by cases h;exact auX,⟨wT,aiY,aiZ⟩⟩
def amN:TI:=⟨1,false,some [zS0],.slice 4 1 1 [.bool false]⟩
theorem awU:dx prog 118 amN:=⟨acN,λzs h=>by cases h;exact amx,⟨av8,ai0,ai1⟩⟩
def amO:TI:=⟨1,false,some [.nilFunc],.oth⟩
theorem awV:dx prog 130 amO:=⟨av9,λzs h=>by cases h;exact auZ,trivial⟩
def amP:TI:=⟨1,false,some [zS0],.slice 143 16 152 [zI0,zI0,zI0,zI0,zI0,zS0,zI0,zI0,zI0,zI0,zI0,zI0,zI0,zI0,.int .u64 0,.string ⟨#[]⟩]⟩
theorem awW:dx prog 136 amP:=⟨awa,λzs h=>by cases h;exact au0,⟨awb,arS,arT⟩⟩
def amQ:TI:=⟨2,true,some [zI0,.int .u64 0],.struct [zI0,.int .u64 0] [(0,1),(1,1)] [false,false]⟩
theorem awX:dx prog 141 amQ:=⟨awc,λzs h=>by cases h;exact amy,dL arU ⟨akq,akr,trivial⟩ ⟨aks,akt,trivial⟩⟩
def amR:TI:=⟨16,true,some [zI0,zI0,zI0,zI0,zI0,zS0,zI0,zI0,zI0,zI0,zI0,zI0,zI0,zI0,.int .u64 0,.string ⟨#[]⟩],.struct [zI0,zI0,zI0,zI0,zI0,zS0,zI0,zI0,zI0,zI0,zI0,zI0,zI0,zI0,.int .u64 0,.string ⟨#[]⟩] [(0,4),(4,12)] [true,true]⟩
theorem awY:dx prog 143 amR:=⟨awd,λzs h=>by cases h;exact amz,dL arW ⟨aku,akv,trivial⟩ ⟨akw,akx,trivial⟩⟩
def amS:TI:=⟨11,true,some [zI0,zI0,zI0,zI0,zI0,zI0,zI0,zI0,zI0,.int .u64 0,.string ⟨#[]⟩],.struct [zI0,zI0,zI0,zI0,zI0,zI0,zI0,zI0,zI0,.int .u64 0,.string ⟨#[]⟩] [(0,1),(1,10)] [false,true]⟩
theorem awZ:dx prog 146 amS:=⟨awe,λzs h=>by cases h;exact amA,dL arX ⟨aky,akz,trivial⟩ ⟨akA,akB,trivial⟩⟩
def amT:TI:=⟨1,false,some [zS0],.slice 146 11 96 [zI0,zI0,zI0,zI0,zI0,zI0,zI0,zI0,zI0,.int .u64 0,.string ⟨#[]⟩]⟩
theorem aw0:dx prog 147 amT:=⟨awf,λzs h=>by cases h;exact au1,⟨awg,arY,arZ⟩⟩
def amU:TI:=⟨1,false,some [.nilFunc],.oth⟩
theorem aw1:dx prog 152 amU:=⟨awh,λzs h=>by cases h;exact au2,trivial⟩
def amV:TI:=⟨12,true,some [zI0,zS0,zI0,zI0,zI0,zI0,zI0,zI0,zI0,zI0,.int .u64 0,.string ⟨#[]⟩],.struct [zI0,zS0,zI0,zI0,zI0,zI0,zI0,zI0,zI0,zI0,.int .u64 0,.string ⟨#[]⟩] [(0,1),(1,11)] [false,true]⟩
theorem aw2:dx prog 154 amV:=⟨awi,λzs h=>by cases h;exact amB,dL ar0 ⟨akC,akD,trivial⟩ ⟨akE,akF,trivial⟩⟩
def amW:TI:=⟨1,false,some [zS0],.slice 154 12 120 [zI0,zS0,zI0,zI0,zI0,zI0,zI0,zI0,zI0,zI0,.int .u64 0,.string ⟨#[]⟩]⟩
theorem aw3:dx prog 155 amW:=⟨amG,λzs h=>by cases h;exact au3,⟨awj,ar1,ar2⟩⟩
def amX:TI:=⟨12,true,some [zI0,zS0,zS0,zS0,zS0,zS0,zS0,zS0,zS0,zS0,zS0,zS0],.struct [zI0,zS0,zS0,zS0,zS0,zS0,zS0,zS0,zS0,zS0,zS0,zS0] [(0,2),(2,2),(4,2),(6,2),(8,3),(11,1)] [true,true,true,true,true,false]⟩
theorem aw4:dx prog 157 amX:=⟨awk,λzs h=>by cases h;exact au4,dL ar3 ⟨akG,akH,akI,akJ,akK,akL,trivial⟩ ⟨akM,akN,akO,akP,akQ,akR,trivial⟩⟩
def amY:TI:=⟨12,true,some [zI0,zS0,zI0,zI0,zI0,zI0,zI0,zI0,zI0,zI0,.int .u64 0,.string ⟨#[]⟩],.struct [zI0,zS0,zI0,zI0,zI0,zI0,zI0,zI0,zI0,zI0,.int .u64 0,.string ⟨#[]⟩] [(0,1),(1,11)] [false,true]⟩
theorem aw5:dx prog 159 amY:=⟨awl,λzs h=>by cases h;exact au5,dL ar4 ⟨akS,akT,trivial⟩ ⟨akU,akV,trivial⟩⟩
def amZ:TI:=⟨1,false,some [.nilFunc],.oth⟩
theorem aw6:dx prog 168 amZ:=⟨awm,λzs h=>by cases h;exact au6,trivial⟩
def am0:TI:=⟨1,false,some [.nilFunc],.oth⟩
theorem aw7:dx prog 170 am0:=⟨awn,λzs h=>by cases h;exact au7,trivial⟩
def am1:TI:=⟨1,false,some [.nilFunc],.oth⟩
theorem aw8:dx prog 172 am1:=⟨awo,λzs h=>by cases h;exact au8,trivial⟩
def am2:TI:=⟨1,false,some [.nilFunc],.oth⟩
theorem aw9:dx prog 173 am2:=⟨awp,λzs h=>by cases h;exact au9,trivial⟩
def am3:TI:=⟨2,true,some [zI0,zI0],.oth⟩
theorem axa:dx prog 177 am3:=⟨awq,λzs h=>by cases h;exact aaR,trivial⟩
def am4:TI:=⟨1,false,some [zS0],.slice 177 2 16 [zI0,zI0]⟩
theorem axb:dx prog 178 am4:=⟨awr,λzs h=>by cases h;exact ava,⟨aws,ar5,ar6⟩⟩
def am5:TI:=⟨3,true,some [zI0,zI0,zI0],.struct [zI0,zI0,zI0] [(0,1),(1,1),(2,1)] [false,false,false]⟩
theorem axc:dx prog 184 am5:=⟨awt,λzs h=>by cases h;exact avb,dL ar7 ⟨akW,akX,akY,trivial⟩ ⟨akZ,ak0,ak1,trivial⟩⟩
def am6:TI:=⟨1,false,some [.pointer none],.oth⟩
theorem axd:dx prog 193 am6:=⟨awu,λzs h=>by cases h;exact avc,trivial⟩
def am7:TI:=⟨1,false,some [.map none],.map 3 216 .i64⟩
theorem axe:dx prog 200 am7:=⟨ahV,λzs h=>by cases h;exact avd,lq⟩
def am8:TI:=⟨2,true,some [.map none,.map none],.struct [.map none,.map none] [(0,1),(1,1)] [false,false]⟩
theorem axf:dx prog 202 am8:=⟨awv,λzs h=>by cases h;exact ave,dL ar9 ⟨ak2,ak3,trivial⟩ ⟨ak4,ak5,trivial⟩⟩
def am9:TI:=⟨1,false,some [.map none],.map 3 3 .i64⟩
theorem axg:dx prog 204 am9:=⟨aww,λzs h=>by cases h;exact avf,qQ⟩
def ana:TI:=⟨1,false,some [.nilFunc],.oth⟩
theorem axh:dx prog 215 ana:=⟨awx,λzs h=>by cases h;exact avg,trivial⟩
def anb:TI:=⟨1,false,some [zS0],.slice 218 2 16 [zI0,zI0]⟩
theorem axi:dx prog 216 anb:=⟨awy,λzs h=>by cases h;exact avh,⟨awz,asa,asb⟩⟩
def anc:TI:=⟨2,true,some [zI0,zI0],.struct [zI0,zI0] [(0,1),(1,1)] [false,false]⟩
theorem axj:dx prog 218 anc:=⟨awA,λzs h=>by cases h;exact amC,dL asd ⟨ak6,ak7,trivial⟩ ⟨ak8,ak9,trivial⟩⟩
def ane:TI:=⟨1,false,some [.nilFunc],.oth⟩
theorem axk:dx prog 220 ane:=⟨awB,λzs h=>by cases h;exact avj,trivial⟩
def anf:TI:=⟨1,false,some [zI0],.int .i64⟩
theorem axl:dx prog 228 anf:=⟨awC,λzs h=>by cases h;exact avk,underlying228⟩
def ang:TI:=⟨1,false,some [.int .u32 0],.int .u32⟩
theorem axm:dx prog 235 ang:=⟨awD,λzs h=>by cases h;exact avl,underlying235⟩
def tb:Tb:=[(2,ti2),(3,ti3),(4,ti4),(5,ti5),(6,ti6),(7,ti7),(8,ti8),(9,ti9),(10,atq),(11,atr),(12,att),(13,atu),(14,atv),(15,atw),(16,atx),(17,aty),(18,atz),(19,atA),(21,atB),(22,atC),(23,atD),(25,atE),(26,atF),(27,atG),(28,atH),(30,atI),(31,atJ),(32,atK),(34,atL),(35,atM),(36,atN),(37,atO),(38,atP),(40,atQ),(41,atS),(42,atT),(44,atU),(45,atV),(46,atW),(47,atX),(52,atY),(54,atZ),(61,at0),(63,at1),(67,at3),(70,at4),(71,at5),(72,at6),(74,at7),(78,at8),(81,at9),(89,aua),(96,aub),(100,amK),(115,amL),(117,amM),(118,amN),(130,amO),(136,amP),(141,amQ),(143,amR),(146,amS),(147,amT),(152,amU),(154,amV),(155,amW),(157,amX),(159,amY),(168,amZ),(170,am0),(172,am1),(173,am2),(177,am3),(178,am4),(184,am5),(193,am6),(200,am7),(202,am8),(204,am9),(215,ana),(216,anb),(218,anc),(220,ane),(228,anf),(235,ang)]
theorem W0:Wld prog tb:=⟨hmix,⟨tk2,tk3,tk4,tk5,tk6,tk7,tk8,tk9,tk10,tk11,tk12,tk13,tk14,tk15,tk16,tk17,tk18,tk19,tk21,tk22,tk23,tk25,tk26,tk27,tk28,tk30,tk31,tk32,tk34,tk35,tk36,tk37,tk38,tk40,tk41,tk42,tk44,tk45,tk46,tk47,tk52,tk54,tk61,tk63,tk67,tk70,tk71,tk72,tk74,tk78,tk81,tk89,tk96,awR,awS,awT,awU,awV,awW,awX,awY,awZ,aw0,aw1,aw2,aw3,aw4,aw5,aw6,aw7,aw8,aw9,axa,axb,axc,axd,axe,axf,axg,axh,axi,axj,axk,axl,axm,trivial⟩⟩
theorem ck9:aP prog 9:=⟨call9⟩
theorem ck10:aP prog 10:=⟨call10⟩
theorem qB:aP prog 12:=⟨call12⟩
theorem ck14:aP prog 14:=⟨call14⟩
theorem auc:aP prog 15:=⟨call15⟩
theorem xC:aP prog 16:=⟨call16⟩
theorem alx:aP prog 18:=⟨call18⟩
theorem aud:aP prog 19:=⟨call19⟩
theorem ck21:aP prog 21:=⟨call21⟩
theorem aly:aP prog 22:=⟨call22⟩
theorem ck25:aP prog 25:=⟨call25⟩
theorem ck26:aP prog 26:=⟨call26⟩
theorem afT:aP prog 27:=⟨call27⟩
theorem ck35:aP prog 35:=⟨call35⟩
theorem ck36:aP prog 36:=⟨call36⟩
theorem alz:aP prog 37:=⟨call37⟩
theorem ck38:aP prog 38:=⟨call38⟩
theorem aih:aP prog 39:=⟨call39⟩
theorem ck40:aP prog 40:=⟨call40⟩
theorem afU:aP prog 41:=⟨call41⟩
theorem ck43:aP prog 43:=⟨call43⟩
theorem aue:aP prog 45:=⟨call45⟩
theorem ck47:aP prog 47:=⟨call47⟩
theorem ck50:aP prog 50:=⟨call50⟩
theorem alA:aP prog 51:=⟨call51⟩
theorem ck52:aP prog 52:=⟨call52⟩
theorem ck53:aP prog 53:=⟨call53⟩
theorem aad:aP prog 54:=⟨call54⟩
theorem alB:aP prog 55:=⟨call55⟩
theorem auf:aP prog 56:=⟨call56⟩
theorem ck57:aP prog 57:=⟨call57⟩
theorem afV:aP prog 58:=⟨call58⟩
theorem qC:aP prog 59:=⟨call59⟩
theorem ck60:aP prog 60:=⟨call60⟩
theorem aug:aP prog 61:=⟨call61⟩
theorem auh:aP prog 62:=⟨call62⟩
theorem ab5:aP prog 63:=⟨call63⟩
theorem aui:aP prog 64:=⟨call64⟩
theorem auj:aP prog 66:=⟨call66⟩
theorem adI:aP prog 68:=⟨call68⟩
theorem afW:aP prog 69:=⟨call69⟩
theorem adJ:aP prog 70:=⟨call70⟩
theorem ck71:aP prog 71:=⟨call71⟩
theorem ck72:aP prog 72:=⟨call72⟩
theorem ck73:aP prog 73:=⟨call73⟩
theorem aii:aP prog 75:=⟨call75⟩
theorem ck76:aP prog 76:=⟨call76⟩
theorem ck77:aP prog 77:=⟨call77⟩
theorem ck78:aP prog 78:=⟨call78⟩
theorem ck79:aP prog 79:=⟨call79⟩
theorem ck80:aP prog 80:=⟨call80⟩
theorem auk:aP prog 81:=⟨call81⟩
theorem alC:aP prog 83:=⟨call83⟩
theorem ck84:aP prog 84:=⟨call84⟩
theorem alD:aP prog 89:=⟨call89⟩
theorem ab6:aP prog 90:=⟨call90⟩
theorem jH:aP prog 91:=⟨call91⟩
theorem adK:aP prog 92:=⟨call92⟩
theorem ck93:aP prog 93:=⟨call93⟩
theorem ck94:aP prog 94:=⟨call94⟩
theorem ab7:aP prog 95:=⟨call95⟩
theorem alF:aP prog 96:=⟨call96⟩
theorem aul:aP prog 97:=⟨call97⟩
theorem aum:aP prog 98:=⟨call98⟩
theorem alG:aP prog 99:=⟨call99⟩
theorem axn:aP prog 100:=⟨call100⟩
theorem axo:aP prog 101:=⟨call101⟩
theorem axp:aP prog 102:=⟨call102⟩
theorem anh:aP prog 103:=⟨call103⟩
theorem axq:aP prog 104:=⟨call104⟩
theorem ani:aP prog 105:=⟨call105⟩
theorem axr:aP prog 106:=⟨call106⟩
theorem anj:aP prog 107:=⟨call107⟩
theorem ank:aP prog 108:=⟨call108⟩
theorem axt:aP prog 109:=⟨call109⟩
theorem aij:aP prog 110:=⟨call110⟩
theorem yP:aP prog 111:=⟨call111⟩
theorem afg:aP prog 112:=⟨call112⟩
theorem gR:aP prog 118:=⟨call118⟩
theorem aa4:aP prog 119:=⟨call119⟩
theorem afh:aP prog 120:=⟨call120⟩
theorem aik:aP prog 121:=⟨call121⟩
theorem anl:aP prog 122:=⟨call122⟩
theorem axu:aP prog 123:=⟨call123⟩
theorem acY:aP prog 124:=⟨call124⟩
theorem axv:aP prog 125:=⟨call125⟩
theorem axw:aP prog 126:=⟨call126⟩
theorem axx:aP prog 127:=⟨call127⟩
theorem aa5:aP prog 129:=⟨call129⟩
theorem anm:aP prog 130:=⟨call130⟩
theorem axy:aP prog 131:=⟨call131⟩
theorem ail:aP prog 133:=⟨call133⟩
theorem axz:aP prog 134:=⟨call134⟩
theorem axA:aP prog 135:=⟨call135⟩
theorem afi:aP prog 136:=⟨call136⟩
theorem axB:aP prog 137:=⟨call137⟩
theorem axC:aP prog 138:=⟨call138⟩
theorem axD:aP prog 139:=⟨call139⟩
theorem axE:aP prog 140:=⟨call140⟩
theorem ann:aP prog 141:=⟨call141⟩
theorem axF:aP prog 142:=⟨call142⟩
theorem axG:aP prog 143:=⟨call143⟩
theorem axH:aP prog 144:=⟨call144⟩
theorem ano:aP prog 146:=⟨call146⟩
theorem axI:aP prog 150:=⟨call150⟩
theorem axJ:aP prog 151:=⟨call151⟩
theorem axK:aP prog 152:=⟨call152⟩
theorem axL:aP prog 153:=⟨call153⟩
theorem axM:aP prog 154:=⟨call154⟩
theorem axN:aP prog 155:=⟨call155⟩
theorem axO:aP prog 156:=⟨call156⟩
theorem axP:aP prog 157:=⟨call157⟩
theorem anp:aP prog 158:=⟨call158⟩
theorem anq:aP prog 159:=⟨call159⟩
theorem anr:aP prog 160:=⟨call160⟩
theorem axQ:aP prog 161:=⟨call161⟩
theorem axR:aP prog 163:=⟨call163⟩
theorem axS:aP prog 164:=⟨call164⟩
theorem ans:aP prog 165:=⟨call165⟩
theorem afj:aP prog 166:=⟨call166⟩
theorem axT:aP prog 168:=⟨call168⟩
theorem axU:aP prog 177:=⟨call177⟩
theorem qS{N:Nat}{ids:List Nat}{y:Code}{Q:Exit→Env→Sto→Prop}{env:Env}{σ:Sto}{id:Nat}{ops:Array Oper}{dr:Bool}(hs:List (Nat×Hint prog))(dw:Env)(σ2:Sto)(k:ah ⟨prog,N,ids⟩ y Q dw σ2)
  (h:yM tb N ids ops dr (lz ops dr hs).1 (lz ops dr hs).2 [] hs (s8 dw) σ2.ids env σ=some (dw,σ2,(lz ops dr hs).2.map λi=>(hintOf hs i).exp):=by kernel_rfl):ah ⟨prog,N,ids⟩ (.seq (.region id ops dr) y) Q env σ:=A.RS W0 [] hs dw σ2 h k
theorem qR{N:Nat}{ids:List Nat}{Q:Exit→Env→Sto→Prop}{env:Env}{σ:Sto}{id:Nat}{ops:Array Oper}{dr:Bool}(hs:List (Nat×Hint prog))(dw:Env)(σ2:Sto)(k:Q .normal dw σ2)
  (h:yM tb N ids ops dr (lz ops dr hs).1 (lz ops dr hs).2 [] hs (s8 dw) σ2.ids env σ=some (dw,σ2,(lz ops dr hs).2.map λi=>(hintOf hs i).exp):=by kernel_rfl):ah ⟨prog,N,ids⟩ (.region id ops dr) Q env σ:=A.R W0 [] hs dw σ2 h k
def aun(n:Nat):List Nat→Bool
 |[]=>false
 |k::r=>bif Nat.beq k n then true else aun n r
def oq{α:Type}(ks:List Nat)(new:List (Nat×α)):List (Nat×α)→List (Nat×α)
 |[]=>new
 |p::l=>bif aun p.1 ks then oq ks new l else p::oq ks new l
section
variable {N:Nat}{ids:List Nat}{y:Code}{Q:Exit→Env→Sto→Prop}{env:Env}{σ:Sto}{id:Nat}{ops:Array Oper}{dr:Bool}(hs:List (Nat×Hint prog))(ks:List Nat)(new:Env)(js:List Nat)(nws:Sto)
theorem qD(k:ah ⟨prog,N,ids⟩ y Q (oq ks new env) (oq js nws σ))
  (h:yM tb N ids ops dr (lz ops dr hs).1 (lz ops dr hs).2 [] hs (s8 (oq ks new env)) (Sto.ids (oq js nws σ)) env σ=some (oq ks new env,oq js nws σ,(lz ops dr hs).2.map λi=>(hintOf hs i).exp):=by kernel_rfl):ah ⟨prog,N,ids⟩ (.seq (.region id ops dr) y) Q env σ:=A.RS W0 [] hs _ _ h k
theorem qDs(k:ah ⟨prog,N,ids⟩ y Q (oq ks new env) σ)
  (h:yM tb N ids ops dr (lz ops dr hs).1 (lz ops dr hs).2 [] hs (s8 (oq ks new env)) σ.ids env σ=some (oq ks new env,σ,(lz ops dr hs).2.map λi=>(hintOf hs i).exp):=by kernel_rfl):ah ⟨prog,N,ids⟩ (.seq (.region id ops dr) y) Q env σ:=A.RS W0 [] hs _ _ h k
theorem qG(k:Q .normal (oq ks new env) (oq js nws σ))
  (h:yM tb N ids ops dr (lz ops dr hs).1 (lz ops dr hs).2 [] hs (s8 (oq ks new env)) (Sto.ids (oq js nws σ)) env σ=some (oq ks new env,oq js nws σ,(lz ops dr hs).2.map λi=>(hintOf hs i).exp):=by kernel_rfl):ah ⟨prog,N,ids⟩ (.region id ops dr) Q env σ:=A.R W0 [] hs _ _ h k
theorem qGs(k:Q .normal (oq ks new env) σ)
  (h:yM tb N ids ops dr (lz ops dr hs).1 (lz ops dr hs).2 [] hs (s8 (oq ks new env)) σ.ids env σ=some (oq ks new env,σ,(lz ops dr hs).2.map λi=>(hintOf hs i).exp):=by kernel_rfl):ah ⟨prog,N,ids⟩ (.region id ops dr) Q env σ:=A.R W0 [] hs _ _ h k
end
theorem qE{N:Nat}{ids:List Nat}{fn:Func}{env:Env}{σ σ2:Sto}{R:AV}(h:aln tb ids [] σ2.ids fn.results.toList env σ=some (R,σ2):=by kernel_rfl):
  ah7 ⟨prog,N,ids⟩ fn (λa σ'=>a=R∧σ'=σ2) .ret env σ:=A.fin W0 [] rfl h
variable {G:Gl}
theorem qW{env dw:Env}{σ σ2:Sto}(h:acQ G.ids [] [] (s8 dw) σ2.ids env σ=some (dw,σ2):=by kernel_rfl):bt G env σ dw σ2:=bt.go [] [] h
theorem qX{α ρ:Type}{J:α→Option ρ}{r:ρ}{env:Env}{σ:Sto}{eZ:α→Env}{gr:α→Sto}(g:α)(hg:J g=some r)(h:acQ G.ids [] [] (s8 (eZ g)) (gr g).ids env σ=some (eZ g,gr g):=by kernel_rfl):
  ∃g,J g=some r∧bt G env σ (eZ g) (gr g):=⟨g,hg,bt.go [] [] h⟩
variable {o:Operand}
theorem qT{p:Bool}{x y:Code}{Q:Exit→Env→Sto→Prop}{env:Env}{σ:Sto}(hp:p=true)(k:ah G x Q env σ)(hc:env.evo o=some (.bool p):=by kernel_rfl):ah G (.cond o x y) Q env σ:=A.cT hc hp k
theorem qF{p:Bool}{x y:Code}{Q:Exit→Env→Sto→Prop}{env:Env}{σ:Sto}(hp:p=false)(k:ah G y Q env σ)(hc:env.evo o=some (.bool p):=by kernel_rfl):ah G (.cond o x y) Q env σ:=A.cF hc hp k
abbrev i6(n:Int):AV:=.int .i64 n
abbrev lf{α:Type}(e:En α)(l:List α):AV:=.lst false (ml e l)
abbrev k0(x:aQ):List AV:=[.int .i64 x.ID,.bool x.aa3]
abbrev k1(x:aW):List AV:=[.int .i64 x.A,.int .i64 x.B,.int .i64 x.iK,.int .i64 x.iL,.int .i64 x.oQ]
abbrev k2(x:aa):List AV:=[.lst false (ml aI x.aj),.lst false (ml aT x.Links)]
abbrev k3(x:aV):List AV:=[.int .i64 x.bx,.int .i64 x.To]
abbrev k4(x:bF):List AV:=[.lst false (ml bJ x.Links),.lst false (ml aA x.aj)]
abbrev k5(x:ay):List AV:=[.int .i64 x.Bit,.int .i64 x.aK,.int .i64 x.Kind,.int .i64 x.To]
abbrev k6(x:bL):List AV:=[.lst false (ml aA x.L),.int .i64 x.At]
abbrev k7(x:aC):List AV:=[.int .i64 x.Length,.lst false (ml aB x.List)]
abbrev k8(x:dY):List AV:=[.int .i64 x.dS,.lst false (ml bJ x.Links)]
abbrev k9(x:aG):List AV:=[.int .i64 x.to_,.int .i64 x.gp]
abbrev k10(x:aH):List AV:=[.int .i64 x.Mode,.int .i64 x.bU,.int .i64 x.Set,.int .i64 x.Length,.int .i64 x.TTL,.int .i64 x.cR,.int .i64 x.cS,.int .i64 x.dV,.int .u64 x.Bits,.str x.cu]
abbrev k11(x:bg):List AV:=[.int .i64 x.To,.lst false (ml aA x.Frame.gZ),.int .i64 x.Frame.aq.Mode,.int .i64 x.Frame.aq.bU,.int .i64 x.Frame.aq.Set,.int .i64 x.Frame.aq.Length,.int .i64 x.Frame.aq.TTL,.int .i64 x.Frame.aq.cR,.int .i64 x.Frame.aq.cS,.int .i64 x.Frame.aq.dV,.int .u64 x.Frame.aq.Bits,.str x.Frame.aq.cu]
abbrev k12(x:cG):List AV:=[.int .u64 x.Local,.int .u64 x.jF,.lst false (ml dn x.bY)]
abbrev k13(y0:Int)(y1:aH):List AV:=[.int .i64 y0,.int .i64 y1.Mode,.int .i64 y1.bU,.int .i64 y1.Set,.int .i64 y1.Length,.int .i64 y1.TTL,.int .i64 y1.cR,.int .i64 y1.cS,.int .i64 y1.dV,.int .u64 y1.Bits,.str y1.cu]
abbrev k14(x:cC):List AV:=[.lst false (ml cO x.cK),.lst false (ml dz x.cn),.lst false (ml fc x.dP)]
abbrev k15(x:bh):List AV:=[.int .i64 x.cm,.lst false (ml aA x.dA.gZ),.int .i64 x.dA.aq.Mode,.int .i64 x.dA.aq.bU,.int .i64 x.dA.aq.Set,.int .i64 x.dA.aq.Length,.int .i64 x.dA.aq.TTL,.int .i64 x.dA.aq.cR,.int .i64 x.dA.aq.cS,.int .i64 x.dA.aq.dV,.int .u64 x.dA.aq.Bits,.str x.dA.aq.cu]
end Go.Proofs.YtdjeacigeegklaaGreat
