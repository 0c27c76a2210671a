/- The data of the program, as Lean data, and what is known of its types. No condition but bB aX stand in each. -/
import Derived.Test.YtdjeacigeegklaaGreatF
import Derived.Test.YtdjeacigeegklaaGreatBA
import Derived.LoopN
import Derived.Test.YtdjeacigeegklaaGreatAC
namespace Go.Proofs.YtdjeacigeegklaaGreat
open Go Go.Proofs.Tryz
set_option maxRecDepth 100000
set_option linter.all false
structure aM where
 ID:Int
 xY:Bool
instance:Inhabited aM:=⟨aM.mk (0:Int) false⟩
def aJ:En aM:=⟨λx=>[.int .i64 x.ID,.bool x.xY],2,λ_=>rfl,λ_=>rfl,λ_=>rfl⟩
structure bA where
 A:Int
 B:Int
 iC:Int
 iD:Int
 mj:Int
instance:Inhabited bA:=⟨bA.mk (0:Int) (0:Int) (0:Int) (0:Int) (0:Int)⟩
def bR:En bA:=⟨λx=>[.int .i64 x.A,.int .i64 x.B,.int .i64 x.iC,.int .i64 x.iD,.int .i64 x.mj],5,λ_=>rfl,λ_=>rfl,λ_=>rfl⟩
structure aa where
 aq:List aM
 Links:List bA
instance:Inhabited aa:=⟨aa.mk [] []⟩
structure cw where
 ez:Int
 To:Int
instance:Inhabited cw:=⟨cw.mk (0:Int) (0:Int)⟩
def dH:En cw:=⟨λx=>[.int .i64 x.ez,.int .i64 x.To],2,λ_=>rfl,λ_=>rfl,λ_=>rfl⟩
def kO(a b:cw):Bool:=decide (a.ez=b.ez)&&(decide (a.To=b.To)&&true)
structure dO where
 Links:List cw
 aq:List Int
instance:Inhabited dO:=⟨dO.mk [] []⟩
structure aj where
 Bit:Int
 bx:Int
 Kind:Int
 To:Int
instance:Inhabited aj:=⟨aj.mk (0:Int) (0:Int) (0:Int) (0:Int)⟩
def ak:En aj:=⟨λx=>[.int .i64 x.Bit,.int .i64 x.bx,.int .i64 x.Kind,.int .i64 x.To],4,λ_=>rfl,λ_=>rfl,λ_=>rfl⟩
structure aZ where
 L:List Int
 At:Int
instance:Inhabited aZ:=⟨aZ.mk [] (0:Int)⟩
structure aK where
 Length:Int
 List:List aj
instance:Inhabited aK:=⟨aK.mk (0:Int) []⟩
structure mm where
 nq:Int
 Links:List cw
instance:Inhabited mm:=⟨mm.mk (0:Int) []⟩
structure cr where
 oL:Int
 xZ:Int
 to_:Int
instance:Inhabited cr:=⟨cr.mk (0:Int) (0:Int) (0:Int)⟩
def ja:En cr:=⟨λx=>[.int .i64 x.oL,.int .i64 x.xZ,.int .i64 x.to_],3,λ_=>rfl,λ_=>rfl,λ_=>rfl⟩
def dx(a b:cr):Bool:=decide (a.oL=b.oL)&&(decide (a.xZ=b.xZ)&&(decide (a.to_=b.to_)&&true))
structure aB where
 to_:Int
 fe:Int
instance:Inhabited aB:=⟨aB.mk (0:Int) (0:Int)⟩
def aA:En aB:=⟨λx=>[.int .i64 x.to_,.int .i64 x.fe],2,λ_=>rfl,λ_=>rfl,λ_=>rfl⟩
structure eO where
 lB:List (Int×List aB)
 in_:List (Int×List aB)
instance:Inhabited eO:=⟨eO.mk [] []⟩
structure aT where
 Mode:Int
 cA:Int
 Set:Int
 Length:Int
 TTL:Int
 cZ:Int
 de:Int
 eE:Int
 Bits:Int
 cS:ByteArray
instance:Inhabited aT:=⟨aT.mk (0:Int) (0:Int) (0:Int) (0:Int) (0:Int) (0:Int) (0:Int) (0:Int) (0:Int) (⟨#[]⟩)⟩
def jO(a b:aT):Bool:=decide (a.Mode=b.Mode)&&(decide (a.cA=b.cA)&&(decide (a.Set=b.Set)&&(decide (a.Length=b.Length)&&(decide (a.TTL=b.TTL)&&(decide (a.cZ=b.cZ)&&(decide (a.de=b.de)&&(decide (a.eE=b.eE)&&(decide (a.Bits=b.Bits)&&((a.cS.toList==b.cS.toList)&&true)))))))))
structure gG where
 eF:List Int
 aI:aT
instance:Inhabited gG:=⟨gG.mk [] (aT.mk (0:Int) (0:Int) (0:Int) (0:Int) (0:Int) (0:Int) (0:Int) (0:Int) (0:Int) ⟨#[]⟩)⟩
structure bp where
 To:Int
 Frame:gG
instance:Inhabited bp:=⟨bp.mk (0:Int) (gG.mk [] (aT.mk (0:Int) (0:Int) (0:Int) (0:Int) (0:Int) (0:Int) (0:Int) (0:Int) (0:Int) ⟨#[]⟩))⟩
def cm:En bp:=⟨λx=>[.int .i64 x.To,.lst false (ml aF x.Frame.eF),.int .i64 x.Frame.aI.Mode,.int .i64 x.Frame.aI.cA,.int .i64 x.Frame.aI.Set,.int .i64 x.Frame.aI.Length,.int .i64 x.Frame.aI.TTL,.int .i64 x.Frame.aI.cZ,.int .i64 x.Frame.aI.de,.int .i64 x.Frame.aI.eE,.int .u64 x.Frame.aI.Bits,.str x.Frame.aI.cS],12,λ_=>rfl,λ_=>rfl,λ_=>rfl⟩
structure bQ where
 Local:Int
 lQ:Int
 bu:List bp
instance:Inhabited bQ:=⟨bQ.mk (0:Int) (0:Int) []⟩
structure cc where
 abO:aj
 copy_:bp
instance:Inhabited cc:=⟨cc.mk (aj.mk (0:Int) (0:Int) (0:Int) (0:Int)) (bp.mk (0:Int) (gG.mk [] (aT.mk (0:Int) (0:Int) (0:Int) (0:Int) (0:Int) (0:Int) (0:Int) (0:Int) (0:Int) ⟨#[]⟩)))⟩
def gj:En cc:=⟨λx=>[.int .i64 x.abO.Bit,.int .i64 x.abO.bx,.int .i64 x.abO.Kind,.int .i64 x.abO.To,.int .i64 x.copy_.To,.lst false (ml aF x.copy_.Frame.eF),.int .i64 x.copy_.Frame.aI.Mode,.int .i64 x.copy_.Frame.aI.cA,.int .i64 x.copy_.Frame.aI.Set,.int .i64 x.copy_.Frame.aI.Length,.int .i64 x.copy_.Frame.aI.TTL,.int .i64 x.copy_.Frame.aI.cZ,.int .i64 x.copy_.Frame.aI.de,.int .i64 x.copy_.Frame.aI.eE,.int .u64 x.copy_.Frame.aI.Bits,.str x.copy_.Frame.aI.cS],16,λ_=>rfl,λ_=>rfl,λ_=>rfl⟩
structure xe where
 bx:Int
 aI:aT
instance:Inhabited xe:=⟨xe.mk (0:Int) (aT.mk (0:Int) (0:Int) (0:Int) (0:Int) (0:Int) (0:Int) (0:Int) (0:Int) (0:Int) ⟨#[]⟩)⟩
structure xg where
 ez:Int
 To:Int
 Bits:Int
instance:Inhabited xg:=⟨xg.mk (0:Int) (0:Int) (0:Int)⟩
structure aeR where
 bx:Int
 Bits:Int
instance:Inhabited aeR:=⟨aeR.mk (0:Int) (0:Int)⟩
structure zY where
 Deliveries:List xe
 Crossings:List xg
 Losses:List aeR
instance:Inhabited zY:=⟨zY.mk [] [] []⟩
structure rT where
 oL:Int
 packet_:aT
instance:Inhabited rT:=⟨rT.mk (0:Int) (aT.mk (0:Int) (0:Int) (0:Int) (0:Int) (0:Int) (0:Int) (0:Int) (0:Int) (0:Int) ⟨#[]⟩)⟩
structure abm where
 bx:Int
 aI:aT
instance:Inhabited abm:=⟨abm.mk (0:Int) (aT.mk (0:Int) (0:Int) (0:Int) (0:Int) (0:Int) (0:Int) (0:Int) (0:Int) (0:Int) ⟨#[]⟩)⟩
structure tj where
 oL:Int
 frame_:gG
instance:Inhabited tj:=⟨tj.mk (0:Int) (gG.mk [] (aT.mk (0:Int) (0:Int) (0:Int) (0:Int) (0:Int) (0:Int) (0:Int) (0:Int) (0:Int) ⟨#[]⟩))⟩
structure wq where
 engine_:aK
 before_:aa
 left_:aa
 failure_:dO
 trace_:zY
 queue_:List tj
instance:Inhabited wq:=⟨wq.mk (aK.mk (0:Int) []) (aa.mk [] []) (aa.mk [] []) (dO.mk [] []) (zY.mk [] [] []) []⟩
structure yz where
 bx:Int
 Frame:gG
instance:Inhabited yz:=⟨yz.mk (0:Int) (gG.mk [] (aT.mk (0:Int) (0:Int) (0:Int) (0:Int) (0:Int) (0:Int) (0:Int) (0:Int) (0:Int) ⟨#[]⟩))⟩
structure bU where
 E0:Int
 E1:Int
instance:Inhabited bU:=⟨bU.mk (0:Int) (0:Int)⟩
def sv:En bU:=⟨λx=>[.int .i64 x.E0,.int .i64 x.E1],2,λ_=>rfl,λ_=>rfl,λ_=>rfl⟩
def ti2:TI:=⟨1,false,some [zI0],.int .i64⟩
theorem tk2:bF prog 2 ti2:=⟨ty2,λzs h=>by cases h;exact ze2,underlying2⟩
def ti3:TI:=⟨1,false,some [zI0],.int .i64⟩
theorem tk3:bF prog 3 ti3:=⟨ty3,λzs h=>by cases h;exact ze3,underlying3⟩
def ti4:TI:=⟨1,false,some [.bool false],.bool⟩
theorem tk4:bF prog 4 ti4:=⟨ty4,λzs h=>by cases h;exact ze4,underlying4⟩
def ti5:TI:=⟨1,false,some [.int .u8 0],.int .u8⟩
theorem tk5:bF prog 5 ti5:=⟨ty5,λzs h=>by cases h;exact ze5,underlying5⟩
def ti6:TI:=⟨1,false,some [.int .u8 0],.int .u8⟩
theorem tk6:bF prog 6 ti6:=⟨ty6,λzs h=>by cases h;exact ze6,underlying6⟩
def ti7:TI:=⟨4,true,some [zI0,zI0,.bool false,.int .u8 0],.struct [zI0,zI0,.bool false,.int .u8 0] [(0,1),(1,1),(2,1),(3,1)] [false,false,false,false]⟩
theorem tk7:bF prog 7 ti7:=⟨ty7,λzs h=>by cases h;exact ze7,bK str7 ⟨aqC,aqD,aqE,aqF,trivial⟩ ⟨aqG,aqH,aqI,aqJ,trivial⟩⟩
def ti8:TI:=⟨4,true,some [zI0,zI0,.bool false,.int .u8 0],.struct [zI0,zI0,.bool false,.int .u8 0] [(0,1),(1,1),(2,1),(3,1)] [false,false,false,false]⟩
theorem tk8:bF prog 8 ti8:=⟨ty8,λzs h=>by cases h;exact ze8,bK str8 ⟨aqK,aqL,aqM,aqN,trivial⟩ ⟨aqO,aqP,aqQ,aqR,trivial⟩⟩
def ti9:TI:=⟨1,false,some [.string ⟨#[]⟩],.str⟩
theorem tk9:bF prog 9 ti9:=⟨ty9,λzs h=>by cases h;exact ze9,underlying9⟩
def asW:TI:=⟨1,false,some [.string ⟨#[]⟩],.str⟩
theorem tk10:bF prog 10 asW:=⟨ty10,λzs h=>by cases h;exact ze10,underlying10⟩
def asX:TI:=⟨1,false,some [.string ⟨#[]⟩],.str⟩
theorem tk11:bF prog 11 asX:=⟨ty11,λzs h=>by cases h;exact ze11,underlying11⟩
def asY:TI:=⟨1,false,some [.int .u64 0],.int .u64⟩
theorem tk12:bF prog 12 asY:=⟨yO,λzs h=>by cases h;exact ze12,underlying12⟩
def asZ:TI:=⟨2,true,some [.string ⟨#[]⟩,.int .u64 0],.struct [.string ⟨#[]⟩,.int .u64 0] [(0,1),(1,1)] [false,false]⟩
theorem tk13:bF prog 13 asZ:=⟨ty13,λzs h=>by cases h;exact ze13,bK avt ⟨ami,amj,trivial⟩ ⟨amk,aml,trivial⟩⟩
def as0:TI:=⟨2,true,some [.string ⟨#[]⟩,.int .u64 0],.struct [.string ⟨#[]⟩,.int .u64 0] [(0,1),(1,1)] [false,false]⟩
theorem tk14:bF prog 14 as0:=⟨ty14,λzs h=>by cases h;exact ze14,bK avu ⟨amm,amn,trivial⟩ ⟨amo,amp,trivial⟩⟩
def as1:TI:=⟨1,false,some [.pointer none],.oth⟩
theorem tk15:bF prog 15 as1:=⟨ty15,λzs h=>by cases h;exact ze15,trivial⟩
def as2:TI:=⟨1,false,some [.pointer none],.oth⟩
theorem tk16:bF prog 16 as2:=⟨ty16,λzs h=>by cases h;exact ze16,trivial⟩
def as3:TI:=⟨1,false,some [.pointer none],.oth⟩
theorem tk17:bF prog 17 as3:=⟨vv,λzs h=>by cases h;exact ze17,trivial⟩
def as4:TI:=⟨1,true,some [.pointer none],.struct [.pointer none] [(0,1)] [false]⟩
theorem tk18:bF prog 18 as4:=⟨ty18,λzs h=>by cases h;exact ze18,bK avv ⟨amq,trivial⟩ ⟨amr,trivial⟩⟩
def as5:TI:=⟨1,true,some [.pointer none],.struct [.pointer none] [(0,1)] [false]⟩
theorem tk19:bF prog 19 as5:=⟨ty19,λzs h=>by cases h;exact ze19,bK avw ⟨ams,trivial⟩ ⟨amt,trivial⟩⟩
def as6:TI:=⟨1,false,some [.int .i32 0],.int .i32⟩
theorem tk21:bF prog 21 as6:=⟨ty21,λzs h=>by cases h;exact ze21,underlying21⟩
def as7:TI:=⟨1,false,some [zS0],.slice 3 1 8 [zI0]⟩
theorem tk22:bF prog 22 as7:=⟨yP,λzs h=>by cases h;exact aqp,⟨sl22,akG,avx⟩⟩
def as8:TI:=⟨1,false,some [.pointer none],.oth⟩
theorem tk23:bF prog 23 as8:=⟨ty23,λzs h=>by cases h;exact ze23,trivial⟩
def as9:TI:=⟨1,false,some [zS0],.slice 42 2 16 [zI0,.bool false]⟩
theorem tk25:bF prog 25 as9:=⟨agB,λzs h=>by cases h;exact ze25,⟨sl25,avy,avz⟩⟩
def ata:TI:=⟨1,false,some [zS0],.slice 89 5 40 [zI0,zI0,zI0,zI0,zI0]⟩
theorem tk26:bF prog 26 ata:=⟨agC,λzs h=>by cases h;exact ze26,⟨sl26,avA,avB⟩⟩
def atb:TI:=⟨2,true,some [zS0,zS0],.struct [zS0,zS0] [(0,1),(1,1)] [false,false]⟩
theorem tk27:bF prog 27 atb:=⟨ty27,λzs h=>by cases h;exact ze27,bK avC ⟨amu,amv,trivial⟩ ⟨amw,amx,trivial⟩⟩
def atc:TI:=⟨2,true,some [zS0,zS0],.struct [zS0,zS0] [(0,1),(1,1)] [false,false]⟩
theorem tk28:bF prog 28 atc:=⟨aci,λzs h=>by cases h;exact aqq,bK avD ⟨amy,amz,trivial⟩ ⟨amA,amB,trivial⟩⟩
def atd:TI:=⟨1,false,some [zS0],.slice 38 4 32 [zI0,zI0,zI0,zI0]⟩
theorem tk30:bF prog 30 atd:=⟨agD,λzs h=>by cases h;exact ze30,⟨aqS,avE,avF⟩⟩
def ate:TI:=⟨2,true,some [zI0,zS0],.struct [zI0,zS0] [(0,1),(1,1)] [false,false]⟩
theorem tk31:bF prog 31 ate:=⟨ty31,λzs h=>by cases h;exact ze31,bK avG ⟨amC,amD,trivial⟩ ⟨amE,amF,trivial⟩⟩
def atf:TI:=⟨2,true,some [zI0,zS0],.struct [zI0,zS0] [(0,1),(1,1)] [false,false]⟩
theorem tk32:bF prog 32 atf:=⟨agE,λzs h=>by cases h;exact aqr,bK avH ⟨amG,amH,trivial⟩ ⟨amI,amJ,trivial⟩⟩
def atg:TI:=⟨1,false,some [.int .u64 0],.int .u64⟩
theorem tk34:bF prog 34 atg:=⟨s8,λzs h=>by cases h;exact ze34,underlying34⟩
def ath:TI:=⟨10,true,some [zI0,zI0,zI0,zI0,zI0,zI0,zI0,zI0,.int .u64 0,.string ⟨#[]⟩],.struct [zI0,zI0,zI0,zI0,zI0,zI0,zI0,zI0,.int .u64 0,.string ⟨#[]⟩] [(0,1),(1,1),(2,1),(3,1),(4,1),(5,1),(6,1),(7,1),(8,1),(9,1)] [false,false,false,false,false,false,false,false,false,false]⟩
theorem tk35:bF prog 35 ath:=⟨ty35,λzs h=>by cases h;exact ze35,bK avI ⟨amK,amL,amM,amN,amO,amP,amQ,amR,amS,amT,trivial⟩ ⟨amU,amV,amW,amX,amY,amZ,am0,am1,am2,am3,trivial⟩⟩
def ati:TI:=⟨10,true,some [zI0,zI0,zI0,zI0,zI0,zI0,zI0,zI0,.int .u64 0,.string ⟨#[]⟩],.struct [zI0,zI0,zI0,zI0,zI0,zI0,zI0,zI0,.int .u64 0,.string ⟨#[]⟩] [(0,1),(1,1),(2,1),(3,1),(4,1),(5,1),(6,1),(7,1),(8,1),(9,1)] [false,false,false,false,false,false,false,false,false,false]⟩
theorem tk36:bF prog 36 ati:=⟨wR,λzs h=>by cases h;exact aqs,bK avJ ⟨am4,am5,am6,am7,am8,am9,ana,anb,anc,ane,trivial⟩ ⟨anf,ang,anh,ani,anj,ank,anl,anm,ann,ano,trivial⟩⟩
def atj:TI:=⟨4,true,some [zI0,zI0,zI0,zI0],.struct [zI0,zI0,zI0,zI0] [(0,1),(1,1),(2,1),(3,1)] [false,false,false,false]⟩
theorem tk37:bF prog 37 atj:=⟨ty37,λzs h=>by cases h;exact ze37,bK avL ⟨anp,anq,anr,ans,trivial⟩ ⟨ant,anu,anv,anw,trivial⟩⟩
def atk:TI:=⟨4,true,some [zI0,zI0,zI0,zI0],.struct [zI0,zI0,zI0,zI0] [(0,1),(1,1),(2,1),(3,1)] [false,false,false,false]⟩
theorem tk38:bF prog 38 atk:=⟨agF,λzs h=>by cases h;exact aqt,bK avM ⟨anx,anz,anA,anB,trivial⟩ ⟨anC,anD,anE,anG,trivial⟩⟩
def atl:TI:=⟨1,false,some [.int .u64 0],.int .u64⟩
theorem tk40:bF prog 40 atl:=⟨ty40,λzs h=>by cases h;exact ze40,underlying40⟩
def atm:TI:=⟨2,true,some [zI0,.bool false],.struct [zI0,.bool false] [(0,1),(1,1)] [false,false]⟩
theorem tk41:bF prog 41 atm:=⟨ty41,λzs h=>by cases h;exact ze41,bK avN ⟨anH,anI,trivial⟩ ⟨anJ,anK,trivial⟩⟩
def atn:TI:=⟨2,true,some [zI0,.bool false],.struct [zI0,.bool false] [(0,1),(1,1)] [false,false]⟩
theorem tk42:bF prog 42 atn:=⟨ty42,λzs h=>by cases h;exact aqu,bK avO ⟨anL,anM,trivial⟩ ⟨anN,anO,trivial⟩⟩
def ato:TI:=⟨1,false,some [zS0],.slice 54 12 120 [zI0,zS0,zI0,zI0,zI0,zI0,zI0,zI0,zI0,zI0,.int .u64 0,.string ⟨#[]⟩]⟩
theorem tk44:bF prog 44 ato:=⟨agG,λzs h=>by cases h;exact ze44,⟨sl44,avP,avQ⟩⟩
def atp:TI:=⟨3,true,some [.int .u64 0,.int .u64 0,zS0],.struct [.int .u64 0,.int .u64 0,zS0] [(0,1),(1,1),(2,1)] [false,false,false]⟩
theorem tk45:bF prog 45 atp:=⟨ty45,λzs h=>by cases h;exact ze45,bK avR ⟨anP,anQ,anR,trivial⟩ ⟨anS,anT,anU,trivial⟩⟩
def atq:TI:=⟨3,true,some [.int .u64 0,.int .u64 0,zS0],.struct [.int .u64 0,.int .u64 0,zS0] [(0,1),(1,1),(2,1)] [false,false,false]⟩
theorem tk46:bF prog 46 atq:=⟨ty46,λzs h=>by cases h;exact ze46,bK avS ⟨anV,anW,anX,trivial⟩ ⟨anY,anZ,an0,trivial⟩⟩
def atr:TI:=⟨1,false,some [zI0],.int .i64⟩
theorem tk47:bF prog 47 atr:=⟨ty47,λzs h=>by cases h;exact aqv,underlying47⟩
def att:TI:=⟨11,true,some [zS0,zI0,zI0,zI0,zI0,zI0,zI0,zI0,zI0,.int .u64 0,.string ⟨#[]⟩],.struct [zS0,zI0,zI0,zI0,zI0,zI0,zI0,zI0,zI0,.int .u64 0,.string ⟨#[]⟩] [(0,1),(1,10)] [false,true]⟩
theorem tk51:bF prog 51 att:=⟨ty51,λzs h=>by cases h;exact ze51,bK avT ⟨an1,an2,trivial⟩ ⟨an3,an4,trivial⟩⟩
def atu:TI:=⟨11,true,some [zS0,zI0,zI0,zI0,zI0,zI0,zI0,zI0,zI0,.int .u64 0,.string ⟨#[]⟩],.struct [zS0,zI0,zI0,zI0,zI0,zI0,zI0,zI0,zI0,.int .u64 0,.string ⟨#[]⟩] [(0,1),(1,10)] [false,true]⟩
theorem tk52:bF prog 52 atu:=⟨yQ,λzs h=>by cases h;exact ze52,bK avU ⟨an5,an6,trivial⟩ ⟨an7,an8,trivial⟩⟩
def atv:TI:=⟨12,true,some [zI0,zS0,zI0,zI0,zI0,zI0,zI0,zI0,zI0,zI0,.int .u64 0,.string ⟨#[]⟩],.struct [zI0,zS0,zI0,zI0,zI0,zI0,zI0,zI0,zI0,zI0,.int .u64 0,.string ⟨#[]⟩] [(0,1),(1,11)] [false,true]⟩
theorem tk53:bF prog 53 atv:=⟨ty53,λzs h=>by cases h;exact ze53,bK avV ⟨an9,aoa,trivial⟩ ⟨aob,aoc,trivial⟩⟩
def atw:TI:=⟨12,true,some [zI0,zS0,zI0,zI0,zI0,zI0,zI0,zI0,zI0,zI0,.int .u64 0,.string ⟨#[]⟩],.struct [zI0,zS0,zI0,zI0,zI0,zI0,zI0,zI0,zI0,zI0,.int .u64 0,.string ⟨#[]⟩] [(0,1),(1,11)] [false,true]⟩
theorem tk54:bF prog 54 atw:=⟨agH,λzs h=>by cases h;exact aqw,bK avW ⟨aod,aoe,trivial⟩ ⟨aof,aog,trivial⟩⟩
def atx:TI:=⟨1,false,some [zS0],.slice 67 2 16 [zI0,zI0]⟩
theorem tk61:bF prog 61 atx:=⟨ack,λzs h=>by cases h;exact ze61,⟨sl61,avX,avY⟩⟩
def aty:TI:=⟨2,true,some [zI0,zS0],.struct [zI0,zS0] [(0,1),(1,1)] [false,false]⟩
theorem tk62:bF prog 62 aty:=⟨ty62,λzs h=>by cases h;exact ze62,bK avZ ⟨aoh,aoi,trivial⟩ ⟨aoj,aok,trivial⟩⟩
def atz:TI:=⟨2,true,some [zI0,zS0],.struct [zI0,zS0] [(0,1),(1,1)] [false,false]⟩
theorem tk63:bF prog 63 atz:=⟨ty63,λzs h=>by cases h;exact aqx,bK av0 ⟨aol,aom,trivial⟩ ⟨aon,aoo,trivial⟩⟩
def atA:TI:=⟨2,true,some [zI0,zI0],.struct [zI0,zI0] [(0,1),(1,1)] [false,false]⟩
theorem tk66:bF prog 66 atA:=⟨ty66,λzs h=>by cases h;exact ze66,bK av2 ⟨aop,aoq,trivial⟩ ⟨aor,aos,trivial⟩⟩
def atB:TI:=⟨2,true,some [zI0,zI0],.struct [zI0,zI0] [(0,1),(1,1)] [false,false]⟩
theorem tk67:bF prog 67 atB:=⟨ty67,λzs h=>by cases h;exact aqy,bK av3 ⟨aot,aou,trivial⟩ ⟨aov,aow,trivial⟩⟩
def atC:TI:=⟨1,false,some [zS0],.slice 78 11 96 [zI0,zI0,zI0,zI0,zI0,zI0,zI0,zI0,zI0,.int .u64 0,.string ⟨#[]⟩]⟩
theorem tk70:bF prog 70 atC:=⟨agJ,λzs h=>by cases h;exact ze70,⟨sl70,av5,av6⟩⟩
def atD:TI:=⟨1,false,some [zS0],.slice 81 3 24 [zI0,zI0,.int .u64 0]⟩
theorem tk71:bF prog 71 atD:=⟨agK,λzs h=>by cases h;exact ze71,⟨sl71,av7,av8⟩⟩
def atE:TI:=⟨1,false,some [zS0],.slice 141 2 16 [zI0,.int .u64 0]⟩
theorem tk72:bF prog 72 atE:=⟨agL,λzs h=>by cases h;exact ze72,⟨sl72,av9,awa⟩⟩
def atF:TI:=⟨3,true,some [zS0,zS0,zS0],.struct [zS0,zS0,zS0] [(0,1),(1,1),(2,1)] [false,false,false]⟩
theorem tk73:bF prog 73 atF:=⟨ty73,λzs h=>by cases h;exact ze73,bK awb ⟨aox,aoy,aoz,trivial⟩ ⟨aoA,aoB,aoC,trivial⟩⟩
def atG:TI:=⟨3,true,some [zS0,zS0,zS0],.struct [zS0,zS0,zS0] [(0,1),(1,1),(2,1)] [false,false,false]⟩
theorem tk74:bF prog 74 atG:=⟨agM,λzs h=>by cases h;exact ze74,bK awc ⟨aoD,aoE,aoF,trivial⟩ ⟨aoG,aoH,aoI,trivial⟩⟩
def atH:TI:=⟨11,true,some [zI0,zI0,zI0,zI0,zI0,zI0,zI0,zI0,zI0,.int .u64 0,.string ⟨#[]⟩],.struct [zI0,zI0,zI0,zI0,zI0,zI0,zI0,zI0,zI0,.int .u64 0,.string ⟨#[]⟩] [(0,1),(1,10)] [false,true]⟩
theorem tk77:bF prog 77 atH:=⟨ty77,λzs h=>by cases h;exact ze77,bK awd ⟨aoJ,aoK,trivial⟩ ⟨aoL,aoM,trivial⟩⟩
def atI:TI:=⟨11,true,some [zI0,zI0,zI0,zI0,zI0,zI0,zI0,zI0,zI0,.int .u64 0,.string ⟨#[]⟩],.struct [zI0,zI0,zI0,zI0,zI0,zI0,zI0,zI0,zI0,.int .u64 0,.string ⟨#[]⟩] [(0,1),(1,10)] [false,true]⟩
theorem tk78:bF prog 78 atI:=⟨ty78,λzs h=>by cases h;exact aqz,bK awe ⟨aoN,aoO,trivial⟩ ⟨aoP,aoQ,trivial⟩⟩
def atJ:TI:=⟨3,true,some [zI0,zI0,.int .u64 0],.struct [zI0,zI0,.int .u64 0] [(0,1),(1,1),(2,1)] [false,false,false]⟩
theorem tk80:bF prog 80 atJ:=⟨ty80,λzs h=>by cases h;exact ze80,bK awf ⟨aoR,aoS,aoT,trivial⟩ ⟨aoU,aoV,aoW,trivial⟩⟩
def atK:TI:=⟨3,true,some [zI0,zI0,.int .u64 0],.struct [zI0,zI0,.int .u64 0] [(0,1),(1,1),(2,1)] [false,false,false]⟩
theorem tk81:bF prog 81 atK:=⟨ty81,λzs h=>by cases h;exact aqA,bK awg ⟨aoX,aoY,aoZ,trivial⟩ ⟨ao0,ao1,ao2,trivial⟩⟩
def atL:TI:=⟨5,true,some [zI0,zI0,zI0,zI0,zI0],.struct [zI0,zI0,zI0,zI0,zI0] [(0,1),(1,1),(2,1),(3,1),(4,1)] [false,false,false,false,false]⟩
theorem tk88:bF prog 88 atL:=⟨ty88,λzs h=>by cases h;exact ze88,bK awh ⟨ao3,ao4,ao5,ao6,ao7,trivial⟩ ⟨ao8,ao9,apa,apb,apc,trivial⟩⟩
def atM:TI:=⟨5,true,some [zI0,zI0,zI0,zI0,zI0],.struct [zI0,zI0,zI0,zI0,zI0] [(0,1),(1,1),(2,1),(3,1),(4,1)] [false,false,false,false,false]⟩
theorem tk89:bF prog 89 atM:=⟨ty89,λzs h=>by cases h;exact aqB,bK awi ⟨apd,ape,apf,apg,aph,trivial⟩ ⟨api,apj,apk,apl,apm,trivial⟩⟩
def atN:TI:=⟨1,false,some [zS0],.slice 32 2 32 [zI0,zS0]⟩
theorem tk91:bF prog 91 atN:=⟨ty91,λzs h=>by cases h;exact ze91,⟨sl91,awj,awk⟩⟩
def atO:TI:=⟨1,false,some [zS0],.slice 36 10 88 [zI0,zI0,zI0,zI0,zI0,zI0,zI0,zI0,.int .u64 0,.string ⟨#[]⟩]⟩
theorem tk93:bF prog 93 atO:=⟨ty93,λzs h=>by cases h;exact ze93,⟨sl93,awl,awm⟩⟩
def atP:TI:=⟨1,false,some [zS0],.slice 28 2 48 [zS0,zS0]⟩
theorem tk94:bF prog 94 atP:=⟨ty94,λzs h=>by cases h;exact ze94,⟨sl94,awn,awo⟩⟩
def atQ:TI:=⟨1,false,some [zS0],.slice 63 2 32 [zI0,zS0]⟩
theorem tk96:bF prog 96 atQ:=⟨ty96,λzs h=>by cases h;exact ze96,⟨sl96,awp,awq⟩⟩
def atS:TI:=⟨1,false,some [zS0],.slice 22 1 24 [zS0]⟩
theorem tk97:bF prog 97 atS:=⟨ty97,λzs h=>by cases h;exact ze97,⟨sl97,awr,aws⟩⟩
def atT:TI:=⟨2,true,some [zS0,zS0],.struct [zS0,zS0] [(0,1),(1,1)] [false,false]⟩
theorem tk99:bF prog 99 atT:=⟨ty99,λzs h=>by cases h;exact ze99,bK awt ⟨apn,apo,trivial⟩ ⟨apq,apr,trivial⟩⟩
def akK:TI:=⟨2,true,some [zS0,zS0],.struct [zS0,zS0] [(0,1),(1,1)] [false,false]⟩
theorem axJ:bF prog 100 akK:=⟨aeo,λzs h=>by cases h;exact akw,bK aqT ⟨agN,agO,trivial⟩ ⟨agP,agQ,trivial⟩⟩
def akL:TI:=⟨1,false,some [zS0],.slice 100 2 48 [zS0,zS0]⟩
theorem axK:bF prog 105 akL:=⟨awu,λzs h=>by cases h;exact auA,⟨awv,aqU,aqV⟩⟩
def akM:TI:=⟨2,true,some [zS0,zI0],.struct [zS0,zI0] [(0,1),(1,1)] [false,false]⟩
theorem axL:bF prog 114 akM:=⟨aww,λzs h=>by cases h;exact auB,bK aqW ⟨agR,agS,trivial⟩ ⟨agT,agU,trivial⟩⟩
def akN:TI:=⟨2,true,some [zS0,zI0],.struct [zS0,zI0] [(0,1),(1,1)] [false,false]⟩
theorem axM:bF prog 115 akN:=⟨awx,λzs h=>by cases h;exact auC,bK aqX ⟨agV,agW,trivial⟩ ⟨agX,agY,trivial⟩⟩
def akO:TI:=⟨1,false,some [zS0],.slice 118 1 24 [zS0]⟩
theorem axN:bF prog 117 akO:=⟨awy,λzs h=>by cases h;exact auD,⟨tX,aft,afu⟩⟩
def akP:TI:=⟨1,false,some [zS0],.slice 4 1 1 [.bool false]⟩
theorem axO:bF prog 118 akP:=⟨zM,λzs h=>by cases h;exact akx,⟨awz,afv,afw⟩⟩
def akQ:TI:=⟨1,false,some [.nilFunc],.oth⟩
theorem axP:bF prog 130 akQ:=⟨awA,λzs h=>by cases h;exact auE,trivial⟩
def akR:TI:=⟨11,true,some [zI0,zI0,zI0,zI0,zI0,zI0,zI0,zI0,zI0,.int .u64 0,.string ⟨#[]⟩],.struct [zI0,zI0,zI0,zI0,zI0,zI0,zI0,zI0,zI0,.int .u64 0,.string ⟨#[]⟩] [(0,1),(1,10)] [false,true]⟩
theorem axQ:bF prog 133 akR:=⟨awB,λzs h=>by cases h;exact auF,bK aqY ⟨agZ,ag0,trivial⟩ ⟨ag1,ag3,trivial⟩⟩
def akS:TI:=⟨11,true,some [zI0,zI0,zI0,zI0,zI0,zI0,zI0,zI0,zI0,.int .u64 0,.string ⟨#[]⟩],.struct [zI0,zI0,zI0,zI0,zI0,zI0,zI0,zI0,zI0,.int .u64 0,.string ⟨#[]⟩] [(0,1),(1,10)] [false,true]⟩
theorem axR:bF prog 134 akS:=⟨awC,λzs h=>by cases h;exact aky,bK aqZ ⟨ag4,ag5,trivial⟩ ⟨ag6,ag7,trivial⟩⟩
def akT:TI:=⟨1,false,some [zS0],.slice 134 11 96 [zI0,zI0,zI0,zI0,zI0,zI0,zI0,zI0,zI0,.int .u64 0,.string ⟨#[]⟩]⟩
theorem axS:bF prog 135 akT:=⟨awD,λzs h=>by cases h;exact auG,⟨awE,aq0,aq1⟩⟩
def akU:TI:=⟨1,false,some [zS0],.slice 143 16 152 [zI0,zI0,zI0,zI0,zI0,zS0,zI0,zI0,zI0,zI0,zI0,zI0,zI0,zI0,.int .u64 0,.string ⟨#[]⟩]⟩
theorem axT:bF prog 136 akU:=⟨awF,λzs h=>by cases h;exact auH,⟨awG,aq2,aq3⟩⟩
def akV:TI:=⟨2,true,some [zI0,.int .u64 0],.struct [zI0,.int .u64 0] [(0,1),(1,1)] [false,false]⟩
theorem axU:bF prog 140 akV:=⟨awH,λzs h=>by cases h;exact auI,bK aq4 ⟨ag8,ag9,trivial⟩ ⟨aha,ahb,trivial⟩⟩
def akW:TI:=⟨2,true,some [zI0,.int .u64 0],.struct [zI0,.int .u64 0] [(0,1),(1,1)] [false,false]⟩
theorem axV:bF prog 141 akW:=⟨awI,λzs h=>by cases h;exact akz,bK aq5 ⟨ahc,ahd,trivial⟩ ⟨ahe,ahf,trivial⟩⟩
def akX:TI:=⟨16,true,some [zI0,zI0,zI0,zI0,zI0,zS0,zI0,zI0,zI0,zI0,zI0,zI0,zI0,zI0,.int .u64 0,.string ⟨#[]⟩],.struct [zI0,zI0,zI0,zI0,zI0,zS0,zI0,zI0,zI0,zI0,zI0,zI0,zI0,zI0,.int .u64 0,.string ⟨#[]⟩] [(0,4),(4,12)] [true,true]⟩
theorem axW:bF prog 142 akX:=⟨awJ,λzs h=>by cases h;exact auJ,bK aq6 ⟨ahg,ahh,trivial⟩ ⟨ahi,ahj,trivial⟩⟩
def akY:TI:=⟨16,true,some [zI0,zI0,zI0,zI0,zI0,zS0,zI0,zI0,zI0,zI0,zI0,zI0,zI0,zI0,.int .u64 0,.string ⟨#[]⟩],.struct [zI0,zI0,zI0,zI0,zI0,zS0,zI0,zI0,zI0,zI0,zI0,zI0,zI0,zI0,.int .u64 0,.string ⟨#[]⟩] [(0,4),(4,12)] [true,true]⟩
theorem axX:bF prog 143 akY:=⟨awK,λzs h=>by cases h;exact akA,bK aq7 ⟨ahk,ahl,trivial⟩ ⟨ahm,ahn,trivial⟩⟩
def akZ:TI:=⟨11,true,some [zI0,zI0,zI0,zI0,zI0,zI0,zI0,zI0,zI0,.int .u64 0,.string ⟨#[]⟩],.struct [zI0,zI0,zI0,zI0,zI0,zI0,zI0,zI0,zI0,.int .u64 0,.string ⟨#[]⟩] [(0,1),(1,10)] [false,true]⟩
theorem axY:bF prog 146 akZ:=⟨awL,λzs h=>by cases h;exact akB,bK aq8 ⟨aho,ahp,trivial⟩ ⟨ahq,ahr,trivial⟩⟩
def ak0:TI:=⟨1,false,some [zS0],.slice 146 11 96 [zI0,zI0,zI0,zI0,zI0,zI0,zI0,zI0,zI0,.int .u64 0,.string ⟨#[]⟩]⟩
theorem axZ:bF prog 147 ak0:=⟨awM,λzs h=>by cases h;exact auK,⟨awN,aq9,ara⟩⟩
def ak1:TI:=⟨1,false,some [.nilFunc],.oth⟩
theorem ax0:bF prog 152 ak1:=⟨awO,λzs h=>by cases h;exact auL,trivial⟩
def ak2:TI:=⟨12,true,some [zI0,zS0,zI0,zI0,zI0,zI0,zI0,zI0,zI0,zI0,.int .u64 0,.string ⟨#[]⟩],.struct [zI0,zS0,zI0,zI0,zI0,zI0,zI0,zI0,zI0,zI0,.int .u64 0,.string ⟨#[]⟩] [(0,1),(1,11)] [false,true]⟩
theorem ax1:bF prog 153 ak2:=⟨awP,λzs h=>by cases h;exact auM,bK arb ⟨ahs,aht,trivial⟩ ⟨ahu,ahv,trivial⟩⟩
def ak3:TI:=⟨12,true,some [zI0,zS0,zI0,zI0,zI0,zI0,zI0,zI0,zI0,zI0,.int .u64 0,.string ⟨#[]⟩],.struct [zI0,zS0,zI0,zI0,zI0,zI0,zI0,zI0,zI0,zI0,.int .u64 0,.string ⟨#[]⟩] [(0,1),(1,11)] [false,true]⟩
theorem ax2:bF prog 154 ak3:=⟨awQ,λzs h=>by cases h;exact akC,bK arc ⟨ahw,ahx,trivial⟩ ⟨ahy,ahz,trivial⟩⟩
def ak4:TI:=⟨1,false,some [zS0],.slice 154 12 120 [zI0,zS0,zI0,zI0,zI0,zI0,zI0,zI0,zI0,zI0,.int .u64 0,.string ⟨#[]⟩]⟩
theorem ax3:bF prog 155 ak4:=⟨aep,λzs h=>by cases h;exact auN,⟨awR,ard,arf⟩⟩
def ak5:TI:=⟨12,true,some [zI0,zS0,zS0,zS0,zS0,zS0,zS0,zS0,zS0,zS0,zS0,zS0],.struct [zI0,zS0,zS0,zS0,zS0,zS0,zS0,zS0,zS0,zS0,zS0,zS0] [(0,2),(2,2),(4,2),(6,2),(8,3),(11,1)] [true,true,true,true,true,false]⟩
theorem ax4:bF prog 156 ak5:=⟨awS,λzs h=>by cases h;exact auO,bK arh ⟨ahA,ahB,ahC,ahD,ahE,ahF,trivial⟩ ⟨ahG,ahH,ahI,ahJ,ahK,ahL,trivial⟩⟩
def ak6:TI:=⟨12,true,some [zI0,zS0,zS0,zS0,zS0,zS0,zS0,zS0,zS0,zS0,zS0,zS0],.struct [zI0,zS0,zS0,zS0,zS0,zS0,zS0,zS0,zS0,zS0,zS0,zS0] [(0,2),(2,2),(4,2),(6,2),(8,3),(11,1)] [true,true,true,true,true,false]⟩
theorem ax5:bF prog 157 ak6:=⟨awT,λzs h=>by cases h;exact auP,bK ari ⟨ahM,ahN,ahO,ahP,ahQ,ahR,trivial⟩ ⟨ahS,ahT,ahU,ahV,ahW,ahX,trivial⟩⟩
def ak7:TI:=⟨12,true,some [zI0,zS0,zI0,zI0,zI0,zI0,zI0,zI0,zI0,zI0,.int .u64 0,.string ⟨#[]⟩],.struct [zI0,zS0,zI0,zI0,zI0,zI0,zI0,zI0,zI0,zI0,.int .u64 0,.string ⟨#[]⟩] [(0,1),(1,11)] [false,true]⟩
theorem ax6:bF prog 159 ak7:=⟨awU,λzs h=>by cases h;exact auQ,bK arj ⟨ahY,ahZ,trivial⟩ ⟨ah0,ah1,trivial⟩⟩
def ak8:TI:=⟨12,true,some [zI0,zS0,zI0,zI0,zI0,zI0,zI0,zI0,zI0,zI0,.int .u64 0,.string ⟨#[]⟩],.struct [zI0,zS0,zI0,zI0,zI0,zI0,zI0,zI0,zI0,zI0,.int .u64 0,.string ⟨#[]⟩] [(0,1),(1,11)] [false,true]⟩
theorem ax7:bF prog 160 ak8:=⟨awV,λzs h=>by cases h;exact akD,bK ark ⟨ah2,ah3,trivial⟩ ⟨ah4,ah5,trivial⟩⟩
def ak9:TI:=⟨1,false,some [zS0],.slice 160 12 120 [zI0,zS0,zI0,zI0,zI0,zI0,zI0,zI0,zI0,zI0,.int .u64 0,.string ⟨#[]⟩]⟩
theorem ax8:bF prog 161 ak9:=⟨awW,λzs h=>by cases h;exact auR,⟨awX,arl,arn⟩⟩
def ala:TI:=⟨1,false,some [.nilFunc],.oth⟩
theorem ax9:bF prog 168 ala:=⟨awY,λzs h=>by cases h;exact auS,trivial⟩
def alb:TI:=⟨1,false,some [.nilFunc],.oth⟩
theorem aya:bF prog 170 alb:=⟨awZ,λzs h=>by cases h;exact auT,trivial⟩
def alc:TI:=⟨1,false,some [.nilFunc],.oth⟩
theorem ayb:bF prog 172 alc:=⟨aw0,λzs h=>by cases h;exact auU,trivial⟩
def ald:TI:=⟨1,false,some [.nilFunc],.oth⟩
theorem ayc:bF prog 173 ald:=⟨aw1,λzs h=>by cases h;exact auV,trivial⟩
def ale:TI:=⟨2,true,some [zI0,zI0],.oth⟩
theorem ayd:bF prog 177 ale:=⟨aw2,λzs h=>by cases h;exact xM,trivial⟩
def alf:TI:=⟨1,false,some [zS0],.slice 177 2 16 [zI0,zI0]⟩
theorem aye:bF prog 178 alf:=⟨aw3,λzs h=>by cases h;exact auW,⟨aw4,aro,arp⟩⟩
def alg:TI:=⟨1,false,some [zS0],.slice 184 3 24 [zI0,zI0,zI0]⟩
theorem ayf:bF prog 181 alg:=⟨aw5,λzs h=>by cases h;exact auX,⟨aw6,arq,ars⟩⟩
def alh:TI:=⟨3,true,some [zI0,zI0,zI0],.struct [zI0,zI0,zI0] [(0,1),(1,1),(2,1)] [false,false,false]⟩
theorem ayg:bF prog 183 alh:=⟨aw7,λzs h=>by cases h;exact auZ,bK art ⟨ah6,ah7,ah8,trivial⟩ ⟨ah9,aia,aib,trivial⟩⟩
def ali:TI:=⟨3,true,some [zI0,zI0,zI0],.struct [zI0,zI0,zI0] [(0,1),(1,1),(2,1)] [false,false,false]⟩
theorem ayh:bF prog 184 ali:=⟨aw8,λzs h=>by cases h;exact akE,bK aru ⟨aic,aid,aie,trivial⟩ ⟨aif,aih,aii,trivial⟩⟩
def alj:TI:=⟨1,false,some [.pointer none],.oth⟩
theorem ayi:bF prog 193 alj:=⟨aw9,λzs h=>by cases h;exact au0,trivial⟩
def alk:TI:=⟨1,false,some [.map none],.map 3 216 .i64⟩
theorem ayj:bF prog 200 alk:=⟨zN,λzs h=>by cases h;exact au1,iX⟩
def alm:TI:=⟨2,true,some [.map none,.map none],.struct [.map none,.map none] [(0,1),(1,1)] [false,false]⟩
theorem ayk:bF prog 201 alm:=⟨axa,λzs h=>by cases h;exact au2,bK arw ⟨aij,aik,trivial⟩ ⟨ail,aim,trivial⟩⟩
def aln:TI:=⟨2,true,some [.map none,.map none],.struct [.map none,.map none] [(0,1),(1,1)] [false,false]⟩
theorem ayl:bF prog 202 aln:=⟨axb,λzs h=>by cases h;exact au3,bK arx ⟨ain,aio,trivial⟩ ⟨aip,aiq,trivial⟩⟩
def alo:TI:=⟨1,false,some [.map none],.map 3 3 .i64⟩
theorem aym:bF prog 204 alo:=⟨axc,λzs h=>by cases h;exact au4,nX⟩
def alp:TI:=⟨1,false,some [zS0],.slice 47 1 8 [zI0]⟩
theorem ayn:bF prog 207 alp:=⟨axd,λzs h=>by cases h;exact au5,⟨axe,ary,arz⟩⟩
def alq:TI:=⟨1,false,some [.map none],.map 3 4 .i64⟩
theorem ayo:bF prog 208 alq:=⟨axf,λzs h=>by cases h;exact au6,arA⟩
def alr:TI:=⟨1,false,some [.nilFunc],.oth⟩
theorem ayp:bF prog 215 alr:=⟨axg,λzs h=>by cases h;exact au7,trivial⟩
def als:TI:=⟨1,false,some [zS0],.slice 218 2 16 [zI0,zI0]⟩
theorem ayq:bF prog 216 als:=⟨axh,λzs h=>by cases h;exact au8,⟨axi,arB,arC⟩⟩
def alu:TI:=⟨2,true,some [zI0,zI0],.struct [zI0,zI0] [(0,1),(1,1)] [false,false]⟩
theorem ayr:bF prog 217 alu:=⟨axj,λzs h=>by cases h;exact au9,bK arD ⟨air,ais,trivial⟩ ⟨ait,aiu,trivial⟩⟩
def alv:TI:=⟨2,true,some [zI0,zI0],.struct [zI0,zI0] [(0,1),(1,1)] [false,false]⟩
theorem ays:bF prog 218 alv:=⟨axk,λzs h=>by cases h;exact akF,bK arE ⟨aiv,aiw,trivial⟩ ⟨aix,aiy,trivial⟩⟩
def alw:TI:=⟨1,false,some [.nilFunc],.oth⟩
theorem ayt:bF prog 220 alw:=⟨axl,λzs h=>by cases h;exact ava,trivial⟩
def alx:TI:=⟨1,false,some [zI0],.int .i64⟩
theorem ayu:bF prog 228 alx:=⟨axm,λzs h=>by cases h;exact avb,underlying228⟩
def aly:TI:=⟨1,false,some [.int .u32 0],.int .u32⟩
theorem ayv:bF prog 235 aly:=⟨aeq,λzs h=>by cases h;exact avc,underlying235⟩
def alz:TI:=⟨1,false,some [.int .u64 0],.int .u64⟩
theorem ayw:bF prog 242 alz:=⟨axn,λzs h=>by cases h;exact avd,underlying242⟩
def alA:TI:=⟨1,false,some [.pointer none],.oth⟩
theorem ayx:bF prog 246 alA:=⟨axo,λzs h=>by cases h;exact ave,trivial⟩
def alB:TI:=⟨1,false,some [.pointer none],.oth⟩
theorem ayy:bF prog 250 alB:=⟨axp,λzs h=>by cases h;exact avf,trivial⟩
def alC:TI:=⟨4,true,some [.pointer none,.pointer none,.pointer none,.string ⟨#[]⟩],.struct [.pointer none,.pointer none,.pointer none,.string ⟨#[]⟩] [(0,1),(1,1),(2,1),(3,1)] [false,false,false,false]⟩
theorem ayz:bF prog 255 alC:=⟨axq,λzs h=>by cases h;exact avg,bK arF ⟨aiz,aiA,aiB,aiC,trivial⟩ ⟨aiD,aiE,aiF,aiG,trivial⟩⟩
def alD:TI:=⟨4,true,some [.pointer none,.pointer none,.pointer none,.string ⟨#[]⟩],.struct [.pointer none,.pointer none,.pointer none,.string ⟨#[]⟩] [(0,1),(1,1),(2,1),(3,1)] [false,false,false,false]⟩
theorem ayA:bF prog 256 alD:=⟨axr,λzs h=>by cases h;exact avh,bK arG ⟨aiH,aiI,aiJ,aiK,trivial⟩ ⟨aiL,aiM,aiN,aiO,trivial⟩⟩
def alF:TI:=⟨0,true,some [],.oth⟩
theorem ayB:bF prog 257 alF:=⟨axt,λzs h=>by cases h;exact avj,trivial⟩
def alG:TI:=⟨1,false,some [.int .u8 0],.int .u8⟩
theorem ayC:bF prog 260 alG:=⟨aer,λzs h=>by cases h;exact avk,underlying260⟩
def alH:TI:=⟨1,false,some [.int .u8 0],.int .u8⟩
theorem ayD:bF prog 261 alH:=⟨aes,λzs h=>by cases h;exact avl,underlying261⟩
def alI:TI:=⟨1,false,some [.nilFunc],.oth⟩
theorem ayE:bF prog 262 alI:=⟨aet,λzs h=>by cases h;exact avm,trivial⟩
def alJ:TI:=⟨1,false,some [.pointer none],.oth⟩
theorem ayF:bF prog 263 alJ:=⟨aeu,λzs h=>by cases h;exact avn,trivial⟩
def alK:TI:=⟨1,false,some [.int .i32 0],.int .i32⟩
theorem ayG:bF prog 264 alK:=⟨aev,λzs h=>by cases h;exact avo,underlying264⟩
def alL:TI:=⟨1,false,some [.int .i32 0],.int .i32⟩
theorem ayH:bF prog 265 alL:=⟨aew,λzs h=>by cases h;exact avp,underlying265⟩
def alM:TI:=⟨11,true,some [.int .u64 0,.int .u64 0,.int .u32 0,.int .u8 0,.int .u8 0,.int .u8 0,.int .u8 0,.nilFunc,.pointer none,.int .i32 0,.int .i32 0],.struct [.int .u64 0,.int .u64 0,.int .u32 0,.int .u8 0,.int .u8 0,.int .u8 0,.int .u8 0,.nilFunc,.pointer none,.int .i32 0,.int .i32 0] [(0,1),(1,1),(2,1),(3,1),(4,1),(5,1),(6,1),(7,1),(8,1),(9,1),(10,1)] [false,false,false,false,false,false,false,false,false,false,false]⟩
theorem ayI:bF prog 266 alM:=⟨axu,λzs h=>by cases h;exact avq,bK arH ⟨aiP,aiQ,aiR,aiS,aiT,aiU,aiV,aiW,aiX,aiY,afx,trivial⟩ ⟨aiZ,ai0,ai1,ai2,ai3,ai4,ai5,ai6,ai7,ai8,afy,trivial⟩⟩
def alN:TI:=⟨11,true,some [.int .u64 0,.int .u64 0,.int .u32 0,.int .u8 0,.int .u8 0,.int .u8 0,.int .u8 0,.nilFunc,.pointer none,.int .i32 0,.int .i32 0],.struct [.int .u64 0,.int .u64 0,.int .u32 0,.int .u8 0,.int .u8 0,.int .u8 0,.int .u8 0,.nilFunc,.pointer none,.int .i32 0,.int .i32 0] [(0,1),(1,1),(2,1),(3,1),(4,1),(5,1),(6,1),(7,1),(8,1),(9,1),(10,1)] [false,false,false,false,false,false,false,false,false,false,false]⟩
theorem ayJ:bF prog 267 alN:=⟨axv,λzs h=>by cases h;exact avr,bK arI ⟨ai9,aja,ajb,ajc,ajd,aje,ajf,ajg,ajh,aji,afz,trivial⟩ ⟨ajj,ajk,ajl,ajm,ajn,ajo,ajp,ajq,ajr,ajs,afA,trivial⟩⟩
def tb:Tb:=[(2,ti2),(3,ti3),(4,ti4),(5,ti5),(6,ti6),(7,ti7),(8,ti8),(9,ti9),(10,asW),(11,asX),(12,asY),(13,asZ),(14,as0),(15,as1),(16,as2),(17,as3),(18,as4),(19,as5),(21,as6),(22,as7),(23,as8),(25,as9),(26,ata),(27,atb),(28,atc),(30,atd),(31,ate),(32,atf),(34,atg),(35,ath),(36,ati),(37,atj),(38,atk),(40,atl),(41,atm),(42,atn),(44,ato),(45,atp),(46,atq),(47,atr),(51,att),(52,atu),(53,atv),(54,atw),(61,atx),(62,aty),(63,atz),(66,atA),(67,atB),(70,atC),(71,atD),(72,atE),(73,atF),(74,atG),(77,atH),(78,atI),(80,atJ),(81,atK),(88,atL),(89,atM),(91,atN),(93,atO),(94,atP),(96,atQ),(97,atS),(99,atT),(100,akK),(105,akL),(114,akM),(115,akN),(117,akO),(118,akP),(130,akQ),(133,akR),(134,akS),(135,akT),(136,akU),(140,akV),(141,akW),(142,akX),(143,akY),(146,akZ),(147,ak0),(152,ak1),(153,ak2),(154,ak3),(155,ak4),(156,ak5),(157,ak6),(159,ak7),(160,ak8),(161,ak9),(168,ala),(170,alb),(172,alc),(173,ald),(177,ale),(178,alf),(181,alg),(183,alh),(184,ali),(193,alj),(200,alk),(201,alm),(202,aln),(204,alo),(207,alp),(208,alq),(215,alr),(216,als),(217,alu),(218,alv),(220,alw),(228,alx),(235,aly),(242,alz),(246,alA),(250,alB),(255,alC),(256,alD),(257,alF),(260,alG),(261,alH),(262,alI),(263,alJ),(264,alK),(265,alL),(266,alM),(267,alN)]
theorem W0:Wld prog tb:=⟨hmix,⟨tk2,tk3,tk4,tk5,tk6,tk7,tk8,tk9,tk10,tk11,tk12,tk13,tk14,tk15,tk16,tk17,tk18,tk19,tk21,tk22,tk23,tk25,tk26,tk27,tk28,tk30,tk31,tk32,tk34,tk35,tk36,tk37,tk38,tk40,tk41,tk42,tk44,tk45,tk46,tk47,tk51,tk52,tk53,tk54,tk61,tk62,tk63,tk66,tk67,tk70,tk71,tk72,tk73,tk74,tk77,tk78,tk80,tk81,tk88,tk89,tk91,tk93,tk94,tk96,tk97,tk99,axJ,axK,axL,axM,axN,axO,axP,axQ,axR,axS,axT,axU,axV,axW,axX,axY,axZ,ax0,ax1,ax2,ax3,ax4,ax5,ax6,ax7,ax8,ax9,aya,ayb,ayc,ayd,aye,ayf,ayg,ayh,ayi,ayj,ayk,ayl,aym,ayn,ayo,ayp,ayq,ayr,ays,ayt,ayu,ayv,ayw,ayx,ayy,ayz,ayA,ayB,ayC,ayD,ayE,ayF,ayG,ayH,ayI,ayJ,trivial⟩⟩
theorem ck9:aQ prog 9:=⟨call9⟩
theorem ck10:aQ prog 10:=⟨call10⟩
theorem ck11:aQ prog 11:=⟨call11⟩
theorem mo:aQ prog 12:=⟨call12⟩
theorem ck13:aQ prog 13:=⟨call13⟩
theorem ck14:aQ prog 14:=⟨call14⟩
theorem atU:aQ prog 15:=⟨call15⟩
theorem aaI:aQ prog 16:=⟨call16⟩
theorem ck17:aQ prog 17:=⟨call17⟩
theorem ck18:aQ prog 18:=⟨call18⟩
theorem atV:aQ prog 19:=⟨call19⟩
theorem ck22:aQ prog 22:=⟨call22⟩
theorem atW:aQ prog 25:=⟨call25⟩
theorem acA:aQ prog 27:=⟨call27⟩
theorem ck30:aQ prog 30:=⟨call30⟩
theorem ck35:aQ prog 35:=⟨call35⟩
theorem acB:aQ prog 39:=⟨call39⟩
theorem atX:aQ prog 41:=⟨call41⟩
theorem ck43:aQ prog 43:=⟨call43⟩
theorem ajM:aQ prog 51:=⟨call51⟩
theorem ck52:aQ prog 52:=⟨call52⟩
theorem ck53:aQ prog 53:=⟨call53⟩
theorem acC:aQ prog 54:=⟨call54⟩
theorem ck55:aQ prog 55:=⟨call55⟩
theorem ck56:aQ prog 56:=⟨call56⟩
theorem ck57:aQ prog 57:=⟨call57⟩
theorem ajN:aQ prog 58:=⟨call58⟩
theorem qn:aQ prog 59:=⟨call59⟩
theorem ck60:aQ prog 60:=⟨call60⟩
theorem atY:aQ prog 61:=⟨call61⟩
theorem ck62:aQ prog 62:=⟨call62⟩
theorem atZ:aQ prog 63:=⟨call63⟩
theorem at0:aQ prog 64:=⟨call64⟩
theorem at1:aQ prog 66:=⟨call66⟩
theorem ck68:aQ prog 68:=⟨call68⟩
theorem acD:aQ prog 69:=⟨call69⟩
theorem acE:aQ prog 70:=⟨call70⟩
theorem ck71:aQ prog 71:=⟨call71⟩
theorem ck72:aQ prog 72:=⟨call72⟩
theorem ck79:aQ prog 79:=⟨call79⟩
theorem ck80:aQ prog 80:=⟨call80⟩
theorem ck81:aQ prog 81:=⟨call81⟩
theorem at3:aQ prog 83:=⟨call83⟩
theorem ck89:aQ prog 89:=⟨call89⟩
theorem y9:aQ prog 90:=⟨call90⟩
theorem ia:aQ prog 91:=⟨call91⟩
theorem aaJ:aQ prog 92:=⟨call92⟩
theorem ck93:aQ prog 93:=⟨call93⟩
theorem ck94:aQ prog 94:=⟨call94⟩
theorem za:aQ prog 95:=⟨call95⟩
theorem ajO:aQ prog 96:=⟨call96⟩
theorem at4:aQ prog 97:=⟨call97⟩
theorem at5:aQ prog 98:=⟨call98⟩
theorem ajP:aQ prog 99:=⟨call99⟩
theorem ayK:aQ prog 100:=⟨call100⟩
theorem ayL:aQ prog 101:=⟨call101⟩
theorem ayM:aQ prog 102:=⟨call102⟩
theorem ayN:aQ prog 103:=⟨call103⟩
theorem ayO:aQ prog 104:=⟨call104⟩
theorem alO:aQ prog 105:=⟨call105⟩
theorem ayP:aQ prog 106:=⟨call106⟩
theorem alP:aQ prog 107:=⟨call107⟩
theorem alQ:aQ prog 108:=⟨call108⟩
theorem ayQ:aQ prog 109:=⟨call109⟩
theorem alR:aQ prog 110:=⟨call110⟩
theorem vF:aQ prog 111:=⟨call111⟩
theorem aeS:aQ prog 112:=⟨call112⟩
theorem fO:aQ prog 118:=⟨call118⟩
theorem x5:aQ prog 119:=⟨call119⟩
theorem abP:aQ prog 120:=⟨call120⟩
theorem aeT:aQ prog 121:=⟨call121⟩
theorem alS:aQ prog 122:=⟨call122⟩
theorem ayR:aQ prog 123:=⟨call123⟩
theorem aeU:aQ prog 124:=⟨call124⟩
theorem ayS:aQ prog 127:=⟨call127⟩
theorem aeV:aQ prog 129:=⟨call129⟩
theorem aeW:aQ prog 133:=⟨call133⟩
theorem ayT:aQ prog 134:=⟨call134⟩
theorem ayU:aQ prog 135:=⟨call135⟩
theorem abQ:aQ prog 136:=⟨call136⟩
theorem ayV:aQ prog 137:=⟨call137⟩
theorem ayW:aQ prog 138:=⟨call138⟩
theorem ayX:aQ prog 139:=⟨call139⟩
theorem ayY:aQ prog 140:=⟨call140⟩
theorem alT:aQ prog 141:=⟨call141⟩
theorem ayZ:aQ prog 142:=⟨call142⟩
theorem ay0:aQ prog 143:=⟨call143⟩
theorem ay1:aQ prog 144:=⟨call144⟩
theorem alU:aQ prog 146:=⟨call146⟩
theorem ay2:aQ prog 150:=⟨call150⟩
theorem ay3:aQ prog 154:=⟨call154⟩
theorem ay4:aQ prog 157:=⟨call157⟩
theorem alV:aQ prog 158:=⟨call158⟩
theorem alW:aQ prog 159:=⟨call159⟩
theorem ay5:aQ prog 160:=⟨call160⟩
theorem ay6:aQ prog 161:=⟨call161⟩
theorem ay7:aQ prog 163:=⟨call163⟩
theorem ay8:aQ prog 164:=⟨call164⟩
theorem ay9:aQ prog 168:=⟨call168⟩
theorem aza:aQ prog 177:=⟨call177⟩
theorem qS{N:Nat}{ids:List Nat}{y:Code}{Q:Exit→Env→Sto→Prop}{env:Env}{σ:Sto}{id:Nat}{ops:Array Oper}{dr:Bool}(hs:List (Nat×Hint prog))(cz:Env)(σ2:Sto)(k:ah ⟨prog,N,ids⟩ y Q cz σ2)
  (h:vC tb N ids ops dr (iZ ops dr hs).1 (iZ ops dr hs).2 [] hs (pM cz) σ2.ids env σ=some (cz,σ2,(iZ ops dr hs).2.map λi=>(hintOf hs i).exp):=by kernel_rfl):ah ⟨prog,N,ids⟩ (.seq (.region id ops dr) y) Q env σ:=A.RS W0 [] hs cz σ2 h k
theorem qR{N:Nat}{ids:List Nat}{Q:Exit→Env→Sto→Prop}{env:Env}{σ:Sto}{id:Nat}{ops:Array Oper}{dr:Bool}(hs:List (Nat×Hint prog))(cz:Env)(σ2:Sto)(k:Q .normal cz σ2)
  (h:vC tb N ids ops dr (iZ ops dr hs).1 (iZ ops dr hs).2 [] hs (pM cz) σ2.ids env σ=some (cz,σ2,(iZ ops dr hs).2.map λi=>(hintOf hs i).exp):=by kernel_rfl):ah ⟨prog,N,ids⟩ (.region id ops dr) Q env σ:=A.R W0 [] hs cz σ2 h k
def at6(n:Nat):List Nat→Bool
 |[]=>false
 |k::r=>bif Nat.beq k n then true else at6 n r
def lR{α:Type}(ks:List Nat)(new:List (Nat×α)):List (Nat×α)→List (Nat×α)
 |[]=>new
 |p::l=>bif at6 p.1 ks then lR ks new l else p::lR ks new l
section
variable {N:Nat}{ids:List Nat}{y:Code}{Q:Exit→Env→Sto→Prop}{env:Env}{σ:Sto}{id:Nat}{ops:Array Oper}{dr:Bool}(hs:List (Nat×Hint prog))(ks:List Nat)(new:Env)(js:List Nat)(nws:Sto)
theorem qD(k:ah ⟨prog,N,ids⟩ y Q (lR ks new env) (lR js nws σ))
  (h:vC tb N ids ops dr (iZ ops dr hs).1 (iZ ops dr hs).2 [] hs (pM (lR ks new env)) (Sto.ids (lR js nws σ)) env σ=some (lR ks new env,lR js nws σ,(iZ ops dr hs).2.map λi=>(hintOf hs i).exp):=by kernel_rfl):ah ⟨prog,N,ids⟩ (.seq (.region id ops dr) y) Q env σ:=A.RS W0 [] hs _ _ h k
theorem qDs(k:ah ⟨prog,N,ids⟩ y Q (lR ks new env) σ)
  (h:vC tb N ids ops dr (iZ ops dr hs).1 (iZ ops dr hs).2 [] hs (pM (lR ks new env)) σ.ids env σ=some (lR ks new env,σ,(iZ ops dr hs).2.map λi=>(hintOf hs i).exp):=by kernel_rfl):ah ⟨prog,N,ids⟩ (.seq (.region id ops dr) y) Q env σ:=A.RS W0 [] hs _ _ h k
theorem qG(k:Q .normal (lR ks new env) (lR js nws σ))
  (h:vC tb N ids ops dr (iZ ops dr hs).1 (iZ ops dr hs).2 [] hs (pM (lR ks new env)) (Sto.ids (lR js nws σ)) env σ=some (lR ks new env,lR js nws σ,(iZ ops dr hs).2.map λi=>(hintOf hs i).exp):=by kernel_rfl):ah ⟨prog,N,ids⟩ (.region id ops dr) Q env σ:=A.R W0 [] hs _ _ h k
theorem qGs(k:Q .normal (lR ks new env) σ)
  (h:vC tb N ids ops dr (iZ ops dr hs).1 (iZ ops dr hs).2 [] hs (pM (lR ks new env)) σ.ids env σ=some (lR ks new env,σ,(iZ ops dr hs).2.map λi=>(hintOf hs i).exp):=by kernel_rfl):ah ⟨prog,N,ids⟩ (.region id ops dr) Q env σ:=A.R W0 [] hs _ _ h k
end
theorem qE{N:Nat}{ids:List Nat}{fn:Func}{env:Env}{σ σ2:Sto}{R:AV}(h:ajD tb ids [] σ2.ids fn.results.toList env σ=some (R,σ2):=by kernel_rfl):
  aeI ⟨prog,N,ids⟩ fn (λa σ'=>a=R∧σ'=σ2) .ret env σ:=A.fin W0 [] rfl h
variable {G:Gl}
theorem qW{env cz:Env}{σ σ2:Sto}(h:zQ G.ids [] [] (pM cz) σ2.ids env σ=some (cz,σ2):=by kernel_rfl):bq G env σ cz σ2:=bq.go [] [] h
theorem qX{α ρ:Type}{J:α→Option ρ}{r:ρ}{env:Env}{σ:Sto}{dP:α→Env}{fh:α→Sto}(g:α)(hg:J g=some r)(h:zQ G.ids [] [] (pM (dP g)) (fh g).ids env σ=some (dP g,fh g):=by kernel_rfl):
  ∃g,J g=some r∧bq G env σ (dP g) (fh g):=⟨g,hg,bq.go [] [] h⟩
variable {o:Operand}
theorem qT{p:Bool}{x y:Code}{Q:Exit→Env→Sto→Prop}{env:Env}{σ:Sto}(hp:p=true)(k:ah G x Q env σ)(hc:env.evo o=some (.bool p):=by kernel_rfl):ah G (.cond o x y) Q env σ:=A.cT hc hp k
theorem qF{p:Bool}{x y:Code}{Q:Exit→Env→Sto→Prop}{env:Env}{σ:Sto}(hp:p=false)(k:ah G y Q env σ)(hc:env.evo o=some (.bool p):=by kernel_rfl):ah G (.cond o x y) Q env σ:=A.cF hc hp k
abbrev i6(n:Int):AV:=.int .i64 n
abbrev lf{α:Type}(e:En α)(l:List α):AV:=.lst false (ml e l)
abbrev k0(x:aM):List AV:=[.int .i64 x.ID,.bool x.xY]
abbrev k1(x:bA):List AV:=[.int .i64 x.A,.int .i64 x.B,.int .i64 x.iC,.int .i64 x.iD,.int .i64 x.mj]
abbrev k2(x:aa):List AV:=[.lst false (ml aJ x.aq),.lst false (ml bR x.Links)]
abbrev k3(x:cw):List AV:=[.int .i64 x.ez,.int .i64 x.To]
abbrev k4(x:dO):List AV:=[.lst false (ml dH x.Links),.lst false (ml aF x.aq)]
abbrev k5(x:aj):List AV:=[.int .i64 x.Bit,.int .i64 x.bx,.int .i64 x.Kind,.int .i64 x.To]
abbrev k6(x:aZ):List AV:=[.lst false (ml aF x.L),.int .i64 x.At]
abbrev k7(x:aK):List AV:=[.int .i64 x.Length,.lst false (ml ak x.List)]
abbrev k8(x:mm):List AV:=[.int .i64 x.nq,.lst false (ml dH x.Links)]
abbrev k9(x:aB):List AV:=[.int .i64 x.to_,.int .i64 x.fe]
abbrev k10(x:aT):List AV:=[.int .i64 x.Mode,.int .i64 x.cA,.int .i64 x.Set,.int .i64 x.Length,.int .i64 x.TTL,.int .i64 x.cZ,.int .i64 x.de,.int .i64 x.eE,.int .u64 x.Bits,.str x.cS]
abbrev k11(x:bp):List AV:=[.int .i64 x.To,.lst false (ml aF x.Frame.eF),.int .i64 x.Frame.aI.Mode,.int .i64 x.Frame.aI.cA,.int .i64 x.Frame.aI.Set,.int .i64 x.Frame.aI.Length,.int .i64 x.Frame.aI.TTL,.int .i64 x.Frame.aI.cZ,.int .i64 x.Frame.aI.de,.int .i64 x.Frame.aI.eE,.int .u64 x.Frame.aI.Bits,.str x.Frame.aI.cS]
abbrev k12(x:bQ):List AV:=[.int .u64 x.Local,.int .u64 x.lQ,.lst false (ml cm x.bu)]
end Go.Proofs.YtdjeacigeegklaaGreat
