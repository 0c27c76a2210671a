/- The data of the program, as Lean data, and what is known of its types. No condition but bU bx stand in each. -/
import Derived.Test.YtdjeacigeegklaaGreatF
import Derived.Test.YtdjeacigeegklaaGreatBA
import Derived.LoopN
import Derived.Test.YtdjeacigeegklaaGreatAC
namespace Go.Proofs.YtdjeacigeegklaaGreat
open Go Go.Proofs.Tryz
set_option maxRecDepth 100000
set_option linter.all false
structure aY where
 ID:Int
 zO:Bool
instance:Inhabited aY:=⟨aY.mk (0:Int) false⟩
def aJ:En aY:=⟨λx=>[.int .i64 x.ID,.bool x.zO],2,λ_=>rfl,λ_=>rfl,λ_=>rfl⟩
structure bt where
 A:Int
 B:Int
 iz:Int
 iA:Int
 nX:Int
instance:Inhabited bt:=⟨bt.mk (0:Int) (0:Int) (0:Int) (0:Int) (0:Int)⟩
def bJ:En bt:=⟨λx=>[.int .i64 x.A,.int .i64 x.B,.int .i64 x.iz,.int .i64 x.iA,.int .i64 x.nX],5,λ_=>rfl,λ_=>rfl,λ_=>rfl⟩
structure af where
 aq:List aY
 Links:List bt
instance:Inhabited af:=⟨af.mk [] []⟩
def lD:En af:=⟨λx=>[.lst false (ml aJ x.aq),.lst false (ml bJ x.Links)],2,λ_=>rfl,λ_=>rfl,λ_=>rfl⟩
structure cB where
 ct:Int
 To:Int
instance:Inhabited cB:=⟨cB.mk (0:Int) (0:Int)⟩
def bR:En cB:=⟨λx=>[.int .i64 x.ct,.int .i64 x.To],2,λ_=>rfl,λ_=>rfl,λ_=>rfl⟩
structure xy where
 Links:List cB
 aq:List Int
instance:Inhabited xy:=⟨xy.mk [] []⟩
structure ak where
 Bit:Int
 aN:Int
 Kind:Int
 To:Int
instance:Inhabited ak:=⟨ak.mk (0:Int) (0:Int) (0:Int) (0:Int)⟩
def ay:En ak:=⟨λx=>[.int .i64 x.Bit,.int .i64 x.aN,.int .i64 x.Kind,.int .i64 x.To],4,λ_=>rfl,λ_=>rfl,λ_=>rfl⟩
structure aR where
 L:List Int
 At:Int
instance:Inhabited aR:=⟨aR.mk [] (0:Int)⟩
structure aG where
 Length:Int
 List:List ak
instance:Inhabited aG:=⟨aG.mk (0:Int) []⟩
def ij:En aG:=⟨λx=>[.int .i64 x.Length,.lst false (ml ay x.List)],2,λ_=>rfl,λ_=>rfl,λ_=>rfl⟩
structure cM where
 dB:Int
 Links:List cB
instance:Inhabited cM:=⟨cM.mk (0:Int) []⟩
def qg:En cM:=⟨λx=>[.int .i64 x.dB,.lst false (ml bR x.Links)],2,λ_=>rfl,λ_=>rfl,λ_=>rfl⟩
structure aS where
 bY:Int
 qs:Int
 to_:Int
instance:Inhabited aS:=⟨aS.mk (0:Int) (0:Int) (0:Int)⟩
def dH:En aS:=⟨λx=>[.int .i64 x.bY,.int .i64 x.qs,.int .i64 x.to_],3,λ_=>rfl,λ_=>rfl,λ_=>rfl⟩
def cO(a b:aS):Bool:=decide (a.bY=b.bY)&&(decide (a.qs=b.qs)&&(decide (a.to_=b.to_)&&true))
structure aC where
 to_:Int
 gb:Int
instance:Inhabited aC:=⟨aC.mk (0:Int) (0:Int)⟩
def aA:En aC:=⟨λx=>[.int .i64 x.to_,.int .i64 x.gb],2,λ_=>rfl,λ_=>rfl,λ_=>rfl⟩
structure fH where
 mR:List (Int×List aC)
 in_:List (Int×List aC)
instance:Inhabited fH:=⟨fH.mk [] []⟩
structure aD where
 Mode:Int
 bL:Int
 Set:Int
 Length:Int
 TTL:Int
 cn:Int
 cq:Int
 dg:Int
 Bits:Int
 cm:ByteArray
instance:Inhabited aD:=⟨aD.mk (0:Int) (0:Int) (0:Int) (0:Int) (0:Int) (0:Int) (0:Int) (0:Int) (0:Int) (⟨#[]⟩)⟩
def iL:En aD:=⟨λx=>[.int .i64 x.Mode,.int .i64 x.bL,.int .i64 x.Set,.int .i64 x.Length,.int .i64 x.TTL,.int .i64 x.cn,.int .i64 x.cq,.int .i64 x.dg,.int .u64 x.Bits,.str x.cm],10,λ_=>rfl,λ_=>rfl,λ_=>rfl⟩
def gN(a b:aD):Bool:=decide (a.Mode=b.Mode)&&(decide (a.bL=b.bL)&&(decide (a.Set=b.Set)&&(decide (a.Length=b.Length)&&(decide (a.TTL=b.TTL)&&(decide (a.cn=b.cn)&&(decide (a.cq=b.cq)&&(decide (a.dg=b.dg)&&(decide (a.Bits=b.Bits)&&((a.cm.toList==b.cm.toList)&&true)))))))))
structure kZ where
 fk:List Int
 aQ:aD
instance:Inhabited kZ:=⟨kZ.mk [] (aD.mk (0:Int) (0:Int) (0:Int) (0:Int) (0:Int) (0:Int) (0:Int) (0:Int) (0:Int) ⟨#[]⟩)⟩
structure eP where
 To:Int
 Frame:kZ
instance:Inhabited eP:=⟨eP.mk (0:Int) (kZ.mk [] (aD.mk (0:Int) (0:Int) (0:Int) (0:Int) (0:Int) (0:Int) (0:Int) (0:Int) (0:Int) ⟨#[]⟩))⟩
def gF:En eP:=⟨λx=>[.int .i64 x.To,.lst false (ml aB x.Frame.fk),.int .i64 x.Frame.aQ.Mode,.int .i64 x.Frame.aQ.bL,.int .i64 x.Frame.aQ.Set,.int .i64 x.Frame.aQ.Length,.int .i64 x.Frame.aQ.TTL,.int .i64 x.Frame.aQ.cn,.int .i64 x.Frame.aQ.cq,.int .i64 x.Frame.aQ.dg,.int .u64 x.Frame.aQ.Bits,.str x.Frame.aQ.cm],12,λ_=>rfl,λ_=>rfl,λ_=>rfl⟩
structure dz where
 Local:Int
 jL:Int
 dS:List eP
instance:Inhabited dz:=⟨dz.mk (0:Int) (0:Int) []⟩
structure bG where
 fI:ak
 copy_:eP
instance:Inhabited bG:=⟨bG.mk (ak.mk (0:Int) (0:Int) (0:Int) (0:Int)) (eP.mk (0:Int) (kZ.mk [] (aD.mk (0:Int) (0:Int) (0:Int) (0:Int) (0:Int) (0:Int) (0:Int) (0:Int) (0:Int) ⟨#[]⟩)))⟩
def dx:En bG:=⟨λx=>[.int .i64 x.fI.Bit,.int .i64 x.fI.aN,.int .i64 x.fI.Kind,.int .i64 x.fI.To,.int .i64 x.copy_.To,.lst false (ml aB x.copy_.Frame.fk),.int .i64 x.copy_.Frame.aQ.Mode,.int .i64 x.copy_.Frame.aQ.bL,.int .i64 x.copy_.Frame.aQ.Set,.int .i64 x.copy_.Frame.aQ.Length,.int .i64 x.copy_.Frame.aQ.TTL,.int .i64 x.copy_.Frame.aQ.cn,.int .i64 x.copy_.Frame.aQ.cq,.int .i64 x.copy_.Frame.aQ.dg,.int .u64 x.copy_.Frame.aQ.Bits,.str x.copy_.Frame.aQ.cm],16,λ_=>rfl,λ_=>rfl,λ_=>rfl⟩
structure cw where
 aN:Int
 aQ:aD
instance:Inhabited cw:=⟨cw.mk (0:Int) (aD.mk (0:Int) (0:Int) (0:Int) (0:Int) (0:Int) (0:Int) (0:Int) (0:Int) (0:Int) ⟨#[]⟩)⟩
def cC:En cw:=⟨λx=>[.int .i64 x.aN,.int .i64 x.aQ.Mode,.int .i64 x.aQ.bL,.int .i64 x.aQ.Set,.int .i64 x.aQ.Length,.int .i64 x.aQ.TTL,.int .i64 x.aQ.cn,.int .i64 x.aQ.cq,.int .i64 x.aQ.dg,.int .u64 x.aQ.Bits,.str x.aQ.cm],11,λ_=>rfl,λ_=>rfl,λ_=>rfl⟩
def qh(a b:cw):Bool:=decide (a.aN=b.aN)&&((decide (a.aQ.Mode=b.aQ.Mode)&&(decide (a.aQ.bL=b.aQ.bL)&&(decide (a.aQ.Set=b.aQ.Set)&&(decide (a.aQ.Length=b.aQ.Length)&&(decide (a.aQ.TTL=b.aQ.TTL)&&(decide (a.aQ.cn=b.aQ.cn)&&(decide (a.aQ.cq=b.aQ.cq)&&(decide (a.aQ.dg=b.aQ.dg)&&(decide (a.aQ.Bits=b.aQ.Bits)&&((a.aQ.cm.toList==b.aQ.cm.toList)&&true))))))))))&&true)
structure aU where
 ct:Int
 To:Int
 Bits:Int
instance:Inhabited aU:=⟨aU.mk (0:Int) (0:Int) (0:Int)⟩
def cR:En aU:=⟨λx=>[.int .i64 x.ct,.int .i64 x.To,.int .u64 x.Bits],3,λ_=>rfl,λ_=>rfl,λ_=>rfl⟩
def qi(a b:aU):Bool:=decide (a.ct=b.ct)&&(decide (a.To=b.To)&&(decide (a.Bits=b.Bits)&&true))
structure cD where
 aN:Int
 Bits:Int
instance:Inhabited cD:=⟨cD.mk (0:Int) (0:Int)⟩
def gl:En cD:=⟨λx=>[.int .i64 x.aN,.int .u64 x.Bits],2,λ_=>rfl,λ_=>rfl,λ_=>rfl⟩
def wL(a b:cD):Bool:=decide (a.aN=b.aN)&&(decide (a.Bits=b.Bits)&&true)
structure dy where
 dD:List cw
 dF:List aU
 gm:List cD
instance:Inhabited dy:=⟨dy.mk [] [] []⟩
structure aM where
 bY:Int
 cz:aD
instance:Inhabited aM:=⟨aM.mk (0:Int) (aD.mk (0:Int) (0:Int) (0:Int) (0:Int) (0:Int) (0:Int) (0:Int) (0:Int) (0:Int) ⟨#[]⟩)⟩
def dN:En aM:=⟨λx=>[.int .i64 x.bY,.int .i64 x.cz.Mode,.int .i64 x.cz.bL,.int .i64 x.cz.Set,.int .i64 x.cz.Length,.int .i64 x.cz.TTL,.int .i64 x.cz.cn,.int .i64 x.cz.cq,.int .i64 x.cz.dg,.int .u64 x.cz.Bits,.str x.cz.cm],11,λ_=>rfl,λ_=>rfl,λ_=>rfl⟩
structure cU where
 aN:Int
 aQ:aD
instance:Inhabited cU:=⟨cU.mk (0:Int) (aD.mk (0:Int) (0:Int) (0:Int) (0:Int) (0:Int) (0:Int) (0:Int) (0:Int) (0:Int) ⟨#[]⟩)⟩
def jj:En cU:=⟨λx=>[.int .i64 x.aN,.int .i64 x.aQ.Mode,.int .i64 x.aQ.bL,.int .i64 x.aQ.Set,.int .i64 x.aQ.Length,.int .i64 x.aQ.TTL,.int .i64 x.aQ.cn,.int .i64 x.aQ.cq,.int .i64 x.aQ.dg,.int .u64 x.aQ.Bits,.str x.aQ.cm],11,λ_=>rfl,λ_=>rfl,λ_=>rfl⟩
structure uY where
 bY:Int
 frame_:kZ
instance:Inhabited uY:=⟨uY.mk (0:Int) (kZ.mk [] (aD.mk (0:Int) (0:Int) (0:Int) (0:Int) (0:Int) (0:Int) (0:Int) (0:Int) (0:Int) ⟨#[]⟩))⟩
structure yb where
 engine_:aG
 before_:af
 left_:af
 failure_:xy
 trace_:dy
 queue_:List uY
instance:Inhabited yb:=⟨yb.mk (aG.mk (0:Int) []) (af.mk [] []) (af.mk [] []) (xy.mk [] []) (dy.mk [] [] []) []⟩
structure aar where
 aN:Int
 Frame:kZ
instance:Inhabited aar:=⟨aar.mk (0:Int) (kZ.mk [] (aD.mk (0:Int) (0:Int) (0:Int) (0:Int) (0:Int) (0:Int) (0:Int) (0:Int) (0:Int) ⟨#[]⟩))⟩
structure ade where
 E0:Int
 E1:Int
instance:Inhabited ade:=⟨ade.mk (0:Int) (0:Int)⟩
def ti2:TI:=⟨1,false,some [zI0],.int .i64⟩
theorem tk2:bP prog 2 ti2:=⟨ty2,λzs h=>by cases h;exact ze2,underlying2⟩
def ti3:TI:=⟨1,false,some [zI0],.int .i64⟩
theorem tk3:bP prog 3 ti3:=⟨ty3,λzs h=>by cases h;exact ze3,underlying3⟩
def ti4:TI:=⟨1,false,some [.bool false],.bool⟩
theorem tk4:bP prog 4 ti4:=⟨ty4,λzs h=>by cases h;exact ze4,underlying4⟩
def ti5:TI:=⟨1,false,some [.int .u8 0],.int .u8⟩
theorem tk5:bP prog 5 ti5:=⟨ty5,λzs h=>by cases h;exact ze5,underlying5⟩
def ti6:TI:=⟨1,false,some [.int .u8 0],.int .u8⟩
theorem tk6:bP prog 6 ti6:=⟨ty6,λzs h=>by cases h;exact ze6,underlying6⟩
def ti7:TI:=⟨4,true,some [zI0,zI0,.bool false,.int .u8 0],.struct [zI0,zI0,.bool false,.int .u8 0] [(0,1),(1,1),(2,1),(3,1)] [false,false,false,false]⟩
theorem tk7:bP prog 7 ti7:=⟨ty7,λzs h=>by cases h;exact ze7,cc str7 ⟨asB,asC,asD,asE,trivial⟩ ⟨asF,asG,asH,asI,trivial⟩⟩
def ti8:TI:=⟨4,true,some [zI0,zI0,.bool false,.int .u8 0],.struct [zI0,zI0,.bool false,.int .u8 0] [(0,1),(1,1),(2,1),(3,1)] [false,false,false,false]⟩
theorem tk8:bP prog 8 ti8:=⟨ty8,λzs h=>by cases h;exact ze8,cc str8 ⟨asJ,asK,asL,asM,trivial⟩ ⟨asN,asO,asP,asQ,trivial⟩⟩
def ti9:TI:=⟨1,false,some [.string ⟨#[]⟩],.str⟩
theorem tk9:bP prog 9 ti9:=⟨ty9,λzs h=>by cases h;exact ze9,underlying9⟩
def auR:TI:=⟨1,false,some [.string ⟨#[]⟩],.str⟩
theorem tk10:bP prog 10 auR:=⟨ty10,λzs h=>by cases h;exact ze10,underlying10⟩
def auS:TI:=⟨1,false,some [.string ⟨#[]⟩],.str⟩
theorem tk11:bP prog 11 auS:=⟨ty11,λzs h=>by cases h;exact ze11,underlying11⟩
def auT:TI:=⟨1,false,some [.int .u64 0],.int .u64⟩
theorem tk12:bP prog 12 auT:=⟨aaD,λzs h=>by cases h;exact ze12,underlying12⟩
def auU:TI:=⟨2,true,some [.string ⟨#[]⟩,.int .u64 0],.struct [.string ⟨#[]⟩,.int .u64 0] [(0,1),(1,1)] [false,false]⟩
theorem tk13:bP prog 13 auU:=⟨ty13,λzs h=>by cases h;exact ze13,cc axo ⟨aof,aog,trivial⟩ ⟨aoh,aoi,trivial⟩⟩
def auV:TI:=⟨2,true,some [.string ⟨#[]⟩,.int .u64 0],.struct [.string ⟨#[]⟩,.int .u64 0] [(0,1),(1,1)] [false,false]⟩
theorem tk14:bP prog 14 auV:=⟨ty14,λzs h=>by cases h;exact ze14,cc axp ⟨aoj,aok,trivial⟩ ⟨aol,aom,trivial⟩⟩
def auW:TI:=⟨1,false,some [.pointer none],.oth⟩
theorem tk15:bP prog 15 auW:=⟨ty15,λzs h=>by cases h;exact ze15,trivial⟩
def auX:TI:=⟨1,false,some [.pointer none],.oth⟩
theorem tk16:bP prog 16 auX:=⟨ty16,λzs h=>by cases h;exact ze16,trivial⟩
def auZ:TI:=⟨1,false,some [.pointer none],.oth⟩
theorem tk17:bP prog 17 auZ:=⟨xk,λzs h=>by cases h;exact ze17,trivial⟩
def au0:TI:=⟨1,true,some [.pointer none],.struct [.pointer none] [(0,1)] [false]⟩
theorem tk18:bP prog 18 au0:=⟨ty18,λzs h=>by cases h;exact ze18,cc axq ⟨aon,trivial⟩ ⟨aoo,trivial⟩⟩
def au1:TI:=⟨1,true,some [.pointer none],.struct [.pointer none] [(0,1)] [false]⟩
theorem tk19:bP prog 19 au1:=⟨ty19,λzs h=>by cases h;exact ze19,cc axr ⟨aop,trivial⟩ ⟨aoq,trivial⟩⟩
def au2:TI:=⟨1,false,some [.int .i32 0],.int .i32⟩
theorem tk21:bP prog 21 au2:=⟨ty21,λzs h=>by cases h;exact ze21,underlying21⟩
def au3:TI:=⟨1,false,some [zS0],.slice 3 1 8 [zI0]⟩
theorem tk22:bP prog 22 au3:=⟨aaE,λzs h=>by cases h;exact aso,⟨sl22,afR,amE⟩⟩
def au4:TI:=⟨1,false,some [.pointer none],.oth⟩
theorem tk23:bP prog 23 au4:=⟨ty23,λzs h=>by cases h;exact ze23,trivial⟩
def au5:TI:=⟨1,false,some [zS0],.slice 42 2 16 [zI0,.bool false]⟩
theorem tk25:bP prog 25 au5:=⟨aip,λzs h=>by cases h;exact ze25,⟨sl25,axt,axu⟩⟩
def au6:TI:=⟨1,false,some [zS0],.slice 89 5 40 [zI0,zI0,zI0,zI0,zI0]⟩
theorem tk26:bP prog 26 au6:=⟨aiq,λzs h=>by cases h;exact ze26,⟨sl26,axv,axw⟩⟩
def au7:TI:=⟨2,true,some [zS0,zS0],.struct [zS0,zS0] [(0,1),(1,1)] [false,false]⟩
theorem tk27:bP prog 27 au7:=⟨ty27,λzs h=>by cases h;exact ze27,cc axx ⟨aor,aos,trivial⟩ ⟨aot,aou,trivial⟩⟩
def au8:TI:=⟨2,true,some [zS0,zS0],.struct [zS0,zS0] [(0,1),(1,1)] [false,false]⟩
theorem tk28:bP prog 28 au8:=⟨adZ,λzs h=>by cases h;exact asp,cc axy ⟨aov,aow,trivial⟩ ⟨aox,aoy,trivial⟩⟩
def au9:TI:=⟨1,false,some [zS0],.slice 38 4 32 [zI0,zI0,zI0,zI0]⟩
theorem tk30:bP prog 30 au9:=⟨air,λzs h=>by cases h;exact ze30,⟨asR,axz,axA⟩⟩
def ava:TI:=⟨2,true,some [zI0,zS0],.struct [zI0,zS0] [(0,1),(1,1)] [false,false]⟩
theorem tk31:bP prog 31 ava:=⟨ty31,λzs h=>by cases h;exact ze31,cc axB ⟨aoz,aoA,trivial⟩ ⟨aoB,aoC,trivial⟩⟩
def avb:TI:=⟨2,true,some [zI0,zS0],.struct [zI0,zS0] [(0,1),(1,1)] [false,false]⟩
theorem tk32:bP prog 32 avb:=⟨ais,λzs h=>by cases h;exact asq,cc axC ⟨aoD,aoE,trivial⟩ ⟨aoF,aoG,trivial⟩⟩
def avc:TI:=⟨1,false,some [.int .u64 0],.int .u64⟩
theorem tk34:bP prog 34 avc:=⟨uR,λzs h=>by cases h;exact ze34,underlying34⟩
def avd:TI:=⟨10,true,some [zI0,zI0,zI0,zI0,zI0,zI0,zI0,zI0,.int .u64 0,.string ⟨#[]⟩],.struct [zI0,zI0,zI0,zI0,zI0,zI0,zI0,zI0,.int .u64 0,.string ⟨#[]⟩] [(0,1),(1,1),(2,1),(3,1),(4,1),(5,1),(6,1),(7,1),(8,1),(9,1)] [false,false,false,false,false,false,false,false,false,false]⟩
theorem tk35:bP prog 35 avd:=⟨ty35,λzs h=>by cases h;exact ze35,cc axD ⟨aoH,aoI,aoJ,aoK,aoL,aoM,aoN,aoO,aoP,aoQ,trivial⟩ ⟨aoR,aoS,aoT,aoU,aoV,aoW,aoX,aoY,aoZ,ao0,trivial⟩⟩
def ave:TI:=⟨10,true,some [zI0,zI0,zI0,zI0,zI0,zI0,zI0,zI0,.int .u64 0,.string ⟨#[]⟩],.struct [zI0,zI0,zI0,zI0,zI0,zI0,zI0,zI0,.int .u64 0,.string ⟨#[]⟩] [(0,1),(1,1),(2,1),(3,1),(4,1),(5,1),(6,1),(7,1),(8,1),(9,1)] [false,false,false,false,false,false,false,false,false,false]⟩
theorem tk36:bP prog 36 ave:=⟨yG,λzs h=>by cases h;exact asr,cc axE ⟨ao1,ao2,ao3,ao4,ao5,ao6,ao7,ao8,ao9,apa,trivial⟩ ⟨apb,apc,apd,ape,apf,apg,aph,api,apj,apk,trivial⟩⟩
def avf:TI:=⟨4,true,some [zI0,zI0,zI0,zI0],.struct [zI0,zI0,zI0,zI0] [(0,1),(1,1),(2,1),(3,1)] [false,false,false,false]⟩
theorem tk37:bP prog 37 avf:=⟨ty37,λzs h=>by cases h;exact ze37,cc axG ⟨apl,apm,apn,apo,trivial⟩ ⟨apq,apr,aps,apt,trivial⟩⟩
def avg:TI:=⟨4,true,some [zI0,zI0,zI0,zI0],.struct [zI0,zI0,zI0,zI0] [(0,1),(1,1),(2,1),(3,1)] [false,false,false,false]⟩
theorem tk38:bP prog 38 avg:=⟨ait,λzs h=>by cases h;exact ass,cc axH ⟨apu,apv,apw,apx,trivial⟩ ⟨apy,apz,apA,apB,trivial⟩⟩
def avh:TI:=⟨1,false,some [.int .u64 0],.int .u64⟩
theorem tk40:bP prog 40 avh:=⟨ty40,λzs h=>by cases h;exact ze40,underlying40⟩
def avj:TI:=⟨2,true,some [zI0,.bool false],.struct [zI0,.bool false] [(0,1),(1,1)] [false,false]⟩
theorem tk41:bP prog 41 avj:=⟨ty41,λzs h=>by cases h;exact ze41,cc axI ⟨apC,apD,trivial⟩ ⟨apF,apG,trivial⟩⟩
def avk:TI:=⟨2,true,some [zI0,.bool false],.struct [zI0,.bool false] [(0,1),(1,1)] [false,false]⟩
theorem tk42:bP prog 42 avk:=⟨ty42,λzs h=>by cases h;exact ast,cc axJ ⟨apH,apI,trivial⟩ ⟨apJ,apK,trivial⟩⟩
def avl:TI:=⟨1,false,some [zS0],.slice 54 12 120 [zI0,zS0,zI0,zI0,zI0,zI0,zI0,zI0,zI0,zI0,.int .u64 0,.string ⟨#[]⟩]⟩
theorem tk44:bP prog 44 avl:=⟨aiu,λzs h=>by cases h;exact ze44,⟨sl44,axK,axL⟩⟩
def avm:TI:=⟨3,true,some [.int .u64 0,.int .u64 0,zS0],.struct [.int .u64 0,.int .u64 0,zS0] [(0,1),(1,1),(2,1)] [false,false,false]⟩
theorem tk45:bP prog 45 avm:=⟨ty45,λzs h=>by cases h;exact ze45,cc axM ⟨apL,apM,apN,trivial⟩ ⟨apO,apP,apQ,trivial⟩⟩
def avn:TI:=⟨3,true,some [.int .u64 0,.int .u64 0,zS0],.struct [.int .u64 0,.int .u64 0,zS0] [(0,1),(1,1),(2,1)] [false,false,false]⟩
theorem tk46:bP prog 46 avn:=⟨ty46,λzs h=>by cases h;exact ze46,cc axN ⟨apR,apS,apT,trivial⟩ ⟨apU,apV,apW,trivial⟩⟩
def avo:TI:=⟨1,false,some [zI0],.int .i64⟩
theorem tk47:bP prog 47 avo:=⟨ty47,λzs h=>by cases h;exact asu,underlying47⟩
def avp:TI:=⟨11,true,some [zS0,zI0,zI0,zI0,zI0,zI0,zI0,zI0,zI0,.int .u64 0,.string ⟨#[]⟩],.struct [zS0,zI0,zI0,zI0,zI0,zI0,zI0,zI0,zI0,.int .u64 0,.string ⟨#[]⟩] [(0,1),(1,10)] [false,true]⟩
theorem tk51:bP prog 51 avp:=⟨ty51,λzs h=>by cases h;exact ze51,cc axO ⟨apX,apY,trivial⟩ ⟨apZ,ap0,trivial⟩⟩
def avq:TI:=⟨11,true,some [zS0,zI0,zI0,zI0,zI0,zI0,zI0,zI0,zI0,.int .u64 0,.string ⟨#[]⟩],.struct [zS0,zI0,zI0,zI0,zI0,zI0,zI0,zI0,zI0,.int .u64 0,.string ⟨#[]⟩] [(0,1),(1,10)] [false,true]⟩
theorem tk52:bP prog 52 avq:=⟨aaG,λzs h=>by cases h;exact ze52,cc axP ⟨ap1,ap2,trivial⟩ ⟨ap3,ap4,trivial⟩⟩
def avr:TI:=⟨12,true,some [zI0,zS0,zI0,zI0,zI0,zI0,zI0,zI0,zI0,zI0,.int .u64 0,.string ⟨#[]⟩],.struct [zI0,zS0,zI0,zI0,zI0,zI0,zI0,zI0,zI0,zI0,.int .u64 0,.string ⟨#[]⟩] [(0,1),(1,11)] [false,true]⟩
theorem tk53:bP prog 53 avr:=⟨ty53,λzs h=>by cases h;exact ze53,cc axQ ⟨ap5,ap6,trivial⟩ ⟨ap7,ap8,trivial⟩⟩
def avt:TI:=⟨12,true,some [zI0,zS0,zI0,zI0,zI0,zI0,zI0,zI0,zI0,zI0,.int .u64 0,.string ⟨#[]⟩],.struct [zI0,zS0,zI0,zI0,zI0,zI0,zI0,zI0,zI0,zI0,.int .u64 0,.string ⟨#[]⟩] [(0,1),(1,11)] [false,true]⟩
theorem tk54:bP prog 54 avt:=⟨aiv,λzs h=>by cases h;exact asv,cc axR ⟨ap9,aqa,trivial⟩ ⟨aqb,aqc,trivial⟩⟩
def avu:TI:=⟨1,false,some [zS0],.slice 67 2 16 [zI0,zI0]⟩
theorem tk61:bP prog 61 avu:=⟨ad0,λzs h=>by cases h;exact ze61,⟨sl61,amF,axS⟩⟩
def avv:TI:=⟨2,true,some [zI0,zS0],.struct [zI0,zS0] [(0,1),(1,1)] [false,false]⟩
theorem tk62:bP prog 62 avv:=⟨ty62,λzs h=>by cases h;exact ze62,cc axT ⟨aqd,aqe,trivial⟩ ⟨aqf,aqg,trivial⟩⟩
def avw:TI:=⟨2,true,some [zI0,zS0],.struct [zI0,zS0] [(0,1),(1,1)] [false,false]⟩
theorem tk63:bP prog 63 avw:=⟨ty63,λzs h=>by cases h;exact asw,cc axU ⟨aqh,aqi,trivial⟩ ⟨aqj,aqk,trivial⟩⟩
def avx:TI:=⟨2,true,some [zI0,zI0],.struct [zI0,zI0] [(0,1),(1,1)] [false,false]⟩
theorem tk66:bP prog 66 avx:=⟨ty66,λzs h=>by cases h;exact ze66,cc axV ⟨aql,aqm,trivial⟩ ⟨aqn,aqo,trivial⟩⟩
def avy:TI:=⟨2,true,some [zI0,zI0],.struct [zI0,zI0] [(0,1),(1,1)] [false,false]⟩
theorem tk67:bP prog 67 avy:=⟨ty67,λzs h=>by cases h;exact asx,cc axW ⟨aqp,aqq,trivial⟩ ⟨aqr,aqs,trivial⟩⟩
def avz:TI:=⟨1,false,some [zS0],.slice 78 11 96 [zI0,zI0,zI0,zI0,zI0,zI0,zI0,zI0,zI0,.int .u64 0,.string ⟨#[]⟩]⟩
theorem tk70:bP prog 70 avz:=⟨aiw,λzs h=>by cases h;exact ze70,⟨sl70,axX,axY⟩⟩
def avA:TI:=⟨1,false,some [zS0],.slice 81 3 24 [zI0,zI0,.int .u64 0]⟩
theorem tk71:bP prog 71 avA:=⟨aix,λzs h=>by cases h;exact ze71,⟨sl71,axZ,ax0⟩⟩
def avB:TI:=⟨1,false,some [zS0],.slice 141 2 16 [zI0,.int .u64 0]⟩
theorem tk72:bP prog 72 avB:=⟨aiy,λzs h=>by cases h;exact ze72,⟨sl72,ax1,ax2⟩⟩
def avC:TI:=⟨3,true,some [zS0,zS0,zS0],.struct [zS0,zS0,zS0] [(0,1),(1,1),(2,1)] [false,false,false]⟩
theorem tk73:bP prog 73 avC:=⟨ty73,λzs h=>by cases h;exact ze73,cc ax3 ⟨aqt,aqu,aqv,trivial⟩ ⟨aqw,aqx,aqy,trivial⟩⟩
def avD:TI:=⟨3,true,some [zS0,zS0,zS0],.struct [zS0,zS0,zS0] [(0,1),(1,1),(2,1)] [false,false,false]⟩
theorem tk74:bP prog 74 avD:=⟨aiz,λzs h=>by cases h;exact ze74,cc ax4 ⟨aqz,aqA,aqB,trivial⟩ ⟨aqC,aqD,aqE,trivial⟩⟩
def avE:TI:=⟨11,true,some [zI0,zI0,zI0,zI0,zI0,zI0,zI0,zI0,zI0,.int .u64 0,.string ⟨#[]⟩],.struct [zI0,zI0,zI0,zI0,zI0,zI0,zI0,zI0,zI0,.int .u64 0,.string ⟨#[]⟩] [(0,1),(1,10)] [false,true]⟩
theorem tk77:bP prog 77 avE:=⟨ty77,λzs h=>by cases h;exact ze77,cc ax5 ⟨aqF,aqG,trivial⟩ ⟨aqH,aqI,trivial⟩⟩
def avF:TI:=⟨11,true,some [zI0,zI0,zI0,zI0,zI0,zI0,zI0,zI0,zI0,.int .u64 0,.string ⟨#[]⟩],.struct [zI0,zI0,zI0,zI0,zI0,zI0,zI0,zI0,zI0,.int .u64 0,.string ⟨#[]⟩] [(0,1),(1,10)] [false,true]⟩
theorem tk78:bP prog 78 avF:=⟨ty78,λzs h=>by cases h;exact asy,cc ax6 ⟨aqJ,aqK,trivial⟩ ⟨aqL,aqM,trivial⟩⟩
def avG:TI:=⟨3,true,some [zI0,zI0,.int .u64 0],.struct [zI0,zI0,.int .u64 0] [(0,1),(1,1),(2,1)] [false,false,false]⟩
theorem tk80:bP prog 80 avG:=⟨ty80,λzs h=>by cases h;exact ze80,cc ax8 ⟨aqN,aqO,aqP,trivial⟩ ⟨aqQ,aqR,aqS,trivial⟩⟩
def avH:TI:=⟨3,true,some [zI0,zI0,.int .u64 0],.struct [zI0,zI0,.int .u64 0] [(0,1),(1,1),(2,1)] [false,false,false]⟩
theorem tk81:bP prog 81 avH:=⟨ty81,λzs h=>by cases h;exact asz,cc ax9 ⟨aqT,aqU,aqV,trivial⟩ ⟨aqW,aqX,aqY,trivial⟩⟩
def avI:TI:=⟨5,true,some [zI0,zI0,zI0,zI0,zI0],.struct [zI0,zI0,zI0,zI0,zI0] [(0,1),(1,1),(2,1),(3,1),(4,1)] [false,false,false,false,false]⟩
theorem tk88:bP prog 88 avI:=⟨ty88,λzs h=>by cases h;exact ze88,cc ayb ⟨aqZ,aq0,aq1,aq2,aq3,trivial⟩ ⟨aq4,aq5,aq6,aq7,aq8,trivial⟩⟩
def avJ:TI:=⟨5,true,some [zI0,zI0,zI0,zI0,zI0],.struct [zI0,zI0,zI0,zI0,zI0] [(0,1),(1,1),(2,1),(3,1),(4,1)] [false,false,false,false,false]⟩
theorem tk89:bP prog 89 avJ:=⟨ty89,λzs h=>by cases h;exact asA,cc ayc ⟨aq9,ara,arb,arc,ard,trivial⟩ ⟨arf,arh,ari,arj,ark,trivial⟩⟩
def avK:TI:=⟨1,false,some [zS0],.slice 32 2 32 [zI0,zS0]⟩
theorem tk91:bP prog 91 avK:=⟨ty91,λzs h=>by cases h;exact ze91,⟨sl91,ayd,aye⟩⟩
def avL:TI:=⟨1,false,some [zS0],.slice 36 10 88 [zI0,zI0,zI0,zI0,zI0,zI0,zI0,zI0,.int .u64 0,.string ⟨#[]⟩]⟩
theorem tk93:bP prog 93 avL:=⟨ty93,λzs h=>by cases h;exact ze93,⟨sl93,ayf,ayg⟩⟩
def avM:TI:=⟨1,false,some [zS0],.slice 28 2 48 [zS0,zS0]⟩
theorem tk94:bP prog 94 avM:=⟨ty94,λzs h=>by cases h;exact ze94,⟨sl94,ayh,ayi⟩⟩
def avN:TI:=⟨1,false,some [zS0],.slice 63 2 32 [zI0,zS0]⟩
theorem tk96:bP prog 96 avN:=⟨ty96,λzs h=>by cases h;exact ze96,⟨sl96,ayj,ayk⟩⟩
def avO:TI:=⟨1,false,some [zS0],.slice 22 1 24 [zS0]⟩
theorem tk97:bP prog 97 avO:=⟨ty97,λzs h=>by cases h;exact ze97,⟨sl97,ayl,aym⟩⟩
def avP:TI:=⟨2,true,some [zS0,zS0],.struct [zS0,zS0] [(0,1),(1,1)] [false,false]⟩
theorem tk99:bP prog 99 avP:=⟨ty99,λzs h=>by cases h;exact ze99,cc ayn ⟨arl,arn,trivial⟩ ⟨aro,arp,trivial⟩⟩
def amJ:TI:=⟨2,true,some [zS0,zS0],.struct [zS0,zS0] [(0,1),(1,1)] [false,false]⟩
theorem azB:bP prog 100 amJ:=⟨afS,λzs h=>by cases h;exact amt,cc asS ⟨aiC,aiD,trivial⟩ ⟨aiE,aiF,trivial⟩⟩
def amK:TI:=⟨1,false,some [zS0],.slice 100 2 48 [zS0,zS0]⟩
theorem azC:bP prog 105 amK:=⟨ayo,λzs h=>by cases h;exact awy,⟨ayp,asT,asU⟩⟩
def amL:TI:=⟨2,true,some [zS0,zI0],.struct [zS0,zI0] [(0,1),(1,1)] [false,false]⟩
theorem azD:bP prog 114 amL:=⟨ayq,λzs h=>by cases h;exact awz,cc asV ⟨aiG,aiH,trivial⟩ ⟨aiI,aiJ,trivial⟩⟩
def amM:TI:=⟨2,true,some [zS0,zI0],.struct [zS0,zI0] [(0,1),(1,1)] [false,false]⟩
theorem azE:bP prog 115 amM:=⟨ayr,λzs h=>by cases h;exact awA,cc asW ⟨aiK,aiL,trivial⟩ ⟨aiM,aiN,trivial⟩⟩
def amN:TI:=⟨1,false,some [zS0],.slice 118 1 24 [zS0]⟩
theorem azF:bP prog 117 amN:=⟨ays,λzs h=>by cases h;exact awB,⟨vz,ahd,ahe⟩⟩
def amO:TI:=⟨1,false,some [zS0],.slice 4 1 1 [.bool false]⟩
theorem azG:bP prog 118 amO:=⟨abz,λzs h=>by cases h;exact amu,⟨ayt,ahf,ahg⟩⟩
def amP:TI:=⟨1,false,some [.nilFunc],.oth⟩
theorem azH:bP prog 130 amP:=⟨ayu,λzs h=>by cases h;exact awC,trivial⟩
def amQ:TI:=⟨11,true,some [zI0,zI0,zI0,zI0,zI0,zI0,zI0,zI0,zI0,.int .u64 0,.string ⟨#[]⟩],.struct [zI0,zI0,zI0,zI0,zI0,zI0,zI0,zI0,zI0,.int .u64 0,.string ⟨#[]⟩] [(0,1),(1,10)] [false,true]⟩
theorem azI:bP prog 133 amQ:=⟨ayv,λzs h=>by cases h;exact awD,cc asX ⟨aiO,aiP,trivial⟩ ⟨aiQ,aiR,trivial⟩⟩
def amR:TI:=⟨11,true,some [zI0,zI0,zI0,zI0,zI0,zI0,zI0,zI0,zI0,.int .u64 0,.string ⟨#[]⟩],.struct [zI0,zI0,zI0,zI0,zI0,zI0,zI0,zI0,zI0,.int .u64 0,.string ⟨#[]⟩] [(0,1),(1,10)] [false,true]⟩
theorem azJ:bP prog 134 amR:=⟨ayw,λzs h=>by cases h;exact amv,cc asY ⟨aiS,aiT,trivial⟩ ⟨aiU,aiV,trivial⟩⟩
def amS:TI:=⟨1,false,some [zS0],.slice 134 11 96 [zI0,zI0,zI0,zI0,zI0,zI0,zI0,zI0,zI0,.int .u64 0,.string ⟨#[]⟩]⟩
theorem azK:bP prog 135 amS:=⟨ayx,λzs h=>by cases h;exact awE,⟨ayy,asZ,as0⟩⟩
def amT:TI:=⟨1,false,some [zS0],.slice 143 16 152 [zI0,zI0,zI0,zI0,zI0,zS0,zI0,zI0,zI0,zI0,zI0,zI0,zI0,zI0,.int .u64 0,.string ⟨#[]⟩]⟩
theorem azL:bP prog 136 amT:=⟨ayz,λzs h=>by cases h;exact awF,⟨ayA,as1,as2⟩⟩
def amU:TI:=⟨2,true,some [zI0,.int .u64 0],.struct [zI0,.int .u64 0] [(0,1),(1,1)] [false,false]⟩
theorem azM:bP prog 140 amU:=⟨ayB,λzs h=>by cases h;exact awG,cc as3 ⟨aiW,aiX,trivial⟩ ⟨aiY,aiZ,trivial⟩⟩
def amV:TI:=⟨2,true,some [zI0,.int .u64 0],.struct [zI0,.int .u64 0] [(0,1),(1,1)] [false,false]⟩
theorem azN:bP prog 141 amV:=⟨ayC,λzs h=>by cases h;exact amw,cc as4 ⟨ai0,ai1,trivial⟩ ⟨ai2,ai3,trivial⟩⟩
def amW:TI:=⟨16,true,some [zI0,zI0,zI0,zI0,zI0,zS0,zI0,zI0,zI0,zI0,zI0,zI0,zI0,zI0,.int .u64 0,.string ⟨#[]⟩],.struct [zI0,zI0,zI0,zI0,zI0,zS0,zI0,zI0,zI0,zI0,zI0,zI0,zI0,zI0,.int .u64 0,.string ⟨#[]⟩] [(0,4),(4,12)] [true,true]⟩
theorem azO:bP prog 142 amW:=⟨ayD,λzs h=>by cases h;exact awH,cc as6 ⟨ai4,ai5,trivial⟩ ⟨ai6,ai7,trivial⟩⟩
def amX:TI:=⟨16,true,some [zI0,zI0,zI0,zI0,zI0,zS0,zI0,zI0,zI0,zI0,zI0,zI0,zI0,zI0,.int .u64 0,.string ⟨#[]⟩],.struct [zI0,zI0,zI0,zI0,zI0,zS0,zI0,zI0,zI0,zI0,zI0,zI0,zI0,zI0,.int .u64 0,.string ⟨#[]⟩] [(0,4),(4,12)] [true,true]⟩
theorem azP:bP prog 143 amX:=⟨ayE,λzs h=>by cases h;exact amx,cc as7 ⟨ai8,ai9,trivial⟩ ⟨aja,ajb,trivial⟩⟩
def amY:TI:=⟨11,true,some [zI0,zI0,zI0,zI0,zI0,zI0,zI0,zI0,zI0,.int .u64 0,.string ⟨#[]⟩],.struct [zI0,zI0,zI0,zI0,zI0,zI0,zI0,zI0,zI0,.int .u64 0,.string ⟨#[]⟩] [(0,1),(1,10)] [false,true]⟩
theorem azQ:bP prog 146 amY:=⟨ayF,λzs h=>by cases h;exact amy,cc as8 ⟨ajc,ajd,trivial⟩ ⟨aje,ajf,trivial⟩⟩
def amZ:TI:=⟨1,false,some [zS0],.slice 146 11 96 [zI0,zI0,zI0,zI0,zI0,zI0,zI0,zI0,zI0,.int .u64 0,.string ⟨#[]⟩]⟩
theorem azR:bP prog 147 amZ:=⟨ayG,λzs h=>by cases h;exact awI,⟨ayH,as9,ata⟩⟩
def am0:TI:=⟨1,false,some [.nilFunc],.oth⟩
theorem azS:bP prog 152 am0:=⟨ayI,λzs h=>by cases h;exact awJ,trivial⟩
def am1:TI:=⟨12,true,some [zI0,zS0,zI0,zI0,zI0,zI0,zI0,zI0,zI0,zI0,.int .u64 0,.string ⟨#[]⟩],.struct [zI0,zS0,zI0,zI0,zI0,zI0,zI0,zI0,zI0,zI0,.int .u64 0,.string ⟨#[]⟩] [(0,1),(1,11)] [false,true]⟩
theorem azT:bP prog 153 am1:=⟨ayJ,λzs h=>by cases h;exact awK,cc atb ⟨ajg,ajh,trivial⟩ ⟨aji,ajj,trivial⟩⟩
def am2:TI:=⟨12,true,some [zI0,zS0,zI0,zI0,zI0,zI0,zI0,zI0,zI0,zI0,.int .u64 0,.string ⟨#[]⟩],.struct [zI0,zS0,zI0,zI0,zI0,zI0,zI0,zI0,zI0,zI0,.int .u64 0,.string ⟨#[]⟩] [(0,1),(1,11)] [false,true]⟩
theorem azU:bP prog 154 am2:=⟨ayK,λzs h=>by cases h;exact amz,cc atc ⟨ajk,ajl,trivial⟩ ⟨ajm,ajn,trivial⟩⟩
def am3:TI:=⟨1,false,some [zS0],.slice 154 12 120 [zI0,zS0,zI0,zI0,zI0,zI0,zI0,zI0,zI0,zI0,.int .u64 0,.string ⟨#[]⟩]⟩
theorem azV:bP prog 155 am3:=⟨afT,λzs h=>by cases h;exact awL,⟨ayL,atd,ate⟩⟩
def am4:TI:=⟨12,true,some [zI0,zS0,zS0,zS0,zS0,zS0,zS0,zS0,zS0,zS0,zS0,zS0],.struct [zI0,zS0,zS0,zS0,zS0,zS0,zS0,zS0,zS0,zS0,zS0,zS0] [(0,2),(2,2),(4,2),(6,2),(8,3),(11,1)] [true,true,true,true,true,false]⟩
theorem azW:bP prog 156 am4:=⟨ayM,λzs h=>by cases h;exact awM,cc atf ⟨ajo,ajp,ajq,ajr,ajs,ajt,trivial⟩ ⟨aju,ajv,ajw,ajx,ajy,ajz,trivial⟩⟩
def am5:TI:=⟨12,true,some [zI0,zS0,zS0,zS0,zS0,zS0,zS0,zS0,zS0,zS0,zS0,zS0],.struct [zI0,zS0,zS0,zS0,zS0,zS0,zS0,zS0,zS0,zS0,zS0,zS0] [(0,2),(2,2),(4,2),(6,2),(8,3),(11,1)] [true,true,true,true,true,false]⟩
theorem azX:bP prog 157 am5:=⟨ayN,λzs h=>by cases h;exact awN,cc atg ⟨ajA,ajB,ajC,ajD,ajE,ajF,trivial⟩ ⟨ajG,ajH,ajI,ajJ,ajK,ajL,trivial⟩⟩
def am6:TI:=⟨12,true,some [zI0,zS0,zI0,zI0,zI0,zI0,zI0,zI0,zI0,zI0,.int .u64 0,.string ⟨#[]⟩],.struct [zI0,zS0,zI0,zI0,zI0,zI0,zI0,zI0,zI0,zI0,.int .u64 0,.string ⟨#[]⟩] [(0,1),(1,11)] [false,true]⟩
theorem azY:bP prog 159 am6:=⟨ayO,λzs h=>by cases h;exact awO,cc ath ⟨ajM,ajN,trivial⟩ ⟨ajO,ajP,trivial⟩⟩
def am7:TI:=⟨12,true,some [zI0,zS0,zI0,zI0,zI0,zI0,zI0,zI0,zI0,zI0,.int .u64 0,.string ⟨#[]⟩],.struct [zI0,zS0,zI0,zI0,zI0,zI0,zI0,zI0,zI0,zI0,.int .u64 0,.string ⟨#[]⟩] [(0,1),(1,11)] [false,true]⟩
theorem azZ:bP prog 160 am7:=⟨ayP,λzs h=>by cases h;exact amA,cc ati ⟨ajQ,ajR,trivial⟩ ⟨ajS,ajT,trivial⟩⟩
def am8:TI:=⟨1,false,some [zS0],.slice 160 12 120 [zI0,zS0,zI0,zI0,zI0,zI0,zI0,zI0,zI0,zI0,.int .u64 0,.string ⟨#[]⟩]⟩
theorem az0:bP prog 161 am8:=⟨ayQ,λzs h=>by cases h;exact awP,⟨ayR,atj,atk⟩⟩
def am9:TI:=⟨1,false,some [.nilFunc],.oth⟩
theorem az1:bP prog 168 am9:=⟨ayS,λzs h=>by cases h;exact awQ,trivial⟩
def ana:TI:=⟨1,false,some [.nilFunc],.oth⟩
theorem az2:bP prog 170 ana:=⟨ayT,λzs h=>by cases h;exact awR,trivial⟩
def anb:TI:=⟨1,false,some [.nilFunc],.oth⟩
theorem az3:bP prog 172 anb:=⟨ayU,λzs h=>by cases h;exact awS,trivial⟩
def anc:TI:=⟨1,false,some [.nilFunc],.oth⟩
theorem az4:bP prog 173 anc:=⟨ayV,λzs h=>by cases h;exact awT,trivial⟩
def ane:TI:=⟨2,true,some [zI0,zI0],.oth⟩
theorem az5:bP prog 177 ane:=⟨ayW,λzs h=>by cases h;exact amB,trivial⟩
def anf:TI:=⟨1,false,some [zS0],.slice 177 2 16 [zI0,zI0]⟩
theorem az6:bP prog 178 anf:=⟨ayX,λzs h=>by cases h;exact awU,⟨ayY,atl,atm⟩⟩
def ang:TI:=⟨1,false,some [zS0],.slice 184 3 24 [zI0,zI0,zI0]⟩
theorem az7:bP prog 181 ang:=⟨ayZ,λzs h=>by cases h;exact awV,⟨ay0,atn,ato⟩⟩
def anh:TI:=⟨3,true,some [zI0,zI0,zI0],.struct [zI0,zI0,zI0] [(0,1),(1,1),(2,1)] [false,false,false]⟩
theorem az8:bP prog 183 anh:=⟨ay1,λzs h=>by cases h;exact awW,cc atp ⟨ajU,ajV,ajW,trivial⟩ ⟨ajX,ajY,ajZ,trivial⟩⟩
def ani:TI:=⟨3,true,some [zI0,zI0,zI0],.struct [zI0,zI0,zI0] [(0,1),(1,1),(2,1)] [false,false,false]⟩
theorem az9:bP prog 184 ani:=⟨ay2,λzs h=>by cases h;exact amC,cc atq ⟨aj0,aj1,aj2,trivial⟩ ⟨aj3,aj4,aj5,trivial⟩⟩
def anj:TI:=⟨1,false,some [.pointer none],.oth⟩
theorem aAa:bP prog 193 anj:=⟨ay3,λzs h=>by cases h;exact awX,trivial⟩
def ank:TI:=⟨1,false,some [.map none],.map 3 216 .i64⟩
theorem aAb:bP prog 200 ank:=⟨abA,λzs h=>by cases h;exact awY,kr⟩
def anl:TI:=⟨2,true,some [.map none,.map none],.struct [.map none,.map none] [(0,1),(1,1)] [false,false]⟩
theorem aAc:bP prog 201 anl:=⟨ay4,λzs h=>by cases h;exact awZ,cc atr ⟨aj6,aj7,trivial⟩ ⟨aj8,aj9,trivial⟩⟩
def anm:TI:=⟨2,true,some [.map none,.map none],.struct [.map none,.map none] [(0,1),(1,1)] [false,false]⟩
theorem aAd:bP prog 202 anm:=⟨ay5,λzs h=>by cases h;exact aw0,cc att ⟨aka,akb,trivial⟩ ⟨akc,akd,trivial⟩⟩
def ann:TI:=⟨1,false,some [.map none],.map 3 3 .i64⟩
theorem aAe:bP prog 204 ann:=⟨ay6,λzs h=>by cases h;exact aw1,qd⟩
def ano:TI:=⟨1,false,some [zS0],.slice 47 1 8 [zI0]⟩
theorem aAf:bP prog 207 ano:=⟨ay7,λzs h=>by cases h;exact aw2,⟨ay8,atu,atv⟩⟩
def anp:TI:=⟨1,false,some [.map none],.map 3 4 .i64⟩
theorem aAg:bP prog 208 anp:=⟨ay9,λzs h=>by cases h;exact aw3,ahk⟩
def anq:TI:=⟨1,false,some [.nilFunc],.oth⟩
theorem aAh:bP prog 215 anq:=⟨aza,λzs h=>by cases h;exact aw4,trivial⟩
def anr:TI:=⟨1,false,some [zS0],.slice 218 2 16 [zI0,zI0]⟩
theorem aAi:bP prog 216 anr:=⟨azb,λzs h=>by cases h;exact aw5,⟨azc,atw,atx⟩⟩
def ans:TI:=⟨2,true,some [zI0,zI0],.struct [zI0,zI0] [(0,1),(1,1)] [false,false]⟩
theorem aAj:bP prog 217 ans:=⟨azd,λzs h=>by cases h;exact aw6,cc aty ⟨ake,akf,trivial⟩ ⟨akg,akh,trivial⟩⟩
def ant:TI:=⟨2,true,some [zI0,zI0],.struct [zI0,zI0] [(0,1),(1,1)] [false,false]⟩
theorem aAk:bP prog 218 ant:=⟨aze,λzs h=>by cases h;exact amD,cc atz ⟨aki,akj,trivial⟩ ⟨akk,akl,trivial⟩⟩
def anu:TI:=⟨1,false,some [.nilFunc],.oth⟩
theorem aAl:bP prog 220 anu:=⟨azf,λzs h=>by cases h;exact aw7,trivial⟩
def anv:TI:=⟨1,false,some [zI0],.int .i64⟩
theorem aAm:bP prog 228 anv:=⟨azg,λzs h=>by cases h;exact aw8,underlying228⟩
def anw:TI:=⟨1,false,some [.int .u32 0],.int .u32⟩
theorem aAn:bP prog 235 anw:=⟨afU,λzs h=>by cases h;exact aw9,underlying235⟩
def anx:TI:=⟨1,false,some [.int .u64 0],.int .u64⟩
theorem aAo:bP prog 242 anx:=⟨azh,λzs h=>by cases h;exact axa,underlying242⟩
def anz:TI:=⟨1,false,some [.pointer none],.oth⟩
theorem aAp:bP prog 246 anz:=⟨azi,λzs h=>by cases h;exact axb,trivial⟩
def anA:TI:=⟨1,false,some [.pointer none],.oth⟩
theorem aAq:bP prog 250 anA:=⟨azj,λzs h=>by cases h;exact axc,trivial⟩
def anB:TI:=⟨4,true,some [.pointer none,.pointer none,.pointer none,.string ⟨#[]⟩],.struct [.pointer none,.pointer none,.pointer none,.string ⟨#[]⟩] [(0,1),(1,1),(2,1),(3,1)] [false,false,false,false]⟩
theorem aAr:bP prog 255 anB:=⟨azk,λzs h=>by cases h;exact axd,cc atA ⟨akm,akn,ako,akp,trivial⟩ ⟨akq,akr,aks,akt,trivial⟩⟩
def anC:TI:=⟨4,true,some [.pointer none,.pointer none,.pointer none,.string ⟨#[]⟩],.struct [.pointer none,.pointer none,.pointer none,.string ⟨#[]⟩] [(0,1),(1,1),(2,1),(3,1)] [false,false,false,false]⟩
theorem aAs:bP prog 256 anC:=⟨azl,λzs h=>by cases h;exact axe,cc atB ⟨aku,akv,akw,akx,trivial⟩ ⟨aky,akz,akA,akB,trivial⟩⟩
def anD:TI:=⟨0,true,some [],.oth⟩
theorem aAt:bP prog 257 anD:=⟨azm,λzs h=>by cases h;exact axf,trivial⟩
def anE:TI:=⟨1,false,some [.int .u8 0],.int .u8⟩
theorem aAu:bP prog 260 anE:=⟨afV,λzs h=>by cases h;exact axg,underlying260⟩
def anG:TI:=⟨1,false,some [.int .u8 0],.int .u8⟩
theorem aAv:bP prog 261 anG:=⟨afW,λzs h=>by cases h;exact axh,underlying261⟩
def anH:TI:=⟨1,false,some [.nilFunc],.oth⟩
theorem aAw:bP prog 262 anH:=⟨afX,λzs h=>by cases h;exact axi,trivial⟩
def anI:TI:=⟨1,false,some [.pointer none],.oth⟩
theorem aAx:bP prog 263 anI:=⟨afY,λzs h=>by cases h;exact axj,trivial⟩
def anJ:TI:=⟨1,false,some [.int .i32 0],.int .i32⟩
theorem aAy:bP prog 264 anJ:=⟨afZ,λzs h=>by cases h;exact axk,underlying264⟩
def anK:TI:=⟨1,false,some [.int .i32 0],.int .i32⟩
theorem aAz:bP prog 265 anK:=⟨af0,λzs h=>by cases h;exact axl,underlying265⟩
def anL:TI:=⟨11,true,some [.int .u64 0,.int .u64 0,.int .u32 0,.int .u8 0,.int .u8 0,.int .u8 0,.int .u8 0,.nilFunc,.pointer none,.int .i32 0,.int .i32 0],.struct [.int .u64 0,.int .u64 0,.int .u32 0,.int .u8 0,.int .u8 0,.int .u8 0,.int .u8 0,.nilFunc,.pointer none,.int .i32 0,.int .i32 0] [(0,1),(1,1),(2,1),(3,1),(4,1),(5,1),(6,1),(7,1),(8,1),(9,1),(10,1)] [false,false,false,false,false,false,false,false,false,false,false]⟩
theorem aAA:bP prog 266 anL:=⟨azn,λzs h=>by cases h;exact axm,cc atC ⟨akC,akD,akE,akF,akG,akH,akI,akJ,akK,akL,ahl,trivial⟩ ⟨akM,akN,akO,akP,akQ,akR,akS,akT,akU,akV,ahm,trivial⟩⟩
def anM:TI:=⟨11,true,some [.int .u64 0,.int .u64 0,.int .u32 0,.int .u8 0,.int .u8 0,.int .u8 0,.int .u8 0,.nilFunc,.pointer none,.int .i32 0,.int .i32 0],.struct [.int .u64 0,.int .u64 0,.int .u32 0,.int .u8 0,.int .u8 0,.int .u8 0,.int .u8 0,.nilFunc,.pointer none,.int .i32 0,.int .i32 0] [(0,1),(1,1),(2,1),(3,1),(4,1),(5,1),(6,1),(7,1),(8,1),(9,1),(10,1)] [false,false,false,false,false,false,false,false,false,false,false]⟩
theorem aAB:bP prog 267 anM:=⟨azo,λzs h=>by cases h;exact axn,cc atD ⟨akW,akX,akY,akZ,ak0,ak1,ak2,ak3,ak4,ak5,ahn,trivial⟩ ⟨ak6,ak7,ak8,ak9,ala,alb,alc,ald,ale,alf,aho,trivial⟩⟩
def tb:Tb:=[(2,ti2),(3,ti3),(4,ti4),(5,ti5),(6,ti6),(7,ti7),(8,ti8),(9,ti9),(10,auR),(11,auS),(12,auT),(13,auU),(14,auV),(15,auW),(16,auX),(17,auZ),(18,au0),(19,au1),(21,au2),(22,au3),(23,au4),(25,au5),(26,au6),(27,au7),(28,au8),(30,au9),(31,ava),(32,avb),(34,avc),(35,avd),(36,ave),(37,avf),(38,avg),(40,avh),(41,avj),(42,avk),(44,avl),(45,avm),(46,avn),(47,avo),(51,avp),(52,avq),(53,avr),(54,avt),(61,avu),(62,avv),(63,avw),(66,avx),(67,avy),(70,avz),(71,avA),(72,avB),(73,avC),(74,avD),(77,avE),(78,avF),(80,avG),(81,avH),(88,avI),(89,avJ),(91,avK),(93,avL),(94,avM),(96,avN),(97,avO),(99,avP),(100,amJ),(105,amK),(114,amL),(115,amM),(117,amN),(118,amO),(130,amP),(133,amQ),(134,amR),(135,amS),(136,amT),(140,amU),(141,amV),(142,amW),(143,amX),(146,amY),(147,amZ),(152,am0),(153,am1),(154,am2),(155,am3),(156,am4),(157,am5),(159,am6),(160,am7),(161,am8),(168,am9),(170,ana),(172,anb),(173,anc),(177,ane),(178,anf),(181,ang),(183,anh),(184,ani),(193,anj),(200,ank),(201,anl),(202,anm),(204,ann),(207,ano),(208,anp),(215,anq),(216,anr),(217,ans),(218,ant),(220,anu),(228,anv),(235,anw),(242,anx),(246,anz),(250,anA),(255,anB),(256,anC),(257,anD),(260,anE),(261,anG),(262,anH),(263,anI),(264,anJ),(265,anK),(266,anL),(267,anM)]
theorem W0:Wld prog tb:=⟨hmix,⟨tk2,tk3,tk4,tk5,tk6,tk7,tk8,tk9,tk10,tk11,tk12,tk13,tk14,tk15,tk16,tk17,tk18,tk19,tk21,tk22,tk23,tk25,tk26,tk27,tk28,tk30,tk31,tk32,tk34,tk35,tk36,tk37,tk38,tk40,tk41,tk42,tk44,tk45,tk46,tk47,tk51,tk52,tk53,tk54,tk61,tk62,tk63,tk66,tk67,tk70,tk71,tk72,tk73,tk74,tk77,tk78,tk80,tk81,tk88,tk89,tk91,tk93,tk94,tk96,tk97,tk99,azB,azC,azD,azE,azF,azG,azH,azI,azJ,azK,azL,azM,azN,azO,azP,azQ,azR,azS,azT,azU,azV,azW,azX,azY,azZ,az0,az1,az2,az3,az4,az5,az6,az7,az8,az9,aAa,aAb,aAc,aAd,aAe,aAf,aAg,aAh,aAi,aAj,aAk,aAl,aAm,aAn,aAo,aAp,aAq,aAr,aAs,aAt,aAu,aAv,aAw,aAx,aAy,aAz,aAA,aAB,trivial⟩⟩
theorem ck9:aT prog 9:=⟨call9⟩
theorem ck10:aT prog 10:=⟨call10⟩
theorem jM:aT prog 12:=⟨call12⟩
theorem ck13:aT prog 13:=⟨call13⟩
theorem avQ:aT prog 14:=⟨call14⟩
theorem xz:aT prog 16:=⟨call16⟩
theorem ck17:aT prog 17:=⟨call17⟩
theorem avR:aT prog 19:=⟨call19⟩
theorem avS:aT prog 20:=⟨call20⟩
theorem ck21:aT prog 21:=⟨call21⟩
theorem avT:aT prog 22:=⟨call22⟩
theorem ck23:aT prog 23:=⟨call23⟩
theorem avU:aT prog 24:=⟨call24⟩
theorem avV:aT prog 25:=⟨call25⟩
theorem ck26:aT prog 26:=⟨call26⟩
theorem avW:aT prog 29:=⟨call29⟩
theorem ck30:aT prog 30:=⟨call30⟩
theorem ck31:aT prog 31:=⟨call31⟩
theorem ck32:aT prog 32:=⟨call32⟩
theorem ck33:aT prog 33:=⟨call33⟩
theorem ck34:aT prog 34:=⟨call34⟩
theorem ck35:aT prog 35:=⟨call35⟩
theorem ck36:aT prog 36:=⟨call36⟩
theorem ck37:aT prog 37:=⟨call37⟩
theorem ck38:aT prog 38:=⟨call38⟩
theorem uZ:aT prog 39:=⟨call39⟩
theorem ck43:aT prog 43:=⟨call43⟩
theorem ck50:aT prog 50:=⟨call50⟩
theorem agl:aT prog 51:=⟨call51⟩
theorem ck52:aT prog 52:=⟨call52⟩
theorem ck53:aT prog 53:=⟨call53⟩
theorem yW:aT prog 54:=⟨call54⟩
theorem alD:aT prog 55:=⟨call55⟩
theorem avX:aT prog 56:=⟨call56⟩
theorem ck57:aT prog 57:=⟨call57⟩
theorem agm:aT prog 58:=⟨call58⟩
theorem ck62:aT prog 62:=⟨call62⟩
theorem aaV:aT prog 63:=⟨call63⟩
theorem avY:aT prog 64:=⟨call64⟩
theorem avZ:aT prog 65:=⟨call65⟩
theorem av0:aT prog 66:=⟨call66⟩
theorem ck67:aT prog 67:=⟨call67⟩
theorem aaW:aT prog 68:=⟨call68⟩
theorem aaX:aT prog 69:=⟨call69⟩
theorem ck70:aT prog 70:=⟨call70⟩
theorem av2:aT prog 71:=⟨call71⟩
theorem av3:aT prog 72:=⟨call72⟩
theorem ck73:aT prog 73:=⟨call73⟩
theorem ck74:aT prog 74:=⟨call74⟩
theorem agn:aT prog 75:=⟨call75⟩
theorem ck76:aT prog 76:=⟨call76⟩
theorem ck77:aT prog 77:=⟨call77⟩
theorem ck78:aT prog 78:=⟨call78⟩
theorem av4:aT prog 81:=⟨call81⟩
theorem alF:aT prog 89:=⟨call89⟩
theorem aaY:aT prog 90:=⟨call90⟩
theorem jk:aT prog 91:=⟨call91⟩
theorem aco:aT prog 92:=⟨call92⟩
theorem ck93:aT prog 93:=⟨call93⟩
theorem ck94:aT prog 94:=⟨call94⟩
theorem aaZ:aT prog 95:=⟨call95⟩
theorem alG:aT prog 96:=⟨call96⟩
theorem av5:aT prog 97:=⟨call97⟩
theorem av6:aT prog 98:=⟨call98⟩
theorem alH:aT prog 99:=⟨call99⟩
theorem aAC:aT prog 100:=⟨call100⟩
theorem aAD:aT prog 101:=⟨call101⟩
theorem aAE:aT prog 102:=⟨call102⟩
theorem anN:aT prog 103:=⟨call103⟩
theorem aAF:aT prog 105:=⟨call105⟩
theorem aAG:aT prog 108:=⟨call108⟩
theorem aAH:aT prog 109:=⟨call109⟩
theorem ago:aT prog 110:=⟨call110⟩
theorem xA:aT prog 111:=⟨call111⟩
theorem adC:aT prog 112:=⟨call112⟩
theorem aAI:aT prog 113:=⟨call113⟩
theorem anO:aT prog 114:=⟨call114⟩
theorem aAJ:aT prog 115:=⟨call115⟩
theorem aAK:aT prog 116:=⟨call116⟩
theorem aAL:aT prog 117:=⟨call117⟩
theorem gG:aT prog 118:=⟨call118⟩
theorem zP:aT prog 119:=⟨call119⟩
theorem adD:aT prog 120:=⟨call120⟩
theorem xB:aT prog 121:=⟨call121⟩
theorem agp:aT prog 122:=⟨call122⟩
theorem aAM:aT prog 123:=⟨call123⟩
theorem agq:aT prog 124:=⟨call124⟩
theorem aAN:aT prog 125:=⟨call125⟩
theorem aAO:aT prog 126:=⟨call126⟩
theorem aAP:aT prog 127:=⟨call127⟩
theorem agr:aT prog 133:=⟨call133⟩
theorem aAQ:aT prog 134:=⟨call134⟩
theorem aAR:aT prog 135:=⟨call135⟩
theorem zQ:aT prog 136:=⟨call136⟩
theorem aAS:aT prog 137:=⟨call137⟩
theorem anP:aT prog 138:=⟨call138⟩
theorem anQ:aT prog 141:=⟨call141⟩
theorem aAT:aT prog 142:=⟨call142⟩
theorem aAU:aT prog 143:=⟨call143⟩
theorem aAV:aT prog 144:=⟨call144⟩
theorem aAW:aT prog 145:=⟨call145⟩
theorem aAX:aT prog 146:=⟨call146⟩
theorem aAY:aT prog 147:=⟨call147⟩
theorem agt:aT prog 148:=⟨call148⟩
theorem aAZ:aT prog 149:=⟨call149⟩
theorem aA0:aT prog 150:=⟨call150⟩
theorem aA1:aT prog 151:=⟨call151⟩
theorem aA2:aT prog 152:=⟨call152⟩
theorem aA3:aT prog 153:=⟨call153⟩
theorem aA4:aT prog 157:=⟨call157⟩
theorem xC:aT prog 158:=⟨call158⟩
theorem aA5:aT prog 161:=⟨call161⟩
theorem aA6:aT prog 163:=⟨call163⟩
theorem aA7:aT prog 164:=⟨call164⟩
theorem anR:aT prog 165:=⟨call165⟩
theorem adE:aT prog 166:=⟨call166⟩
theorem aA8:aT prog 168:=⟨call168⟩
theorem aA9:aT prog 177:=⟨call177⟩
theorem qS{N:Nat}{ids:List Nat}{y:Code}{Q:Exit→Env→Sto→Prop}{env:Env}{σ:Sto}{id:Nat}{ops:Array Oper}{dr:Bool}(hs:List (Nat×Hint prog))(cN:Env)(σ2:Sto)(k:ah ⟨prog,N,ids⟩ y Q cN σ2)
  (h:xu tb N ids ops dr (kG ops dr hs).1 (kG ops dr hs).2 [] hs (sv cN) σ2.ids env σ=some (cN,σ2,(kG ops dr hs).2.map λi=>(hintOf hs i).exp):=by kernel_rfl):ah ⟨prog,N,ids⟩ (.seq (.region id ops dr) y) Q env σ:=A.RS W0 [] hs cN σ2 h k
theorem qR{N:Nat}{ids:List Nat}{Q:Exit→Env→Sto→Prop}{env:Env}{σ:Sto}{id:Nat}{ops:Array Oper}{dr:Bool}(hs:List (Nat×Hint prog))(cN:Env)(σ2:Sto)(k:Q .normal cN σ2)
  (h:xu tb N ids ops dr (kG ops dr hs).1 (kG ops dr hs).2 [] hs (sv cN) σ2.ids env σ=some (cN,σ2,(kG ops dr hs).2.map λi=>(hintOf hs i).exp):=by kernel_rfl):ah ⟨prog,N,ids⟩ (.region id ops dr) Q env σ:=A.R W0 [] hs cN σ2 h k
def av7(n:Nat):List Nat→Bool
 |[]=>false
 |k::r=>bif Nat.beq k n then true else av7 n r
def nx{α:Type}(ks:List Nat)(new:List (Nat×α)):List (Nat×α)→List (Nat×α)
 |[]=>new
 |p::l=>bif av7 p.1 ks then nx ks new l else p::nx ks new l
section
variable {N:Nat}{ids:List Nat}{y:Code}{Q:Exit→Env→Sto→Prop}{env:Env}{σ:Sto}{id:Nat}{ops:Array Oper}{dr:Bool}(hs:List (Nat×Hint prog))(ks:List Nat)(new:Env)(js:List Nat)(nws:Sto)
theorem qD(k:ah ⟨prog,N,ids⟩ y Q (nx ks new env) (nx js nws σ))
  (h:xu tb N ids ops dr (kG ops dr hs).1 (kG ops dr hs).2 [] hs (sv (nx ks new env)) (Sto.ids (nx js nws σ)) env σ=some (nx ks new env,nx js nws σ,(kG ops dr hs).2.map λi=>(hintOf hs i).exp):=by kernel_rfl):ah ⟨prog,N,ids⟩ (.seq (.region id ops dr) y) Q env σ:=A.RS W0 [] hs _ _ h k
theorem qDs(k:ah ⟨prog,N,ids⟩ y Q (nx ks new env) σ)
  (h:xu tb N ids ops dr (kG ops dr hs).1 (kG ops dr hs).2 [] hs (sv (nx ks new env)) σ.ids env σ=some (nx ks new env,σ,(kG ops dr hs).2.map λi=>(hintOf hs i).exp):=by kernel_rfl):ah ⟨prog,N,ids⟩ (.seq (.region id ops dr) y) Q env σ:=A.RS W0 [] hs _ _ h k
theorem qG(k:Q .normal (nx ks new env) (nx js nws σ))
  (h:xu tb N ids ops dr (kG ops dr hs).1 (kG ops dr hs).2 [] hs (sv (nx ks new env)) (Sto.ids (nx js nws σ)) env σ=some (nx ks new env,nx js nws σ,(kG ops dr hs).2.map λi=>(hintOf hs i).exp):=by kernel_rfl):ah ⟨prog,N,ids⟩ (.region id ops dr) Q env σ:=A.R W0 [] hs _ _ h k
theorem qGs(k:Q .normal (nx ks new env) σ)
  (h:xu tb N ids ops dr (kG ops dr hs).1 (kG ops dr hs).2 [] hs (sv (nx ks new env)) σ.ids env σ=some (nx ks new env,σ,(kG ops dr hs).2.map λi=>(hintOf hs i).exp):=by kernel_rfl):ah ⟨prog,N,ids⟩ (.region id ops dr) Q env σ:=A.R W0 [] hs _ _ h k
end
theorem qE{N:Nat}{ids:List Nat}{fn:Func}{env:Env}{σ σ2:Sto}{R:AV}(h:als tb ids [] σ2.ids fn.results.toList env σ=some (R,σ2):=by kernel_rfl):
  agb ⟨prog,N,ids⟩ fn (λa σ'=>a=R∧σ'=σ2) .ret env σ:=A.fin W0 [] rfl h
variable {G:Gl}
theorem qW{env cN:Env}{σ σ2:Sto}(h:abD G.ids [] [] (sv cN) σ2.ids env σ=some (cN,σ2):=by kernel_rfl):bA G env σ cN σ2:=bA.go [] [] h
theorem qX{α ρ:Type}{J:α→Option ρ}{r:ρ}{env:Env}{σ:Sto}{eO:α→Env}{gf:α→Sto}(g:α)(hg:J g=some r)(h:abD G.ids [] [] (sv (eO g)) (gf g).ids env σ=some (eO g,gf g):=by kernel_rfl):
  ∃g,J g=some r∧bA G env σ (eO g) (gf g):=⟨g,hg,bA.go [] [] h⟩
variable {o:Operand}
theorem qT{p:Bool}{x y:Code}{Q:Exit→Env→Sto→Prop}{env:Env}{σ:Sto}(hp:p=true)(k:ah G x Q env σ)(hc:env.evo o=some (.bool p):=by kernel_rfl):ah G (.cond o x y) Q env σ:=A.cT hc hp k
theorem qF{p:Bool}{x y:Code}{Q:Exit→Env→Sto→Prop}{env:Env}{σ:Sto}(hp:p=false)(k:ah G y Q env σ)(hc:env.evo o=some (.bool p):=by kernel_rfl):ah G (.cond o x y) Q env σ:=A.cF hc hp k
abbrev i6(n:Int):AV:=.int .i64 n
abbrev lf{α:Type}(e:En α)(l:List α):AV:=.lst false (ml e l)
abbrev k0(x:aY):List AV:=[.int .i64 x.ID,.bool x.zO]
abbrev k1(x:bt):List AV:=[.int .i64 x.A,.int .i64 x.B,.int .i64 x.iz,.int .i64 x.iA,.int .i64 x.nX]
abbrev k2(x:af):List AV:=[.lst false (ml aJ x.aq),.lst false (ml bJ x.Links)]
abbrev k3(x:cB):List AV:=[.int .i64 x.ct,.int .i64 x.To]
abbrev k4(x:ak):List AV:=[.int .i64 x.Bit,.int .i64 x.aN,.int .i64 x.Kind,.int .i64 x.To]
abbrev k5(x:aR):List AV:=[.lst false (ml aB x.L),.int .i64 x.At]
abbrev k6(x:aG):List AV:=[.int .i64 x.Length,.lst false (ml ay x.List)]
abbrev k7(x:cM):List AV:=[.int .i64 x.dB,.lst false (ml bR x.Links)]
abbrev k8(x:aS):List AV:=[.int .i64 x.bY,.int .i64 x.qs,.int .i64 x.to_]
abbrev k9(x:aC):List AV:=[.int .i64 x.to_,.int .i64 x.gb]
abbrev k10(x:aD):List AV:=[.int .i64 x.Mode,.int .i64 x.bL,.int .i64 x.Set,.int .i64 x.Length,.int .i64 x.TTL,.int .i64 x.cn,.int .i64 x.cq,.int .i64 x.dg,.int .u64 x.Bits,.str x.cm]
abbrev k11(x:eP):List AV:=[.int .i64 x.To,.lst false (ml aB x.Frame.fk),.int .i64 x.Frame.aQ.Mode,.int .i64 x.Frame.aQ.bL,.int .i64 x.Frame.aQ.Set,.int .i64 x.Frame.aQ.Length,.int .i64 x.Frame.aQ.TTL,.int .i64 x.Frame.aQ.cn,.int .i64 x.Frame.aQ.cq,.int .i64 x.Frame.aQ.dg,.int .u64 x.Frame.aQ.Bits,.str x.Frame.aQ.cm]
abbrev k12(x:dz):List AV:=[.int .u64 x.Local,.int .u64 x.jL,.lst false (ml gF x.dS)]
abbrev k13(x:bG):List AV:=[.int .i64 x.fI.Bit,.int .i64 x.fI.aN,.int .i64 x.fI.Kind,.int .i64 x.fI.To,.int .i64 x.copy_.To,.lst false (ml aB x.copy_.Frame.fk),.int .i64 x.copy_.Frame.aQ.Mode,.int .i64 x.copy_.Frame.aQ.bL,.int .i64 x.copy_.Frame.aQ.Set,.int .i64 x.copy_.Frame.aQ.Length,.int .i64 x.copy_.Frame.aQ.TTL,.int .i64 x.copy_.Frame.aQ.cn,.int .i64 x.copy_.Frame.aQ.cq,.int .i64 x.copy_.Frame.aQ.dg,.int .u64 x.copy_.Frame.aQ.Bits,.str x.copy_.Frame.aQ.cm]
abbrev k14(y0:Int)(y1:aD):List AV:=[.int .i64 y0,.int .i64 y1.Mode,.int .i64 y1.bL,.int .i64 y1.Set,.int .i64 y1.Length,.int .i64 y1.TTL,.int .i64 y1.cn,.int .i64 y1.cq,.int .i64 y1.dg,.int .u64 y1.Bits,.str y1.cm]
abbrev k15(x:dy):List AV:=[.lst false (ml cC x.dD),.lst false (ml cR x.dF),.lst false (ml gl x.gm)]
abbrev k16(x:aM):List AV:=[.int .i64 x.bY,.int .i64 x.cz.Mode,.int .i64 x.cz.bL,.int .i64 x.cz.Set,.int .i64 x.cz.Length,.int .i64 x.cz.TTL,.int .i64 x.cz.cn,.int .i64 x.cz.cq,.int .i64 x.cz.dg,.int .u64 x.cz.Bits,.str x.cz.cm]
end Go.Proofs.YtdjeacigeegklaaGreat
