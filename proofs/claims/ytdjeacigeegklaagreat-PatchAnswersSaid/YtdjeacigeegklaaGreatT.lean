/- The data of the program, as Lean data, and what is known of its types. No condition but bO bx stand in each. -/
import Derived.Test.YtdjeacigeegklaaGreatF
import Derived.LoopN
import Derived.Test.YtdjeacigeegklaaGreatAC
namespace Go.Proofs.YtdjeacigeegklaaGreat
open Go Go.Proofs.Tryz
set_option maxRecDepth 100000
set_option linter.all false
structure aQ where
 ID:Int
 aaM:Bool
instance:Inhabited aQ:=⟨aQ.mk (0:Int) false⟩
def aC:En aQ:=⟨λx=>[.int .i64 x.ID,.bool x.aaM],2,λ_=>rfl,λ_=>rfl,λ_=>rfl⟩
structure bn where
 A:Int
 B:Int
 iE:Int
 iF:Int
 oW:Int
instance:Inhabited bn:=⟨bn.mk (0:Int) (0:Int) (0:Int) (0:Int) (0:Int)⟩
def aS:En bn:=⟨λx=>[.int .i64 x.A,.int .i64 x.B,.int .i64 x.iE,.int .i64 x.iF,.int .i64 x.oW],5,λ_=>rfl,λ_=>rfl,λ_=>rfl⟩
structure aa where
 ah:List aQ
 Links:List bn
instance:Inhabited aa:=⟨aa.mk [] []⟩
def gL:En aa:=⟨λx=>[.lst false (ml aC x.ah),.lst false (ml aS x.Links)],2,λ_=>rfl,λ_=>rfl,λ_=>rfl⟩
structure bU where
 dF:Int
 To:Int
instance:Inhabited bU:=⟨bU.mk (0:Int) (0:Int)⟩
def bM:En bU:=⟨λx=>[.int .i64 x.dF,.int .i64 x.To],2,λ_=>rfl,λ_=>rfl,λ_=>rfl⟩
def gM(a b:bU):Bool:=decide (a.dF=b.dF)&&(decide (a.To=b.To)&&true)
structure aO where
 Links:List bU
 ah:List Int
instance:Inhabited aO:=⟨aO.mk [] []⟩
def nB:En aO:=⟨λx=>[.lst false (ml bM x.Links),.lst false (ml aA x.ah)],2,λ_=>rfl,λ_=>rfl,λ_=>rfl⟩
structure az where
 Bit:Int
 br:Int
 Kind:Int
 To:Int
instance:Inhabited az:=⟨az.mk (0:Int) (0:Int) (0:Int) (0:Int)⟩
def ak:En az:=⟨λx=>[.int .i64 x.Bit,.int .i64 x.br,.int .i64 x.Kind,.int .i64 x.To],4,λ_=>rfl,λ_=>rfl,λ_=>rfl⟩
structure aX where
 L:List Int
 At:Int
instance:Inhabited aX:=⟨aX.mk [] (0:Int)⟩
structure aF where
 Length:Int
 List:List az
instance:Inhabited aF:=⟨aF.mk (0:Int) []⟩
def iS:En aF:=⟨λx=>[.int .i64 x.Length,.lst false (ml ak x.List)],2,λ_=>rfl,λ_=>rfl,λ_=>rfl⟩
structure oZ where
 qd:Int
 Links:List bU
instance:Inhabited oZ:=⟨oZ.mk (0:Int) []⟩
structure cO where
 fu:Int
 aaN:Int
 to_:Int
instance:Inhabited cO:=⟨cO.mk (0:Int) (0:Int) (0:Int)⟩
def lq:En cO:=⟨λx=>[.int .i64 x.fu,.int .i64 x.aaN,.int .i64 x.to_],3,λ_=>rfl,λ_=>rfl,λ_=>rfl⟩
def eC(a b:cO):Bool:=decide (a.fu=b.fu)&&(decide (a.aaN=b.aaN)&&(decide (a.to_=b.to_)&&true))
structure aI where
 to_:Int
 gh:Int
instance:Inhabited aI:=⟨aI.mk (0:Int) (0:Int)⟩
def aG:En aI:=⟨λx=>[.int .i64 x.to_,.int .i64 x.gh],2,λ_=>rfl,λ_=>rfl,λ_=>rfl⟩
structure fQ where
 nQ:List (Int×List aI)
 in_:List (Int×List aI)
instance:Inhabited fQ:=⟨fQ.mk [] []⟩
structure aH where
 Mode:Int
 bQ:Int
 Set:Int
 Length:Int
 TTL:Int
 cI:Int
 cK:Int
 dU:Int
 Bits:Int
 cD:ByteArray
instance:Inhabited aH:=⟨aH.mk (0:Int) (0:Int) (0:Int) (0:Int) (0:Int) (0:Int) (0:Int) (0:Int) (0:Int) (⟨#[]⟩)⟩
def ku:En aH:=⟨λx=>[.int .i64 x.Mode,.int .i64 x.bQ,.int .i64 x.Set,.int .i64 x.Length,.int .i64 x.TTL,.int .i64 x.cI,.int .i64 x.cK,.int .i64 x.dU,.int .u64 x.Bits,.str x.cD],10,λ_=>rfl,λ_=>rfl,λ_=>rfl⟩
def mA(a b:aH):Bool:=decide (a.Mode=b.Mode)&&(decide (a.bQ=b.bQ)&&(decide (a.Set=b.Set)&&(decide (a.Length=b.Length)&&(decide (a.TTL=b.TTL)&&(decide (a.cI=b.cI)&&(decide (a.cK=b.cK)&&(decide (a.dU=b.dU)&&(decide (a.Bits=b.Bits)&&((a.cD.toList==b.cD.toList)&&true)))))))))
structure dP where
 dZ:List Int
 ay:aH
instance:Inhabited dP:=⟨dP.mk [] (aH.mk (0:Int) (0:Int) (0:Int) (0:Int) (0:Int) (0:Int) (0:Int) (0:Int) (0:Int) ⟨#[]⟩)⟩
structure bh where
 To:Int
 Frame:dP
instance:Inhabited bh:=⟨bh.mk (0:Int) (dP.mk [] (aH.mk (0:Int) (0:Int) (0:Int) (0:Int) (0:Int) (0:Int) (0:Int) (0:Int) (0:Int) ⟨#[]⟩))⟩
def bP:En bh:=⟨λx=>[.int .i64 x.To,.lst false (ml aA x.Frame.dZ),.int .i64 x.Frame.ay.Mode,.int .i64 x.Frame.ay.bQ,.int .i64 x.Frame.ay.Set,.int .i64 x.Frame.ay.Length,.int .i64 x.Frame.ay.TTL,.int .i64 x.Frame.ay.cI,.int .i64 x.Frame.ay.cK,.int .i64 x.Frame.ay.dU,.int .u64 x.Frame.ay.Bits,.str x.Frame.ay.cD],12,λ_=>rfl,λ_=>rfl,λ_=>rfl⟩
structure cg where
 Local:Int
 gw:Int
 bz:List bh
instance:Inhabited cg:=⟨cg.mk (0:Int) (0:Int) []⟩
structure cE where
 aex:az
 copy_:bh
instance:Inhabited cE:=⟨cE.mk (az.mk (0:Int) (0:Int) (0:Int) (0:Int)) (bh.mk (0:Int) (dP.mk [] (aH.mk (0:Int) (0:Int) (0:Int) (0:Int) (0:Int) (0:Int) (0:Int) (0:Int) (0:Int) ⟨#[]⟩)))⟩
def iA:En cE:=⟨λx=>[.int .i64 x.aex.Bit,.int .i64 x.aex.br,.int .i64 x.aex.Kind,.int .i64 x.aex.To,.int .i64 x.copy_.To,.lst false (ml aA x.copy_.Frame.dZ),.int .i64 x.copy_.Frame.ay.Mode,.int .i64 x.copy_.Frame.ay.bQ,.int .i64 x.copy_.Frame.ay.Set,.int .i64 x.copy_.Frame.ay.Length,.int .i64 x.copy_.Frame.ay.TTL,.int .i64 x.copy_.Frame.ay.cI,.int .i64 x.copy_.Frame.ay.cK,.int .i64 x.copy_.Frame.ay.dU,.int .u64 x.copy_.Frame.ay.Bits,.str x.copy_.Frame.ay.cD],16,λ_=>rfl,λ_=>rfl,λ_=>rfl⟩
structure bW where
 br:Int
 ay:aH
instance:Inhabited bW:=⟨bW.mk (0:Int) (aH.mk (0:Int) (0:Int) (0:Int) (0:Int) (0:Int) (0:Int) (0:Int) (0:Int) (0:Int) ⟨#[]⟩)⟩
def cM:En bW:=⟨λx=>[.int .i64 x.br,.int .i64 x.ay.Mode,.int .i64 x.ay.bQ,.int .i64 x.ay.Set,.int .i64 x.ay.Length,.int .i64 x.ay.TTL,.int .i64 x.ay.cI,.int .i64 x.ay.cK,.int .i64 x.ay.dU,.int .u64 x.ay.Bits,.str x.ay.cD],11,λ_=>rfl,λ_=>rfl,λ_=>rfl⟩
def ru(a b:bW):Bool:=decide (a.br=b.br)&&((decide (a.ay.Mode=b.ay.Mode)&&(decide (a.ay.bQ=b.ay.bQ)&&(decide (a.ay.Set=b.ay.Set)&&(decide (a.ay.Length=b.ay.Length)&&(decide (a.ay.TTL=b.ay.TTL)&&(decide (a.ay.cI=b.ay.cI)&&(decide (a.ay.cK=b.ay.cK)&&(decide (a.ay.dU=b.ay.dU)&&(decide (a.ay.Bits=b.ay.Bits)&&((a.ay.cD.toList==b.ay.cD.toList)&&true))))))))))&&true)
structure ck where
 dF:Int
 To:Int
 Bits:Int
instance:Inhabited ck:=⟨ck.mk (0:Int) (0:Int) (0:Int)⟩
def dw:En ck:=⟨λx=>[.int .i64 x.dF,.int .i64 x.To,.int .u64 x.Bits],3,λ_=>rfl,λ_=>rfl,λ_=>rfl⟩
def ry(a b:ck):Bool:=decide (a.dF=b.dF)&&(decide (a.To=b.To)&&(decide (a.Bits=b.Bits)&&true))
structure cC where
 br:Int
 Bits:Int
instance:Inhabited cC:=⟨cC.mk (0:Int) (0:Int)⟩
def eU:En cC:=⟨λx=>[.int .i64 x.br,.int .u64 x.Bits],2,λ_=>rfl,λ_=>rfl,λ_=>rfl⟩
def x6(a b:cC):Bool:=decide (a.br=b.br)&&(decide (a.Bits=b.Bits)&&true)
structure dy where
 cG:List bW
 cr:List ck
 dR:List cC
instance:Inhabited dy:=⟨dy.mk [] [] []⟩
structure uZ where
 fu:Int
 packet_:aH
instance:Inhabited uZ:=⟨uZ.mk (0:Int) (aH.mk (0:Int) (0:Int) (0:Int) (0:Int) (0:Int) (0:Int) (0:Int) (0:Int) (0:Int) ⟨#[]⟩)⟩
structure ad1 where
 br:Int
 ay:aH
instance:Inhabited ad1:=⟨ad1.mk (0:Int) (aH.mk (0:Int) (0:Int) (0:Int) (0:Int) (0:Int) (0:Int) (0:Int) (0:Int) (0:Int) ⟨#[]⟩)⟩
structure bg where
 fu:Int
 dn:dP
instance:Inhabited bg:=⟨bg.mk (0:Int) (dP.mk [] (aH.mk (0:Int) (0:Int) (0:Int) (0:Int) (0:Int) (0:Int) (0:Int) (0:Int) (0:Int) ⟨#[]⟩))⟩
def dS:En bg:=⟨λx=>[.int .i64 x.fu,.lst false (ml aA x.dn.dZ),.int .i64 x.dn.ay.Mode,.int .i64 x.dn.ay.bQ,.int .i64 x.dn.ay.Set,.int .i64 x.dn.ay.Length,.int .i64 x.dn.ay.TTL,.int .i64 x.dn.ay.cI,.int .i64 x.dn.ay.cK,.int .i64 x.dn.ay.dU,.int .u64 x.dn.ay.Bits,.str x.dn.ay.cD],12,λ_=>rfl,λ_=>rfl,λ_=>rfl⟩
structure dh where
 cz:aF
 dg:aa
 ez:aa
 cH:aO
 cR:dy
 iZ:List bg
instance:Inhabited dh:=⟨dh.mk (aF.mk (0:Int) []) (aa.mk [] []) (aa.mk [] []) (aO.mk [] []) (dy.mk [] [] []) []⟩
structure cq where
 br:Int
 Frame:dP
instance:Inhabited cq:=⟨cq.mk (0:Int) (dP.mk [] (aH.mk (0:Int) (0:Int) (0:Int) (0:Int) (0:Int) (0:Int) (0:Int) (0:Int) (0:Int) ⟨#[]⟩))⟩
def gU:En cq:=⟨λx=>[.int .i64 x.br,.lst false (ml aA x.Frame.dZ),.int .i64 x.Frame.ay.Mode,.int .i64 x.Frame.ay.bQ,.int .i64 x.Frame.ay.Set,.int .i64 x.Frame.ay.Length,.int .i64 x.Frame.ay.TTL,.int .i64 x.Frame.ay.cI,.int .i64 x.Frame.ay.cK,.int .i64 x.Frame.ay.dU,.int .u64 x.Frame.ay.Bits,.str x.Frame.ay.cD],12,λ_=>rfl,λ_=>rfl,λ_=>rfl⟩
structure ct where
 E0:Int
 E1:Int
instance:Inhabited ct:=⟨ct.mk (0:Int) (0:Int)⟩
def vm:En ct:=⟨λx=>[.int .i64 x.E0,.int .i64 x.E1],2,λ_=>rfl,λ_=>rfl,λ_=>rfl⟩
def ti2:TI:=⟨1,false,some [zI0],.int .i64⟩
theorem tk2:cQ prog 2 ti2:=⟨ty2,λzs h=>by cases h;exact ze2,underlying2⟩
def ti3:TI:=⟨1,false,some [zI0],.int .i64⟩
theorem tk3:cQ prog 3 ti3:=⟨ty3,λzs h=>by cases h;exact ze3,underlying3⟩
def ti4:TI:=⟨1,false,some [.bool false],.bool⟩
theorem tk4:cQ prog 4 ti4:=⟨ty4,λzs h=>by cases h;exact ze4,underlying4⟩
def ti5:TI:=⟨1,false,some [.int .u8 0],.int .u8⟩
theorem tk5:cQ prog 5 ti5:=⟨ty5,λzs h=>by cases h;exact ze5,underlying5⟩
def ti6:TI:=⟨1,false,some [.int .u8 0],.int .u8⟩
theorem tk6:cQ prog 6 ti6:=⟨ty6,λzs h=>by cases h;exact ze6,underlying6⟩
def ti7:TI:=⟨4,true,some [zI0,zI0,.bool false,.int .u8 0],.struct [zI0,zI0,.bool false,.int .u8 0] [(0,1),(1,1),(2,1),(3,1)] [false,false,false,false]⟩
theorem tk7:cQ prog 7 ti7:=⟨ty7,λzs h=>by cases h;exact ze7,dL str7 ⟨aqs,aqt,aqu,aqv,trivial⟩ ⟨aqw,aqx,aqy,aqz,trivial⟩⟩
def ti8:TI:=⟨4,true,some [zI0,zI0,.bool false,.int .u8 0],.struct [zI0,zI0,.bool false,.int .u8 0] [(0,1),(1,1),(2,1),(3,1)] [false,false,false,false]⟩
theorem tk8:cQ prog 8 ti8:=⟨ty8,λzs h=>by cases h;exact ze8,dL str8 ⟨aqA,aqB,aqC,aqD,trivial⟩ ⟨aqE,aqF,aqG,aqH,trivial⟩⟩
def ti9:TI:=⟨1,false,some [.string ⟨#[]⟩],.str⟩
theorem tk9:cQ prog 9 ti9:=⟨ty9,λzs h=>by cases h;exact ze9,underlying9⟩
def asw:TI:=⟨1,false,some [.string ⟨#[]⟩],.str⟩
theorem tk10:cQ prog 10 asw:=⟨ty10,λzs h=>by cases h;exact ze10,underlying10⟩
def asx:TI:=⟨1,false,some [.string ⟨#[]⟩],.str⟩
theorem tk11:cQ prog 11 asx:=⟨ty11,λzs h=>by cases h;exact ze11,underlying11⟩
def asy:TI:=⟨1,false,some [.int .u64 0],.int .u64⟩
theorem tk12:cQ prog 12 asy:=⟨aji,λzs h=>by cases h;exact ze12,underlying12⟩
def asz:TI:=⟨2,true,some [.string ⟨#[]⟩,.int .u64 0],.struct [.string ⟨#[]⟩,.int .u64 0] [(0,1),(1,1)] [false,false]⟩
theorem tk13:cQ prog 13 asz:=⟨ty13,λzs h=>by cases h;exact ze13,dL aup ⟨amU,amV,trivial⟩ ⟨amW,amX,trivial⟩⟩
def asA:TI:=⟨2,true,some [.string ⟨#[]⟩,.int .u64 0],.struct [.string ⟨#[]⟩,.int .u64 0] [(0,1),(1,1)] [false,false]⟩
theorem tk14:cQ prog 14 asA:=⟨ty14,λzs h=>by cases h;exact ze14,dL auq ⟨amY,amZ,trivial⟩ ⟨am0,am1,trivial⟩⟩
def asB:TI:=⟨1,false,some [.pointer none],.oth⟩
theorem tk15:cQ prog 15 asB:=⟨ty15,λzs h=>by cases h;exact ze15,trivial⟩
def asC:TI:=⟨1,false,some [.pointer none],.oth⟩
theorem tk16:cQ prog 16 asC:=⟨ty16,λzs h=>by cases h;exact ze16,trivial⟩
def asD:TI:=⟨1,false,some [.pointer none],.oth⟩
theorem tk17:cQ prog 17 asD:=⟨ajj,λzs h=>by cases h;exact ze17,trivial⟩
def asE:TI:=⟨1,true,some [.pointer none],.struct [.pointer none] [(0,1)] [false]⟩
theorem tk18:cQ prog 18 asE:=⟨ty18,λzs h=>by cases h;exact ze18,dL aur ⟨am2,trivial⟩ ⟨am3,trivial⟩⟩
def asF:TI:=⟨1,true,some [.pointer none],.struct [.pointer none] [(0,1)] [false]⟩
theorem tk19:cQ prog 19 asF:=⟨ty19,λzs h=>by cases h;exact ze19,dL aus ⟨am4,trivial⟩ ⟨am5,trivial⟩⟩
def asG:TI:=⟨1,false,some [.int .i32 0],.int .i32⟩
theorem tk21:cQ prog 21 asG:=⟨ty21,λzs h=>by cases h;exact ze21,underlying21⟩
def asH:TI:=⟨1,false,some [zS0],.slice 3 1 8 [zI0]⟩
theorem tk22:cQ prog 22 asH:=⟨ahb,λzs h=>by cases h;exact aqg,⟨sl22,ahc,alF⟩⟩
def asI:TI:=⟨1,false,some [.pointer none],.oth⟩
theorem tk23:cQ prog 23 asI:=⟨ty23,λzs h=>by cases h;exact ze23,trivial⟩
def asJ:TI:=⟨1,false,some [zS0],.slice 42 2 16 [zI0,.bool false]⟩
theorem tk25:cQ prog 25 asJ:=⟨ajk,λzs h=>by cases h;exact ze25,⟨sl25,aut,auu⟩⟩
def asK:TI:=⟨1,false,some [zS0],.slice 89 5 40 [zI0,zI0,zI0,zI0,zI0]⟩
theorem tk26:cQ prog 26 asK:=⟨ajl,λzs h=>by cases h;exact ze26,⟨sl26,auv,auw⟩⟩
def asL:TI:=⟨2,true,some [zS0,zS0],.struct [zS0,zS0] [(0,1),(1,1)] [false,false]⟩
theorem tk27:cQ prog 27 asL:=⟨ty27,λzs h=>by cases h;exact ze27,dL auy ⟨am6,am7,trivial⟩ ⟨am8,am9,trivial⟩⟩
def asM:TI:=⟨2,true,some [zS0,zS0],.struct [zS0,zS0] [(0,1),(1,1)] [false,false]⟩
theorem tk28:cQ prog 28 asM:=⟨ajm,λzs h=>by cases h;exact aqh,dL auz ⟨ana,anb,trivial⟩ ⟨anc,ane,trivial⟩⟩
def asN:TI:=⟨1,false,some [zS0],.slice 38 4 32 [zI0,zI0,zI0,zI0]⟩
theorem tk30:cQ prog 30 asN:=⟨ajn,λzs h=>by cases h;exact ze30,⟨aqI,auA,auB⟩⟩
def asO:TI:=⟨2,true,some [zI0,zS0],.struct [zI0,zS0] [(0,1),(1,1)] [false,false]⟩
theorem tk31:cQ prog 31 asO:=⟨ty31,λzs h=>by cases h;exact ze31,dL auC ⟨anf,ang,trivial⟩ ⟨anh,ani,trivial⟩⟩
def asP:TI:=⟨2,true,some [zI0,zS0],.struct [zI0,zS0] [(0,1),(1,1)] [false,false]⟩
theorem tk32:cQ prog 32 asP:=⟨aqJ,λzs h=>by cases h;exact aqi,dL auD ⟨anj,ank,trivial⟩ ⟨anl,anm,trivial⟩⟩
def asQ:TI:=⟨1,false,some [.int .u64 0],.int .u64⟩
theorem tk34:cQ prog 34 asQ:=⟨yG,λzs h=>by cases h;exact ze34,underlying34⟩
def asR:TI:=⟨10,true,some [zI0,zI0,zI0,zI0,zI0,zI0,zI0,zI0,.int .u64 0,.string ⟨#[]⟩],.struct [zI0,zI0,zI0,zI0,zI0,zI0,zI0,zI0,.int .u64 0,.string ⟨#[]⟩] [(0,1),(1,1),(2,1),(3,1),(4,1),(5,1),(6,1),(7,1),(8,1),(9,1)] [false,false,false,false,false,false,false,false,false,false]⟩
theorem tk35:cQ prog 35 asR:=⟨ty35,λzs h=>by cases h;exact ze35,dL auE ⟨ann,ano,anp,anq,anr,ans,ant,anu,anv,anw,trivial⟩ ⟨anx,anz,anA,anB,anC,anD,anE,anG,anH,anI,trivial⟩⟩
def asS:TI:=⟨10,true,some [zI0,zI0,zI0,zI0,zI0,zI0,zI0,zI0,.int .u64 0,.string ⟨#[]⟩],.struct [zI0,zI0,zI0,zI0,zI0,zI0,zI0,zI0,.int .u64 0,.string ⟨#[]⟩] [(0,1),(1,1),(2,1),(3,1),(4,1),(5,1),(6,1),(7,1),(8,1),(9,1)] [false,false,false,false,false,false,false,false,false,false]⟩
theorem tk36:cQ prog 36 asS:=⟨ajo,λzs h=>by cases h;exact aqj,dL auF ⟨anJ,anK,anL,anM,anN,anO,anP,anQ,anR,anS,trivial⟩ ⟨anT,anU,anV,anW,anX,anY,anZ,an0,an1,an2,trivial⟩⟩
def asT:TI:=⟨4,true,some [zI0,zI0,zI0,zI0],.struct [zI0,zI0,zI0,zI0] [(0,1),(1,1),(2,1),(3,1)] [false,false,false,false]⟩
theorem tk37:cQ prog 37 asT:=⟨ty37,λzs h=>by cases h;exact ze37,dL auH ⟨an3,an4,an5,an6,trivial⟩ ⟨an7,an8,an9,aoa,trivial⟩⟩
def asU:TI:=⟨4,true,some [zI0,zI0,zI0,zI0],.struct [zI0,zI0,zI0,zI0] [(0,1),(1,1),(2,1),(3,1)] [false,false,false,false]⟩
theorem tk38:cQ prog 38 asU:=⟨aqK,λzs h=>by cases h;exact aqk,dL auI ⟨aob,aoc,aod,aoe,trivial⟩ ⟨aof,aog,aoh,aoi,trivial⟩⟩
def asV:TI:=⟨1,false,some [.int .u64 0],.int .u64⟩
theorem tk40:cQ prog 40 asV:=⟨ty40,λzs h=>by cases h;exact ze40,underlying40⟩
def asW:TI:=⟨2,true,some [zI0,.bool false],.struct [zI0,.bool false] [(0,1),(1,1)] [false,false]⟩
theorem tk41:cQ prog 41 asW:=⟨ty41,λzs h=>by cases h;exact ze41,dL auJ ⟨aoj,aok,trivial⟩ ⟨aol,aom,trivial⟩⟩
def asX:TI:=⟨2,true,some [zI0,.bool false],.struct [zI0,.bool false] [(0,1),(1,1)] [false,false]⟩
theorem tk42:cQ prog 42 asX:=⟨ty42,λzs h=>by cases h;exact aql,dL auK ⟨aon,aoo,trivial⟩ ⟨aop,aoq,trivial⟩⟩
def asY:TI:=⟨1,false,some [zS0],.slice 54 12 120 [zI0,zS0,zI0,zI0,zI0,zI0,zI0,zI0,zI0,zI0,.int .u64 0,.string ⟨#[]⟩]⟩
theorem tk44:cQ prog 44 asY:=⟨ajp,λzs h=>by cases h;exact ze44,⟨sl44,auL,auM⟩⟩
def asZ:TI:=⟨3,true,some [.int .u64 0,.int .u64 0,zS0],.struct [.int .u64 0,.int .u64 0,zS0] [(0,1),(1,1),(2,1)] [false,false,false]⟩
theorem tk45:cQ prog 45 asZ:=⟨ty45,λzs h=>by cases h;exact ze45,dL auN ⟨aor,aos,aot,trivial⟩ ⟨aou,aov,aow,trivial⟩⟩
def as0:TI:=⟨3,true,some [.int .u64 0,.int .u64 0,zS0],.struct [.int .u64 0,.int .u64 0,zS0] [(0,1),(1,1),(2,1)] [false,false,false]⟩
theorem tk46:cQ prog 46 as0:=⟨ty46,λzs h=>by cases h;exact ze46,dL auO ⟨aox,aoy,aoz,trivial⟩ ⟨aoA,aoB,aoC,trivial⟩⟩
def as1:TI:=⟨1,false,some [zI0],.int .i64⟩
theorem tk47:cQ prog 47 as1:=⟨ty47,λzs h=>by cases h;exact ze47,underlying47⟩
def as2:TI:=⟨11,true,some [zS0,zI0,zI0,zI0,zI0,zI0,zI0,zI0,zI0,.int .u64 0,.string ⟨#[]⟩],.struct [zS0,zI0,zI0,zI0,zI0,zI0,zI0,zI0,zI0,.int .u64 0,.string ⟨#[]⟩] [(0,1),(1,10)] [false,true]⟩
theorem tk52:cQ prog 52 as2:=⟨ae1,λzs h=>by cases h;exact ze52,dL auP ⟨aoD,aoE,trivial⟩ ⟨aoF,aoG,trivial⟩⟩
def as3:TI:=⟨12,true,some [zI0,zS0,zI0,zI0,zI0,zI0,zI0,zI0,zI0,zI0,.int .u64 0,.string ⟨#[]⟩],.struct [zI0,zS0,zI0,zI0,zI0,zI0,zI0,zI0,zI0,zI0,.int .u64 0,.string ⟨#[]⟩] [(0,1),(1,11)] [false,true]⟩
theorem tk54:cQ prog 54 as3:=⟨aqL,λzs h=>by cases h;exact aqm,dL auQ ⟨aoH,aoI,trivial⟩ ⟨aoJ,aoK,trivial⟩⟩
def as4:TI:=⟨1,false,some [zS0],.slice 67 2 16 [zI0,zI0]⟩
theorem tk61:cQ prog 61 as4:=⟨ajq,λzs h=>by cases h;exact ze61,⟨sl61,auR,auS⟩⟩
def as5:TI:=⟨2,true,some [zI0,zS0],.struct [zI0,zS0] [(0,1),(1,1)] [false,false]⟩
theorem tk63:cQ prog 63 as5:=⟨ty63,λzs h=>by cases h;exact aqn,dL auT ⟨aoL,aoM,trivial⟩ ⟨aoN,aoO,trivial⟩⟩
def as6:TI:=⟨2,true,some [zI0,zI0],.struct [zI0,zI0] [(0,1),(1,1)] [false,false]⟩
theorem tk67:cQ prog 67 as6:=⟨ty67,λzs h=>by cases h;exact aqo,dL auU ⟨aoP,aoQ,trivial⟩ ⟨aoR,aoS,trivial⟩⟩
def as7:TI:=⟨1,false,some [zS0],.slice 78 11 96 [zI0,zI0,zI0,zI0,zI0,zI0,zI0,zI0,zI0,.int .u64 0,.string ⟨#[]⟩]⟩
theorem tk70:cQ prog 70 as7:=⟨aqM,λzs h=>by cases h;exact ze70,⟨sl70,auW,auX⟩⟩
def as8:TI:=⟨1,false,some [zS0],.slice 81 3 24 [zI0,zI0,.int .u64 0]⟩
theorem tk71:cQ prog 71 as8:=⟨aqN,λzs h=>by cases h;exact ze71,⟨sl71,auZ,au0⟩⟩
def as9:TI:=⟨1,false,some [zS0],.slice 141 2 16 [zI0,.int .u64 0]⟩
theorem tk72:cQ prog 72 as9:=⟨aqO,λzs h=>by cases h;exact ze72,⟨sl72,au1,au2⟩⟩
def ata:TI:=⟨3,true,some [zS0,zS0,zS0],.struct [zS0,zS0,zS0] [(0,1),(1,1),(2,1)] [false,false,false]⟩
theorem tk74:cQ prog 74 ata:=⟨aqP,λzs h=>by cases h;exact ze74,dL au3 ⟨aoT,aoU,aoV,trivial⟩ ⟨aoW,aoX,aoY,trivial⟩⟩
def atb:TI:=⟨11,true,some [zI0,zI0,zI0,zI0,zI0,zI0,zI0,zI0,zI0,.int .u64 0,.string ⟨#[]⟩],.struct [zI0,zI0,zI0,zI0,zI0,zI0,zI0,zI0,zI0,.int .u64 0,.string ⟨#[]⟩] [(0,1),(1,10)] [false,true]⟩
theorem tk78:cQ prog 78 atb:=⟨ty78,λzs h=>by cases h;exact aqp,dL au4 ⟨aoZ,ao0,trivial⟩ ⟨ao1,ao2,trivial⟩⟩
def atc:TI:=⟨3,true,some [zI0,zI0,.int .u64 0],.struct [zI0,zI0,.int .u64 0] [(0,1),(1,1),(2,1)] [false,false,false]⟩
theorem tk81:cQ prog 81 atc:=⟨ty81,λzs h=>by cases h;exact aqq,dL au6 ⟨ao3,ao4,ao5,trivial⟩ ⟨ao6,ao7,ao8,trivial⟩⟩
def atd:TI:=⟨5,true,some [zI0,zI0,zI0,zI0,zI0],.struct [zI0,zI0,zI0,zI0,zI0] [(0,1),(1,1),(2,1),(3,1),(4,1)] [false,false,false,false,false]⟩
theorem tk89:cQ prog 89 atd:=⟨ty89,λzs h=>by cases h;exact aqr,dL au8 ⟨ao9,apa,apb,apc,apd,trivial⟩ ⟨ape,apf,apg,aph,api,trivial⟩⟩
def ate:TI:=⟨1,false,some [zS0],.slice 32 2 32 [zI0,zS0]⟩
theorem tk91:cQ prog 91 ate:=⟨ty91,λzs h=>by cases h;exact ze91,⟨sl91,au9,ava⟩⟩
def atf:TI:=⟨1,false,some [zS0],.slice 36 10 88 [zI0,zI0,zI0,zI0,zI0,zI0,zI0,zI0,.int .u64 0,.string ⟨#[]⟩]⟩
theorem tk93:cQ prog 93 atf:=⟨ty93,λzs h=>by cases h;exact ze93,⟨sl93,avb,avc⟩⟩
def atg:TI:=⟨1,false,some [zS0],.slice 28 2 48 [zS0,zS0]⟩
theorem tk94:cQ prog 94 atg:=⟨ty94,λzs h=>by cases h;exact ze94,⟨sl94,avd,ave⟩⟩
def ath:TI:=⟨1,false,some [zS0],.slice 63 2 32 [zI0,zS0]⟩
theorem tk96:cQ prog 96 ath:=⟨ty96,λzs h=>by cases h;exact ze96,⟨sl96,avf,avg⟩⟩
def ati:TI:=⟨1,false,some [zS0],.slice 22 1 24 [zS0]⟩
theorem tk97:cQ prog 97 ati:=⟨ty97,λzs h=>by cases h;exact ze97,⟨sl97,avh,avj⟩⟩
def alL:TI:=⟨2,true,some [zS0,zS0],.struct [zS0,zS0] [(0,1),(1,1)] [false,false]⟩
theorem av9:cQ prog 100 alL:=⟨alG,λzs h=>by cases h;exact alx,dL aqQ ⟨aju,ajv,trivial⟩ ⟨ajw,ajx,trivial⟩⟩
def alM:TI:=⟨1,false,some [zS0],.slice 100 2 48 [zS0,zS0]⟩
theorem awa:cQ prog 105 alM:=⟨avk,λzs h=>by cases h;exact atZ,⟨avl,aqR,aqS⟩⟩
def alN:TI:=⟨2,true,some [zS0,zI0],.struct [zS0,zI0] [(0,1),(1,1)] [false,false]⟩
theorem awb:cQ prog 115 alN:=⟨avm,λzs h=>by cases h;exact at0,dL aqT ⟨ajy,ajz,trivial⟩ ⟨ajA,ajB,trivial⟩⟩
def alO:TI:=⟨1,false,some [zS0],.slice 118 1 24 [zS0]⟩
theorem awc:cQ prog 117 alO:=⟨avn,λzs h=>by cases h;exact at1,⟨w9,aih,aii⟩⟩
def alP:TI:=⟨1,false,some [zS0],.slice 4 1 1 [.bool false]⟩
theorem awd:cQ prog 118 alP:=⟨acd,λzs h=>by cases h;exact aly,⟨avo,aij,aik⟩⟩
def alQ:TI:=⟨1,false,some [.nilFunc],.oth⟩
theorem awe:cQ prog 130 alQ:=⟨avp,λzs h=>by cases h;exact at3,trivial⟩
def alR:TI:=⟨1,false,some [zS0],.slice 143 16 152 [zI0,zI0,zI0,zI0,zI0,zS0,zI0,zI0,zI0,zI0,zI0,zI0,zI0,zI0,.int .u64 0,.string ⟨#[]⟩]⟩
theorem awf:cQ prog 136 alR:=⟨avq,λzs h=>by cases h;exact at4,⟨avr,aqU,aqV⟩⟩
def alS:TI:=⟨2,true,some [zI0,.int .u64 0],.struct [zI0,.int .u64 0] [(0,1),(1,1)] [false,false]⟩
theorem awg:cQ prog 141 alS:=⟨avt,λzs h=>by cases h;exact alz,dL aqW ⟨ajC,ajD,trivial⟩ ⟨ajE,ajF,trivial⟩⟩
def alT:TI:=⟨16,true,some [zI0,zI0,zI0,zI0,zI0,zS0,zI0,zI0,zI0,zI0,zI0,zI0,zI0,zI0,.int .u64 0,.string ⟨#[]⟩],.struct [zI0,zI0,zI0,zI0,zI0,zS0,zI0,zI0,zI0,zI0,zI0,zI0,zI0,zI0,.int .u64 0,.string ⟨#[]⟩] [(0,4),(4,12)] [true,true]⟩
theorem awh:cQ prog 143 alT:=⟨avu,λzs h=>by cases h;exact alA,dL aqY ⟨ajG,ajH,trivial⟩ ⟨ajI,ajJ,trivial⟩⟩
def alU:TI:=⟨1,false,some [.nilFunc],.oth⟩
theorem awi:cQ prog 152 alU:=⟨avv,λzs h=>by cases h;exact at5,trivial⟩
def alV:TI:=⟨12,true,some [zI0,zS0,zI0,zI0,zI0,zI0,zI0,zI0,zI0,zI0,.int .u64 0,.string ⟨#[]⟩],.struct [zI0,zS0,zI0,zI0,zI0,zI0,zI0,zI0,zI0,zI0,.int .u64 0,.string ⟨#[]⟩] [(0,1),(1,11)] [false,true]⟩
theorem awj:cQ prog 154 alV:=⟨avw,λzs h=>by cases h;exact alB,dL aqZ ⟨ajK,ajL,trivial⟩ ⟨ajM,ajN,trivial⟩⟩
def alW:TI:=⟨1,false,some [zS0],.slice 154 12 120 [zI0,zS0,zI0,zI0,zI0,zI0,zI0,zI0,zI0,zI0,.int .u64 0,.string ⟨#[]⟩]⟩
theorem awk:cQ prog 155 alW:=⟨alH,λzs h=>by cases h;exact at6,⟨avx,aq0,aq1⟩⟩
def alX:TI:=⟨12,true,some [zI0,zS0,zS0,zS0,zS0,zS0,zS0,zS0,zS0,zS0,zS0,zS0],.struct [zI0,zS0,zS0,zS0,zS0,zS0,zS0,zS0,zS0,zS0,zS0,zS0] [(0,2),(2,2),(4,2),(6,2),(8,3),(11,1)] [true,true,true,true,true,false]⟩
theorem awl:cQ prog 157 alX:=⟨avy,λzs h=>by cases h;exact at7,dL aq2 ⟨ajO,ajP,ajQ,ajR,ajS,ajT,trivial⟩ ⟨ajU,ajV,ajW,ajX,ajY,ajZ,trivial⟩⟩
def alY:TI:=⟨12,true,some [zI0,zS0,zI0,zI0,zI0,zI0,zI0,zI0,zI0,zI0,.int .u64 0,.string ⟨#[]⟩],.struct [zI0,zS0,zI0,zI0,zI0,zI0,zI0,zI0,zI0,zI0,.int .u64 0,.string ⟨#[]⟩] [(0,1),(1,11)] [false,true]⟩
theorem awm:cQ prog 159 alY:=⟨avz,λzs h=>by cases h;exact at8,dL aq3 ⟨aj0,aj1,trivial⟩ ⟨aj2,aj3,trivial⟩⟩
def alZ:TI:=⟨12,true,some [zI0,zS0,zI0,zI0,zI0,zI0,zI0,zI0,zI0,zI0,.int .u64 0,.string ⟨#[]⟩],.struct [zI0,zS0,zI0,zI0,zI0,zI0,zI0,zI0,zI0,zI0,.int .u64 0,.string ⟨#[]⟩] [(0,1),(1,11)] [false,true]⟩
theorem awn:cQ prog 160 alZ:=⟨avA,λzs h=>by cases h;exact alC,dL aq4 ⟨aj4,aj5,trivial⟩ ⟨aj6,aj7,trivial⟩⟩
def al0:TI:=⟨1,false,some [zS0],.slice 160 12 120 [zI0,zS0,zI0,zI0,zI0,zI0,zI0,zI0,zI0,zI0,.int .u64 0,.string ⟨#[]⟩]⟩
theorem awo:cQ prog 161 al0:=⟨avB,λzs h=>by cases h;exact at9,⟨avC,aq5,aq6⟩⟩
def al1:TI:=⟨1,false,some [.nilFunc],.oth⟩
theorem awp:cQ prog 168 al1:=⟨avD,λzs h=>by cases h;exact aua,trivial⟩
def al2:TI:=⟨1,false,some [.nilFunc],.oth⟩
theorem awq:cQ prog 170 al2:=⟨avE,λzs h=>by cases h;exact aub,trivial⟩
def al3:TI:=⟨1,false,some [.nilFunc],.oth⟩
theorem awr:cQ prog 172 al3:=⟨avF,λzs h=>by cases h;exact auc,trivial⟩
def al4:TI:=⟨1,false,some [.nilFunc],.oth⟩
theorem aws:cQ prog 173 al4:=⟨avG,λzs h=>by cases h;exact aud,trivial⟩
def al5:TI:=⟨2,true,some [zI0,zI0],.oth⟩
theorem awt:cQ prog 177 al5:=⟨avH,λzs h=>by cases h;exact aaz,trivial⟩
def al6:TI:=⟨1,false,some [zS0],.slice 177 2 16 [zI0,zI0]⟩
theorem awu:cQ prog 178 al6:=⟨avI,λzs h=>by cases h;exact aue,⟨avJ,aq7,aq8⟩⟩
def al7:TI:=⟨3,true,some [zI0,zI0,zI0],.struct [zI0,zI0,zI0] [(0,1),(1,1),(2,1)] [false,false,false]⟩
theorem awv:cQ prog 184 al7:=⟨avK,λzs h=>by cases h;exact auf,dL aq9 ⟨aj8,aj9,aka,trivial⟩ ⟨akb,akc,akd,trivial⟩⟩
def al8:TI:=⟨1,false,some [.pointer none],.oth⟩
theorem aww:cQ prog 193 al8:=⟨avL,λzs h=>by cases h;exact aug,trivial⟩
def al9:TI:=⟨1,false,some [.map none],.map 3 216 .i64⟩
theorem awx:cQ prog 200 al9:=⟨ahd,λzs h=>by cases h;exact auh,kZ⟩
def ama:TI:=⟨2,true,some [.map none,.map none],.struct [.map none,.map none] [(0,1),(1,1)] [false,false]⟩
theorem awy:cQ prog 202 ama:=⟨avM,λzs h=>by cases h;exact aui,dL arb ⟨ake,akf,trivial⟩ ⟨akg,akh,trivial⟩⟩
def amb:TI:=⟨1,false,some [.map none],.map 3 3 .i64⟩
theorem awz:cQ prog 204 amb:=⟨avN,λzs h=>by cases h;exact auj,rj⟩
def amc:TI:=⟨1,false,some [.nilFunc],.oth⟩
theorem awA:cQ prog 215 amc:=⟨avO,λzs h=>by cases h;exact auk,trivial⟩
def amd:TI:=⟨1,false,some [zS0],.slice 218 2 16 [zI0,zI0]⟩
theorem awB:cQ prog 216 amd:=⟨avP,λzs h=>by cases h;exact aul,⟨avQ,arc,ard⟩⟩
def ame:TI:=⟨2,true,some [zI0,zI0],.struct [zI0,zI0] [(0,1),(1,1)] [false,false]⟩
theorem awC:cQ prog 218 ame:=⟨avR,λzs h=>by cases h;exact alD,dL arf ⟨aki,akj,trivial⟩ ⟨akk,akl,trivial⟩⟩
def amf:TI:=⟨1,false,some [.nilFunc],.oth⟩
theorem awD:cQ prog 220 amf:=⟨avS,λzs h=>by cases h;exact aum,trivial⟩
def amg:TI:=⟨1,false,some [zI0],.int .i64⟩
theorem awE:cQ prog 228 amg:=⟨avT,λzs h=>by cases h;exact aun,underlying228⟩
def amh:TI:=⟨1,false,some [.int .u32 0],.int .u32⟩
theorem awF:cQ prog 235 amh:=⟨avU,λzs h=>by cases h;exact auo,underlying235⟩
def tb:Tb:=[(2,ti2),(3,ti3),(4,ti4),(5,ti5),(6,ti6),(7,ti7),(8,ti8),(9,ti9),(10,asw),(11,asx),(12,asy),(13,asz),(14,asA),(15,asB),(16,asC),(17,asD),(18,asE),(19,asF),(21,asG),(22,asH),(23,asI),(25,asJ),(26,asK),(27,asL),(28,asM),(30,asN),(31,asO),(32,asP),(34,asQ),(35,asR),(36,asS),(37,asT),(38,asU),(40,asV),(41,asW),(42,asX),(44,asY),(45,asZ),(46,as0),(47,as1),(52,as2),(54,as3),(61,as4),(63,as5),(67,as6),(70,as7),(71,as8),(72,as9),(74,ata),(78,atb),(81,atc),(89,atd),(91,ate),(93,atf),(94,atg),(96,ath),(97,ati),(100,alL),(105,alM),(115,alN),(117,alO),(118,alP),(130,alQ),(136,alR),(141,alS),(143,alT),(152,alU),(154,alV),(155,alW),(157,alX),(159,alY),(160,alZ),(161,al0),(168,al1),(170,al2),(172,al3),(173,al4),(177,al5),(178,al6),(184,al7),(193,al8),(200,al9),(202,ama),(204,amb),(215,amc),(216,amd),(218,ame),(220,amf),(228,amg),(235,amh)]
theorem W0:Wld prog tb:=⟨hmix,⟨tk2,tk3,tk4,tk5,tk6,tk7,tk8,tk9,tk10,tk11,tk12,tk13,tk14,tk15,tk16,tk17,tk18,tk19,tk21,tk22,tk23,tk25,tk26,tk27,tk28,tk30,tk31,tk32,tk34,tk35,tk36,tk37,tk38,tk40,tk41,tk42,tk44,tk45,tk46,tk47,tk52,tk54,tk61,tk63,tk67,tk70,tk71,tk72,tk74,tk78,tk81,tk89,tk91,tk93,tk94,tk96,tk97,av9,awa,awb,awc,awd,awe,awf,awg,awh,awi,awj,awk,awl,awm,awn,awo,awp,awq,awr,aws,awt,awu,awv,aww,awx,awy,awz,awA,awB,awC,awD,awE,awF,trivial⟩⟩
theorem ck9:aP prog 9:=⟨call9⟩
theorem ck10:aP prog 10:=⟨call10⟩
theorem ck11:aP prog 11:=⟨call11⟩
theorem me:aP prog 12:=⟨call12⟩
theorem ck13:aP prog 13:=⟨call13⟩
theorem atj:aP prog 14:=⟨call14⟩
theorem akG:aP prog 15:=⟨call15⟩
theorem zY:aP prog 16:=⟨call16⟩
theorem ck17:aP prog 17:=⟨call17⟩
theorem atk:aP prog 18:=⟨call18⟩
theorem atl:aP prog 19:=⟨call19⟩
theorem ck22:aP prog 22:=⟨call22⟩
theorem atm:aP prog 25:=⟨call25⟩
theorem afe:aP prog 27:=⟨call27⟩
theorem ahz:aP prog 29:=⟨call29⟩
theorem atn:aP prog 30:=⟨call30⟩
theorem ck32:aP prog 32:=⟨call32⟩
theorem ck35:aP prog 35:=⟨call35⟩
theorem ck37:aP prog 37:=⟨call37⟩
theorem abE:aP prog 39:=⟨call39⟩
theorem akH:aP prog 40:=⟨call40⟩
theorem adg:aP prog 41:=⟨call41⟩
theorem adh:aP prog 42:=⟨call42⟩
theorem akI:aP prog 43:=⟨call43⟩
theorem ato:aP prog 44:=⟨call44⟩
theorem ck45:aP prog 45:=⟨call45⟩
theorem ck46:aP prog 46:=⟨call46⟩
theorem akJ:aP prog 48:=⟨call48⟩
theorem ck50:aP prog 50:=⟨call50⟩
theorem akK:aP prog 51:=⟨call51⟩
theorem ck52:aP prog 52:=⟨call52⟩
theorem ck53:aP prog 53:=⟨call53⟩
theorem adi:aP prog 54:=⟨call54⟩
theorem atp:aP prog 55:=⟨call55⟩
theorem ck56:aP prog 56:=⟨call56⟩
theorem atq:aP prog 57:=⟨call57⟩
theorem aff:aP prog 58:=⟨call58⟩
theorem qK:aP prog 59:=⟨call59⟩
theorem ck60:aP prog 60:=⟨call60⟩
theorem atr:aP prog 61:=⟨call61⟩
theorem ck62:aP prog 62:=⟨call62⟩
theorem yN:aP prog 63:=⟨call63⟩
theorem att:aP prog 64:=⟨call64⟩
theorem atu:aP prog 66:=⟨call66⟩
theorem adj:aP prog 68:=⟨call68⟩
theorem afg:aP prog 69:=⟨call69⟩
theorem adk:aP prog 70:=⟨call70⟩
theorem ck71:aP prog 71:=⟨call71⟩
theorem ck72:aP prog 72:=⟨call72⟩
theorem ck73:aP prog 73:=⟨call73⟩
theorem ahA:aP prog 75:=⟨call75⟩
theorem ck76:aP prog 76:=⟨call76⟩
theorem ck79:aP prog 79:=⟨call79⟩
theorem ck80:aP prog 80:=⟨call80⟩
theorem atv:aP prog 81:=⟨call81⟩
theorem ck82:aP prog 82:=⟨call82⟩
theorem akL:aP prog 83:=⟨call83⟩
theorem ck84:aP prog 84:=⟨call84⟩
theorem ck85:aP prog 85:=⟨call85⟩
theorem adl:aP prog 86:=⟨call86⟩
theorem ck87:aP prog 87:=⟨call87⟩
theorem akM:aP prog 89:=⟨call89⟩
theorem abF:aP prog 90:=⟨call90⟩
theorem jB:aP prog 91:=⟨call91⟩
theorem adm:aP prog 92:=⟨call92⟩
theorem ck93:aP prog 93:=⟨call93⟩
theorem ck94:aP prog 94:=⟨call94⟩
theorem abG:aP prog 95:=⟨call95⟩
theorem akN:aP prog 96:=⟨call96⟩
theorem atw:aP prog 97:=⟨call97⟩
theorem atx:aP prog 98:=⟨call98⟩
theorem akO:aP prog 99:=⟨call99⟩
theorem awG:aP prog 100:=⟨call100⟩
theorem awH:aP prog 101:=⟨call101⟩
theorem awI:aP prog 102:=⟨call102⟩
theorem ami:aP prog 103:=⟨call103⟩
theorem awJ:aP prog 104:=⟨call104⟩
theorem amj:aP prog 105:=⟨call105⟩
theorem awK:aP prog 106:=⟨call106⟩
theorem amk:aP prog 107:=⟨call107⟩
theorem aml:aP prog 108:=⟨call108⟩
theorem awL:aP prog 109:=⟨call109⟩
theorem amm:aP prog 110:=⟨call110⟩
theorem yO:aP prog 111:=⟨call111⟩
theorem aey:aP prog 112:=⟨call112⟩
theorem gN:aP prog 118:=⟨call118⟩
theorem aaO:aP prog 119:=⟨call119⟩
theorem aez:aP prog 120:=⟨call120⟩
theorem ahB:aP prog 121:=⟨call121⟩
theorem amn:aP prog 122:=⟨call122⟩
theorem awM:aP prog 123:=⟨call123⟩
theorem acp:aP prog 124:=⟨call124⟩
theorem awN:aP prog 125:=⟨call125⟩
theorem amo:aP prog 126:=⟨call126⟩
theorem awO:aP prog 127:=⟨call127⟩
theorem amp:aP prog 128:=⟨call128⟩
theorem aaP:aP prog 129:=⟨call129⟩
theorem amq:aP prog 130:=⟨call130⟩
theorem awP:aP prog 131:=⟨call131⟩
theorem ahC:aP prog 133:=⟨call133⟩
theorem awQ:aP prog 134:=⟨call134⟩
theorem awR:aP prog 135:=⟨call135⟩
theorem aeA:aP prog 136:=⟨call136⟩
theorem awS:aP prog 137:=⟨call137⟩
theorem awT:aP prog 138:=⟨call138⟩
theorem awU:aP prog 139:=⟨call139⟩
theorem awV:aP prog 140:=⟨call140⟩
theorem amr:aP prog 141:=⟨call141⟩
theorem awW:aP prog 142:=⟨call142⟩
theorem awX:aP prog 143:=⟨call143⟩
theorem awY:aP prog 144:=⟨call144⟩
theorem ams:aP prog 146:=⟨call146⟩
theorem awZ:aP prog 150:=⟨call150⟩
theorem aw0:aP prog 151:=⟨call151⟩
theorem aw1:aP prog 152:=⟨call152⟩
theorem aw2:aP prog 153:=⟨call153⟩
theorem aw3:aP prog 154:=⟨call154⟩
theorem aw4:aP prog 155:=⟨call155⟩
theorem aw5:aP prog 156:=⟨call156⟩
theorem aw6:aP prog 157:=⟨call157⟩
theorem amt:aP prog 158:=⟨call158⟩
theorem amu:aP prog 159:=⟨call159⟩
theorem amv:aP prog 160:=⟨call160⟩
theorem aw7:aP prog 161:=⟨call161⟩
theorem aw8:aP prog 163:=⟨call163⟩
theorem aw9:aP prog 164:=⟨call164⟩
theorem amw:aP prog 165:=⟨call165⟩
theorem aeB:aP prog 166:=⟨call166⟩
theorem axa:aP prog 168:=⟨call168⟩
theorem axb:aP prog 177:=⟨call177⟩
theorem qS{N:Nat}{ids:List Nat}{y:Code}{Q:Exit→Env→Sto→Prop}{env:Env}{σ:Sto}{id:Nat}{ops:Array Oper}{dr:Bool}(hs:List (Nat×Hint prog))(cS:Env)(σ2:Sto)(k:aj ⟨prog,N,ids⟩ y Q cS σ2)
  (h:yK tb N ids ops dr (lp ops dr hs).1 (lp ops dr hs).2 [] hs (sX cS) σ2.ids env σ=some (cS,σ2,(lp ops dr hs).2.map λi=>(hintOf hs i).exp):=by kernel_rfl):aj ⟨prog,N,ids⟩ (.seq (.region id ops dr) y) Q env σ:=A.RS W0 [] hs cS σ2 h k
theorem qR{N:Nat}{ids:List Nat}{Q:Exit→Env→Sto→Prop}{env:Env}{σ:Sto}{id:Nat}{ops:Array Oper}{dr:Bool}(hs:List (Nat×Hint prog))(cS:Env)(σ2:Sto)(k:Q .normal cS σ2)
  (h:yK tb N ids ops dr (lp ops dr hs).1 (lp ops dr hs).2 [] hs (sX cS) σ2.ids env σ=some (cS,σ2,(lp ops dr hs).2.map λi=>(hintOf hs i).exp):=by kernel_rfl):aj ⟨prog,N,ids⟩ (.region id ops dr) Q env σ:=A.R W0 [] hs cS σ2 h k
def aty(n:Nat):List Nat→Bool
 |[]=>false
 |k::r=>bif Nat.beq k n then true else aty n r
def ow{α:Type}(ks:List Nat)(new:List (Nat×α)):List (Nat×α)→List (Nat×α)
 |[]=>new
 |p::l=>bif aty p.1 ks then ow ks new l else p::ow ks new l
section
variable {N:Nat}{ids:List Nat}{y:Code}{Q:Exit→Env→Sto→Prop}{env:Env}{σ:Sto}{id:Nat}{ops:Array Oper}{dr:Bool}(hs:List (Nat×Hint prog))(ks:List Nat)(new:Env)(js:List Nat)(nws:Sto)
theorem qD(k:aj ⟨prog,N,ids⟩ y Q (ow ks new env) (ow js nws σ))
  (h:yK tb N ids ops dr (lp ops dr hs).1 (lp ops dr hs).2 [] hs (sX (ow ks new env)) (Sto.ids (ow js nws σ)) env σ=some (ow ks new env,ow js nws σ,(lp ops dr hs).2.map λi=>(hintOf hs i).exp):=by kernel_rfl):aj ⟨prog,N,ids⟩ (.seq (.region id ops dr) y) Q env σ:=A.RS W0 [] hs _ _ h k
theorem qDs(k:aj ⟨prog,N,ids⟩ y Q (ow ks new env) σ)
  (h:yK tb N ids ops dr (lp ops dr hs).1 (lp ops dr hs).2 [] hs (sX (ow ks new env)) σ.ids env σ=some (ow ks new env,σ,(lp ops dr hs).2.map λi=>(hintOf hs i).exp):=by kernel_rfl):aj ⟨prog,N,ids⟩ (.seq (.region id ops dr) y) Q env σ:=A.RS W0 [] hs _ _ h k
theorem qG(k:Q .normal (ow ks new env) (ow js nws σ))
  (h:yK tb N ids ops dr (lp ops dr hs).1 (lp ops dr hs).2 [] hs (sX (ow ks new env)) (Sto.ids (ow js nws σ)) env σ=some (ow ks new env,ow js nws σ,(lp ops dr hs).2.map λi=>(hintOf hs i).exp):=by kernel_rfl):aj ⟨prog,N,ids⟩ (.region id ops dr) Q env σ:=A.R W0 [] hs _ _ h k
theorem qGs(k:Q .normal (ow ks new env) σ)
  (h:yK tb N ids ops dr (lp ops dr hs).1 (lp ops dr hs).2 [] hs (sX (ow ks new env)) σ.ids env σ=some (ow ks new env,σ,(lp ops dr hs).2.map λi=>(hintOf hs i).exp):=by kernel_rfl):aj ⟨prog,N,ids⟩ (.region id ops dr) Q env σ:=A.R W0 [] hs _ _ h k
end
theorem qE{N:Nat}{ids:List Nat}{fn:Func}{env:Env}{σ σ2:Sto}{R:AV}(h:akw tb ids [] σ2.ids fn.results.toList env σ=some (R,σ2):=by kernel_rfl):
  ahp ⟨prog,N,ids⟩ fn (λa σ'=>a=R∧σ'=σ2) .ret env σ:=A.fin W0 [] rfl h
variable {G:Gl}
theorem qW{env cS:Env}{σ σ2:Sto}(h:acg G.ids [] [] (sX cS) σ2.ids env σ=some (cS,σ2):=by kernel_rfl):bt G env σ cS σ2:=bt.go [] [] h
theorem qX{α ρ:Type}{J:α→Option ρ}{r:ρ}{env:Env}{σ:Sto}{eX:α→Env}{gj:α→Sto}(g:α)(hg:J g=some r)(h:acg G.ids [] [] (sX (eX g)) (gj g).ids env σ=some (eX g,gj g):=by kernel_rfl):
  ∃g,J g=some r∧bt G env σ (eX g) (gj g):=⟨g,hg,bt.go [] [] h⟩
variable {o:Operand}
theorem qT{p:Bool}{x y:Code}{Q:Exit→Env→Sto→Prop}{env:Env}{σ:Sto}(hp:p=true)(k:aj G x Q env σ)(hc:env.evo o=some (.bool p):=by kernel_rfl):aj G (.cond o x y) Q env σ:=A.cT hc hp k
theorem qF{p:Bool}{x y:Code}{Q:Exit→Env→Sto→Prop}{env:Env}{σ:Sto}(hp:p=false)(k:aj G y Q env σ)(hc:env.evo o=some (.bool p):=by kernel_rfl):aj G (.cond o x y) Q env σ:=A.cF hc hp k
abbrev i6(n:Int):AV:=.int .i64 n
abbrev lf{α:Type}(e:En α)(l:List α):AV:=.lst false (ml e l)
abbrev k0(x:aQ):List AV:=[.int .i64 x.ID,.bool x.aaM]
abbrev k1(x:bn):List AV:=[.int .i64 x.A,.int .i64 x.B,.int .i64 x.iE,.int .i64 x.iF,.int .i64 x.oW]
abbrev k2(x:aa):List AV:=[.lst false (ml aC x.ah),.lst false (ml aS x.Links)]
abbrev k3(x:bU):List AV:=[.int .i64 x.dF,.int .i64 x.To]
abbrev k4(x:aO):List AV:=[.lst false (ml bM x.Links),.lst false (ml aA x.ah)]
abbrev k5(x:az):List AV:=[.int .i64 x.Bit,.int .i64 x.br,.int .i64 x.Kind,.int .i64 x.To]
abbrev k6(x:aX):List AV:=[.lst false (ml aA x.L),.int .i64 x.At]
abbrev k7(x:aF):List AV:=[.int .i64 x.Length,.lst false (ml ak x.List)]
abbrev k8(x:oZ):List AV:=[.int .i64 x.qd,.lst false (ml bM x.Links)]
abbrev k9(x:aI):List AV:=[.int .i64 x.to_,.int .i64 x.gh]
abbrev k10(x:aH):List AV:=[.int .i64 x.Mode,.int .i64 x.bQ,.int .i64 x.Set,.int .i64 x.Length,.int .i64 x.TTL,.int .i64 x.cI,.int .i64 x.cK,.int .i64 x.dU,.int .u64 x.Bits,.str x.cD]
abbrev k11(x:bh):List AV:=[.int .i64 x.To,.lst false (ml aA x.Frame.dZ),.int .i64 x.Frame.ay.Mode,.int .i64 x.Frame.ay.bQ,.int .i64 x.Frame.ay.Set,.int .i64 x.Frame.ay.Length,.int .i64 x.Frame.ay.TTL,.int .i64 x.Frame.ay.cI,.int .i64 x.Frame.ay.cK,.int .i64 x.Frame.ay.dU,.int .u64 x.Frame.ay.Bits,.str x.Frame.ay.cD]
abbrev k12(x:cg):List AV:=[.int .u64 x.Local,.int .u64 x.gw,.lst false (ml bP x.bz)]
abbrev k13(x:dy):List AV:=[.lst false (ml cM x.cG),.lst false (ml dw x.cr),.lst false (ml eU x.dR)]
abbrev k14(x:bg):List AV:=[.int .i64 x.fu,.lst false (ml aA x.dn.dZ),.int .i64 x.dn.ay.Mode,.int .i64 x.dn.ay.bQ,.int .i64 x.dn.ay.Set,.int .i64 x.dn.ay.Length,.int .i64 x.dn.ay.TTL,.int .i64 x.dn.ay.cI,.int .i64 x.dn.ay.cK,.int .i64 x.dn.ay.dU,.int .u64 x.dn.ay.Bits,.str x.dn.ay.cD]
abbrev k15(x:cq):List AV:=[.int .i64 x.br,.lst false (ml aA x.Frame.dZ),.int .i64 x.Frame.ay.Mode,.int .i64 x.Frame.ay.bQ,.int .i64 x.Frame.ay.Set,.int .i64 x.Frame.ay.Length,.int .i64 x.Frame.ay.TTL,.int .i64 x.Frame.ay.cI,.int .i64 x.Frame.ay.cK,.int .i64 x.Frame.ay.dU,.int .u64 x.Frame.ay.Bits,.str x.Frame.ay.cD]
end Go.Proofs.YtdjeacigeegklaaGreat
