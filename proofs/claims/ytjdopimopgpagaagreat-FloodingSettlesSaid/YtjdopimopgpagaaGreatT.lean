/- The data of the program, as Lean data, and what is known of its types. No condition but bK bu stand in each. -/
import Derived.Test.YtjdopimopgpagaaGreatF
import Derived.Test.YtjdopimopgpagaaGreatB7
namespace Go.Proofs.YtjdopimopgpagaaGreat
open Go Go.Proofs.Tryz
set_option maxRecDepth 100000
set_option linter.all false
structure aU where
 ID:Int
 aW:Bool
instance:Inhabited aU:=⟨aU.mk (0:Int) false⟩
def aP:En aU:=⟨λx=>[.int .i64 x.ID,.bool x.aW],2,λ_=>rfl,λ_=>rfl,λ_=>rfl⟩
def ua(a b:aU):Bool:=decide (a.ID=b.ID)&&((a.aW==b.aW)&&true)
structure aS where
 A:Int
 B:Int
 jR:Int
 jl:Int
 bQ:Int
instance:Inhabited aS:=⟨aS.mk (0:Int) (0:Int) (0:Int) (0:Int) (0:Int)⟩
def aC:En aS:=⟨λx=>[.int .i64 x.A,.int .i64 x.B,.int .i64 x.jR,.int .i64 x.jl,.int .i64 x.bQ],5,λ_=>rfl,λ_=>rfl,λ_=>rfl⟩
def wV(a b:aS):Bool:=decide (a.A=b.A)&&(decide (a.B=b.B)&&(decide (a.jR=b.jR)&&(decide (a.jl=b.jl)&&(decide (a.bQ=b.bQ)&&true))))
structure az where
 aG:List aU
 Links:List aS
instance:Inhabited az:=⟨az.mk [] []⟩
structure aX where
 L:List Int
 At:Int
instance:Inhabited aX:=⟨aX.mk [] (0:Int)⟩
structure pz where
 cQ:Int
 To:Int
instance:Inhabited pz:=⟨pz.mk (0:Int) (0:Int)⟩
def jS:En pz:=⟨λx=>[.int .i64 x.cQ,.int .i64 x.To],2,λ_=>rfl,λ_=>rfl,λ_=>rfl⟩
def wW(a b:pz):Bool:=decide (a.cQ=b.cQ)&&(decide (a.To=b.To)&&true)
structure fk where
 Links:List pz
 aG:List Int
instance:Inhabited fk:=⟨fk.mk [] []⟩
structure bH where
 bV:Int
 ID:Int
 Length:Int
instance:Inhabited bH:=⟨bH.mk (0:Int) (0:Int) (0:Int)⟩
def bh:En bH:=⟨λx=>[.int .i64 x.bV,.int .i64 x.ID,.int .i64 x.Length],3,λ_=>rfl,λ_=>rfl,λ_=>rfl⟩
def mN(a b:bH):Bool:=decide (a.bV=b.bV)&&(decide (a.ID=b.ID)&&(decide (a.Length=b.Length)&&true))
structure bp where
 bq:Int
 jE:Int
 bQ:Int
instance:Inhabited bp:=⟨bp.mk (0:Int) (0:Int) (0:Int)⟩
def bz:En bp:=⟨λx=>[.int .i64 x.bq,.int .i64 x.jE,.int .i64 x.bQ],3,λ_=>rfl,λ_=>rfl,λ_=>rfl⟩
def mO(a b:bp):Bool:=decide (a.bq=b.bq)&&(decide (a.jE=b.jE)&&(decide (a.bQ=b.bQ)&&true))
structure ai where
 af:Int
 Seq:Int
 aW:Bool
 Links:List bp
 Claims:List bH
instance:Inhabited ai:=⟨ai.mk (0:Int) (0:Int) false [] []⟩
def aL:En ai:=⟨λx=>[.int .i64 x.af,.int .i64 x.Seq,.bool x.aW,.lst false (ml bz x.Links),.lst false (ml bh x.Claims)],5,λ_=>rfl,λ_=>rfl,λ_=>rfl⟩
structure aH where
 ay:List ai
instance:Inhabited aH:=⟨aH.mk []⟩
structure aT where
 af:Int
 Seq:Int
 aW:Bool
 Claims:List bH
 Database:aH
instance:Inhabited aT:=⟨aT.mk (0:Int) (0:Int) false [] (aH.mk [])⟩
def aO:En aT:=⟨λx=>[.int .i64 x.af,.int .i64 x.Seq,.bool x.aW,.lst false (ml bh x.Claims),.lst false (ml aL x.Database.ay)],5,λ_=>rfl,λ_=>rfl,λ_=>rfl⟩
structure bB where
 cQ:Int
 To:Int
 Database:aH
instance:Inhabited bB:=⟨bB.mk (0:Int) (0:Int) (aH.mk [])⟩
def bf:En bB:=⟨λx=>[.int .i64 x.cQ,.int .i64 x.To,.lst false (ml aL x.Database.ay)],3,λ_=>rfl,λ_=>rfl,λ_=>rfl⟩
structure gB where
 af:Int
 Claim:bH
instance:Inhabited gB:=⟨gB.mk (0:Int) (bH.mk (0:Int) (0:Int) (0:Int))⟩
def ew:En gB:=⟨λx=>[.int .i64 x.af,.int .i64 x.Claim.bV,.int .i64 x.Claim.ID,.int .i64 x.Claim.Length],4,λ_=>rfl,λ_=>rfl,λ_=>rfl⟩
structure bn where
 Data:List Int
 Bits:Int
instance:Inhabited bn:=⟨bn.mk [] (0:Int)⟩
structure bM where
 s_:bn
instance:Inhabited bM:=⟨bM.mk (bn.mk [] (0:Int))⟩
structure aA where
 Links:List aS
 aB:List aT
 aF:List bB
instance:Inhabited aA:=⟨aA.mk [] [] []⟩
structure aM where
 f_:aA
instance:Inhabited aM:=⟨aM.mk (aA.mk [] [] [])⟩
def ti1:TI:=⟨1,false,some [.nilFunc],.oth⟩
theorem tk1:cL prog 1 ti1:=⟨ty1,λzs h=>by cases h;exact ze1,trivial⟩
def ti2:TI:=⟨1,false,some [zI0],.int .i64⟩
theorem tk2:cL prog 2 ti2:=⟨ty2,λzs h=>by cases h;exact ze2,underlying2⟩
def ti3:TI:=⟨1,false,some [zI0],.int .i64⟩
theorem tk3:cL prog 3 ti3:=⟨ty3,λzs h=>by cases h;exact ze3,underlying3⟩
def ti4:TI:=⟨1,false,some [.bool false],.bool⟩
theorem tk4:cL prog 4 ti4:=⟨ty4,λzs h=>by cases h;exact ze4,underlying4⟩
def ti5:TI:=⟨1,false,some [.int .u8 0],.int .u8⟩
theorem tk5:cL prog 5 ti5:=⟨ty5,λzs h=>by cases h;exact ze5,underlying5⟩
def ti6:TI:=⟨1,false,some [.int .u8 0],.int .u8⟩
theorem tk6:cL prog 6 ti6:=⟨ty6,λzs h=>by cases h;exact ze6,underlying6⟩
def ti7:TI:=⟨4,true,some [zI0,zI0,.bool false,.int .u8 0],.struct [zI0,zI0,.bool false,.int .u8 0] [(0,1),(1,1),(2,1),(3,1)] [false,false,false,false]⟩
theorem tk7:cL prog 7 ti7:=⟨ty7,λzs h=>by cases h;exact ze7,dS str7 ⟨anj,ank,anl,anm,trivial⟩ ⟨ann,ano,anp,anq,trivial⟩⟩
def ti8:TI:=⟨4,true,some [zI0,zI0,.bool false,.int .u8 0],.struct [zI0,zI0,.bool false,.int .u8 0] [(0,1),(1,1),(2,1),(3,1)] [false,false,false,false]⟩
theorem tk8:cL prog 8 ti8:=⟨ty8,λzs h=>by cases h;exact ze8,dS str8 ⟨anr,ans,ant,anu,trivial⟩ ⟨anv,anw,anx,anz,trivial⟩⟩
def ti9:TI:=⟨1,false,some [.string ⟨#[]⟩],.str⟩
theorem tk9:cL prog 9 ti9:=⟨ty9,λzs h=>by cases h;exact ze9,underlying9⟩
def aop:TI:=⟨1,false,some [.string ⟨#[]⟩],.str⟩
theorem tk10:cL prog 10 aop:=⟨ty10,λzs h=>by cases h;exact ze10,underlying10⟩
def aoq:TI:=⟨1,false,some [.string ⟨#[]⟩],.str⟩
theorem tk11:cL prog 11 aoq:=⟨ty11,λzs h=>by cases h;exact ze11,underlying11⟩
def aor:TI:=⟨1,false,some [.int .u64 0],.int .u64⟩
theorem tk12:cL prog 12 aor:=⟨ahY,λzs h=>by cases h;exact ze12,underlying12⟩
def aos:TI:=⟨2,true,some [.string ⟨#[]⟩,.int .u64 0],.struct [.string ⟨#[]⟩,.int .u64 0] [(0,1),(1,1)] [false,false]⟩
theorem tk13:cL prog 13 aos:=⟨ty13,λzs h=>by cases h;exact ze13,dS aqB ⟨akL,akM,trivial⟩ ⟨akN,akO,trivial⟩⟩
def aot:TI:=⟨2,true,some [.string ⟨#[]⟩,.int .u64 0],.struct [.string ⟨#[]⟩,.int .u64 0] [(0,1),(1,1)] [false,false]⟩
theorem tk14:cL prog 14 aot:=⟨ty14,λzs h=>by cases h;exact ze14,dS aqC ⟨akP,akQ,trivial⟩ ⟨akR,akS,trivial⟩⟩
def aou:TI:=⟨1,false,some [.pointer none],.oth⟩
theorem tk15:cL prog 15 aou:=⟨ty15,λzs h=>by cases h;exact ze15,trivial⟩
def aov:TI:=⟨1,false,some [.pointer none],.oth⟩
theorem tk16:cL prog 16 aov:=⟨ty16,λzs h=>by cases h;exact ze16,trivial⟩
def aow:TI:=⟨1,false,some [.pointer none],.oth⟩
theorem tk17:cL prog 17 aow:=⟨ahZ,λzs h=>by cases h;exact ze17,trivial⟩
def aox:TI:=⟨1,true,some [.pointer none],.struct [.pointer none] [(0,1)] [false]⟩
theorem tk18:cL prog 18 aox:=⟨ty18,λzs h=>by cases h;exact ze18,dS aqD ⟨akT,trivial⟩ ⟨akU,trivial⟩⟩
def aoy:TI:=⟨1,true,some [.pointer none],.struct [.pointer none] [(0,1)] [false]⟩
theorem tk19:cL prog 19 aoy:=⟨ty19,λzs h=>by cases h;exact ze19,dS aqE ⟨akV,trivial⟩ ⟨akW,trivial⟩⟩
def aoz:TI:=⟨1,false,some [.int .i32 0],.int .i32⟩
theorem tk21:cL prog 21 aoz:=⟨ty21,λzs h=>by cases h;exact ze21,underlying21⟩
def aoA:TI:=⟨1,false,some [zS0],.slice 3 1 8 [zI0]⟩
theorem tk22:cL prog 22 aoA:=⟨ah0,λzs h=>by cases h;exact ze22,⟨sl22,aqF,aqG⟩⟩
def aoB:TI:=⟨1,false,some [zS0],.slice 86 5 40 [zI0,zI0,zI0,zI0,zI0]⟩
theorem tk23:cL prog 23 aoB:=⟨afY,λzs h=>by cases h;exact ze23,⟨sl23,aqH,aqI⟩⟩
def aoC:TI:=⟨1,false,some [zS0],.slice 53 5 72 [zI0,zI0,.bool false,zS0,zS0]⟩
theorem tk24:cL prog 24 aoC:=⟨ah1,λzs h=>by cases h;exact ze24,⟨sl24,aqJ,aqK⟩⟩
def aoD:TI:=⟨1,false,some [zS0],.slice 75 3 40 [zI0,zI0,zS0]⟩
theorem tk25:cL prog 25 aoD:=⟨ah2,λzs h=>by cases h;exact ze25,⟨sl25,aqL,aqM⟩⟩
def aoE:TI:=⟨3,true,some [zS0,zS0,zS0],.struct [zS0,zS0,zS0] [(0,1),(1,1),(2,1)] [false,false,false]⟩
theorem tk26:cL prog 26 aoE:=⟨ty26,λzs h=>by cases h;exact ze26,dS aqN ⟨akX,akY,akZ,trivial⟩ ⟨ak0,ak1,ak2,trivial⟩⟩
def aoF:TI:=⟨3,true,some [zS0,zS0,zS0],.struct [zS0,zS0,zS0] [(0,1),(1,1),(2,1)] [false,false,false]⟩
theorem tk27:cL prog 27 aoF:=⟨anA,λzs h=>by cases h;exact anb,dS aqO ⟨ak3,ak4,ak5,trivial⟩ ⟨ak6,ak7,ak8,trivial⟩⟩
def aoG:TI:=⟨1,false,some [.pointer none],.oth⟩
theorem tk28:cL prog 28 aoG:=⟨ty28,λzs h=>by cases h;exact ze28,trivial⟩
def aoH:TI:=⟨1,false,some [zS0],.slice 27 3 72 [zS0,zS0,zS0]⟩
theorem tk32:cL prog 32 aoH:=⟨ty32,λzs h=>by cases h;exact ze32,⟨sl32,aqP,aqQ⟩⟩
def aoI:TI:=⟨1,false,some [zI0],.int .i64⟩
theorem tk34:cL prog 34 aoI:=⟨ty34,λzs h=>by cases h;exact ze34,underlying34⟩
def aoJ:TI:=⟨1,false,some [zS0],.slice 93 2 16 [zI0,.bool false]⟩
theorem tk43:cL prog 43 aoJ:=⟨anB,λzs h=>by cases h;exact ze43,⟨sl43,aqR,aqS⟩⟩
def aoK:TI:=⟨2,true,some [zS0,zS0],.struct [zS0,zS0] [(0,1),(1,1)] [false,false]⟩
theorem tk45:cL prog 45 aoK:=⟨ty45,λzs h=>by cases h;exact ze45,dS aqT ⟨ak9,ala,trivial⟩ ⟨alb,alc,trivial⟩⟩
def aoL:TI:=⟨1,false,some [zS0],.slice 91 3 24 [zI0,zI0,zI0]⟩
theorem tk48:cL prog 48 aoL:=⟨afZ,λzs h=>by cases h;exact ze48,⟨sl48,aqU,aqV⟩⟩
def aoM:TI:=⟨1,false,some [zS0],.slice 66 5 72 [zI0,zI0,.bool false,zS0,zS0]⟩
theorem tk49:cL prog 49 aoM:=⟨anC,λzs h=>by cases h;exact ze49,⟨sl49,aqW,aqX⟩⟩
def aoN:TI:=⟨1,true,some [zS0],.struct [zS0] [(0,1)] [false]⟩
theorem tk51:cL prog 51 aoN:=⟨ah3,λzs h=>by cases h;exact ze51,dS aqY ⟨ald,trivial⟩ ⟨ale,trivial⟩⟩
def aoO:TI:=⟨5,true,some [zI0,zI0,.bool false,zS0,zS0],.struct [zI0,zI0,.bool false,zS0,zS0] [(0,1),(1,1),(2,1),(3,1),(4,1)] [false,false,false,false,true]⟩
theorem tk53:cL prog 53 aoO:=⟨ty53,λzs h=>by cases h;exact anc,dS aqZ ⟨alf,alg,alh,ali,alj,trivial⟩ ⟨alk,alm,aln,alo,alp,trivial⟩⟩
def aoP:TI:=⟨1,false,some [zS0],.slice 129 2 16 [zI0,zI0]⟩
theorem tk58:cL prog 58 aoP:=⟨anD,λzs h=>by cases h;exact ze58,⟨sl58,aq0,aq1⟩⟩
def aoQ:TI:=⟨2,true,some [zS0,zS0],.struct [zS0,zS0] [(0,1),(1,1)] [false,false]⟩
theorem tk60:cL prog 60 aoQ:=⟨ty60,λzs h=>by cases h;exact ze60,dS aq2 ⟨alq,alr,trivial⟩ ⟨als,alu,trivial⟩⟩
def aoR:TI:=⟨1,false,some [zS0],.slice 105 3 24 [zI0,zI0,zI0]⟩
theorem tk64:cL prog 64 aoR:=⟨ah4,λzs h=>by cases h;exact ze64,⟨sl64,aq3,aq4⟩⟩
def aoS:TI:=⟨5,true,some [zI0,zI0,.bool false,zS0,zS0],.struct [zI0,zI0,.bool false,zS0,zS0] [(0,1),(1,1),(2,1),(3,1),(4,1)] [false,false,false,false,false]⟩
theorem tk65:cL prog 65 aoS:=⟨ty65,λzs h=>by cases h;exact ze65,dS aq5 ⟨alv,alw,alx,aly,alz,trivial⟩ ⟨alA,alB,alC,alD,alF,trivial⟩⟩
def aoT:TI:=⟨5,true,some [zI0,zI0,.bool false,zS0,zS0],.struct [zI0,zI0,.bool false,zS0,zS0] [(0,1),(1,1),(2,1),(3,1),(4,1)] [false,false,false,false,false]⟩
theorem tk66:cL prog 66 aoT:=⟨ty66,λzs h=>by cases h;exact ane,dS aq6 ⟨alG,alH,alI,alJ,alK,trivial⟩ ⟨alL,alM,alN,alO,alP,trivial⟩⟩
def aoU:TI:=⟨1,false,some [.nilFunc],.oth⟩
theorem tk69:cL prog 69 aoU:=⟨ty69,λzs h=>by cases h;exact ze69,trivial⟩
def aoV:TI:=⟨3,true,some [zI0,zI0,zS0],.struct [zI0,zI0,zS0] [(0,1),(1,1),(2,1)] [false,false,true]⟩
theorem tk75:cL prog 75 aoV:=⟨ty75,λzs h=>by cases h;exact anf,dS aq7 ⟨alQ,alR,alS,trivial⟩ ⟨alT,alU,alV,trivial⟩⟩
def aoW:TI:=⟨2,true,some [zS0,zI0],.struct [zS0,zI0] [(0,1),(1,1)] [false,false]⟩
theorem tk83:cL prog 83 aoW:=⟨ty83,λzs h=>by cases h;exact ze83,dS aq8 ⟨alW,alX,trivial⟩ ⟨alY,alZ,trivial⟩⟩
def aoX:TI:=⟨1,false,some [.nilFunc],.oth⟩
theorem tk84:cL prog 84 aoX:=⟨ty84,λzs h=>by cases h;exact ze84,trivial⟩
def aoY:TI:=⟨5,true,some [zI0,zI0,zI0,zI0,zI0],.struct [zI0,zI0,zI0,zI0,zI0] [(0,1),(1,1),(2,1),(3,1),(4,1)] [false,false,false,false,false]⟩
theorem tk86:cL prog 86 aoY:=⟨ty86,λzs h=>by cases h;exact ang,dS aq9 ⟨al0,al1,al2,al3,al4,trivial⟩ ⟨al5,al6,al7,al8,al9,trivial⟩⟩
def aoZ:TI:=⟨3,true,some [zI0,zI0,zI0],.struct [zI0,zI0,zI0] [(0,1),(1,1),(2,1)] [false,false,false]⟩
theorem tk91:cL prog 91 aoZ:=⟨anE,λzs h=>by cases h;exact anh,dS arb ⟨ama,amb,amc,trivial⟩ ⟨amd,ame,amf,trivial⟩⟩
def ao0:TI:=⟨2,true,some [zI0,.bool false],.struct [zI0,.bool false] [(0,1),(1,1)] [false,false]⟩
theorem tk93:cL prog 93 ao0:=⟨ty93,λzs h=>by cases h;exact ani,dS ard ⟨amg,amh,trivial⟩ ⟨ami,amj,trivial⟩⟩
def ao1:TI:=⟨1,false,some [.pointer none],.oth⟩
theorem tk94:cL prog 94 ao1:=⟨ty94,λzs h=>by cases h;exact ze94,trivial⟩
def ao2:TI:=⟨3,true,some [zS0,zS0,zS0],.struct [zS0,zS0,zS0] [(0,3)] [true]⟩
theorem tk97:cL prog 97 ao2:=⟨ty97,λzs h=>by cases h;exact ze97,dS arh ⟨amk,trivial⟩ ⟨aml,trivial⟩⟩
def ao3:TI:=⟨1,false,some [zS0],.slice 1 1 8 [.nilFunc]⟩
theorem tk98:cL prog 98 ao3:=⟨ty98,λzs h=>by cases h;exact ze98,⟨sl98,ari,arj⟩⟩
def ajF:TI:=⟨3,true,some [zI0,zI0,zI0],.struct [zI0,zI0,zI0] [(0,1),(1,1),(2,1)] [false,false,false]⟩
theorem arS:cL prog 105 ajF:=⟨ark,λzs h=>by cases h;exact ajy,dS anF ⟨ah8,ah9,aia,trivial⟩ ⟨aib,aic,aid,trivial⟩⟩
def ajG:TI:=⟨1,false,some [.nilFunc],.oth⟩
theorem arT:cL prog 113 ajG:=⟨arl,λzs h=>by cases h;exact aqf,trivial⟩
def ajH:TI:=⟨1,false,some [.nilFunc],.oth⟩
theorem arU:cL prog 121 ajH:=⟨arn,λzs h=>by cases h;exact aqg,trivial⟩
def ajI:TI:=⟨2,true,some [zI0,zI0],.struct [zI0,zI0] [(0,1),(1,1)] [false,false]⟩
theorem arV:cL prog 129 ajI:=⟨aro,λzs h=>by cases h;exact ajz,dS anH ⟨aie,aif,trivial⟩ ⟨aih,aii,trivial⟩⟩
def ajJ:TI:=⟨1,false,some [.nilFunc],.oth⟩
theorem arW:cL prog 132 ajJ:=⟨arp,λzs h=>by cases h;exact aqh,trivial⟩
def ajK:TI:=⟨1,false,some [.pointer none],.oth⟩
theorem arX:cL prog 133 ajK:=⟨arq,λzs h=>by cases h;exact aqi,trivial⟩
def ajL:TI:=⟨1,false,some [.nilFunc],.oth⟩
theorem arY:cL prog 150 ajL:=⟨ars,λzs h=>by cases h;exact aqj,trivial⟩
def ajM:TI:=⟨1,false,some [.nilFunc],.oth⟩
theorem arZ:cL prog 152 ajM:=⟨art,λzs h=>by cases h;exact aqk,trivial⟩
def ajN:TI:=⟨1,false,some [.nilFunc],.oth⟩
theorem ar0:cL prog 154 ajN:=⟨aru,λzs h=>by cases h;exact aql,trivial⟩
def ajO:TI:=⟨1,false,some [.nilFunc],.oth⟩
theorem ar1:cL prog 155 ajO:=⟨arv,λzs h=>by cases h;exact aqm,trivial⟩
def ajP:TI:=⟨1,false,some [.nilFunc],.oth⟩
theorem ar2:cL prog 158 ajP:=⟨arw,λzs h=>by cases h;exact aqn,trivial⟩
def ajQ:TI:=⟨1,false,some [zS0],.slice 164 4 32 [zI0,zI0,zI0,zI0]⟩
theorem ar3:cL prog 161 ajQ:=⟨arx,λzs h=>by cases h;exact aqo,⟨ary,anI,anJ⟩⟩
def ajR:TI:=⟨4,true,some [zI0,zI0,zI0,zI0],.struct [zI0,zI0,zI0,zI0] [(0,1),(1,3)] [false,true]⟩
theorem ar4:cL prog 164 ajR:=⟨arz,λzs h=>by cases h;exact ajA,dS anK ⟨aij,aik,trivial⟩ ⟨ail,aim,trivial⟩⟩
def ajS:TI:=⟨1,false,some [.nilFunc],.oth⟩
theorem ar5:cL prog 165 ajS:=⟨arA,λzs h=>by cases h;exact aqp,trivial⟩
def ajT:TI:=⟨1,false,some [.int .u64 0],.int .u64⟩
theorem ar6:cL prog 178 ajT:=⟨arB,λzs h=>by cases h;exact aqq,underlying178⟩
def ajU:TI:=⟨1,false,some [.pointer none],.oth⟩
theorem ar7:cL prog 182 ajU:=⟨arC,λzs h=>by cases h;exact aqr,trivial⟩
def ajV:TI:=⟨1,false,some [.nilFunc],.oth⟩
theorem ar8:cL prog 187 ajV:=⟨arD,λzs h=>by cases h;exact aqs,trivial⟩
def ajW:TI:=⟨1,false,some [zS0],.slice 5 1 1 [.int .u8 0]⟩
theorem ar9:cL prog 189 ajW:=⟨ajB,λzs h=>by cases h;exact aqt,⟨arE,anL,anM⟩⟩
def ajX:TI:=⟨1,false,some [zI0],.int .i64⟩
theorem asa:cL prog 193 ajX:=⟨arF,λzs h=>by cases h;exact aqu,underlying193⟩
def ajY:TI:=⟨1,false,some [.int .u32 0],.int .u32⟩
theorem asb:cL prog 201 ajY:=⟨arG,λzs h=>by cases h;exact aqv,underlying201⟩
def ajZ:TI:=⟨1,false,some [.int .u64 0],.int .u64⟩
theorem asd:cL prog 203 ajZ:=⟨arH,λzs h=>by cases h;exact aqw,underlying203⟩
def aj0:TI:=⟨2,true,some [zS0,zI0],.struct [zS0,zI0] [(0,1),(1,1)] [false,false]⟩
theorem ase:cL prog 208 aj0:=⟨ajC,λzs h=>by cases h;exact aqx,dS anN ⟨ain,aio,trivial⟩ ⟨aip,aiq,trivial⟩⟩
def aj1:TI:=⟨2,true,some [zS0,zI0],.struct [zS0,zI0] [(0,2)] [true]⟩
theorem asf:cL prog 221 aj1:=⟨arI,λzs h=>by cases h;exact aqy,dS anO ⟨air,trivial⟩ ⟨ais,trivial⟩⟩
def aj2:TI:=⟨1,false,some [.pointer none],.oth⟩
theorem asg:cL prog 231 aj2:=⟨arJ,λzs h=>by cases h;exact aqz,trivial⟩
def aj3:TI:=⟨1,false,some [.pointer none],.oth⟩
theorem ash:cL prog 235 aj3:=⟨arK,λzs h=>by cases h;exact aqA,trivial⟩
def tb:Tb:=[(1,ti1),(2,ti2),(3,ti3),(4,ti4),(5,ti5),(6,ti6),(7,ti7),(8,ti8),(9,ti9),(10,aop),(11,aoq),(12,aor),(13,aos),(14,aot),(15,aou),(16,aov),(17,aow),(18,aox),(19,aoy),(21,aoz),(22,aoA),(23,aoB),(24,aoC),(25,aoD),(26,aoE),(27,aoF),(28,aoG),(32,aoH),(34,aoI),(43,aoJ),(45,aoK),(48,aoL),(49,aoM),(51,aoN),(53,aoO),(58,aoP),(60,aoQ),(64,aoR),(65,aoS),(66,aoT),(69,aoU),(75,aoV),(83,aoW),(84,aoX),(86,aoY),(91,aoZ),(93,ao0),(94,ao1),(97,ao2),(98,ao3),(105,ajF),(113,ajG),(121,ajH),(129,ajI),(132,ajJ),(133,ajK),(150,ajL),(152,ajM),(154,ajN),(155,ajO),(158,ajP),(161,ajQ),(164,ajR),(165,ajS),(178,ajT),(182,ajU),(187,ajV),(189,ajW),(193,ajX),(201,ajY),(203,ajZ),(208,aj0),(221,aj1),(231,aj2),(235,aj3)]
theorem W0:Wld prog tb:=⟨aaF,⟨tk1,tk2,tk3,tk4,tk5,tk6,tk7,tk8,tk9,tk10,tk11,tk12,tk13,tk14,tk15,tk16,tk17,tk18,tk19,tk21,tk22,tk23,tk24,tk25,tk26,tk27,tk28,tk32,tk34,tk43,tk45,tk48,tk49,tk51,tk53,tk58,tk60,tk64,tk65,tk66,tk69,tk75,tk83,tk84,tk86,tk91,tk93,tk94,tk97,tk98,arS,arT,arU,arV,arW,arX,arY,arZ,ar0,ar1,ar2,ar3,ar4,ar5,ar6,ar7,ar8,ar9,asa,asb,asd,ase,asf,asg,ash,trivial⟩⟩
theorem ck11:aR prog 11:=⟨call11⟩
theorem ck13:aR prog 13:=⟨call13⟩
theorem aiL:aR prog 15:=⟨call15⟩
theorem ck18:aR prog 18:=⟨call18⟩
theorem ck19:aR prog 19:=⟨call19⟩
theorem ck20:aR prog 20:=⟨call20⟩
theorem ck21:aR prog 21:=⟨call21⟩
theorem ad2:aR prog 22:=⟨call22⟩
theorem age:aR prog 23:=⟨call23⟩
theorem ck24:aR prog 24:=⟨call24⟩
theorem ao4:aR prog 25:=⟨call25⟩
theorem ck26:aR prog 26:=⟨call26⟩
theorem ck27:aR prog 27:=⟨call27⟩
theorem ck28:aR prog 28:=⟨call28⟩
theorem ab7:aR prog 29:=⟨call29⟩
theorem ab8:aR prog 32:=⟨call32⟩
theorem yP:aR prog 33:=⟨call33⟩
theorem ck35:aR prog 35:=⟨call35⟩
theorem ao5:aR prog 37:=⟨call37⟩
theorem ck43:aR prog 43:=⟨call43⟩
theorem ck46:aR prog 46:=⟨call46⟩
theorem lW:aR prog 55:=⟨call55⟩
theorem ab9:aR prog 56:=⟨call56⟩
theorem acd:aR prog 57:=⟨call57⟩
theorem ck58:aR prog 58:=⟨call58⟩
theorem tF:aR prog 59:=⟨call59⟩
theorem ao6:aR prog 60:=⟨call60⟩
theorem ao7:aR prog 61:=⟨call61⟩
theorem ao8:aR prog 62:=⟨call62⟩
theorem aiM:aR prog 63:=⟨call63⟩
theorem ao9:aR prog 64:=⟨call64⟩
theorem ck65:aR prog 65:=⟨call65⟩
theorem aiN:aR prog 66:=⟨call66⟩
theorem ck69:aR prog 69:=⟨call69⟩
theorem aiO:aR prog 70:=⟨call70⟩
theorem apa:aR prog 71:=⟨call71⟩
theorem agf:aR prog 72:=⟨call72⟩
theorem apb:aR prog 73:=⟨call73⟩
theorem ck74:aR prog 74:=⟨call74⟩
theorem aiP:aR prog 75:=⟨call75⟩
theorem aiQ:aR prog 76:=⟨call76⟩
theorem apc:aR prog 77:=⟨call77⟩
theorem wN:aR prog 78:=⟨call78⟩
theorem yQ:aR prog 79:=⟨call79⟩
theorem apd:aR prog 80:=⟨call80⟩
theorem ck81:aR prog 81:=⟨call81⟩
theorem ace:aR prog 82:=⟨call82⟩
theorem ck83:aR prog 83:=⟨call83⟩
theorem ad3:aR prog 84:=⟨call84⟩
theorem acf:aR prog 85:=⟨call85⟩
theorem aaQ:aR prog 86:=⟨call86⟩
theorem ad4:aR prog 87:=⟨call87⟩
theorem aiR:aR prog 88:=⟨call88⟩
theorem yR:aR prog 89:=⟨call89⟩
theorem ck90:aR prog 90:=⟨call90⟩
theorem ape:aR prog 91:=⟨call91⟩
theorem apf:aR prog 92:=⟨call92⟩
theorem ck95:aR prog 95:=⟨call95⟩
theorem ck96:aR prog 96:=⟨call96⟩
theorem aiS:aR prog 98:=⟨call98⟩
theorem ck99:aR prog 99:=⟨call99⟩
theorem asi:aR prog 102:=⟨call102⟩
theorem aj4:aR prog 103:=⟨call103⟩
theorem asj:aR prog 104:=⟨call104⟩
theorem asl:aR prog 107:=⟨call107⟩
theorem asm:aR prog 108:=⟨call108⟩
theorem aj5:aR prog 109:=⟨call109⟩
theorem agh:aR prog 110:=⟨call110⟩
theorem agi:aR prog 111:=⟨call111⟩
theorem asn:aR prog 112:=⟨call112⟩
theorem adw:aR prog 113:=⟨call113⟩
theorem aj6:aR prog 114:=⟨call114⟩
theorem aso:aR prog 115:=⟨call115⟩
theorem xN:aR prog 116:=⟨call116⟩
theorem adx:aR prog 117:=⟨call117⟩
theorem asp:aR prog 118:=⟨call118⟩
theorem asq:aR prog 119:=⟨call119⟩
theorem aj7:aR prog 120:=⟨call120⟩
theorem aj8:aR prog 121:=⟨call121⟩
theorem xO:aR prog 122:=⟨call122⟩
theorem ady:aR prog 123:=⟨call123⟩
theorem asr:aR prog 124:=⟨call124⟩
theorem ass:aR prog 125:=⟨call125⟩
theorem xP:aR prog 126:=⟨call126⟩
theorem agj:aR prog 127:=⟨call127⟩
theorem aj9:aR prog 128:=⟨call128⟩
theorem aka:aR prog 129:=⟨call129⟩
theorem agk:aR prog 130:=⟨call130⟩
theorem ast:aR prog 131:=⟨call131⟩
theorem asu:aR prog 132:=⟨call132⟩
theorem asv:aR prog 133:=⟨call133⟩
theorem akb:aR prog 134:=⟨call134⟩
theorem gm:aR prog 135:=⟨call135⟩
theorem agl:aR prog 136:=⟨call136⟩
theorem asw:aR prog 137:=⟨call137⟩
theorem asx:aR prog 138:=⟨call138⟩
theorem asy:aR prog 139:=⟨call139⟩
theorem asz:aR prog 140:=⟨call140⟩
theorem asA:aR prog 141:=⟨call141⟩
theorem asB:aR prog 142:=⟨call142⟩
theorem asC:aR prog 144:=⟨call144⟩
theorem asD:aR prog 145:=⟨call145⟩
theorem asE:aR prog 146:=⟨call146⟩
theorem akc:aR prog 147:=⟨call147⟩
theorem zO:aR prog 148:=⟨call148⟩
theorem akd:aR prog 149:=⟨call149⟩
theorem zP:aR prog 151:=⟨call151⟩
theorem asF:aR prog 152:=⟨call152⟩
theorem asG:aR prog 153:=⟨call153⟩
theorem gO:aR prog 155:=⟨call155⟩
theorem agm:aR prog 156:=⟨call156⟩
theorem asH:aR prog 157:=⟨call157⟩
theorem ake:aR prog 158:=⟨call158⟩
theorem asI:aR prog 159:=⟨call159⟩
theorem akf:aR prog 160:=⟨call160⟩
theorem akg:aR prog 161:=⟨call161⟩
theorem akh:aR prog 162:=⟨call162⟩
theorem asJ:aR prog 163:=⟨call163⟩
theorem asK:aR prog 164:=⟨call164⟩
theorem asL:aR prog 165:=⟨call165⟩
theorem asM:aR prog 166:=⟨call166⟩
theorem aki:aR prog 167:=⟨call167⟩
theorem akj:aR prog 168:=⟨call168⟩
theorem asN:aR prog 170:=⟨call170⟩
theorem akk:aR prog 171:=⟨call171⟩
theorem asO:aR prog 172:=⟨call172⟩
theorem asP:aR prog 173:=⟨call173⟩
theorem asQ:aR prog 174:=⟨call174⟩
theorem asR:aR prog 175:=⟨call175⟩
theorem asS:aR prog 176:=⟨call176⟩
theorem asT:aR prog 177:=⟨call177⟩
theorem asU:aR prog 179:=⟨call179⟩
theorem asV:aR prog 189:=⟨call189⟩
theorem akl:aR prog 192:=⟨call192⟩
theorem asW:aR prog 193:=⟨call193⟩
theorem qY:aR prog 204:=⟨call204⟩
theorem asX:aR prog 205:=⟨call205⟩
theorem asY:aR prog 213:=⟨call213⟩
theorem akm:aR prog 214:=⟨call214⟩
theorem asZ:aR prog 215:=⟨call215⟩
theorem as0:aR prog 216:=⟨call216⟩
theorem as1:aR prog 217:=⟨call217⟩
theorem as2:aR prog 218:=⟨call218⟩
theorem qS{N:Nat}{ids:List Nat}{y:Code}{Q:Exit→Env→Sto→Prop}{env:Env}{σ:Sto}{id:Nat}{ops:Array Oper}{dr:Bool}(hs:List (Nat×Hint prog))(cC:Env)(σ2:Sto)(k:aj ⟨prog,N,ids⟩ y Q cC σ2)
  (h:xL tb N ids ops dr (jZ ops dr hs).1 (jZ ops dr hs).2 [] hs (sH cC) σ2.ids env σ=some (cC,σ2,(jZ ops dr hs).2.map λi=>(hintOf hs i).exp):=by kernel_rfl):aj ⟨prog,N,ids⟩ (.seq (.region id ops dr) y) Q env σ:=A.RS W0 [] hs cC σ2 h k
theorem qR{N:Nat}{ids:List Nat}{Q:Exit→Env→Sto→Prop}{env:Env}{σ:Sto}{id:Nat}{ops:Array Oper}{dr:Bool}(hs:List (Nat×Hint prog))(cC:Env)(σ2:Sto)(k:Q .normal cC σ2)
  (h:xL tb N ids ops dr (jZ ops dr hs).1 (jZ ops dr hs).2 [] hs (sH cC) σ2.ids env σ=some (cC,σ2,(jZ ops dr hs).2.map λi=>(hintOf hs i).exp):=by kernel_rfl):aj ⟨prog,N,ids⟩ (.region id ops dr) Q env σ:=A.R W0 [] hs cC σ2 h k
def apg(n:Nat):List Nat→Bool
 |[]=>false
 |k::r=>bif Nat.beq k n then true else apg n r
def nA{α:Type}(ks:List Nat)(new:List (Nat×α)):List (Nat×α)→List (Nat×α)
 |[]=>new
 |p::l=>bif apg p.1 ks then nA ks new l else p::nA ks new l
section
variable {N:Nat}{ids:List Nat}{y:Code}{Q:Exit→Env→Sto→Prop}{env:Env}{σ:Sto}{id:Nat}{ops:Array Oper}{dr:Bool}(hs:List (Nat×Hint prog))(ks:List Nat)(new:Env)(js:List Nat)(nws:Sto)
theorem qD(k:aj ⟨prog,N,ids⟩ y Q (nA ks new env) (nA js nws σ))
  (h:xL tb N ids ops dr (jZ ops dr hs).1 (jZ ops dr hs).2 [] hs (sH (nA ks new env)) (Sto.ids (nA js nws σ)) env σ=some (nA ks new env,nA js nws σ,(jZ ops dr hs).2.map λi=>(hintOf hs i).exp):=by kernel_rfl):aj ⟨prog,N,ids⟩ (.seq (.region id ops dr) y) Q env σ:=A.RS W0 [] hs _ _ h k
theorem qDs(k:aj ⟨prog,N,ids⟩ y Q (nA ks new env) σ)
  (h:xL tb N ids ops dr (jZ ops dr hs).1 (jZ ops dr hs).2 [] hs (sH (nA ks new env)) σ.ids env σ=some (nA ks new env,σ,(jZ ops dr hs).2.map λi=>(hintOf hs i).exp):=by kernel_rfl):aj ⟨prog,N,ids⟩ (.seq (.region id ops dr) y) Q env σ:=A.RS W0 [] hs _ _ h k
theorem qG(k:Q .normal (nA ks new env) (nA js nws σ))
  (h:xL tb N ids ops dr (jZ ops dr hs).1 (jZ ops dr hs).2 [] hs (sH (nA ks new env)) (Sto.ids (nA js nws σ)) env σ=some (nA ks new env,nA js nws σ,(jZ ops dr hs).2.map λi=>(hintOf hs i).exp):=by kernel_rfl):aj ⟨prog,N,ids⟩ (.region id ops dr) Q env σ:=A.R W0 [] hs _ _ h k
theorem qGs(k:Q .normal (nA ks new env) σ)
  (h:xL tb N ids ops dr (jZ ops dr hs).1 (jZ ops dr hs).2 [] hs (sH (nA ks new env)) σ.ids env σ=some (nA ks new env,σ,(jZ ops dr hs).2.map λi=>(hintOf hs i).exp):=by kernel_rfl):aj ⟨prog,N,ids⟩ (.region id ops dr) Q env σ:=A.R W0 [] hs _ _ h k
end
theorem qE{N:Nat}{ids:List Nat}{fn:Func}{env:Env}{σ σ2:Sto}{R:AV}(h:aiF tb ids [] σ2.ids fn.results.toList env σ=some (R,σ2):=by kernel_rfl):
  af9 ⟨prog,N,ids⟩ fn (λa σ'=>a=R∧σ'=σ2) .ret env σ:=A.fin W0 [] rfl h
variable {G:Gl}
theorem qW{env cC:Env}{σ σ2:Sto}(h:abu G.ids [] [] (sH cC) σ2.ids env σ=some (cC,σ2):=by kernel_rfl):bA G env σ cC σ2:=bA.go [] [] h
theorem qX{α ρ:Type}{J:α→Option ρ}{r:ρ}{env:Env}{σ:Sto}{gw:α→Env}{ji:α→Sto}(g:α)(hg:J g=some r)(h:abu G.ids [] [] (sH (gw g)) (ji g).ids env σ=some (gw g,ji g):=by kernel_rfl):
  ∃g,J g=some r∧bA G env σ (gw g) (ji g):=⟨g,hg,bA.go [] [] h⟩
variable {o:Operand}
theorem qT{p:Bool}{x y:Code}{Q:Exit→Env→Sto→Prop}{env:Env}{σ:Sto}(hp:p=true)(k:aj G x Q env σ)(hc:env.evo o=some (.bool p):=by kernel_rfl):aj G (.cond o x y) Q env σ:=A.cT hc hp k
theorem qF{p:Bool}{x y:Code}{Q:Exit→Env→Sto→Prop}{env:Env}{σ:Sto}(hp:p=false)(k:aj G y Q env σ)(hc:env.evo o=some (.bool p):=by kernel_rfl):aj G (.cond o x y) Q env σ:=A.cF hc hp k
abbrev i6(n:Int):AV:=.int .i64 n
abbrev lf{α:Type}(e:En α)(l:List α):AV:=.lst false (ml e l)
abbrev k0(x:aU):List AV:=[.int .i64 x.ID,.bool x.aW]
abbrev k1(x:aS):List AV:=[.int .i64 x.A,.int .i64 x.B,.int .i64 x.jR,.int .i64 x.jl,.int .i64 x.bQ]
abbrev k2(x:az):List AV:=[.lst false (ml aP x.aG),.lst false (ml aC x.Links)]
abbrev k3(x:aX):List AV:=[.lst false (ml bg x.L),.int .i64 x.At]
abbrev k4(x:fk):List AV:=[.lst false (ml jS x.Links),.lst false (ml bg x.aG)]
abbrev k5(x:bH):List AV:=[.int .i64 x.bV,.int .i64 x.ID,.int .i64 x.Length]
abbrev k6(x:bp):List AV:=[.int .i64 x.bq,.int .i64 x.jE,.int .i64 x.bQ]
abbrev k7(x:ai):List AV:=[.int .i64 x.af,.int .i64 x.Seq,.bool x.aW,.lst false (ml bz x.Links),.lst false (ml bh x.Claims)]
abbrev k8(x:aH):List AV:=[.lst false (ml aL x.ay)]
abbrev k9(x:aT):List AV:=[.int .i64 x.af,.int .i64 x.Seq,.bool x.aW,.lst false (ml bh x.Claims),.lst false (ml aL x.Database.ay)]
abbrev k10(x:bB):List AV:=[.int .i64 x.cQ,.int .i64 x.To,.lst false (ml aL x.Database.ay)]
abbrev k11(x:gB):List AV:=[.int .i64 x.af,.int .i64 x.Claim.bV,.int .i64 x.Claim.ID,.int .i64 x.Claim.Length]
abbrev k12(x:aA):List AV:=[.lst false (ml aC x.Links),.lst false (ml aO x.aB),.lst false (ml bf x.aF)]
end Go.Proofs.YtjdopimopgpagaaGreat
