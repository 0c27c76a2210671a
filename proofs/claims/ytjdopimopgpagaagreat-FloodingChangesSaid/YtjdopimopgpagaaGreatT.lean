/- The data of the program, as Lean data, and what is known of its types. No condition but bM bw stand in each. -/
import Derived.Test.YtjdopimopgpagaaGreatF
import Derived.Test.YtjdopimopgpagaaGreatC5
namespace Go.Proofs.YtjdopimopgpagaaGreat
open Go Go.Proofs.Tryz
set_option maxRecDepth 100000
set_option linter.all false
structure bh where
 ID:Int
 aX:Bool
instance:Inhabited bh:=⟨bh.mk (0:Int) false⟩
def aU:En bh:=⟨λx=>[.int .i64 x.ID,.bool x.aX],2,λ_=>rfl,λ_=>rfl,λ_=>rfl⟩
def tO(a b:bh):Bool:=decide (a.ID=b.ID)&&((a.aX==b.aX)&&true)
structure aK where
 A:Int
 B:Int
 iX:Int
 iL:Int
 bX:Int
instance:Inhabited aK:=⟨aK.mk (0:Int) (0:Int) (0:Int) (0:Int) (0:Int)⟩
def az:En aK:=⟨λx=>[.int .i64 x.A,.int .i64 x.B,.int .i64 x.iX,.int .i64 x.iL,.int .i64 x.bX],5,λ_=>rfl,λ_=>rfl,λ_=>rfl⟩
def wM(a b:aK):Bool:=decide (a.A=b.A)&&(decide (a.B=b.B)&&(decide (a.iX=b.iX)&&(decide (a.iL=b.iL)&&(decide (a.bX=b.bX)&&true))))
structure aA where
 aH:List bh
 Links:List aK
instance:Inhabited aA:=⟨aA.mk [] []⟩
structure aS where
 L:List Int
 At:Int
instance:Inhabited aS:=⟨aS.mk [] (0:Int)⟩
structure kM where
 cD:Int
 To:Int
instance:Inhabited kM:=⟨kM.mk (0:Int) (0:Int)⟩
def iM:En kM:=⟨λx=>[.int .i64 x.cD,.int .i64 x.To],2,λ_=>rfl,λ_=>rfl,λ_=>rfl⟩
def wN(a b:kM):Bool:=decide (a.cD=b.cD)&&(decide (a.To=b.To)&&true)
structure gR where
 Links:List kM
 aH:List Int
instance:Inhabited gR:=⟨gR.mk [] []⟩
structure bH where
 b9:Int
 ID:Int
 Length:Int
instance:Inhabited bH:=⟨bH.mk (0:Int) (0:Int) (0:Int)⟩
def bg:En bH:=⟨λx=>[.int .i64 x.b9,.int .i64 x.ID,.int .i64 x.Length],3,λ_=>rfl,λ_=>rfl,λ_=>rfl⟩
def fZ(a b:bH):Bool:=decide (a.b9=b.b9)&&(decide (a.ID=b.ID)&&(decide (a.Length=b.Length)&&true))
structure bA where
 bx:Int
 kN:Int
 bX:Int
instance:Inhabited bA:=⟨bA.mk (0:Int) (0:Int) (0:Int)⟩
def bq:En bA:=⟨λx=>[.int .i64 x.bx,.int .i64 x.kN,.int .i64 x.bX],3,λ_=>rfl,λ_=>rfl,λ_=>rfl⟩
def iw(a b:bA):Bool:=decide (a.bx=b.bx)&&(decide (a.kN=b.kN)&&(decide (a.bX=b.bX)&&true))
structure ai where
 ah:Int
 Seq:Int
 aX:Bool
 Links:List bA
 Claims:List bH
instance:Inhabited ai:=⟨ai.mk (0:Int) (0:Int) false [] []⟩
def aM:En ai:=⟨λx=>[.int .i64 x.ah,.int .i64 x.Seq,.bool x.aX,.lst false (ml bq x.Links),.lst false (ml bg x.Claims)],5,λ_=>rfl,λ_=>rfl,λ_=>rfl⟩
structure aG where
 aC:List ai
instance:Inhabited aG:=⟨aG.mk []⟩
structure aW where
 ah:Int
 Seq:Int
 aX:Bool
 Claims:List bH
 Database:aG
instance:Inhabited aW:=⟨aW.mk (0:Int) (0:Int) false [] (aG.mk [])⟩
def aL:En aW:=⟨λx=>[.int .i64 x.ah,.int .i64 x.Seq,.bool x.aX,.lst false (ml bg x.Claims),.lst false (ml aM x.Database.aC)],5,λ_=>rfl,λ_=>rfl,λ_=>rfl⟩
structure aR where
 cD:Int
 To:Int
 Database:aG
instance:Inhabited aR:=⟨aR.mk (0:Int) (0:Int) (aG.mk [])⟩
def aJ:En aR:=⟨λx=>[.int .i64 x.cD,.int .i64 x.To,.lst false (ml aM x.Database.aC)],3,λ_=>rfl,λ_=>rfl,λ_=>rfl⟩
structure gy where
 ah:Int
 Claim:bH
instance:Inhabited gy:=⟨gy.mk (0:Int) (bH.mk (0:Int) (0:Int) (0:Int))⟩
def eD:En gy:=⟨λx=>[.int .i64 x.ah,.int .i64 x.Claim.b9,.int .i64 x.Claim.ID,.int .i64 x.Claim.Length],4,λ_=>rfl,λ_=>rfl,λ_=>rfl⟩
structure bp where
 Data:List Int
 Bits:Int
instance:Inhabited bp:=⟨bp.mk [] (0:Int)⟩
structure bQ where
 s_:bp
instance:Inhabited bQ:=⟨bQ.mk (bp.mk [] (0:Int))⟩
structure aB where
 Links:List aK
 aF:List aW
 ay:List aR
instance:Inhabited aB:=⟨aB.mk [] [] []⟩
structure aV where
 f_:aB
instance:Inhabited aV:=⟨aV.mk (aB.mk [] [] [])⟩
def ti1:TI:=⟨1,false,some [.nilFunc],.oth⟩
theorem tk1:cN prog 1 ti1:=⟨ty1,λzs h=>by cases h;exact ze1,trivial⟩
def ti2:TI:=⟨1,false,some [zI0],.int .i64⟩
theorem tk2:cN prog 2 ti2:=⟨ty2,λzs h=>by cases h;exact ze2,underlying2⟩
def ti3:TI:=⟨1,false,some [zI0],.int .i64⟩
theorem tk3:cN prog 3 ti3:=⟨ty3,λzs h=>by cases h;exact ze3,underlying3⟩
def ti4:TI:=⟨1,false,some [.bool false],.bool⟩
theorem tk4:cN prog 4 ti4:=⟨ty4,λzs h=>by cases h;exact ze4,underlying4⟩
def ti5:TI:=⟨1,false,some [.int .u8 0],.int .u8⟩
theorem tk5:cN prog 5 ti5:=⟨ty5,λzs h=>by cases h;exact ze5,underlying5⟩
def ti6:TI:=⟨1,false,some [.int .u8 0],.int .u8⟩
theorem tk6:cN prog 6 ti6:=⟨ty6,λzs h=>by cases h;exact ze6,underlying6⟩
def ti7:TI:=⟨4,true,some [zI0,zI0,.bool false,.int .u8 0],.struct [zI0,zI0,.bool false,.int .u8 0] [(0,1),(1,1),(2,1),(3,1)] [false,false,false,false]⟩
theorem tk7:cN prog 7 ti7:=⟨ty7,λzs h=>by cases h;exact ze7,dY str7 ⟨ane,anf,ang,anh,trivial⟩ ⟨ani,anj,ank,anl,trivial⟩⟩
def ti8:TI:=⟨4,true,some [zI0,zI0,.bool false,.int .u8 0],.struct [zI0,zI0,.bool false,.int .u8 0] [(0,1),(1,1),(2,1),(3,1)] [false,false,false,false]⟩
theorem tk8:cN prog 8 ti8:=⟨ty8,λzs h=>by cases h;exact ze8,dY str8 ⟨anm,ann,ano,anp,trivial⟩ ⟨anq,anr,ans,ant,trivial⟩⟩
def ti9:TI:=⟨1,false,some [.string ⟨#[]⟩],.str⟩
theorem tk9:cN prog 9 ti9:=⟨ty9,λzs h=>by cases h;exact ze9,underlying9⟩
def aom:TI:=⟨1,false,some [.string ⟨#[]⟩],.str⟩
theorem tk10:cN prog 10 aom:=⟨ty10,λzs h=>by cases h;exact ze10,underlying10⟩
def aon:TI:=⟨1,false,some [.string ⟨#[]⟩],.str⟩
theorem tk11:cN prog 11 aon:=⟨ty11,λzs h=>by cases h;exact ze11,underlying11⟩
def aoo:TI:=⟨1,false,some [.int .u64 0],.int .u64⟩
theorem tk12:cN prog 12 aoo:=⟨ahS,λzs h=>by cases h;exact ze12,underlying12⟩
def aop:TI:=⟨2,true,some [.string ⟨#[]⟩,.int .u64 0],.struct [.string ⟨#[]⟩,.int .u64 0] [(0,1),(1,1)] [false,false]⟩
theorem tk13:cN prog 13 aop:=⟨ty13,λzs h=>by cases h;exact ze13,dY aqB ⟨akE,akF,trivial⟩ ⟨akG,akH,trivial⟩⟩
def aoq:TI:=⟨2,true,some [.string ⟨#[]⟩,.int .u64 0],.struct [.string ⟨#[]⟩,.int .u64 0] [(0,1),(1,1)] [false,false]⟩
theorem tk14:cN prog 14 aoq:=⟨ty14,λzs h=>by cases h;exact ze14,dY aqC ⟨akI,akJ,trivial⟩ ⟨akK,akL,trivial⟩⟩
def aor:TI:=⟨1,false,some [.pointer none],.oth⟩
theorem tk15:cN prog 15 aor:=⟨ty15,λzs h=>by cases h;exact ze15,trivial⟩
def aos:TI:=⟨1,false,some [.pointer none],.oth⟩
theorem tk16:cN prog 16 aos:=⟨ty16,λzs h=>by cases h;exact ze16,trivial⟩
def aot:TI:=⟨1,false,some [.pointer none],.oth⟩
theorem tk17:cN prog 17 aot:=⟨ahT,λzs h=>by cases h;exact ze17,trivial⟩
def aou:TI:=⟨1,true,some [.pointer none],.struct [.pointer none] [(0,1)] [false]⟩
theorem tk18:cN prog 18 aou:=⟨ty18,λzs h=>by cases h;exact ze18,dY aqD ⟨akM,trivial⟩ ⟨akN,trivial⟩⟩
def aov:TI:=⟨1,true,some [.pointer none],.struct [.pointer none] [(0,1)] [false]⟩
theorem tk19:cN prog 19 aov:=⟨ty19,λzs h=>by cases h;exact ze19,dY aqE ⟨akO,trivial⟩ ⟨akP,trivial⟩⟩
def aow:TI:=⟨1,false,some [.int .i32 0],.int .i32⟩
theorem tk21:cN prog 21 aow:=⟨ty21,λzs h=>by cases h;exact ze21,underlying21⟩
def aox:TI:=⟨1,false,some [zS0],.slice 3 1 8 [zI0]⟩
theorem tk22:cN prog 22 aox:=⟨ahU,λzs h=>by cases h;exact ze22,⟨sl22,aqF,aqG⟩⟩
def aoy:TI:=⟨1,false,some [zS0],.slice 86 5 40 [zI0,zI0,zI0,zI0,zI0]⟩
theorem tk23:cN prog 23 aoy:=⟨afQ,λzs h=>by cases h;exact am5,⟨sl23,aqH,aqI⟩⟩
def aoz:TI:=⟨1,false,some [zS0],.slice 53 5 72 [zI0,zI0,.bool false,zS0,zS0]⟩
theorem tk24:cN prog 24 aoz:=⟨ahV,λzs h=>by cases h;exact ze24,⟨sl24,aqJ,aqK⟩⟩
def aoA:TI:=⟨1,false,some [zS0],.slice 75 3 40 [zI0,zI0,zS0]⟩
theorem tk25:cN prog 25 aoA:=⟨ahW,λzs h=>by cases h;exact ze25,⟨ahX,aqL,aqM⟩⟩
def aoB:TI:=⟨3,true,some [zS0,zS0,zS0],.struct [zS0,zS0,zS0] [(0,1),(1,1),(2,1)] [false,false,false]⟩
theorem tk26:cN prog 26 aoB:=⟨ty26,λzs h=>by cases h;exact ze26,dY aqN ⟨akQ,akR,akS,trivial⟩ ⟨akT,akU,akV,trivial⟩⟩
def aoC:TI:=⟨3,true,some [zS0,zS0,zS0],.struct [zS0,zS0,zS0] [(0,1),(1,1),(2,1)] [false,false,false]⟩
theorem tk27:cN prog 27 aoC:=⟨anu,λzs h=>by cases h;exact am6,dY aqO ⟨akW,akX,akY,trivial⟩ ⟨akZ,ak0,ak1,trivial⟩⟩
def aoD:TI:=⟨1,false,some [.pointer none],.oth⟩
theorem tk28:cN prog 28 aoD:=⟨ty28,λzs h=>by cases h;exact ze28,trivial⟩
def aoE:TI:=⟨1,false,some [zS0],.slice 27 3 72 [zS0,zS0,zS0]⟩
theorem tk32:cN prog 32 aoE:=⟨ty32,λzs h=>by cases h;exact ze32,⟨sl32,aqP,aqQ⟩⟩
def aoF:TI:=⟨1,false,some [zI0],.int .i64⟩
theorem tk34:cN prog 34 aoF:=⟨ty34,λzs h=>by cases h;exact ze34,underlying34⟩
def aoG:TI:=⟨1,false,some [zS0],.slice 93 2 16 [zI0,.bool false]⟩
theorem tk43:cN prog 43 aoG:=⟨anv,λzs h=>by cases h;exact ze43,⟨sl43,aqR,aqS⟩⟩
def aoH:TI:=⟨2,true,some [zS0,zS0],.struct [zS0,zS0] [(0,1),(1,1)] [false,false]⟩
theorem tk45:cN prog 45 aoH:=⟨ty45,λzs h=>by cases h;exact ze45,dY aqT ⟨ak2,ak3,trivial⟩ ⟨ak4,ak5,trivial⟩⟩
def aoI:TI:=⟨1,false,some [zS0],.slice 91 3 24 [zI0,zI0,zI0]⟩
theorem tk48:cN prog 48 aoI:=⟨afR,λzs h=>by cases h;exact ze48,⟨sl48,aqU,aqV⟩⟩
def aoJ:TI:=⟨1,false,some [zS0],.slice 66 5 72 [zI0,zI0,.bool false,zS0,zS0]⟩
theorem tk49:cN prog 49 aoJ:=⟨anw,λzs h=>by cases h;exact ze49,⟨sl49,aqW,aqX⟩⟩
def aoK:TI:=⟨1,true,some [zS0],.struct [zS0] [(0,1)] [false]⟩
theorem tk51:cN prog 51 aoK:=⟨ahY,λzs h=>by cases h;exact ze51,dY aqY ⟨ak6,trivial⟩ ⟨ak7,trivial⟩⟩
def aoL:TI:=⟨5,true,some [zI0,zI0,.bool false,zS0,zS0],.struct [zI0,zI0,.bool false,zS0,zS0] [(0,1),(1,1),(2,1),(3,1),(4,1)] [false,false,false,false,true]⟩
theorem tk53:cN prog 53 aoL:=⟨ty53,λzs h=>by cases h;exact am7,dY aqZ ⟨ak8,ak9,ala,alb,alc,trivial⟩ ⟨ald,ale,alf,alg,alh,trivial⟩⟩
def aoM:TI:=⟨1,false,some [zS0],.slice 129 2 16 [zI0,zI0]⟩
theorem tk58:cN prog 58 aoM:=⟨anx,λzs h=>by cases h;exact ze58,⟨sl58,aq0,aq1⟩⟩
def aoN:TI:=⟨2,true,some [zS0,zS0],.struct [zS0,zS0] [(0,1),(1,1)] [false,false]⟩
theorem tk60:cN prog 60 aoN:=⟨ty60,λzs h=>by cases h;exact ze60,dY aq2 ⟨ali,alj,trivial⟩ ⟨alk,alm,trivial⟩⟩
def aoO:TI:=⟨1,false,some [zS0],.slice 105 3 24 [zI0,zI0,zI0]⟩
theorem tk64:cN prog 64 aoO:=⟨ahZ,λzs h=>by cases h;exact ze64,⟨sl64,aq3,aq4⟩⟩
def aoP:TI:=⟨5,true,some [zI0,zI0,.bool false,zS0,zS0],.struct [zI0,zI0,.bool false,zS0,zS0] [(0,1),(1,1),(2,1),(3,1),(4,1)] [false,false,false,false,false]⟩
theorem tk65:cN prog 65 aoP:=⟨ty65,λzs h=>by cases h;exact ze65,dY aq5 ⟨aln,alo,alp,alq,alr,trivial⟩ ⟨als,alu,alv,alw,alx,trivial⟩⟩
def aoQ:TI:=⟨5,true,some [zI0,zI0,.bool false,zS0,zS0],.struct [zI0,zI0,.bool false,zS0,zS0] [(0,1),(1,1),(2,1),(3,1),(4,1)] [false,false,false,false,false]⟩
theorem tk66:cN prog 66 aoQ:=⟨ty66,λzs h=>by cases h;exact am8,dY aq6 ⟨aly,alz,alA,alB,alC,trivial⟩ ⟨alD,alF,alG,alH,alI,trivial⟩⟩
def aoR:TI:=⟨1,false,some [.nilFunc],.oth⟩
theorem tk69:cN prog 69 aoR:=⟨ty69,λzs h=>by cases h;exact ze69,trivial⟩
def aoS:TI:=⟨3,true,some [zI0,zI0,zS0],.struct [zI0,zI0,zS0] [(0,1),(1,1),(2,1)] [false,false,true]⟩
theorem tk75:cN prog 75 aoS:=⟨ty75,λzs h=>by cases h;exact am9,dY aq7 ⟨alJ,alK,alL,trivial⟩ ⟨alM,alN,alO,trivial⟩⟩
def aoT:TI:=⟨1,false,some [zS0],.slice 23 1 24 [zS0]⟩
theorem tk79:cN prog 79 aoT:=⟨ty79,λzs h=>by cases h;exact ze79,⟨sl79,aq8,aq9⟩⟩
def aoU:TI:=⟨2,true,some [zS0,zI0],.struct [zS0,zI0] [(0,1),(1,1)] [false,false]⟩
theorem tk83:cN prog 83 aoU:=⟨ty83,λzs h=>by cases h;exact ze83,dY ara ⟨alP,alQ,trivial⟩ ⟨alR,alS,trivial⟩⟩
def aoV:TI:=⟨1,false,some [.nilFunc],.oth⟩
theorem tk84:cN prog 84 aoV:=⟨ty84,λzs h=>by cases h;exact ze84,trivial⟩
def aoW:TI:=⟨5,true,some [zI0,zI0,zI0,zI0,zI0],.struct [zI0,zI0,zI0,zI0,zI0] [(0,1),(1,1),(2,1),(3,1),(4,1)] [false,false,false,false,false]⟩
theorem tk86:cN prog 86 aoW:=⟨ty86,λzs h=>by cases h;exact ana,dY arb ⟨alT,alU,alV,alW,alX,trivial⟩ ⟨alY,alZ,al0,al1,al2,trivial⟩⟩
def aoX:TI:=⟨3,true,some [zI0,zI0,zI0],.struct [zI0,zI0,zI0] [(0,1),(1,1),(2,1)] [false,false,false]⟩
theorem tk91:cN prog 91 aoX:=⟨anz,λzs h=>by cases h;exact anb,dY ard ⟨al3,al4,al5,trivial⟩ ⟨al6,al7,al8,trivial⟩⟩
def aoY:TI:=⟨2,true,some [zI0,.bool false],.struct [zI0,.bool false] [(0,1),(1,1)] [false,false]⟩
theorem tk93:cN prog 93 aoY:=⟨ty93,λzs h=>by cases h;exact anc,dY arh ⟨al9,ama,trivial⟩ ⟨amb,amc,trivial⟩⟩
def aoZ:TI:=⟨1,false,some [.pointer none],.oth⟩
theorem tk94:cN prog 94 aoZ:=⟨ty94,λzs h=>by cases h;exact ze94,trivial⟩
def ao0:TI:=⟨3,true,some [zS0,zS0,zS0],.struct [zS0,zS0,zS0] [(0,3)] [true]⟩
theorem tk97:cN prog 97 ao0:=⟨ty97,λzs h=>by cases h;exact ze97,dY arj ⟨amd,trivial⟩ ⟨ame,trivial⟩⟩
def ao1:TI:=⟨1,false,some [zS0],.slice 1 1 8 [.nilFunc]⟩
theorem tk98:cN prog 98 ao1:=⟨ty98,λzs h=>by cases h;exact ze98,⟨sl98,ark,arl⟩⟩
def ajx:TI:=⟨3,true,some [zI0,zI0,zI0],.struct [zI0,zI0,zI0] [(0,1),(1,1),(2,1)] [false,false,false]⟩
theorem arV:cN prog 105 ajx:=⟨arn,λzs h=>by cases h;exact ajo,dY anA ⟨ah2,ah3,ah4,trivial⟩ ⟨ah5,ah6,ah7,trivial⟩⟩
def ajy:TI:=⟨1,false,some [.nilFunc],.oth⟩
theorem arW:cN prog 113 ajy:=⟨aro,λzs h=>by cases h;exact aqf,trivial⟩
def ajz:TI:=⟨1,false,some [.nilFunc],.oth⟩
theorem arX:cN prog 121 ajz:=⟨arp,λzs h=>by cases h;exact aqg,trivial⟩
def ajA:TI:=⟨2,true,some [zI0,zI0],.struct [zI0,zI0] [(0,1),(1,1)] [false,false]⟩
theorem arY:cN prog 129 ajA:=⟨arq,λzs h=>by cases h;exact ajp,dY anC ⟨ah8,ah9,trivial⟩ ⟨aia,aib,trivial⟩⟩
def ajB:TI:=⟨1,false,some [.nilFunc],.oth⟩
theorem arZ:cN prog 132 ajB:=⟨ars,λzs h=>by cases h;exact aqh,trivial⟩
def ajC:TI:=⟨1,false,some [.pointer none],.oth⟩
theorem ar0:cN prog 133 ajC:=⟨art,λzs h=>by cases h;exact aqi,trivial⟩
def ajD:TI:=⟨1,false,some [.nilFunc],.oth⟩
theorem ar1:cN prog 150 ajD:=⟨aru,λzs h=>by cases h;exact aqj,trivial⟩
def ajE:TI:=⟨1,false,some [.nilFunc],.oth⟩
theorem ar2:cN prog 152 ajE:=⟨arv,λzs h=>by cases h;exact aqk,trivial⟩
def ajF:TI:=⟨1,false,some [.nilFunc],.oth⟩
theorem ar3:cN prog 154 ajF:=⟨arw,λzs h=>by cases h;exact aql,trivial⟩
def ajG:TI:=⟨1,false,some [.nilFunc],.oth⟩
theorem ar4:cN prog 155 ajG:=⟨arx,λzs h=>by cases h;exact aqm,trivial⟩
def ajH:TI:=⟨1,false,some [.nilFunc],.oth⟩
theorem ar5:cN prog 158 ajH:=⟨ary,λzs h=>by cases h;exact aqn,trivial⟩
def ajI:TI:=⟨1,false,some [zS0],.slice 164 4 32 [zI0,zI0,zI0,zI0]⟩
theorem ar6:cN prog 161 ajI:=⟨arz,λzs h=>by cases h;exact aqo,⟨arA,anD,anE⟩⟩
def ajJ:TI:=⟨4,true,some [zI0,zI0,zI0,zI0],.struct [zI0,zI0,zI0,zI0] [(0,1),(1,3)] [false,true]⟩
theorem ar7:cN prog 164 ajJ:=⟨arB,λzs h=>by cases h;exact ajq,dY anF ⟨aic,aid,trivial⟩ ⟨aie,aif,trivial⟩⟩
def ajK:TI:=⟨1,false,some [.nilFunc],.oth⟩
theorem ar8:cN prog 165 ajK:=⟨arC,λzs h=>by cases h;exact aqp,trivial⟩
def ajL:TI:=⟨1,false,some [.int .u64 0],.int .u64⟩
theorem ar9:cN prog 178 ajL:=⟨arD,λzs h=>by cases h;exact aqq,underlying178⟩
def ajM:TI:=⟨1,false,some [.pointer none],.oth⟩
theorem asa:cN prog 182 ajM:=⟨arE,λzs h=>by cases h;exact aqr,trivial⟩
def ajN:TI:=⟨1,false,some [.nilFunc],.oth⟩
theorem asb:cN prog 187 ajN:=⟨arF,λzs h=>by cases h;exact aqs,trivial⟩
def ajO:TI:=⟨1,false,some [zS0],.slice 5 1 1 [.int .u8 0]⟩
theorem asd:cN prog 189 ajO:=⟨ajr,λzs h=>by cases h;exact aqt,⟨arG,anG,anH⟩⟩
def ajP:TI:=⟨1,false,some [zI0],.int .i64⟩
theorem ase:cN prog 193 ajP:=⟨arH,λzs h=>by cases h;exact aqu,underlying193⟩
def ajQ:TI:=⟨1,false,some [.int .u32 0],.int .u32⟩
theorem asf:cN prog 201 ajQ:=⟨arI,λzs h=>by cases h;exact aqv,underlying201⟩
def ajR:TI:=⟨1,false,some [.int .u64 0],.int .u64⟩
theorem asg:cN prog 203 ajR:=⟨arJ,λzs h=>by cases h;exact aqw,underlying203⟩
def ajS:TI:=⟨2,true,some [zS0,zI0],.struct [zS0,zI0] [(0,1),(1,1)] [false,false]⟩
theorem ash:cN prog 208 ajS:=⟨ajs,λzs h=>by cases h;exact aqx,dY anI ⟨aih,aii,trivial⟩ ⟨aij,aik,trivial⟩⟩
def ajT:TI:=⟨2,true,some [zS0,zI0],.struct [zS0,zI0] [(0,2)] [true]⟩
theorem asi:cN prog 221 ajT:=⟨arK,λzs h=>by cases h;exact aqy,dY anJ ⟨ail,trivial⟩ ⟨aim,trivial⟩⟩
def ajU:TI:=⟨1,false,some [.pointer none],.oth⟩
theorem asj:cN prog 231 ajU:=⟨arL,λzs h=>by cases h;exact aqz,trivial⟩
def ajV:TI:=⟨1,false,some [.pointer none],.oth⟩
theorem asl:cN prog 235 ajV:=⟨arM,λzs h=>by cases h;exact aqA,trivial⟩
def tb:Tb:=[(1,ti1),(2,ti2),(3,ti3),(4,ti4),(5,ti5),(6,ti6),(7,ti7),(8,ti8),(9,ti9),(10,aom),(11,aon),(12,aoo),(13,aop),(14,aoq),(15,aor),(16,aos),(17,aot),(18,aou),(19,aov),(21,aow),(22,aox),(23,aoy),(24,aoz),(25,aoA),(26,aoB),(27,aoC),(28,aoD),(32,aoE),(34,aoF),(43,aoG),(45,aoH),(48,aoI),(49,aoJ),(51,aoK),(53,aoL),(58,aoM),(60,aoN),(64,aoO),(65,aoP),(66,aoQ),(69,aoR),(75,aoS),(79,aoT),(83,aoU),(84,aoV),(86,aoW),(91,aoX),(93,aoY),(94,aoZ),(97,ao0),(98,ao1),(105,ajx),(113,ajy),(121,ajz),(129,ajA),(132,ajB),(133,ajC),(150,ajD),(152,ajE),(154,ajF),(155,ajG),(158,ajH),(161,ajI),(164,ajJ),(165,ajK),(178,ajL),(182,ajM),(187,ajN),(189,ajO),(193,ajP),(201,ajQ),(203,ajR),(208,ajS),(221,ajT),(231,ajU),(235,ajV)]
theorem W0:Wld prog tb:=⟨aaA,⟨tk1,tk2,tk3,tk4,tk5,tk6,tk7,tk8,tk9,tk10,tk11,tk12,tk13,tk14,tk15,tk16,tk17,tk18,tk19,tk21,tk22,tk23,tk24,tk25,tk26,tk27,tk28,tk32,tk34,tk43,tk45,tk48,tk49,tk51,tk53,tk58,tk60,tk64,tk65,tk66,tk69,tk75,tk79,tk83,tk84,tk86,tk91,tk93,tk94,tk97,tk98,arV,arW,arX,arY,arZ,ar0,ar1,ar2,ar3,ar4,ar5,ar6,ar7,ar8,ar9,asa,asb,asd,ase,asf,asg,ash,asi,asj,asl,trivial⟩⟩
theorem ck11:aQ prog 11:=⟨call11⟩
theorem ck12:aQ prog 12:=⟨call12⟩
theorem ck13:aQ prog 13:=⟨call13⟩
theorem ck15:aQ prog 15:=⟨call15⟩
theorem ao2:aQ prog 17:=⟨call17⟩
theorem ck18:aQ prog 18:=⟨call18⟩
theorem ck22:aQ prog 22:=⟨call22⟩
theorem wA:aQ prog 23:=⟨call23⟩
theorem ao3:aQ prog 27:=⟨call27⟩
theorem ck28:aQ prog 28:=⟨call28⟩
theorem xH:aQ prog 29:=⟨call29⟩
theorem aaN:aQ prog 32:=⟨call32⟩
theorem yW:aQ prog 33:=⟨call33⟩
theorem ao4:aQ prog 36:=⟨call36⟩
theorem ao5:aQ prog 37:=⟨call37⟩
theorem ck43:aQ prog 43:=⟨call43⟩
theorem ck45:aQ prog 45:=⟨call45⟩
theorem ao6:aQ prog 46:=⟨call46⟩
theorem ck47:aQ prog 47:=⟨call47⟩
theorem ck48:aQ prog 48:=⟨call48⟩
theorem iy:aQ prog 55:=⟨call55⟩
theorem aaO:aQ prog 56:=⟨call56⟩
theorem aaP:aQ prog 57:=⟨call57⟩
theorem ao7:aQ prog 58:=⟨call58⟩
theorem su:aQ prog 59:=⟨call59⟩
theorem ao8:aQ prog 60:=⟨call60⟩
theorem ao9:aQ prog 61:=⟨call61⟩
theorem apa:aQ prog 62:=⟨call62⟩
theorem af8:aQ prog 63:=⟨call63⟩
theorem apb:aQ prog 64:=⟨call64⟩
theorem ck65:aQ prog 65:=⟨call65⟩
theorem apc:aQ prog 66:=⟨call66⟩
theorem aiH:aQ prog 68:=⟨call68⟩
theorem ck69:aQ prog 69:=⟨call69⟩
theorem ad4:aQ prog 70:=⟨call70⟩
theorem apd:aQ prog 71:=⟨call71⟩
theorem acd:aQ prog 72:=⟨call72⟩
theorem ape:aQ prog 73:=⟨call73⟩
theorem ck74:aQ prog 74:=⟨call74⟩
theorem ck75:aQ prog 75:=⟨call75⟩
theorem af9:aQ prog 76:=⟨call76⟩
theorem ace:aQ prog 78:=⟨call78⟩
theorem aaQ:aQ prog 79:=⟨call79⟩
theorem ck80:aQ prog 80:=⟨call80⟩
theorem ck82:aQ prog 82:=⟨call82⟩
theorem ck83:aQ prog 83:=⟨call83⟩
theorem ad5:aQ prog 84:=⟨call84⟩
theorem acf:aQ prog 85:=⟨call85⟩
theorem aaR:aQ prog 86:=⟨call86⟩
theorem ad6:aQ prog 87:=⟨call87⟩
theorem aga:aQ prog 88:=⟨call88⟩
theorem aaS:aQ prog 89:=⟨call89⟩
theorem aiI:aQ prog 90:=⟨call90⟩
theorem apf:aQ prog 91:=⟨call91⟩
theorem aiJ:aQ prog 92:=⟨call92⟩
theorem ck93:aQ prog 93:=⟨call93⟩
theorem ck94:aQ prog 94:=⟨call94⟩
theorem ck95:aQ prog 95:=⟨call95⟩
theorem ck96:aQ prog 96:=⟨call96⟩
theorem aiK:aQ prog 98:=⟨call98⟩
theorem ck99:aQ prog 99:=⟨call99⟩
theorem asm:aQ prog 100:=⟨call100⟩
theorem asn:aQ prog 101:=⟨call101⟩
theorem ajW:aQ prog 102:=⟨call102⟩
theorem agb:aQ prog 103:=⟨call103⟩
theorem aso:aQ prog 104:=⟨call104⟩
theorem asp:aQ prog 107:=⟨call107⟩
theorem asq:aQ prog 108:=⟨call108⟩
theorem ajX:aQ prog 109:=⟨call109⟩
theorem agc:aQ prog 110:=⟨call110⟩
theorem agd:aQ prog 111:=⟨call111⟩
theorem asr:aQ prog 112:=⟨call112⟩
theorem adv:aQ prog 113:=⟨call113⟩
theorem ajY:aQ prog 114:=⟨call114⟩
theorem ass:aQ prog 115:=⟨call115⟩
theorem xI:aQ prog 116:=⟨call116⟩
theorem adw:aQ prog 117:=⟨call117⟩
theorem ast:aQ prog 118:=⟨call118⟩
theorem asu:aQ prog 119:=⟨call119⟩
theorem uN:aQ prog 120:=⟨call120⟩
theorem xJ:aQ prog 122:=⟨call122⟩
theorem adx:aQ prog 123:=⟨call123⟩
theorem asv:aQ prog 124:=⟨call124⟩
theorem asw:aQ prog 125:=⟨call125⟩
theorem xK:aQ prog 126:=⟨call126⟩
theorem age:aQ prog 127:=⟨call127⟩
theorem ajZ:aQ prog 128:=⟨call128⟩
theorem aj0:aQ prog 129:=⟨call129⟩
theorem agf:aQ prog 130:=⟨call130⟩
theorem asx:aQ prog 131:=⟨call131⟩
theorem asy:aQ prog 132:=⟨call132⟩
theorem asz:aQ prog 133:=⟨call133⟩
theorem aj1:aQ prog 134:=⟨call134⟩
theorem gi:aQ prog 135:=⟨call135⟩
theorem agh:aQ prog 136:=⟨call136⟩
theorem asA:aQ prog 137:=⟨call137⟩
theorem asB:aQ prog 138:=⟨call138⟩
theorem asC:aQ prog 139:=⟨call139⟩
theorem asD:aQ prog 140:=⟨call140⟩
theorem asE:aQ prog 141:=⟨call141⟩
theorem asF:aQ prog 142:=⟨call142⟩
theorem asG:aQ prog 143:=⟨call143⟩
theorem asH:aQ prog 144:=⟨call144⟩
theorem asI:aQ prog 145:=⟨call145⟩
theorem asJ:aQ prog 146:=⟨call146⟩
theorem aj2:aQ prog 147:=⟨call147⟩
theorem zM:aQ prog 148:=⟨call148⟩
theorem aj3:aQ prog 149:=⟨call149⟩
theorem asK:aQ prog 150:=⟨call150⟩
theorem zN:aQ prog 151:=⟨call151⟩
theorem asL:aQ prog 152:=⟨call152⟩
theorem asM:aQ prog 153:=⟨call153⟩
theorem gG:aQ prog 155:=⟨call155⟩
theorem agi:aQ prog 156:=⟨call156⟩
theorem asN:aQ prog 157:=⟨call157⟩
theorem aj4:aQ prog 158:=⟨call158⟩
theorem asO:aQ prog 159:=⟨call159⟩
theorem aj5:aQ prog 160:=⟨call160⟩
theorem aj6:aQ prog 161:=⟨call161⟩
theorem aj7:aQ prog 162:=⟨call162⟩
theorem asP:aQ prog 163:=⟨call163⟩
theorem asQ:aQ prog 164:=⟨call164⟩
theorem asR:aQ prog 165:=⟨call165⟩
theorem asS:aQ prog 166:=⟨call166⟩
theorem aj8:aQ prog 167:=⟨call167⟩
theorem aj9:aQ prog 168:=⟨call168⟩
theorem asT:aQ prog 169:=⟨call169⟩
theorem asU:aQ prog 170:=⟨call170⟩
theorem aka:aQ prog 171:=⟨call171⟩
theorem asV:aQ prog 172:=⟨call172⟩
theorem asW:aQ prog 173:=⟨call173⟩
theorem asX:aQ prog 174:=⟨call174⟩
theorem asY:aQ prog 175:=⟨call175⟩
theorem asZ:aQ prog 176:=⟨call176⟩
theorem as0:aQ prog 177:=⟨call177⟩
theorem akb:aQ prog 178:=⟨call178⟩
theorem as1:aQ prog 179:=⟨call179⟩
theorem as2:aQ prog 189:=⟨call189⟩
theorem akc:aQ prog 192:=⟨call192⟩
theorem as3:aQ prog 193:=⟨call193⟩
theorem qN:aQ prog 194:=⟨call194⟩
theorem as4:aQ prog 195:=⟨call195⟩
theorem as5:aQ prog 196:=⟨call196⟩
theorem as6:aQ prog 197:=⟨call197⟩
theorem qO:aQ prog 204:=⟨call204⟩
theorem as7:aQ prog 205:=⟨call205⟩
theorem as8:aQ prog 207:=⟨call207⟩
theorem agj:aQ prog 208:=⟨call208⟩
theorem akd:aQ prog 209:=⟨call209⟩
theorem ake:aQ prog 210:=⟨call210⟩
theorem as9:aQ prog 213:=⟨call213⟩
theorem akf:aQ prog 214:=⟨call214⟩
theorem ata:aQ prog 215:=⟨call215⟩
theorem atb:aQ prog 216:=⟨call216⟩
theorem atc:aQ prog 217:=⟨call217⟩
theorem atd:aQ prog 218:=⟨call218⟩
theorem qS{N:Nat}{ids:List Nat}{y:Code}{Q:Exit→Env→Sto→Prop}{env:Env}{σ:Sto}{id:Nat}{ops:Array Oper}{dr:Bool}(hs:List (Nat×Hint prog))(cH:Env)(σ2:Sto)(k:aj ⟨prog,N,ids⟩ y Q cH σ2)
  (h:xE tb N ids ops dr (jX ops dr hs).1 (jX ops dr hs).2 [] hs (sj cH) σ2.ids env σ=some (cH,σ2,(jX ops dr hs).2.map λi=>(hintOf hs i).exp):=by kernel_rfl):aj ⟨prog,N,ids⟩ (.seq (.region id ops dr) y) Q env σ:=A.RS W0 [] hs cH σ2 h k
theorem qR{N:Nat}{ids:List Nat}{Q:Exit→Env→Sto→Prop}{env:Env}{σ:Sto}{id:Nat}{ops:Array Oper}{dr:Bool}(hs:List (Nat×Hint prog))(cH:Env)(σ2:Sto)(k:Q .normal cH σ2)
  (h:xE tb N ids ops dr (jX ops dr hs).1 (jX ops dr hs).2 [] hs (sj cH) σ2.ids env σ=some (cH,σ2,(jX ops dr hs).2.map λi=>(hintOf hs i).exp):=by kernel_rfl):aj ⟨prog,N,ids⟩ (.region id ops dr) Q env σ:=A.R W0 [] hs cH σ2 h k
def apg(n:Nat):List Nat→Bool
 |[]=>false
 |k::r=>bif Nat.beq k n then true else apg n r
def nA{α:Type}(ks:List Nat)(new:List (Nat×α)):List (Nat×α)→List (Nat×α)
 |[]=>new
 |p::l=>bif apg p.1 ks then nA ks new l else p::nA ks new l
section
variable {N:Nat}{ids:List Nat}{y:Code}{Q:Exit→Env→Sto→Prop}{env:Env}{σ:Sto}{id:Nat}{ops:Array Oper}{dr:Bool}(hs:List (Nat×Hint prog))(ks:List Nat)(new:Env)(js:List Nat)(nws:Sto)
theorem qD(k:aj ⟨prog,N,ids⟩ y Q (nA ks new env) (nA js nws σ))
  (h:xE tb N ids ops dr (jX ops dr hs).1 (jX ops dr hs).2 [] hs (sj (nA ks new env)) (Sto.ids (nA js nws σ)) env σ=some (nA ks new env,nA js nws σ,(jX ops dr hs).2.map λi=>(hintOf hs i).exp):=by kernel_rfl):aj ⟨prog,N,ids⟩ (.seq (.region id ops dr) y) Q env σ:=A.RS W0 [] hs _ _ h k
theorem qDs(k:aj ⟨prog,N,ids⟩ y Q (nA ks new env) σ)
  (h:xE tb N ids ops dr (jX ops dr hs).1 (jX ops dr hs).2 [] hs (sj (nA ks new env)) σ.ids env σ=some (nA ks new env,σ,(jX ops dr hs).2.map λi=>(hintOf hs i).exp):=by kernel_rfl):aj ⟨prog,N,ids⟩ (.seq (.region id ops dr) y) Q env σ:=A.RS W0 [] hs _ _ h k
theorem qG(k:Q .normal (nA ks new env) (nA js nws σ))
  (h:xE tb N ids ops dr (jX ops dr hs).1 (jX ops dr hs).2 [] hs (sj (nA ks new env)) (Sto.ids (nA js nws σ)) env σ=some (nA ks new env,nA js nws σ,(jX ops dr hs).2.map λi=>(hintOf hs i).exp):=by kernel_rfl):aj ⟨prog,N,ids⟩ (.region id ops dr) Q env σ:=A.R W0 [] hs _ _ h k
theorem qGs(k:Q .normal (nA ks new env) σ)
  (h:xE tb N ids ops dr (jX ops dr hs).1 (jX ops dr hs).2 [] hs (sj (nA ks new env)) σ.ids env σ=some (nA ks new env,σ,(jX ops dr hs).2.map λi=>(hintOf hs i).exp):=by kernel_rfl):aj ⟨prog,N,ids⟩ (.region id ops dr) Q env σ:=A.R W0 [] hs _ _ h k
end
theorem qE{N:Nat}{ids:List Nat}{fn:Func}{env:Env}{σ σ2:Sto}{R:AV}(h:aiz tb ids [] σ2.ids fn.results.toList env σ=some (R,σ2):=by kernel_rfl):
  af1 ⟨prog,N,ids⟩ fn (λa σ'=>a=R∧σ'=σ2) .ret env σ:=A.fin W0 [] rfl h
variable {G:Gl}
theorem qW{env cH:Env}{σ σ2:Sto}(h:abw G.ids [] [] (sj cH) σ2.ids env σ=some (cH,σ2):=by kernel_rfl):bz G env σ cH σ2:=bz.go [] [] h
theorem qX{α ρ:Type}{J:α→Option ρ}{r:ρ}{env:Env}{σ:Sto}{gr:α→Env}{jo:α→Sto}(g:α)(hg:J g=some r)(h:abw G.ids [] [] (sj (gr g)) (jo g).ids env σ=some (gr g,jo g):=by kernel_rfl):
  ∃g,J g=some r∧bz G env σ (gr g) (jo g):=⟨g,hg,bz.go [] [] h⟩
variable {o:Operand}
theorem qT{p:Bool}{x y:Code}{Q:Exit→Env→Sto→Prop}{env:Env}{σ:Sto}(hp:p=true)(k:aj G x Q env σ)(hc:env.evo o=some (.bool p):=by kernel_rfl):aj G (.cond o x y) Q env σ:=A.cT hc hp k
theorem qF{p:Bool}{x y:Code}{Q:Exit→Env→Sto→Prop}{env:Env}{σ:Sto}(hp:p=false)(k:aj G y Q env σ)(hc:env.evo o=some (.bool p):=by kernel_rfl):aj G (.cond o x y) Q env σ:=A.cF hc hp k
abbrev i6(n:Int):AV:=.int .i64 n
abbrev lf{α:Type}(e:En α)(l:List α):AV:=.lst false (ml e l)
abbrev k0(x:bh):List AV:=[.int .i64 x.ID,.bool x.aX]
abbrev k1(x:aK):List AV:=[.int .i64 x.A,.int .i64 x.B,.int .i64 x.iX,.int .i64 x.iL,.int .i64 x.bX]
abbrev k2(x:aA):List AV:=[.lst false (ml aU x.aH),.lst false (ml az x.Links)]
abbrev k3(x:aS):List AV:=[.lst false (ml bO x.L),.int .i64 x.At]
abbrev k4(x:gR):List AV:=[.lst false (ml iM x.Links),.lst false (ml bO x.aH)]
abbrev k5(x:bH):List AV:=[.int .i64 x.b9,.int .i64 x.ID,.int .i64 x.Length]
abbrev k6(x:bA):List AV:=[.int .i64 x.bx,.int .i64 x.kN,.int .i64 x.bX]
abbrev k7(x:ai):List AV:=[.int .i64 x.ah,.int .i64 x.Seq,.bool x.aX,.lst false (ml bq x.Links),.lst false (ml bg x.Claims)]
abbrev k8(x:aG):List AV:=[.lst false (ml aM x.aC)]
abbrev k9(x:aW):List AV:=[.int .i64 x.ah,.int .i64 x.Seq,.bool x.aX,.lst false (ml bg x.Claims),.lst false (ml aM x.Database.aC)]
abbrev k10(x:aR):List AV:=[.int .i64 x.cD,.int .i64 x.To,.lst false (ml aM x.Database.aC)]
abbrev k11(x:gy):List AV:=[.int .i64 x.ah,.int .i64 x.Claim.b9,.int .i64 x.Claim.ID,.int .i64 x.Claim.Length]
abbrev k12(x:aB):List AV:=[.lst false (ml az x.Links),.lst false (ml aL x.aF),.lst false (ml aJ x.ay)]
end Go.Proofs.YtjdopimopgpagaaGreat
