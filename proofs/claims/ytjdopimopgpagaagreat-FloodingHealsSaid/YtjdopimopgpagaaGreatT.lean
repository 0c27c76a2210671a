/- The data of the program, as Lean data, and what is known of its types. No condition but bH bq stand in each. -/
import Derived.Test.YtjdopimopgpagaaGreatF
import Derived.Test.YtjdopimopgpagaaGreatC5
namespace Go.Proofs.YtjdopimopgpagaaGreat
open Go Go.Proofs.Tryz
set_option maxRecDepth 100000
set_option linter.all false
structure bf where
 ID:Int
 aY:Bool
instance:Inhabited bf:=⟨bf.mk (0:Int) false⟩
def aX:En bf:=⟨λx=>[.int .i64 x.ID,.bool x.aY],2,λ_=>rfl,λ_=>rfl,λ_=>rfl⟩
structure aV where
 A:Int
 B:Int
 lK:Int
 kP:Int
 cg:Int
instance:Inhabited aV:=⟨aV.mk (0:Int) (0:Int) (0:Int) (0:Int) (0:Int)⟩
def aC:En aV:=⟨λx=>[.int .i64 x.A,.int .i64 x.B,.int .i64 x.lK,.int .i64 x.kP,.int .i64 x.cg],5,λ_=>rfl,λ_=>rfl,λ_=>rfl⟩
structure aB where
 aI:List bf
 Links:List aV
instance:Inhabited aB:=⟨aB.mk [] []⟩
structure aU where
 L:List Int
 At:Int
instance:Inhabited aU:=⟨aU.mk [] (0:Int)⟩
structure lg where
 cD:Int
 To:Int
instance:Inhabited lg:=⟨lg.mk (0:Int) (0:Int)⟩
def iW:En lg:=⟨λx=>[.int .i64 x.cD,.int .i64 x.To],2,λ_=>rfl,λ_=>rfl,λ_=>rfl⟩
def xe(a b:lg):Bool:=decide (a.cD=b.cD)&&(decide (a.To=b.To)&&true)
structure gu where
 Links:List lg
 aI:List Int
instance:Inhabited gu:=⟨gu.mk [] []⟩
structure bG where
 bZ:Int
 ID:Int
 Length:Int
instance:Inhabited bG:=⟨bG.mk (0:Int) (0:Int) (0:Int)⟩
def bn:En bG:=⟨λx=>[.int .i64 x.bZ,.int .i64 x.ID,.int .i64 x.Length],3,λ_=>rfl,λ_=>rfl,λ_=>rfl⟩
def nu(a b:bG):Bool:=decide (a.bZ=b.bZ)&&(decide (a.ID=b.ID)&&(decide (a.Length=b.Length)&&true))
structure bw where
 bu:Int
 lq:Int
 cg:Int
instance:Inhabited bw:=⟨bw.mk (0:Int) (0:Int) (0:Int)⟩
def bx:En bw:=⟨λx=>[.int .i64 x.bu,.int .i64 x.lq,.int .i64 x.cg],3,λ_=>rfl,λ_=>rfl,λ_=>rfl⟩
def nv(a b:bw):Bool:=decide (a.bu=b.bu)&&(decide (a.lq=b.lq)&&(decide (a.cg=b.cg)&&true))
structure ai where
 af:Int
 Seq:Int
 aY:Bool
 Links:List bw
 Claims:List bG
instance:Inhabited ai:=⟨ai.mk (0:Int) (0:Int) false [] []⟩
def aQ:En ai:=⟨λx=>[.int .i64 x.af,.int .i64 x.Seq,.bool x.aY,.lst false (ml bx x.Links),.lst false (ml bn x.Claims)],5,λ_=>rfl,λ_=>rfl,λ_=>rfl⟩
structure aF where
 aG:List ai
instance:Inhabited aF:=⟨aF.mk []⟩
structure aO where
 af:Int
 Seq:Int
 aY:Bool
 Claims:List bG
 Database:aF
instance:Inhabited aO:=⟨aO.mk (0:Int) (0:Int) false [] (aF.mk [])⟩
def aN:En aO:=⟨λx=>[.int .i64 x.af,.int .i64 x.Seq,.bool x.aY,.lst false (ml bn x.Claims),.lst false (ml aQ x.Database.aG)],5,λ_=>rfl,λ_=>rfl,λ_=>rfl⟩
structure aR where
 cD:Int
 To:Int
 Database:aF
instance:Inhabited aR:=⟨aR.mk (0:Int) (0:Int) (aF.mk [])⟩
def aJ:En aR:=⟨λx=>[.int .i64 x.cD,.int .i64 x.To,.lst false (ml aQ x.Database.aG)],3,λ_=>rfl,λ_=>rfl,λ_=>rfl⟩
structure gR where
 af:Int
 Claim:bG
instance:Inhabited gR:=⟨gR.mk (0:Int) (bG.mk (0:Int) (0:Int) (0:Int))⟩
def eR:En gR:=⟨λx=>[.int .i64 x.af,.int .i64 x.Claim.bZ,.int .i64 x.Claim.ID,.int .i64 x.Claim.Length],4,λ_=>rfl,λ_=>rfl,λ_=>rfl⟩
structure bp where
 Data:List Int
 Bits:Int
instance:Inhabited bp:=⟨bp.mk [] (0:Int)⟩
structure bP where
 s_:bp
instance:Inhabited bP:=⟨bP.mk (bp.mk [] (0:Int))⟩
structure aj where
 Links:List aV
 aA:List aO
 aq:List aR
instance:Inhabited aj:=⟨aj.mk [] [] []⟩
structure aK where
 f_:aj
instance:Inhabited aK:=⟨aK.mk (aj.mk [] [] [])⟩
def ti1:TI:=⟨1,false,some [.nilFunc],.oth⟩
theorem tk1:cN prog 1 ti1:=⟨ty1,λzs h=>by cases h;exact ze1,trivial⟩
def ti2:TI:=⟨1,false,some [zI0],.int .i64⟩
theorem tk2:cN prog 2 ti2:=⟨ty2,λzs h=>by cases h;exact ze2,underlying2⟩
def ti3:TI:=⟨1,false,some [zI0],.int .i64⟩
theorem tk3:cN prog 3 ti3:=⟨ty3,λzs h=>by cases h;exact ze3,underlying3⟩
def ti4:TI:=⟨1,false,some [.bool false],.bool⟩
theorem tk4:cN prog 4 ti4:=⟨ty4,λzs h=>by cases h;exact ze4,underlying4⟩
def ti5:TI:=⟨1,false,some [.int .u8 0],.int .u8⟩
theorem tk5:cN prog 5 ti5:=⟨ty5,λzs h=>by cases h;exact ze5,underlying5⟩
def ti6:TI:=⟨1,false,some [.int .u8 0],.int .u8⟩
theorem tk6:cN prog 6 ti6:=⟨ty6,λzs h=>by cases h;exact ze6,underlying6⟩
def ti7:TI:=⟨4,true,some [zI0,zI0,.bool false,.int .u8 0],.struct [zI0,zI0,.bool false,.int .u8 0] [(0,1),(1,1),(2,1),(3,1)] [false,false,false,false]⟩
theorem tk7:cN prog 7 ti7:=⟨ty7,λzs h=>by cases h;exact ze7,ef str7 ⟨anJ,anK,anL,anM,trivial⟩ ⟨anN,anO,anP,anQ,trivial⟩⟩
def ti8:TI:=⟨4,true,some [zI0,zI0,.bool false,.int .u8 0],.struct [zI0,zI0,.bool false,.int .u8 0] [(0,1),(1,1),(2,1),(3,1)] [false,false,false,false]⟩
theorem tk8:cN prog 8 ti8:=⟨ty8,λzs h=>by cases h;exact ze8,ef str8 ⟨anR,anS,anT,anU,trivial⟩ ⟨anV,anW,anX,anY,trivial⟩⟩
def ti9:TI:=⟨1,false,some [.string ⟨#[]⟩],.str⟩
theorem tk9:cN prog 9 ti9:=⟨ty9,λzs h=>by cases h;exact ze9,underlying9⟩
def aoQ:TI:=⟨1,false,some [.string ⟨#[]⟩],.str⟩
theorem tk10:cN prog 10 aoQ:=⟨ty10,λzs h=>by cases h;exact ze10,underlying10⟩
def aoR:TI:=⟨1,false,some [.string ⟨#[]⟩],.str⟩
theorem tk11:cN prog 11 aoR:=⟨ty11,λzs h=>by cases h;exact ze11,underlying11⟩
def aoS:TI:=⟨1,false,some [.int .u64 0],.int .u64⟩
theorem tk12:cN prog 12 aoS:=⟨air,λzs h=>by cases h;exact ze12,underlying12⟩
def aoT:TI:=⟨2,true,some [.string ⟨#[]⟩,.int .u64 0],.struct [.string ⟨#[]⟩,.int .u64 0] [(0,1),(1,1)] [false,false]⟩
theorem tk13:cN prog 13 aoT:=⟨ty13,λzs h=>by cases h;exact ze13,ef aq1 ⟨ak8,ak9,trivial⟩ ⟨ala,alb,trivial⟩⟩
def aoU:TI:=⟨2,true,some [.string ⟨#[]⟩,.int .u64 0],.struct [.string ⟨#[]⟩,.int .u64 0] [(0,1),(1,1)] [false,false]⟩
theorem tk14:cN prog 14 aoU:=⟨ty14,λzs h=>by cases h;exact ze14,ef aq2 ⟨alc,ald,trivial⟩ ⟨ale,alf,trivial⟩⟩
def aoV:TI:=⟨1,false,some [.pointer none],.oth⟩
theorem tk15:cN prog 15 aoV:=⟨ty15,λzs h=>by cases h;exact ze15,trivial⟩
def aoW:TI:=⟨1,false,some [.pointer none],.oth⟩
theorem tk16:cN prog 16 aoW:=⟨ty16,λzs h=>by cases h;exact ze16,trivial⟩
def aoX:TI:=⟨1,false,some [.pointer none],.oth⟩
theorem tk17:cN prog 17 aoX:=⟨ais,λzs h=>by cases h;exact ze17,trivial⟩
def aoY:TI:=⟨1,true,some [.pointer none],.struct [.pointer none] [(0,1)] [false]⟩
theorem tk18:cN prog 18 aoY:=⟨ty18,λzs h=>by cases h;exact ze18,ef aq3 ⟨alg,trivial⟩ ⟨alh,trivial⟩⟩
def aoZ:TI:=⟨1,true,some [.pointer none],.struct [.pointer none] [(0,1)] [false]⟩
theorem tk19:cN prog 19 aoZ:=⟨ty19,λzs h=>by cases h;exact ze19,ef aq4 ⟨ali,trivial⟩ ⟨alj,trivial⟩⟩
def ao0:TI:=⟨1,false,some [.int .i32 0],.int .i32⟩
theorem tk21:cN prog 21 ao0:=⟨ty21,λzs h=>by cases h;exact ze21,underlying21⟩
def ao1:TI:=⟨1,false,some [zS0],.slice 3 1 8 [zI0]⟩
theorem tk22:cN prog 22 ao1:=⟨ait,λzs h=>by cases h;exact ze22,⟨sl22,aq5,aq6⟩⟩
def ao2:TI:=⟨1,false,some [zS0],.slice 86 5 40 [zI0,zI0,zI0,zI0,zI0]⟩
theorem tk23:cN prog 23 ao2:=⟨agj,λzs h=>by cases h;exact ze23,⟨sl23,aq7,aq8⟩⟩
def ao3:TI:=⟨1,false,some [zS0],.slice 53 5 72 [zI0,zI0,.bool false,zS0,zS0]⟩
theorem tk24:cN prog 24 ao3:=⟨aiu,λzs h=>by cases h;exact ze24,⟨sl24,aq9,ara⟩⟩
def ao4:TI:=⟨1,false,some [zS0],.slice 75 3 40 [zI0,zI0,zS0]⟩
theorem tk25:cN prog 25 ao4:=⟨aiv,λzs h=>by cases h;exact ze25,⟨aiw,arb,arc⟩⟩
def ao5:TI:=⟨3,true,some [zS0,zS0,zS0],.struct [zS0,zS0,zS0] [(0,1),(1,1),(2,1)] [false,false,false]⟩
theorem tk26:cN prog 26 ao5:=⟨ty26,λzs h=>by cases h;exact ze26,ef ard ⟨alk,alm,aln,trivial⟩ ⟨alo,alp,alq,trivial⟩⟩
def ao6:TI:=⟨3,true,some [zS0,zS0,zS0],.struct [zS0,zS0,zS0] [(0,1),(1,1),(2,1)] [false,false,false]⟩
theorem tk27:cN prog 27 ao6:=⟨anZ,λzs h=>by cases h;exact anC,ef arf ⟨alr,als,alu,trivial⟩ ⟨alv,alw,alx,trivial⟩⟩
def ao7:TI:=⟨1,false,some [.pointer none],.oth⟩
theorem tk28:cN prog 28 ao7:=⟨ty28,λzs h=>by cases h;exact ze28,trivial⟩
def ao8:TI:=⟨1,false,some [zS0],.slice 27 3 72 [zS0,zS0,zS0]⟩
theorem tk32:cN prog 32 ao8:=⟨ty32,λzs h=>by cases h;exact ze32,⟨sl32,arh,ari⟩⟩
def ao9:TI:=⟨1,false,some [zI0],.int .i64⟩
theorem tk34:cN prog 34 ao9:=⟨ty34,λzs h=>by cases h;exact ze34,underlying34⟩
def apa:TI:=⟨1,false,some [zS0],.slice 93 2 16 [zI0,.bool false]⟩
theorem tk43:cN prog 43 apa:=⟨an0,λzs h=>by cases h;exact ze43,⟨sl43,arj,ark⟩⟩
def apb:TI:=⟨2,true,some [zS0,zS0],.struct [zS0,zS0] [(0,1),(1,1)] [false,false]⟩
theorem tk45:cN prog 45 apb:=⟨ty45,λzs h=>by cases h;exact ze45,ef arl ⟨aly,alz,trivial⟩ ⟨alA,alB,trivial⟩⟩
def apc:TI:=⟨1,false,some [zS0],.slice 91 3 24 [zI0,zI0,zI0]⟩
theorem tk48:cN prog 48 apc:=⟨agk,λzs h=>by cases h;exact ze48,⟨sl48,arn,aro⟩⟩
def apd:TI:=⟨1,false,some [zS0],.slice 66 5 72 [zI0,zI0,.bool false,zS0,zS0]⟩
theorem tk49:cN prog 49 apd:=⟨an1,λzs h=>by cases h;exact ze49,⟨sl49,arp,arq⟩⟩
def ape:TI:=⟨1,true,some [zS0],.struct [zS0] [(0,1)] [false]⟩
theorem tk51:cN prog 51 ape:=⟨aix,λzs h=>by cases h;exact ze51,ef ars ⟨alC,trivial⟩ ⟨alD,trivial⟩⟩
def apf:TI:=⟨5,true,some [zI0,zI0,.bool false,zS0,zS0],.struct [zI0,zI0,.bool false,zS0,zS0] [(0,1),(1,1),(2,1),(3,1),(4,1)] [false,false,false,false,true]⟩
theorem tk53:cN prog 53 apf:=⟨ty53,λzs h=>by cases h;exact anD,ef art ⟨alF,alG,alH,alI,alJ,trivial⟩ ⟨alK,alL,alM,alN,alO,trivial⟩⟩
def apg:TI:=⟨1,false,some [zS0],.slice 129 2 16 [zI0,zI0]⟩
theorem tk58:cN prog 58 apg:=⟨an2,λzs h=>by cases h;exact ze58,⟨sl58,aru,arv⟩⟩
def aph:TI:=⟨2,true,some [zS0,zS0],.struct [zS0,zS0] [(0,1),(1,1)] [false,false]⟩
theorem tk60:cN prog 60 aph:=⟨ty60,λzs h=>by cases h;exact ze60,ef arw ⟨alP,alQ,trivial⟩ ⟨alR,alS,trivial⟩⟩
def api:TI:=⟨1,false,some [zS0],.slice 105 3 24 [zI0,zI0,zI0]⟩
theorem tk64:cN prog 64 api:=⟨aiy,λzs h=>by cases h;exact ze64,⟨sl64,arx,ary⟩⟩
def apj:TI:=⟨5,true,some [zI0,zI0,.bool false,zS0,zS0],.struct [zI0,zI0,.bool false,zS0,zS0] [(0,1),(1,1),(2,1),(3,1),(4,1)] [false,false,false,false,false]⟩
theorem tk65:cN prog 65 apj:=⟨ty65,λzs h=>by cases h;exact ze65,ef arz ⟨alT,alU,alV,alW,alX,trivial⟩ ⟨alY,alZ,al0,al1,al2,trivial⟩⟩
def apk:TI:=⟨5,true,some [zI0,zI0,.bool false,zS0,zS0],.struct [zI0,zI0,.bool false,zS0,zS0] [(0,1),(1,1),(2,1),(3,1),(4,1)] [false,false,false,false,false]⟩
theorem tk66:cN prog 66 apk:=⟨ty66,λzs h=>by cases h;exact anE,ef arA ⟨al3,al4,al5,al6,al7,trivial⟩ ⟨al8,al9,ama,amb,amc,trivial⟩⟩
def apl:TI:=⟨1,false,some [.nilFunc],.oth⟩
theorem tk69:cN prog 69 apl:=⟨ty69,λzs h=>by cases h;exact ze69,trivial⟩
def apm:TI:=⟨3,true,some [zI0,zI0,zS0],.struct [zI0,zI0,zS0] [(0,1),(1,1),(2,1)] [false,false,true]⟩
theorem tk75:cN prog 75 apm:=⟨ty75,λzs h=>by cases h;exact anF,ef arB ⟨amd,ame,amf,trivial⟩ ⟨amg,amh,ami,trivial⟩⟩
def apn:TI:=⟨2,true,some [zS0,zI0],.struct [zS0,zI0] [(0,1),(1,1)] [false,false]⟩
theorem tk83:cN prog 83 apn:=⟨ty83,λzs h=>by cases h;exact ze83,ef arC ⟨amj,amk,trivial⟩ ⟨aml,amm,trivial⟩⟩
def apo:TI:=⟨1,false,some [.nilFunc],.oth⟩
theorem tk84:cN prog 84 apo:=⟨ty84,λzs h=>by cases h;exact ze84,trivial⟩
def apq:TI:=⟨5,true,some [zI0,zI0,zI0,zI0,zI0],.struct [zI0,zI0,zI0,zI0,zI0] [(0,1),(1,1),(2,1),(3,1),(4,1)] [false,false,false,false,false]⟩
theorem tk86:cN prog 86 apq:=⟨ty86,λzs h=>by cases h;exact anG,ef arD ⟨amn,amo,amp,amq,amr,trivial⟩ ⟨ams,amt,amu,amv,amw,trivial⟩⟩
def apr:TI:=⟨3,true,some [zI0,zI0,zI0],.struct [zI0,zI0,zI0] [(0,1),(1,1),(2,1)] [false,false,false]⟩
theorem tk91:cN prog 91 apr:=⟨an3,λzs h=>by cases h;exact anH,ef arE ⟨amx,amy,amz,trivial⟩ ⟨amA,amB,amC,trivial⟩⟩
def aps:TI:=⟨2,true,some [zI0,.bool false],.struct [zI0,.bool false] [(0,1),(1,1)] [false,false]⟩
theorem tk93:cN prog 93 aps:=⟨ty93,λzs h=>by cases h;exact anI,ef arG ⟨amD,amE,trivial⟩ ⟨amF,amG,trivial⟩⟩
def apt:TI:=⟨1,false,some [.pointer none],.oth⟩
theorem tk94:cN prog 94 apt:=⟨ty94,λzs h=>by cases h;exact ze94,trivial⟩
def apu:TI:=⟨3,true,some [zS0,zS0,zS0],.struct [zS0,zS0,zS0] [(0,3)] [true]⟩
theorem tk97:cN prog 97 apu:=⟨ty97,λzs h=>by cases h;exact ze97,ef arH ⟨amH,trivial⟩ ⟨amI,trivial⟩⟩
def apv:TI:=⟨1,false,some [zS0],.slice 1 1 8 [.nilFunc]⟩
theorem tk98:cN prog 98 apv:=⟨ty98,λzs h=>by cases h;exact ze98,⟨sl98,arI,arJ⟩⟩
def aj2:TI:=⟨3,true,some [zI0,zI0,zI0],.struct [zI0,zI0,zI0] [(0,1),(1,1),(2,1)] [false,false,false]⟩
theorem asi:cN prog 105 aj2:=⟨arK,λzs h=>by cases h;exact ajU,ef an4 ⟨aiA,aiB,aiC,trivial⟩ ⟨aiD,aiE,aiF,trivial⟩⟩
def aj3:TI:=⟨1,false,some [.nilFunc],.oth⟩
theorem asj:cN prog 113 aj3:=⟨arL,λzs h=>by cases h;exact aqF,trivial⟩
def aj4:TI:=⟨1,false,some [.nilFunc],.oth⟩
theorem asl:cN prog 121 aj4:=⟨arM,λzs h=>by cases h;exact aqG,trivial⟩
def aj5:TI:=⟨2,true,some [zI0,zI0],.struct [zI0,zI0] [(0,1),(1,1)] [false,false]⟩
theorem asm:cN prog 129 aj5:=⟨arN,λzs h=>by cases h;exact ajV,ef an6 ⟨aiG,aiH,trivial⟩ ⟨aiI,aiJ,trivial⟩⟩
def aj6:TI:=⟨1,false,some [.nilFunc],.oth⟩
theorem asn:cN prog 132 aj6:=⟨arO,λzs h=>by cases h;exact aqH,trivial⟩
def aj7:TI:=⟨1,false,some [.pointer none],.oth⟩
theorem aso:cN prog 133 aj7:=⟨arP,λzs h=>by cases h;exact aqI,trivial⟩
def aj8:TI:=⟨1,false,some [.nilFunc],.oth⟩
theorem asp:cN prog 150 aj8:=⟨arQ,λzs h=>by cases h;exact aqJ,trivial⟩
def aj9:TI:=⟨1,false,some [.nilFunc],.oth⟩
theorem asq:cN prog 152 aj9:=⟨arR,λzs h=>by cases h;exact aqK,trivial⟩
def aka:TI:=⟨1,false,some [.nilFunc],.oth⟩
theorem asr:cN prog 154 aka:=⟨arS,λzs h=>by cases h;exact aqL,trivial⟩
def akb:TI:=⟨1,false,some [.nilFunc],.oth⟩
theorem ass:cN prog 155 akb:=⟨arT,λzs h=>by cases h;exact aqM,trivial⟩
def akc:TI:=⟨1,false,some [.nilFunc],.oth⟩
theorem ast:cN prog 158 akc:=⟨arU,λzs h=>by cases h;exact aqN,trivial⟩
def akd:TI:=⟨1,false,some [zS0],.slice 164 4 32 [zI0,zI0,zI0,zI0]⟩
theorem asu:cN prog 161 akd:=⟨arV,λzs h=>by cases h;exact aqO,⟨arW,an7,an8⟩⟩
def ake:TI:=⟨4,true,some [zI0,zI0,zI0,zI0],.struct [zI0,zI0,zI0,zI0] [(0,1),(1,3)] [false,true]⟩
theorem asv:cN prog 164 ake:=⟨arX,λzs h=>by cases h;exact ajW,ef an9 ⟨aiK,aiL,trivial⟩ ⟨aiM,aiN,trivial⟩⟩
def akf:TI:=⟨1,false,some [.nilFunc],.oth⟩
theorem asw:cN prog 165 akf:=⟨arY,λzs h=>by cases h;exact aqP,trivial⟩
def akg:TI:=⟨1,false,some [.int .u64 0],.int .u64⟩
theorem asx:cN prog 178 akg:=⟨arZ,λzs h=>by cases h;exact aqQ,underlying178⟩
def akh:TI:=⟨1,false,some [.pointer none],.oth⟩
theorem asy:cN prog 182 akh:=⟨ar0,λzs h=>by cases h;exact aqR,trivial⟩
def aki:TI:=⟨1,false,some [.nilFunc],.oth⟩
theorem asz:cN prog 187 aki:=⟨ar1,λzs h=>by cases h;exact aqS,trivial⟩
def akj:TI:=⟨1,false,some [zS0],.slice 5 1 1 [.int .u8 0]⟩
theorem asA:cN prog 189 akj:=⟨ajX,λzs h=>by cases h;exact aqT,⟨ar2,aoa,aob⟩⟩
def akk:TI:=⟨1,false,some [zI0],.int .i64⟩
theorem asB:cN prog 193 akk:=⟨ar3,λzs h=>by cases h;exact aqU,underlying193⟩
def akl:TI:=⟨1,false,some [.int .u32 0],.int .u32⟩
theorem asC:cN prog 201 akl:=⟨ar4,λzs h=>by cases h;exact aqV,underlying201⟩
def akm:TI:=⟨1,false,some [.int .u64 0],.int .u64⟩
theorem asD:cN prog 203 akm:=⟨ar5,λzs h=>by cases h;exact aqW,underlying203⟩
def akn:TI:=⟨2,true,some [zS0,zI0],.struct [zS0,zI0] [(0,1),(1,1)] [false,false]⟩
theorem asE:cN prog 208 akn:=⟨ajY,λzs h=>by cases h;exact aqX,ef aoc ⟨aiO,aiP,trivial⟩ ⟨aiQ,aiR,trivial⟩⟩
def ako:TI:=⟨2,true,some [zS0,zI0],.struct [zS0,zI0] [(0,2)] [true]⟩
theorem asF:cN prog 221 ako:=⟨ar6,λzs h=>by cases h;exact aqY,ef aod ⟨aiS,trivial⟩ ⟨aiT,trivial⟩⟩
def akp:TI:=⟨1,false,some [.pointer none],.oth⟩
theorem asG:cN prog 231 akp:=⟨ar7,λzs h=>by cases h;exact aqZ,trivial⟩
def akq:TI:=⟨1,false,some [.pointer none],.oth⟩
theorem asH:cN prog 235 akq:=⟨ar8,λzs h=>by cases h;exact aq0,trivial⟩
def tb:Tb:=[(1,ti1),(2,ti2),(3,ti3),(4,ti4),(5,ti5),(6,ti6),(7,ti7),(8,ti8),(9,ti9),(10,aoQ),(11,aoR),(12,aoS),(13,aoT),(14,aoU),(15,aoV),(16,aoW),(17,aoX),(18,aoY),(19,aoZ),(21,ao0),(22,ao1),(23,ao2),(24,ao3),(25,ao4),(26,ao5),(27,ao6),(28,ao7),(32,ao8),(34,ao9),(43,apa),(45,apb),(48,apc),(49,apd),(51,ape),(53,apf),(58,apg),(60,aph),(64,api),(65,apj),(66,apk),(69,apl),(75,apm),(83,apn),(84,apo),(86,apq),(91,apr),(93,aps),(94,apt),(97,apu),(98,apv),(105,aj2),(113,aj3),(121,aj4),(129,aj5),(132,aj6),(133,aj7),(150,aj8),(152,aj9),(154,aka),(155,akb),(158,akc),(161,akd),(164,ake),(165,akf),(178,akg),(182,akh),(187,aki),(189,akj),(193,akk),(201,akl),(203,akm),(208,akn),(221,ako),(231,akp),(235,akq)]
theorem W0:Wld prog tb:=⟨aaS,⟨tk1,tk2,tk3,tk4,tk5,tk6,tk7,tk8,tk9,tk10,tk11,tk12,tk13,tk14,tk15,tk16,tk17,tk18,tk19,tk21,tk22,tk23,tk24,tk25,tk26,tk27,tk28,tk32,tk34,tk43,tk45,tk48,tk49,tk51,tk53,tk58,tk60,tk64,tk65,tk66,tk69,tk75,tk83,tk84,tk86,tk91,tk93,tk94,tk97,tk98,asi,asj,asl,asm,asn,aso,asp,asq,asr,ass,ast,asu,asv,asw,asx,asy,asz,asA,asB,asC,asD,asE,asF,asG,asH,trivial⟩⟩
theorem ck11:aT prog 11:=⟨call11⟩
theorem ck13:aT prog 13:=⟨call13⟩
theorem apw:aT prog 15:=⟨call15⟩
theorem ck18:aT prog 18:=⟨call18⟩
theorem ck19:aT prog 19:=⟨call19⟩
theorem apx:aT prog 20:=⟨call20⟩
theorem apy:aT prog 21:=⟨call21⟩
theorem ajb:aT prog 22:=⟨call22⟩
theorem aen:aT prog 23:=⟨call23⟩
theorem ck28:aT prog 28:=⟨call28⟩
theorem uN:aT prog 29:=⟨call29⟩
theorem aa3:aT prog 32:=⟨call32⟩
theorem wV:aT prog 33:=⟨call33⟩
theorem ck35:aT prog 35:=⟨call35⟩
theorem apz:aT prog 37:=⟨call37⟩
theorem ck39:aT prog 39:=⟨call39⟩
theorem ck41:aT prog 41:=⟨call41⟩
theorem ck43:aT prog 43:=⟨call43⟩
theorem ck44:aT prog 44:=⟨call44⟩
theorem ck45:aT prog 45:=⟨call45⟩
theorem ck46:aT prog 46:=⟨call46⟩
theorem ck47:aT prog 47:=⟨call47⟩
theorem ck49:aT prog 49:=⟨call49⟩
theorem ck51:aT prog 51:=⟨call51⟩
theorem ck54:aT prog 54:=⟨call54⟩
theorem jb:aT prog 55:=⟨call55⟩
theorem ack:aT prog 56:=⟨call56⟩
theorem acm:aT prog 57:=⟨call57⟩
theorem ck58:aT prog 58:=⟨call58⟩
theorem tL:aT prog 59:=⟨call59⟩
theorem apA:aT prog 60:=⟨call60⟩
theorem apB:aT prog 61:=⟨call61⟩
theorem apC:aT prog 62:=⟨call62⟩
theorem acn:aT prog 63:=⟨call63⟩
theorem apD:aT prog 64:=⟨call64⟩
theorem ck65:aT prog 65:=⟨call65⟩
theorem ajc:aT prog 66:=⟨call66⟩
theorem ck69:aT prog 69:=⟨call69⟩
theorem aeo:aT prog 70:=⟨call70⟩
theorem apF:aT prog 71:=⟨call71⟩
theorem aco:aT prog 72:=⟨call72⟩
theorem apG:aT prog 73:=⟨call73⟩
theorem ck74:aT prog 74:=⟨call74⟩
theorem apH:aT prog 76:=⟨call76⟩
theorem acp:aT prog 78:=⟨call78⟩
theorem aa4:aT prog 79:=⟨call79⟩
theorem ck80:aT prog 80:=⟨call80⟩
theorem ck82:aT prog 82:=⟨call82⟩
theorem ck83:aT prog 83:=⟨call83⟩
theorem aep:aT prog 84:=⟨call84⟩
theorem acq:aT prog 85:=⟨call85⟩
theorem aa5:aT prog 86:=⟨call86⟩
theorem aeq:aT prog 87:=⟨call87⟩
theorem agA:aT prog 88:=⟨call88⟩
theorem zh:aT prog 89:=⟨call89⟩
theorem ck90:aT prog 90:=⟨call90⟩
theorem acr:aT prog 91:=⟨call91⟩
theorem agB:aT prog 92:=⟨call92⟩
theorem apI:aT prog 95:=⟨call95⟩
theorem ck96:aT prog 96:=⟨call96⟩
theorem acs:aT prog 97:=⟨call97⟩
theorem aer:aT prog 98:=⟨call98⟩
theorem ck99:aT prog 99:=⟨call99⟩
theorem asI:aT prog 100:=⟨call100⟩
theorem asJ:aT prog 101:=⟨call101⟩
theorem akr:aT prog 102:=⟨call102⟩
theorem aks:aT prog 103:=⟨call103⟩
theorem akt:aT prog 104:=⟨call104⟩
theorem aku:aT prog 107:=⟨call107⟩
theorem asK:aT prog 108:=⟨call108⟩
theorem akv:aT prog 109:=⟨call109⟩
theorem agC:aT prog 110:=⟨call110⟩
theorem agD:aT prog 111:=⟨call111⟩
theorem asL:aT prog 112:=⟨call112⟩
theorem adN:aT prog 113:=⟨call113⟩
theorem akw:aT prog 114:=⟨call114⟩
theorem asM:aT prog 115:=⟨call115⟩
theorem x8:aT prog 116:=⟨call116⟩
theorem adO:aT prog 117:=⟨call117⟩
theorem asN:aT prog 118:=⟨call118⟩
theorem asO:aT prog 119:=⟨call119⟩
theorem akx:aT prog 120:=⟨call120⟩
theorem x9:aT prog 122:=⟨call122⟩
theorem adP:aT prog 123:=⟨call123⟩
theorem asP:aT prog 124:=⟨call124⟩
theorem asQ:aT prog 125:=⟨call125⟩
theorem ya:aT prog 126:=⟨call126⟩
theorem agE:aT prog 127:=⟨call127⟩
theorem aky:aT prog 128:=⟨call128⟩
theorem akz:aT prog 129:=⟨call129⟩
theorem agF:aT prog 130:=⟨call130⟩
theorem asR:aT prog 131:=⟨call131⟩
theorem asS:aT prog 132:=⟨call132⟩
theorem asT:aT prog 133:=⟨call133⟩
theorem akA:aT prog 134:=⟨call134⟩
theorem gB:aT prog 135:=⟨call135⟩
theorem agG:aT prog 136:=⟨call136⟩
theorem asU:aT prog 137:=⟨call137⟩
theorem asV:aT prog 138:=⟨call138⟩
theorem asW:aT prog 139:=⟨call139⟩
theorem asX:aT prog 140:=⟨call140⟩
theorem asY:aT prog 141:=⟨call141⟩
theorem asZ:aT prog 142:=⟨call142⟩
theorem as0:aT prog 144:=⟨call144⟩
theorem as1:aT prog 145:=⟨call145⟩
theorem as2:aT prog 146:=⟨call146⟩
theorem akB:aT prog 147:=⟨call147⟩
theorem aac:aT prog 148:=⟨call148⟩
theorem akC:aT prog 149:=⟨call149⟩
theorem as3:aT prog 150:=⟨call150⟩
theorem aad:aT prog 151:=⟨call151⟩
theorem as4:aT prog 152:=⟨call152⟩
theorem as5:aT prog 153:=⟨call153⟩
theorem ig:aT prog 155:=⟨call155⟩
theorem agH:aT prog 156:=⟨call156⟩
theorem as6:aT prog 157:=⟨call157⟩
theorem akD:aT prog 158:=⟨call158⟩
theorem as7:aT prog 159:=⟨call159⟩
theorem akE:aT prog 160:=⟨call160⟩
theorem akF:aT prog 161:=⟨call161⟩
theorem akG:aT prog 162:=⟨call162⟩
theorem as8:aT prog 163:=⟨call163⟩
theorem as9:aT prog 164:=⟨call164⟩
theorem ata:aT prog 165:=⟨call165⟩
theorem atb:aT prog 166:=⟨call166⟩
theorem akH:aT prog 167:=⟨call167⟩
theorem akI:aT prog 168:=⟨call168⟩
theorem atc:aT prog 170:=⟨call170⟩
theorem akJ:aT prog 171:=⟨call171⟩
theorem atd:aT prog 172:=⟨call172⟩
theorem ate:aT prog 173:=⟨call173⟩
theorem atf:aT prog 174:=⟨call174⟩
theorem atg:aT prog 175:=⟨call175⟩
theorem ath:aT prog 176:=⟨call176⟩
theorem ati:aT prog 177:=⟨call177⟩
theorem atj:aT prog 179:=⟨call179⟩
theorem atk:aT prog 189:=⟨call189⟩
theorem akK:aT prog 192:=⟨call192⟩
theorem atl:aT prog 193:=⟨call193⟩
theorem rE:aT prog 204:=⟨call204⟩
theorem atm:aT prog 205:=⟨call205⟩
theorem atn:aT prog 213:=⟨call213⟩
theorem akL:aT prog 214:=⟨call214⟩
theorem ato:aT prog 215:=⟨call215⟩
theorem atp:aT prog 216:=⟨call216⟩
theorem atq:aT prog 217:=⟨call217⟩
theorem atr:aT prog 218:=⟨call218⟩
theorem qS{N:Nat}{ids:List Nat}{y:Code}{Q:Exit→Env→Sto→Prop}{env:Env}{σ:Sto}{id:Nat}{ops:Array Oper}{dr:Bool}(hs:List (Nat×Hint prog))(cE:Env)(σ2:Sto)(k:ay ⟨prog,N,ids⟩ y Q cE σ2)
  (h:x5 tb N ids ops dr (kg ops dr hs).1 (kg ops dr hs).2 [] hs (sL cE) σ2.ids env σ=some (cE,σ2,(kg ops dr hs).2.map λi=>(hintOf hs i).exp):=by kernel_rfl):ay ⟨prog,N,ids⟩ (.seq (.region id ops dr) y) Q env σ:=A.RS W0 [] hs cE σ2 h k
theorem qR{N:Nat}{ids:List Nat}{Q:Exit→Env→Sto→Prop}{env:Env}{σ:Sto}{id:Nat}{ops:Array Oper}{dr:Bool}(hs:List (Nat×Hint prog))(cE:Env)(σ2:Sto)(k:Q .normal cE σ2)
  (h:x5 tb N ids ops dr (kg ops dr hs).1 (kg ops dr hs).2 [] hs (sL cE) σ2.ids env σ=some (cE,σ2,(kg ops dr hs).2.map λi=>(hintOf hs i).exp):=by kernel_rfl):ay ⟨prog,N,ids⟩ (.region id ops dr) Q env σ:=A.R W0 [] hs cE σ2 h k
def apJ(n:Nat):List Nat→Bool
 |[]=>false
 |k::r=>bif Nat.beq k n then true else apJ n r
def nW{α:Type}(ks:List Nat)(new:List (Nat×α)):List (Nat×α)→List (Nat×α)
 |[]=>new
 |p::l=>bif apJ p.1 ks then nW ks new l else p::nW ks new l
section
variable {N:Nat}{ids:List Nat}{y:Code}{Q:Exit→Env→Sto→Prop}{env:Env}{σ:Sto}{id:Nat}{ops:Array Oper}{dr:Bool}(hs:List (Nat×Hint prog))(ks:List Nat)(new:Env)(js:List Nat)(nws:Sto)
theorem qD(k:ay ⟨prog,N,ids⟩ y Q (nW ks new env) (nW js nws σ))
  (h:x5 tb N ids ops dr (kg ops dr hs).1 (kg ops dr hs).2 [] hs (sL (nW ks new env)) (Sto.ids (nW js nws σ)) env σ=some (nW ks new env,nW js nws σ,(kg ops dr hs).2.map λi=>(hintOf hs i).exp):=by kernel_rfl):ay ⟨prog,N,ids⟩ (.seq (.region id ops dr) y) Q env σ:=A.RS W0 [] hs _ _ h k
theorem qDs(k:ay ⟨prog,N,ids⟩ y Q (nW ks new env) σ)
  (h:x5 tb N ids ops dr (kg ops dr hs).1 (kg ops dr hs).2 [] hs (sL (nW ks new env)) σ.ids env σ=some (nW ks new env,σ,(kg ops dr hs).2.map λi=>(hintOf hs i).exp):=by kernel_rfl):ay ⟨prog,N,ids⟩ (.seq (.region id ops dr) y) Q env σ:=A.RS W0 [] hs _ _ h k
theorem qG(k:Q .normal (nW ks new env) (nW js nws σ))
  (h:x5 tb N ids ops dr (kg ops dr hs).1 (kg ops dr hs).2 [] hs (sL (nW ks new env)) (Sto.ids (nW js nws σ)) env σ=some (nW ks new env,nW js nws σ,(kg ops dr hs).2.map λi=>(hintOf hs i).exp):=by kernel_rfl):ay ⟨prog,N,ids⟩ (.region id ops dr) Q env σ:=A.R W0 [] hs _ _ h k
theorem qGs(k:Q .normal (nW ks new env) σ)
  (h:x5 tb N ids ops dr (kg ops dr hs).1 (kg ops dr hs).2 [] hs (sL (nW ks new env)) σ.ids env σ=some (nW ks new env,σ,(kg ops dr hs).2.map λi=>(hintOf hs i).exp):=by kernel_rfl):ay ⟨prog,N,ids⟩ (.region id ops dr) Q env σ:=A.R W0 [] hs _ _ h k
end
theorem qE{N:Nat}{ids:List Nat}{fn:Func}{env:Env}{σ σ2:Sto}{R:AV}(h:ai3 tb ids [] σ2.ids fn.results.toList env σ=some (R,σ2):=by kernel_rfl):
  agv ⟨prog,N,ids⟩ fn (λa σ'=>a=R∧σ'=σ2) .ret env σ:=A.fin W0 [] rfl h
variable {G:Gl}
theorem qW{env cE:Env}{σ σ2:Sto}(h:abL G.ids [] [] (sL cE) σ2.ids env σ=some (cE,σ2):=by kernel_rfl):bA G env σ cE σ2:=bA.go [] [] h
theorem qX{α ρ:Type}{J:α→Option ρ}{r:ρ}{env:Env}{σ:Sto}{gL:α→Env}{jE:α→Sto}(g:α)(hg:J g=some r)(h:abL G.ids [] [] (sL (gL g)) (jE g).ids env σ=some (gL g,jE g):=by kernel_rfl):
  ∃g,J g=some r∧bA G env σ (gL g) (jE g):=⟨g,hg,bA.go [] [] h⟩
variable {o:Operand}
theorem qT{p:Bool}{x y:Code}{Q:Exit→Env→Sto→Prop}{env:Env}{σ:Sto}(hp:p=true)(k:ay G x Q env σ)(hc:env.evo o=some (.bool p):=by kernel_rfl):ay G (.cond o x y) Q env σ:=A.cT hc hp k
theorem qF{p:Bool}{x y:Code}{Q:Exit→Env→Sto→Prop}{env:Env}{σ:Sto}(hp:p=false)(k:ay G y Q env σ)(hc:env.evo o=some (.bool p):=by kernel_rfl):ay G (.cond o x y) Q env σ:=A.cF hc hp k
abbrev i6(n:Int):AV:=.int .i64 n
abbrev lf{α:Type}(e:En α)(l:List α):AV:=.lst false (ml e l)
abbrev k0(x:bf):List AV:=[.int .i64 x.ID,.bool x.aY]
abbrev k1(x:aV):List AV:=[.int .i64 x.A,.int .i64 x.B,.int .i64 x.lK,.int .i64 x.kP,.int .i64 x.cg]
abbrev k2(x:aB):List AV:=[.lst false (ml aX x.aI),.lst false (ml aC x.Links)]
abbrev k3(x:aU):List AV:=[.lst false (ml bK x.L),.int .i64 x.At]
abbrev k4(x:gu):List AV:=[.lst false (ml iW x.Links),.lst false (ml bK x.aI)]
abbrev k5(x:bG):List AV:=[.int .i64 x.bZ,.int .i64 x.ID,.int .i64 x.Length]
abbrev k6(x:bw):List AV:=[.int .i64 x.bu,.int .i64 x.lq,.int .i64 x.cg]
abbrev k7(x:ai):List AV:=[.int .i64 x.af,.int .i64 x.Seq,.bool x.aY,.lst false (ml bx x.Links),.lst false (ml bn x.Claims)]
abbrev k8(x:aF):List AV:=[.lst false (ml aQ x.aG)]
abbrev k9(x:aO):List AV:=[.int .i64 x.af,.int .i64 x.Seq,.bool x.aY,.lst false (ml bn x.Claims),.lst false (ml aQ x.Database.aG)]
abbrev k10(x:aR):List AV:=[.int .i64 x.cD,.int .i64 x.To,.lst false (ml aQ x.Database.aG)]
abbrev k11(x:gR):List AV:=[.int .i64 x.af,.int .i64 x.Claim.bZ,.int .i64 x.Claim.ID,.int .i64 x.Claim.Length]
abbrev k12(x:aj):List AV:=[.lst false (ml aC x.Links),.lst false (ml aN x.aA),.lst false (ml aJ x.aq)]
end Go.Proofs.YtjdopimopgpagaaGreat
