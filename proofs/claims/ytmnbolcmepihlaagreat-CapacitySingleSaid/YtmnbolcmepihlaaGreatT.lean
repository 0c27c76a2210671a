/- The data of the program, as Lean data, and what is known of its types. No condition but aX aL stand in each. -/
import Derived.Test.YtmnbolcmepihlaaGreatF
import Derived.Test.YtmnbolcmepihlaaGreatCZ
namespace Go.Proofs.YtmnbolcmepihlaaGreat
open Go Go.Proofs.Tryz
set_option maxRecDepth 100000
set_option linter.all false
structure aW where
 ID:Int
 xP:Bool
instance:Inhabited aW:=⟨aW.mk (0:Int) false⟩
def aV:En aW:=⟨λx=>[.int .i64 x.ID,.bool x.xP],2,λ_=>rfl,λ_=>rfl,λ_=>rfl⟩
structure aU where
 A:Int
 B:Int
 ec:Int
 eB:Int
 eE:Int
instance:Inhabited aU:=⟨aU.mk (0:Int) (0:Int) (0:Int) (0:Int) (0:Int)⟩
def bw:En aU:=⟨λx=>[.int .i64 x.A,.int .i64 x.B,.int .i64 x.ec,.int .i64 x.eB,.int .i64 x.eE],5,λ_=>rfl,λ_=>rfl,λ_=>rfl⟩
structure af where
 ay:List aW
 Links:List aU
instance:Inhabited af:=⟨af.mk [] []⟩
structure aC where
 aD:Int
 To:Int
instance:Inhabited aC:=⟨aC.mk (0:Int) (0:Int)⟩
def aK:En aC:=⟨λx=>[.int .i64 x.aD,.int .i64 x.To],2,λ_=>rfl,λ_=>rfl,λ_=>rfl⟩
def bt(a b:aC):Bool:=decide (a.aD=b.aD)&&(decide (a.To=b.To)&&true)
structure ai where
 Hop:aC
 cU:Int
instance:Inhabited ai:=⟨ai.mk (aC.mk (0:Int) (0:Int)) (0:Int)⟩
def aG:En ai:=⟨λx=>[.int .i64 x.Hop.aD,.int .i64 x.Hop.To,.int .i64 x.cU],3,λ_=>rfl,λ_=>rfl,λ_=>rfl⟩
structure bL where
 L:List Int
 At:Int
instance:Inhabited bL:=⟨bL.mk [] (0:Int)⟩
structure aQ where
 bx:Int
 Links:List aC
instance:Inhabited aQ:=⟨aQ.mk (0:Int) []⟩
def cu:En aQ:=⟨λx=>[.int .i64 x.bx,.lst false (ml aK x.Links)],2,λ_=>rfl,λ_=>rfl,λ_=>rfl⟩
structure bQ where
 aD:Int
 To:Int
 Count:Int
instance:Inhabited bQ:=⟨bQ.mk (0:Int) (0:Int) (0:Int)⟩
def fQ:En bQ:=⟨λx=>[.int .i64 x.aD,.int .i64 x.To,.int .i64 x.Count],3,λ_=>rfl,λ_=>rfl,λ_=>rfl⟩
structure aoI where
 ay:List Int
 Value:Int
instance:Inhabited aoI:=⟨aoI.mk [] (0:Int)⟩
structure bf where
 bx:Int
 bY:List Int
 gb:Int
instance:Inhabited bf:=⟨bf.mk (0:Int) [] (0:Int)⟩
def dB:En bf:=⟨λx=>[.int .i64 x.bx,.lst false (ml aj x.bY),.int .i64 x.gb],3,λ_=>rfl,λ_=>rfl,λ_=>rfl⟩
structure abo where
 E0:Int
 E1:Int
 E2:Int
instance:Inhabited abo:=⟨abo.mk (0:Int) (0:Int) (0:Int)⟩
def ti2:TI:=⟨1,false,some [zI0],.int .i64⟩
theorem tk2:cC prog 2 ti2:=⟨ty2,λzs h=>by cases h;exact ze2,underlying2⟩
def ti3:TI:=⟨1,false,some [zI0],.int .i64⟩
theorem tk3:cC prog 3 ti3:=⟨ty3,λzs h=>by cases h;exact ze3,underlying3⟩
def ti4:TI:=⟨1,false,some [.bool false],.bool⟩
theorem tk4:cC prog 4 ti4:=⟨ty4,λzs h=>by cases h;exact ze4,underlying4⟩
def ti5:TI:=⟨1,false,some [.int .u8 0],.int .u8⟩
theorem tk5:cC prog 5 ti5:=⟨ty5,λzs h=>by cases h;exact ze5,underlying5⟩
def ti6:TI:=⟨1,false,some [.int .u8 0],.int .u8⟩
theorem tk6:cC prog 6 ti6:=⟨ty6,λzs h=>by cases h;exact ze6,underlying6⟩
def ti7:TI:=⟨4,true,some [zI0,zI0,.bool false,.int .u8 0],.struct [zI0,zI0,.bool false,.int .u8 0] [(0,1),(1,1),(2,1),(3,1)] [false,false,false,false]⟩
theorem tk7:cC prog 7 ti7:=⟨ty7,λzs h=>by cases h;exact ze7,eX str7 ⟨amz,amA,amB,amC,trivial⟩ ⟨amD,amE,amF,amG,trivial⟩⟩
def ti8:TI:=⟨4,true,some [zI0,zI0,.bool false,.int .u8 0],.struct [zI0,zI0,.bool false,.int .u8 0] [(0,1),(1,1),(2,1),(3,1)] [false,false,false,false]⟩
theorem tk8:cC prog 8 ti8:=⟨ty8,λzs h=>by cases h;exact ze8,eX str8 ⟨amH,amI,amJ,amK,trivial⟩ ⟨amL,amM,amN,amO,trivial⟩⟩
def ti9:TI:=⟨1,false,some [.string ⟨#[]⟩],.str⟩
theorem tk9:cC prog 9 ti9:=⟨ty9,λzs h=>by cases h;exact ze9,underlying9⟩
def aoJ:TI:=⟨1,false,some [.string ⟨#[]⟩],.str⟩
theorem tk10:cC prog 10 aoJ:=⟨ty10,λzs h=>by cases h;exact ze10,underlying10⟩
def aoK:TI:=⟨1,false,some [.string ⟨#[]⟩],.str⟩
theorem tk11:cC prog 11 aoK:=⟨ty11,λzs h=>by cases h;exact ze11,underlying11⟩
def aoL:TI:=⟨1,false,some [.int .u64 0],.int .u64⟩
theorem tk12:cC prog 12 aoL:=⟨ag6,λzs h=>by cases h;exact ze12,underlying12⟩
def aoM:TI:=⟨2,true,some [.string ⟨#[]⟩,.int .u64 0],.struct [.string ⟨#[]⟩,.int .u64 0] [(0,1),(1,1)] [false,false]⟩
theorem tk13:cC prog 13 aoM:=⟨ty13,λzs h=>by cases h;exact ze13,eX aqz ⟨akj,akk,trivial⟩ ⟨akl,akm,trivial⟩⟩
def aoN:TI:=⟨2,true,some [.string ⟨#[]⟩,.int .u64 0],.struct [.string ⟨#[]⟩,.int .u64 0] [(0,1),(1,1)] [false,false]⟩
theorem tk14:cC prog 14 aoN:=⟨ty14,λzs h=>by cases h;exact ze14,eX aqA ⟨akn,ako,trivial⟩ ⟨akp,akq,trivial⟩⟩
def aoO:TI:=⟨1,false,some [.pointer none],.oth⟩
theorem tk15:cC prog 15 aoO:=⟨ty15,λzs h=>by cases h;exact ze15,trivial⟩
def aoP:TI:=⟨1,false,some [.pointer none],.oth⟩
theorem tk16:cC prog 16 aoP:=⟨ty16,λzs h=>by cases h;exact ze16,trivial⟩
def aoQ:TI:=⟨1,false,some [.pointer none],.oth⟩
theorem tk17:cC prog 17 aoQ:=⟨ag7,λzs h=>by cases h;exact ze17,trivial⟩
def aoR:TI:=⟨1,true,some [.pointer none],.struct [.pointer none] [(0,1)] [false]⟩
theorem tk18:cC prog 18 aoR:=⟨ty18,λzs h=>by cases h;exact ze18,eX aqB ⟨akr,trivial⟩ ⟨aks,trivial⟩⟩
def aoS:TI:=⟨1,true,some [.pointer none],.struct [.pointer none] [(0,1)] [false]⟩
theorem tk19:cC prog 19 aoS:=⟨ty19,λzs h=>by cases h;exact ze19,eX aqC ⟨akt,trivial⟩ ⟨aku,trivial⟩⟩
def aoT:TI:=⟨1,false,some [.int .i32 0],.int .i32⟩
theorem tk21:cC prog 21 aoT:=⟨ty21,λzs h=>by cases h;exact ze21,underlying21⟩
def aoU:TI:=⟨1,false,some [zS0],.slice 3 1 8 [zI0]⟩
theorem tk22:cC prog 22 aoU:=⟨l7,λzs h=>by cases h;exact ams,⟨ot,zv,abW⟩⟩
def aoV:TI:=⟨1,false,some [.pointer none],.oth⟩
theorem tk23:cC prog 23 aoV:=⟨ty23,λzs h=>by cases h;exact ze23,trivial⟩
def aoW:TI:=⟨1,false,some [zS0],.slice 31 2 16 [zI0,.bool false]⟩
theorem tk25:cC prog 25 aoW:=⟨ag8,λzs h=>by cases h;exact ze25,⟨sl25,aqD,aqE⟩⟩
def aoX:TI:=⟨1,false,some [zS0],.slice 62 5 40 [zI0,zI0,zI0,zI0,zI0]⟩
theorem tk26:cC prog 26 aoX:=⟨ag9,λzs h=>by cases h;exact ze26,⟨sl26,aqF,aqG⟩⟩
def aoY:TI:=⟨2,true,some [zS0,zS0],.struct [zS0,zS0] [(0,1),(1,1)] [false,false]⟩
theorem tk27:cC prog 27 aoY:=⟨ty27,λzs h=>by cases h;exact ze27,eX aqH ⟨akv,akw,trivial⟩ ⟨akx,aky,trivial⟩⟩
def aoZ:TI:=⟨2,true,some [zS0,zS0],.struct [zS0,zS0] [(0,1),(1,1)] [false,false]⟩
theorem tk28:cC prog 28 aoZ:=⟨ty28,λzs h=>by cases h;exact ze28,eX aqI ⟨akz,akA,trivial⟩ ⟨akB,akC,trivial⟩⟩
def ao0:TI:=⟨2,true,some [zI0,.bool false],.struct [zI0,.bool false] [(0,1),(1,1)] [false,false]⟩
theorem tk30:cC prog 30 ao0:=⟨ty30,λzs h=>by cases h;exact ze30,eX aqJ ⟨akD,akE,trivial⟩ ⟨akF,akG,trivial⟩⟩
def ao1:TI:=⟨2,true,some [zI0,.bool false],.struct [zI0,.bool false] [(0,1),(1,1)] [false,false]⟩
theorem tk31:cC prog 31 ao1:=⟨ty31,λzs h=>by cases h;exact amt,eX aqK ⟨akH,akI,trivial⟩ ⟨akJ,akK,trivial⟩⟩
def ao2:TI:=⟨1,false,some [zS0],.slice 84 2 16 [zI0,zI0]⟩
theorem tk34:cC prog 34 ao2:=⟨aha,λzs h=>by cases h;exact ze34,⟨sl34,aqL,aqM⟩⟩
def ao3:TI:=⟨2,true,some [zI0,zS0],.struct [zI0,zS0] [(0,1),(1,1)] [false,false]⟩
theorem tk35:cC prog 35 ao3:=⟨ty35,λzs h=>by cases h;exact ze35,eX aqN ⟨akL,akM,trivial⟩ ⟨akN,akO,trivial⟩⟩
def ao4:TI:=⟨2,true,some [zI0,zS0],.struct [zI0,zS0] [(0,1),(1,1)] [false,false]⟩
theorem tk36:cC prog 36 ao4:=⟨ty36,λzs h=>by cases h;exact amu,eX aqO ⟨akP,akQ,trivial⟩ ⟨akR,akS,trivial⟩⟩
def ao5:TI:=⟨1,false,some [zI0],.int .i64⟩
theorem tk37:cC prog 37 ao5:=⟨ty37,λzs h=>by cases h;exact ze37,underlying37⟩
def ao6:TI:=⟨1,false,some [zS0],.slice 52 3 40 [zI0,zS0,zI0]⟩
theorem tk46:cC prog 46 ao6:=⟨ty46,λzs h=>by cases h;exact ze46,⟨sl46,aqP,aqQ⟩⟩
def ao7:TI:=⟨1,false,some [zS0],.slice 36 2 32 [zI0,zS0]⟩
theorem tk48:cC prog 48 ao7:=⟨ty48,λzs h=>by cases h;exact ze48,⟨sl48,ai7,ai8⟩⟩
def ao8:TI:=⟨3,true,some [zI0,zS0,zI0],.struct [zI0,zS0,zI0] [(0,1),(1,1),(2,1)] [false,false,false]⟩
theorem tk52:cC prog 52 ao8:=⟨ty52,λzs h=>by cases h;exact amv,eX aqR ⟨akT,akU,akV,trivial⟩ ⟨akW,akX,akY,trivial⟩⟩
def ao9:TI:=⟨1,false,some [zS0],.slice 60 3 24 [zI0,zI0,zI0]⟩
theorem tk53:cC prog 53 ao9:=⟨ty53,λzs h=>by cases h;exact ze53,⟨sl53,aqS,aqT⟩⟩
def apa:TI:=⟨3,true,some [zI0,zI0,zI0],.struct [zI0,zI0,zI0] [(0,1),(1,1),(2,1)] [false,false,false]⟩
theorem tk60:cC prog 60 apa:=⟨ty60,λzs h=>by cases h;exact amw,eX aqU ⟨akZ,ak0,ak1,trivial⟩ ⟨ak2,ak3,ak4,trivial⟩⟩
def apb:TI:=⟨5,true,some [zI0,zI0,zI0,zI0,zI0],.struct [zI0,zI0,zI0,zI0,zI0] [(0,1),(1,1),(2,1),(3,1),(4,1)] [false,false,false,false,false]⟩
theorem tk62:cC prog 62 apb:=⟨ty62,λzs h=>by cases h;exact amx,eX aqV ⟨ak5,ak6,ak7,ak8,ak9,trivial⟩ ⟨ala,alb,alc,ald,ale,trivial⟩⟩
def apc:TI:=⟨1,false,some [zS0],.slice 22 1 24 [zS0]⟩
theorem tk76:cC prog 76 apc:=⟨ty76,λzs h=>by cases h;exact ze76,⟨l8,aeq,aer⟩⟩
def apd:TI:=⟨2,true,some [zI0,zI0],.struct [zI0,zI0] [(0,1),(1,1)] [false,false]⟩
theorem tk84:cC prog 84 apd:=⟨amP,λzs h=>by cases h;exact amy,eX aqW ⟨alf,alg,trivial⟩ ⟨alh,ali,trivial⟩⟩
def ajh:TI:=⟨2,true,some [zS0,zI0],.struct [zS0,zI0] [(0,1),(1,1)] [false,false]⟩
theorem arB:cC prog 103 ajh:=⟨aqX,λzs h=>by cases h;exact aqb,eX amQ ⟨ahc,ahd,trivial⟩ ⟨ahe,ahf,trivial⟩⟩
def aji:TI:=⟨1,false,some [zS0],.slice 106 1 24 [zS0]⟩
theorem arC:cC prog 105 aji:=⟨aqY,λzs h=>by cases h;exact aqc,⟨sU,afD,afE⟩⟩
def ajj:TI:=⟨1,false,some [zS0],.slice 4 1 1 [.bool false]⟩
theorem arD:cC prog 106 ajj:=⟨zx,λzs h=>by cases h;exact ai3,⟨aqZ,afF,afG⟩⟩
def ajk:TI:=⟨1,false,some [zS0],.slice 175 3 24 [zI0,zI0,zI0]⟩
theorem arE:cC prog 111 ajk:=⟨ai9,λzs h=>by cases h;exact aqd,⟨aes,amR,amS⟩⟩
def ajl:TI:=⟨100,true,some [zI0,zI0,zI0,zI0,zI0,zI0,zI0,zI0,zI0,zI0,zI0,zI0,zI0,zI0,zI0,zI0,zI0,zI0,zI0,zI0,zI0,zI0,zI0,zI0,zI0,zI0,zI0,zI0,zI0,zI0,zI0,zI0,zI0,zI0,zI0,zI0,zI0,zI0,zI0,zI0,zI0,zI0,zI0,zI0,zI0,zI0,zI0,zI0,zI0,zI0,zI0,zI0,zI0,zI0,zI0,zI0,zI0,zI0,zI0,zI0,zI0,zI0,zI0,zI0,zI0,zI0,zI0,zI0,zI0,zI0,zI0,zI0,zI0,zI0,zI0,zI0,zI0,zI0,zI0,zI0,zI0,zI0,zI0,zI0,zI0,zI0,zI0,zI0,zI0,zI0,zI0,zI0,zI0,zI0,zI0,zI0,zI0,zI0,zI0,zI0],.oth⟩
theorem arF:cC prog 114 ajl:=⟨zy,λzs h=>by cases h;exact abV,trivial⟩
def ajm:TI:=⟨1,false,some [.map none],.oth⟩
theorem arG:cC prog 125 ajm:=⟨aq0,λzs h=>by cases h;exact aqe,trivial⟩
def ajn:TI:=⟨1,false,some [.map none],.oth⟩
theorem arH:cC prog 126 ajn:=⟨aq1,λzs h=>by cases h;exact aqf,trivial⟩
def ajo:TI:=⟨1,false,some [.map none],.map 3 3 .i64⟩
theorem arI:cC prog 144 ajo:=⟨zz,λzs h=>by cases h;exact ai4,zA⟩
def ajp:TI:=⟨1,false,some [.nilFunc],.oth⟩
theorem arJ:cC prog 158 ajp:=⟨aq2,λzs h=>by cases h;exact aqg,trivial⟩
def ajq:TI:=⟨1,false,some [.pointer none],.oth⟩
theorem arK:cC prog 161 ajq:=⟨aq3,λzs h=>by cases h;exact aqh,trivial⟩
def ajr:TI:=⟨1,false,some [zS0],.slice 144 1 8 [.map none]⟩
theorem arL:cC prog 162 ajr:=⟨aja,λzs h=>by cases h;exact aqi,⟨zC,afH,amT⟩⟩
def ajs:TI:=⟨1,false,some [zS0],.slice 166 1 8 [.map none]⟩
theorem arM:cC prog 163 ajs:=⟨ajb,λzs h=>by cases h;exact aqj,⟨ajc,afI,amU⟩⟩
def ajt:TI:=⟨3,true,some [zS0,zS0,zS0],.struct [zS0,zS0,zS0] [(0,1),(1,1),(2,1)] [false,false,false]⟩
theorem arN:cC prog 165 ajt:=⟨aq4,λzs h=>by cases h;exact aqk,eX amV ⟨ahg,ahh,ahi,trivial⟩ ⟨ahj,ahk,ahl,trivial⟩⟩
def aju:TI:=⟨1,false,some [.map none],.map 3 169 .i64⟩
theorem arO:cC prog 166 aju:=⟨ajd,λzs h=>by cases h;exact ai5,wD⟩
def ajv:TI:=⟨2,true,some [zI0,zI0],.struct [zI0,zI0] [(0,1),(1,1)] [false,false]⟩
theorem arP:cC prog 169 ajv:=⟨aq5,λzs h=>by cases h;exact aql,eX amW ⟨ahm,ahn,trivial⟩ ⟨aho,ahp,trivial⟩⟩
def ajw:TI:=⟨1,false,some [.nilFunc],.oth⟩
theorem arQ:cC prog 172 ajw:=⟨aq6,λzs h=>by cases h;exact aqm,trivial⟩
def ajx:TI:=⟨3,true,some [zI0,zI0,zI0],.struct [zI0,zI0,zI0] [(0,2),(2,1)] [true,false]⟩
theorem arR:cC prog 175 ajx:=⟨aq7,λzs h=>by cases h;exact ai6,eX amX ⟨ahq,ahr,trivial⟩ ⟨ahs,aht,trivial⟩⟩
def ajy:TI:=⟨1,false,some [.nilFunc],.oth⟩
theorem arS:cC prog 177 ajy:=⟨aq8,λzs h=>by cases h;exact aqn,trivial⟩
def ajz:TI:=⟨1,false,some [.int .u64 0],.int .u64⟩
theorem arT:cC prog 178 ajz:=⟨aq9,λzs h=>by cases h;exact aqo,underlying178⟩
def ajA:TI:=⟨1,false,some [.nilFunc],.oth⟩
theorem arU:cC prog 182 ajA:=⟨ara,λzs h=>by cases h;exact aqp,trivial⟩
def ajB:TI:=⟨1,false,some [.nilFunc],.oth⟩
theorem arV:cC prog 185 ajB:=⟨arb,λzs h=>by cases h;exact aqq,trivial⟩
def ajC:TI:=⟨1,false,some [.nilFunc],.oth⟩
theorem arW:cC prog 187 ajC:=⟨ard,λzs h=>by cases h;exact aqr,trivial⟩
def ajD:TI:=⟨1,false,some [.nilFunc],.oth⟩
theorem arX:cC prog 188 ajD:=⟨arf,λzs h=>by cases h;exact aqs,trivial⟩
def ajE:TI:=⟨1,false,some [.nilFunc],.oth⟩
theorem arY:cC prog 190 ajE:=⟨arh,λzs h=>by cases h;exact aqt,trivial⟩
def ajF:TI:=⟨1,false,some [.map none],.map 3 4 .i64⟩
theorem arZ:cC prog 191 ajF:=⟨ari,λzs h=>by cases h;exact aqu,afJ⟩
def ajG:TI:=⟨1,false,some [.nilFunc],.oth⟩
theorem ar0:cC prog 198 ajG:=⟨arj,λzs h=>by cases h;exact aqv,trivial⟩
def ajH:TI:=⟨1,false,some [zI0],.int .i64⟩
theorem ar1:cC prog 245 ajH:=⟨ark,λzs h=>by cases h;exact aqw,underlying245⟩
def ajI:TI:=⟨1,false,some [.int .u32 0],.int .u32⟩
theorem ar2:cC prog 252 ajI:=⟨arl,λzs h=>by cases h;exact aqx,underlying252⟩
def ajJ:TI:=⟨1,false,some [.int .u64 0],.int .u64⟩
theorem ar3:cC prog 254 ajJ:=⟨arn,λzs h=>by cases h;exact aqy,underlying254⟩
def tb:Tb:=[(2,ti2),(3,ti3),(4,ti4),(5,ti5),(6,ti6),(7,ti7),(8,ti8),(9,ti9),(10,aoJ),(11,aoK),(12,aoL),(13,aoM),(14,aoN),(15,aoO),(16,aoP),(17,aoQ),(18,aoR),(19,aoS),(21,aoT),(22,aoU),(23,aoV),(25,aoW),(26,aoX),(27,aoY),(28,aoZ),(30,ao0),(31,ao1),(34,ao2),(35,ao3),(36,ao4),(37,ao5),(46,ao6),(48,ao7),(52,ao8),(53,ao9),(60,apa),(62,apb),(76,apc),(84,apd),(103,ajh),(105,aji),(106,ajj),(111,ajk),(114,ajl),(125,ajm),(126,ajn),(144,ajo),(158,ajp),(161,ajq),(162,ajr),(163,ajs),(165,ajt),(166,aju),(169,ajv),(172,ajw),(175,ajx),(177,ajy),(178,ajz),(182,ajA),(185,ajB),(187,ajC),(188,ajD),(190,ajE),(191,ajF),(198,ajG),(245,ajH),(252,ajI),(254,ajJ)]
theorem W0:Wld prog tb:=⟨hmix,⟨tk2,tk3,tk4,tk5,tk6,tk7,tk8,tk9,tk10,tk11,tk12,tk13,tk14,tk15,tk16,tk17,tk18,tk19,tk21,tk22,tk23,tk25,tk26,tk27,tk28,tk30,tk31,tk34,tk35,tk36,tk37,tk46,tk48,tk52,tk53,tk60,tk62,tk76,tk84,arB,arC,arD,arE,arF,arG,arH,arI,arJ,arK,arL,arM,arN,arO,arP,arQ,arR,arS,arT,arU,arV,arW,arX,arY,arZ,ar0,ar1,ar2,ar3,trivial⟩⟩
theorem ck12:aN prog 12:=⟨call12⟩
theorem ck13:aN prog 13:=⟨call13⟩
theorem sF:aN prog 14:=⟨call14⟩
theorem ck15:aN prog 15:=⟨call15⟩
theorem ck17:aN prog 17:=⟨call17⟩
theorem ape:aN prog 20:=⟨call20⟩
theorem ck21:aN prog 21:=⟨call21⟩
theorem ahZ:aN prog 23:=⟨call23⟩
theorem ck24:aN prog 24:=⟨call24⟩
theorem ck25:aN prog 25:=⟨call25⟩
theorem acP:aN prog 26:=⟨call26⟩
theorem ck27:aN prog 27:=⟨call27⟩
theorem aeX:aN prog 28:=⟨call28⟩
theorem ck29:aN prog 29:=⟨call29⟩
theorem apf:aN prog 30:=⟨call30⟩
theorem apg:aN prog 31:=⟨call31⟩
theorem ck45:aN prog 45:=⟨call45⟩
theorem aph:aN prog 46:=⟨call46⟩
theorem ck49:aN prog 49:=⟨call49⟩
theorem aeY:aN prog 59:=⟨call59⟩
theorem ck60:aN prog 60:=⟨call60⟩
theorem ck61:aN prog 61:=⟨call61⟩
theorem ck63:aN prog 63:=⟨call63⟩
theorem ck64:aN prog 64:=⟨call64⟩
theorem ck65:aN prog 65:=⟨call65⟩
theorem ck66:aN prog 66:=⟨call66⟩
theorem ck67:aN prog 67:=⟨call67⟩
theorem ck68:aN prog 68:=⟨call68⟩
theorem ck70:aN prog 70:=⟨call70⟩
theorem ah0:aN prog 71:=⟨call71⟩
theorem apj:aN prog 72:=⟨call72⟩
theorem apk:aN prog 73:=⟨call73⟩
theorem ck74:aN prog 74:=⟨call74⟩
theorem ck75:aN prog 75:=⟨call75⟩
theorem ck76:aN prog 76:=⟨call76⟩
theorem acQ:aN prog 77:=⟨call77⟩
theorem apl:aN prog 78:=⟨call78⟩
theorem aas:aN prog 79:=⟨call79⟩
theorem apm:aN prog 80:=⟨call80⟩
theorem apn:aN prog 81:=⟨call81⟩
theorem ck82:aN prog 82:=⟨call82⟩
theorem ah1:aN prog 83:=⟨call83⟩
theorem apo:aN prog 84:=⟨call84⟩
theorem apq:aN prog 85:=⟨call85⟩
theorem ah2:aN prog 86:=⟨call86⟩
theorem ah3:aN prog 87:=⟨call87⟩
theorem ck88:aN prog 88:=⟨call88⟩
theorem ck89:aN prog 89:=⟨call89⟩
theorem ck90:aN prog 90:=⟨call90⟩
theorem ah4:aN prog 91:=⟨call91⟩
theorem pz:aN prog 106:=⟨call106⟩
theorem ar4:aN prog 109:=⟨call109⟩
theorem ar5:aN prog 110:=⟨call110⟩
theorem xQ:aN prog 119:=⟨call119⟩
theorem uX:aN prog 120:=⟨call120⟩
theorem ar6:aN prog 121:=⟨call121⟩
theorem abZ:aN prog 122:=⟨call122⟩
theorem ar7:aN prog 123:=⟨call123⟩
theorem ar8:aN prog 124:=⟨call124⟩
theorem zM:aN prog 126:=⟨call126⟩
theorem ar9:aN prog 127:=⟨call127⟩
theorem aeZ:aN prog 129:=⟨call129⟩
theorem asa:aN prog 130:=⟨call130⟩
theorem ajK:aN prog 131:=⟨call131⟩
theorem asb:aN prog 132:=⟨call132⟩
theorem asd:aN prog 133:=⟨call133⟩
theorem uY:aN prog 134:=⟨call134⟩
theorem ae0:aN prog 135:=⟨call135⟩
theorem ajL:aN prog 136:=⟨call136⟩
theorem ajM:aN prog 137:=⟨call137⟩
theorem ae1:aN prog 138:=⟨call138⟩
theorem ase:aN prog 139:=⟨call139⟩
theorem asf:aN prog 140:=⟨call140⟩
theorem asg:aN prog 141:=⟨call141⟩
theorem ab0:aN prog 142:=⟨call142⟩
theorem ash:aN prog 143:=⟨call143⟩
theorem asi:aN prog 144:=⟨call144⟩
theorem ajN:aN prog 145:=⟨call145⟩
theorem asj:aN prog 146:=⟨call146⟩
theorem uZ:aN prog 147:=⟨call147⟩
theorem ab1:aN prog 148:=⟨call148⟩
theorem ab2:aN prog 149:=⟨call149⟩
theorem asl:aN prog 150:=⟨call150⟩
theorem asm:aN prog 151:=⟨call151⟩
theorem asn:aN prog 152:=⟨call152⟩
theorem aso:aN prog 153:=⟨call153⟩
theorem asp:aN prog 154:=⟨call154⟩
theorem asq:aN prog 156:=⟨call156⟩
theorem asr:aN prog 157:=⟨call157⟩
theorem u0:aN prog 164:=⟨call164⟩
theorem ajO:aN prog 172:=⟨call172⟩
theorem ass:aN prog 178:=⟨call178⟩
theorem ast:aN prog 180:=⟨call180⟩
theorem asu:aN prog 181:=⟨call181⟩
theorem asv:aN prog 182:=⟨call182⟩
theorem asw:aN prog 183:=⟨call183⟩
theorem asx:aN prog 185:=⟨call185⟩
theorem ae2:aN prog 186:=⟨call186⟩
theorem asy:aN prog 207:=⟨call207⟩
theorem asz:aN prog 216:=⟨call216⟩
theorem qS{N:Nat}{ids:List Nat}{y:Code}{Q:Exit→Env→Sto→Prop}{env:Env}{σ:Sto}{id:Nat}{ops:Array Oper}{dr:Bool}(hs:List (Nat×Hint prog))(bJ:Env)(σ2:Sto)(k:ah ⟨prog,N,ids⟩ y Q bJ σ2)
  (h:uM tb N ids ops dr (iU ops dr hs).1 (iU ops dr hs).2 [] hs (nG bJ) σ2.ids env σ=some (bJ,σ2,(iU ops dr hs).2.map λi=>(hintOf hs i).exp):=by kernel_rfl):ah ⟨prog,N,ids⟩ (.seq (.region id ops dr) y) Q env σ:=A.RS W0 [] hs bJ σ2 h k
theorem qR{N:Nat}{ids:List Nat}{Q:Exit→Env→Sto→Prop}{env:Env}{σ:Sto}{id:Nat}{ops:Array Oper}{dr:Bool}(hs:List (Nat×Hint prog))(bJ:Env)(σ2:Sto)(k:Q .normal bJ σ2)
  (h:uM tb N ids ops dr (iU ops dr hs).1 (iU ops dr hs).2 [] hs (nG bJ) σ2.ids env σ=some (bJ,σ2,(iU ops dr hs).2.map λi=>(hintOf hs i).exp):=by kernel_rfl):ah ⟨prog,N,ids⟩ (.region id ops dr) Q env σ:=A.R W0 [] hs bJ σ2 h k
def apr(n:Nat):List Nat→Bool
 |[]=>false
 |k::r=>bif Nat.beq k n then true else apr n r
def lJ{α:Type}(ks:List Nat)(new:List (Nat×α)):List (Nat×α)→List (Nat×α)
 |[]=>new
 |p::l=>bif apr p.1 ks then lJ ks new l else p::lJ ks new l
section
variable {N:Nat}{ids:List Nat}{y:Code}{Q:Exit→Env→Sto→Prop}{env:Env}{σ:Sto}{id:Nat}{ops:Array Oper}{dr:Bool}(hs:List (Nat×Hint prog))(ks:List Nat)(new:Env)(js:List Nat)(nws:Sto)
theorem qD(k:ah ⟨prog,N,ids⟩ y Q (lJ ks new env) (lJ js nws σ))
  (h:uM tb N ids ops dr (iU ops dr hs).1 (iU ops dr hs).2 [] hs (nG (lJ ks new env)) (Sto.ids (lJ js nws σ)) env σ=some (lJ ks new env,lJ js nws σ,(iU ops dr hs).2.map λi=>(hintOf hs i).exp):=by kernel_rfl):ah ⟨prog,N,ids⟩ (.seq (.region id ops dr) y) Q env σ:=A.RS W0 [] hs _ _ h k
theorem qDs(k:ah ⟨prog,N,ids⟩ y Q (lJ ks new env) σ)
  (h:uM tb N ids ops dr (iU ops dr hs).1 (iU ops dr hs).2 [] hs (nG (lJ ks new env)) σ.ids env σ=some (lJ ks new env,σ,(iU ops dr hs).2.map λi=>(hintOf hs i).exp):=by kernel_rfl):ah ⟨prog,N,ids⟩ (.seq (.region id ops dr) y) Q env σ:=A.RS W0 [] hs _ _ h k
theorem qG(k:Q .normal (lJ ks new env) (lJ js nws σ))
  (h:uM tb N ids ops dr (iU ops dr hs).1 (iU ops dr hs).2 [] hs (nG (lJ ks new env)) (Sto.ids (lJ js nws σ)) env σ=some (lJ ks new env,lJ js nws σ,(iU ops dr hs).2.map λi=>(hintOf hs i).exp):=by kernel_rfl):ah ⟨prog,N,ids⟩ (.region id ops dr) Q env σ:=A.R W0 [] hs _ _ h k
theorem qGs(k:Q .normal (lJ ks new env) σ)
  (h:uM tb N ids ops dr (iU ops dr hs).1 (iU ops dr hs).2 [] hs (nG (lJ ks new env)) σ.ids env σ=some (lJ ks new env,σ,(iU ops dr hs).2.map λi=>(hintOf hs i).exp):=by kernel_rfl):ah ⟨prog,N,ids⟩ (.region id ops dr) Q env σ:=A.R W0 [] hs _ _ h k
end
theorem qE{N:Nat}{ids:List Nat}{fn:Func}{env:Env}{σ σ2:Sto}{R:AV}(h:ahB tb ids [] σ2.ids fn.results.toList env σ=some (R,σ2):=by kernel_rfl):
  nI ⟨prog,N,ids⟩ fn (λa σ'=>a=R∧σ'=σ2) .ret env σ:=A.fin W0 [] rfl h
variable {G:Gl}
theorem qW{env bJ:Env}{σ σ2:Sto}(h:zF G.ids [] [] (nG bJ) σ2.ids env σ=some (bJ,σ2):=by kernel_rfl):aZ G env σ bJ σ2:=aZ.go [] [] h
theorem qX{α ρ:Type}{J:α→Option ρ}{r:ρ}{env:Env}{σ:Sto}{cm:α→Env}{cZ:α→Sto}(g:α)(hg:J g=some r)(h:zF G.ids [] [] (nG (cm g)) (cZ g).ids env σ=some (cm g,cZ g):=by kernel_rfl):
  ∃g,J g=some r∧aZ G env σ (cm g) (cZ g):=⟨g,hg,aZ.go [] [] h⟩
variable {o:Operand}
theorem qT{p:Bool}{x y:Code}{Q:Exit→Env→Sto→Prop}{env:Env}{σ:Sto}(hp:p=true)(k:ah G x Q env σ)(hc:env.evo o=some (.bool p):=by kernel_rfl):ah G (.cond o x y) Q env σ:=A.cT hc hp k
theorem qF{p:Bool}{x y:Code}{Q:Exit→Env→Sto→Prop}{env:Env}{σ:Sto}(hp:p=false)(k:ah G y Q env σ)(hc:env.evo o=some (.bool p):=by kernel_rfl):ah G (.cond o x y) Q env σ:=A.cF hc hp k
abbrev i6(n:Int):AV:=.int .i64 n
abbrev lf{α:Type}(e:En α)(l:List α):AV:=.lst false (ml e l)
abbrev k0(x:aW):List AV:=[.int .i64 x.ID,.bool x.xP]
abbrev k1(x:aU):List AV:=[.int .i64 x.A,.int .i64 x.B,.int .i64 x.ec,.int .i64 x.eB,.int .i64 x.eE]
abbrev k2(x:af):List AV:=[.lst false (ml aV x.ay),.lst false (ml bw x.Links)]
abbrev k3(x:aC):List AV:=[.int .i64 x.aD,.int .i64 x.To]
abbrev k4(x:ai):List AV:=[.int .i64 x.Hop.aD,.int .i64 x.Hop.To,.int .i64 x.cU]
abbrev k5(x:bL):List AV:=[.lst false (ml aj x.L),.int .i64 x.At]
abbrev k6(x:aQ):List AV:=[.int .i64 x.bx,.lst false (ml aK x.Links)]
abbrev k7(x:bQ):List AV:=[.int .i64 x.aD,.int .i64 x.To,.int .i64 x.Count]
abbrev k8(x:bf):List AV:=[.int .i64 x.bx,.lst false (ml aj x.bY),.int .i64 x.gb]
end Go.Proofs.YtmnbolcmepihlaaGreat
