/- The data of the program, as Lean data, and what is known of its types. No condition but bf aM stand in each. -/
import Derived.Test.YtmnbolcmepihlaaGreatF
import Derived.Test.YtmnbolcmepihlaaGreatCZ
namespace Go.Proofs.YtmnbolcmepihlaaGreat
open Go Go.Proofs.Tryz
set_option maxRecDepth 100000
set_option linter.all false
structure bg where
 ID:Int
 xU:Bool
instance:Inhabited bg:=⟨bg.mk (0:Int) false⟩
def bt:En bg:=⟨λx=>[.int .i64 x.ID,.bool x.xU],2,λ_=>rfl,λ_=>rfl,λ_=>rfl⟩
structure bk where
 A:Int
 B:Int
 eZ:Int
 gj:Int
 dZ:Int
instance:Inhabited bk:=⟨bk.mk (0:Int) (0:Int) (0:Int) (0:Int) (0:Int)⟩
def bD:En bk:=⟨λx=>[.int .i64 x.A,.int .i64 x.B,.int .i64 x.eZ,.int .i64 x.gj,.int .i64 x.dZ],5,λ_=>rfl,λ_=>rfl,λ_=>rfl⟩
structure ai where
 aC:List bg
 Links:List bk
instance:Inhabited ai:=⟨ai.mk [] []⟩
structure az where
 aD:Int
 To:Int
instance:Inhabited az:=⟨az.mk (0:Int) (0:Int)⟩
def aJ:En az:=⟨λx=>[.int .i64 x.aD,.int .i64 x.To],2,λ_=>rfl,λ_=>rfl,λ_=>rfl⟩
def bA(a b:az):Bool:=decide (a.aD=b.aD)&&(decide (a.To=b.To)&&true)
structure ah where
 Hop:az
 dx:Int
instance:Inhabited ah:=⟨ah.mk (az.mk (0:Int) (0:Int)) (0:Int)⟩
def aH:En ah:=⟨λx=>[.int .i64 x.Hop.aD,.int .i64 x.Hop.To,.int .i64 x.dx],3,λ_=>rfl,λ_=>rfl,λ_=>rfl⟩
structure bL where
 L:List Int
 At:Int
instance:Inhabited bL:=⟨bL.mk [] (0:Int)⟩
structure aT where
 bw:Int
 Links:List az
instance:Inhabited aT:=⟨aT.mk (0:Int) []⟩
def cr:En aT:=⟨λx=>[.int .i64 x.bw,.lst false (ml aJ x.Links)],2,λ_=>rfl,λ_=>rfl,λ_=>rfl⟩
structure aR where
 aD:Int
 To:Int
 Count:Int
instance:Inhabited aR:=⟨aR.mk (0:Int) (0:Int) (0:Int)⟩
def bn:En aR:=⟨λx=>[.int .i64 x.aD,.int .i64 x.To,.int .i64 x.Count],3,λ_=>rfl,λ_=>rfl,λ_=>rfl⟩
structure aoM where
 aC:List Int
 Value:Int
instance:Inhabited aoM:=⟨aoM.mk [] (0:Int)⟩
structure aN where
 bw:Int
 aV:List Int
 bM:Int
instance:Inhabited aN:=⟨aN.mk (0:Int) [] (0:Int)⟩
def bH:En aN:=⟨λx=>[.int .i64 x.bw,.lst false (ml ak x.aV),.int .i64 x.bM],3,λ_=>rfl,λ_=>rfl,λ_=>rfl⟩
structure abx where
 E0:Int
 E1:Int
 E2:Int
instance:Inhabited abx:=⟨abx.mk (0:Int) (0:Int) (0:Int)⟩
def ti2:TI:=⟨1,false,some [zI0],.int .i64⟩
theorem tk2:cL prog 2 ti2:=⟨ty2,λzs h=>by cases h;exact ze2,underlying2⟩
def ti3:TI:=⟨1,false,some [zI0],.int .i64⟩
theorem tk3:cL prog 3 ti3:=⟨ty3,λzs h=>by cases h;exact ze3,underlying3⟩
def ti4:TI:=⟨1,false,some [.bool false],.bool⟩
theorem tk4:cL prog 4 ti4:=⟨ty4,λzs h=>by cases h;exact ze4,underlying4⟩
def ti5:TI:=⟨1,false,some [.int .u8 0],.int .u8⟩
theorem tk5:cL prog 5 ti5:=⟨ty5,λzs h=>by cases h;exact ze5,underlying5⟩
def ti6:TI:=⟨1,false,some [.int .u8 0],.int .u8⟩
theorem tk6:cL prog 6 ti6:=⟨ty6,λzs h=>by cases h;exact ze6,underlying6⟩
def ti7:TI:=⟨4,true,some [zI0,zI0,.bool false,.int .u8 0],.struct [zI0,zI0,.bool false,.int .u8 0] [(0,1),(1,1),(2,1),(3,1)] [false,false,false,false]⟩
theorem tk7:cL prog 7 ti7:=⟨ty7,λzs h=>by cases h;exact ze7,fe str7 ⟨amC,amD,amE,amF,trivial⟩ ⟨amG,amH,amI,amJ,trivial⟩⟩
def ti8:TI:=⟨4,true,some [zI0,zI0,.bool false,.int .u8 0],.struct [zI0,zI0,.bool false,.int .u8 0] [(0,1),(1,1),(2,1),(3,1)] [false,false,false,false]⟩
theorem tk8:cL prog 8 ti8:=⟨ty8,λzs h=>by cases h;exact ze8,fe str8 ⟨amK,amL,amM,amN,trivial⟩ ⟨amO,amP,amQ,amR,trivial⟩⟩
def ti9:TI:=⟨1,false,some [.string ⟨#[]⟩],.str⟩
theorem tk9:cL prog 9 ti9:=⟨ty9,λzs h=>by cases h;exact ze9,underlying9⟩
def aoN:TI:=⟨1,false,some [.string ⟨#[]⟩],.str⟩
theorem tk10:cL prog 10 aoN:=⟨ty10,λzs h=>by cases h;exact ze10,underlying10⟩
def aoO:TI:=⟨1,false,some [.string ⟨#[]⟩],.str⟩
theorem tk11:cL prog 11 aoO:=⟨ty11,λzs h=>by cases h;exact ze11,underlying11⟩
def aoP:TI:=⟨1,false,some [.int .u64 0],.int .u64⟩
theorem tk12:cL prog 12 aoP:=⟨ahi,λzs h=>by cases h;exact ze12,underlying12⟩
def aoQ:TI:=⟨2,true,some [.string ⟨#[]⟩,.int .u64 0],.struct [.string ⟨#[]⟩,.int .u64 0] [(0,1),(1,1)] [false,false]⟩
theorem tk13:cL prog 13 aoQ:=⟨ty13,λzs h=>by cases h;exact ze13,fe aqx ⟨akm,akn,trivial⟩ ⟨ako,akp,trivial⟩⟩
def aoR:TI:=⟨2,true,some [.string ⟨#[]⟩,.int .u64 0],.struct [.string ⟨#[]⟩,.int .u64 0] [(0,1),(1,1)] [false,false]⟩
theorem tk14:cL prog 14 aoR:=⟨ty14,λzs h=>by cases h;exact ze14,fe aqy ⟨akq,akr,trivial⟩ ⟨aks,akt,trivial⟩⟩
def aoS:TI:=⟨1,false,some [.pointer none],.oth⟩
theorem tk15:cL prog 15 aoS:=⟨ty15,λzs h=>by cases h;exact ze15,trivial⟩
def aoT:TI:=⟨1,false,some [.pointer none],.oth⟩
theorem tk16:cL prog 16 aoT:=⟨ty16,λzs h=>by cases h;exact ze16,trivial⟩
def aoU:TI:=⟨1,false,some [.pointer none],.oth⟩
theorem tk17:cL prog 17 aoU:=⟨ahj,λzs h=>by cases h;exact ze17,trivial⟩
def aoV:TI:=⟨1,true,some [.pointer none],.struct [.pointer none] [(0,1)] [false]⟩
theorem tk18:cL prog 18 aoV:=⟨ty18,λzs h=>by cases h;exact ze18,fe aqz ⟨aku,trivial⟩ ⟨akv,trivial⟩⟩
def aoW:TI:=⟨1,true,some [.pointer none],.struct [.pointer none] [(0,1)] [false]⟩
theorem tk19:cL prog 19 aoW:=⟨ty19,λzs h=>by cases h;exact ze19,fe aqA ⟨akw,trivial⟩ ⟨akx,trivial⟩⟩
def aoX:TI:=⟨1,false,some [.int .i32 0],.int .i32⟩
theorem tk21:cL prog 21 aoX:=⟨ty21,λzs h=>by cases h;exact ze21,underlying21⟩
def aoY:TI:=⟨1,false,some [zS0],.slice 3 1 8 [zI0]⟩
theorem tk22:cL prog 22 aoY:=⟨kS,λzs h=>by cases h;exact amv,⟨oz,ab0,aey⟩⟩
def aoZ:TI:=⟨1,false,some [.pointer none],.oth⟩
theorem tk23:cL prog 23 aoZ:=⟨ty23,λzs h=>by cases h;exact ze23,trivial⟩
def ao0:TI:=⟨1,false,some [zS0],.slice 31 2 16 [zI0,.bool false]⟩
theorem tk25:cL prog 25 ao0:=⟨ahk,λzs h=>by cases h;exact ze25,⟨sl25,aqB,aqC⟩⟩
def ao1:TI:=⟨1,false,some [zS0],.slice 62 5 40 [zI0,zI0,zI0,zI0,zI0]⟩
theorem tk26:cL prog 26 ao1:=⟨ahl,λzs h=>by cases h;exact ze26,⟨sl26,aqD,aqE⟩⟩
def ao2:TI:=⟨2,true,some [zS0,zS0],.struct [zS0,zS0] [(0,1),(1,1)] [false,false]⟩
theorem tk27:cL prog 27 ao2:=⟨ty27,λzs h=>by cases h;exact ze27,fe aqF ⟨aky,akz,trivial⟩ ⟨akA,akB,trivial⟩⟩
def ao3:TI:=⟨2,true,some [zS0,zS0],.struct [zS0,zS0] [(0,1),(1,1)] [false,false]⟩
theorem tk28:cL prog 28 ao3:=⟨ty28,λzs h=>by cases h;exact ze28,fe aqG ⟨akC,akD,trivial⟩ ⟨akE,akF,trivial⟩⟩
def ao4:TI:=⟨2,true,some [zI0,.bool false],.struct [zI0,.bool false] [(0,1),(1,1)] [false,false]⟩
theorem tk30:cL prog 30 ao4:=⟨ty30,λzs h=>by cases h;exact ze30,fe aqH ⟨akG,akH,trivial⟩ ⟨akI,akJ,trivial⟩⟩
def ao5:TI:=⟨2,true,some [zI0,.bool false],.struct [zI0,.bool false] [(0,1),(1,1)] [false,false]⟩
theorem tk31:cL prog 31 ao5:=⟨ty31,λzs h=>by cases h;exact amw,fe aqI ⟨akK,akL,trivial⟩ ⟨akM,akN,trivial⟩⟩
def ao6:TI:=⟨1,false,some [zS0],.slice 84 2 16 [zI0,zI0]⟩
theorem tk34:cL prog 34 ao6:=⟨ahm,λzs h=>by cases h;exact ze34,⟨sl34,aqJ,aqK⟩⟩
def ao7:TI:=⟨2,true,some [zI0,zS0],.struct [zI0,zS0] [(0,1),(1,1)] [false,false]⟩
theorem tk35:cL prog 35 ao7:=⟨ty35,λzs h=>by cases h;exact ze35,fe aqL ⟨akO,akP,trivial⟩ ⟨akQ,akR,trivial⟩⟩
def ao8:TI:=⟨2,true,some [zI0,zS0],.struct [zI0,zS0] [(0,1),(1,1)] [false,false]⟩
theorem tk36:cL prog 36 ao8:=⟨ty36,λzs h=>by cases h;exact amx,fe aqM ⟨akS,akT,trivial⟩ ⟨akU,akV,trivial⟩⟩
def ao9:TI:=⟨1,false,some [zI0],.int .i64⟩
theorem tk37:cL prog 37 ao9:=⟨ty37,λzs h=>by cases h;exact ze37,underlying37⟩
def apa:TI:=⟨1,false,some [zS0],.slice 52 3 40 [zI0,zS0,zI0]⟩
theorem tk46:cL prog 46 apa:=⟨ty46,λzs h=>by cases h;exact ze46,⟨sl46,aqN,aqO⟩⟩
def apb:TI:=⟨1,false,some [zS0],.slice 36 2 32 [zI0,zS0]⟩
theorem tk48:cL prog 48 apb:=⟨ty48,λzs h=>by cases h;exact ze48,⟨sl48,ajk,ajl⟩⟩
def apc:TI:=⟨3,true,some [zI0,zS0,zI0],.struct [zI0,zS0,zI0] [(0,1),(1,1),(2,1)] [false,false,false]⟩
theorem tk52:cL prog 52 apc:=⟨ty52,λzs h=>by cases h;exact amy,fe aqP ⟨akW,akX,akY,trivial⟩ ⟨akZ,ak0,ak1,trivial⟩⟩
def apd:TI:=⟨1,false,some [zS0],.slice 60 3 24 [zI0,zI0,zI0]⟩
theorem tk53:cL prog 53 apd:=⟨ty53,λzs h=>by cases h;exact ze53,⟨sl53,aqQ,aqR⟩⟩
def ape:TI:=⟨3,true,some [zI0,zI0,zI0],.struct [zI0,zI0,zI0] [(0,1),(1,1),(2,1)] [false,false,false]⟩
theorem tk60:cL prog 60 ape:=⟨ty60,λzs h=>by cases h;exact amz,fe aqS ⟨ak2,ak3,ak4,trivial⟩ ⟨ak5,ak6,ak7,trivial⟩⟩
def apf:TI:=⟨5,true,some [zI0,zI0,zI0,zI0,zI0],.struct [zI0,zI0,zI0,zI0,zI0] [(0,1),(1,1),(2,1),(3,1),(4,1)] [false,false,false,false,false]⟩
theorem tk62:cL prog 62 apf:=⟨ty62,λzs h=>by cases h;exact amA,fe aqT ⟨ak8,ak9,ala,alb,alc,trivial⟩ ⟨ald,ale,alf,alg,alh,trivial⟩⟩
def apg:TI:=⟨1,false,some [zS0],.slice 22 1 24 [zS0]⟩
theorem tk76:cL prog 76 apg:=⟨ty76,λzs h=>by cases h;exact ze76,⟨kT,aez,aeA⟩⟩
def aph:TI:=⟨2,true,some [zI0,zI0],.struct [zI0,zI0] [(0,1),(1,1)] [false,false]⟩
theorem tk84:cL prog 84 aph:=⟨amS,λzs h=>by cases h;exact amB,fe aqU ⟨ali,alj,trivial⟩ ⟨alk,alm,trivial⟩⟩
def aju:TI:=⟨2,true,some [zS0,zI0],.struct [zS0,zI0] [(0,1),(1,1)] [false,false]⟩
theorem arz:cL prog 103 aju:=⟨aqV,λzs h=>by cases h;exact ap9,fe amT ⟨ahn,aho,trivial⟩ ⟨ahp,ahq,trivial⟩⟩
def ajv:TI:=⟨1,false,some [zS0],.slice 106 1 24 [zS0]⟩
theorem arA:cL prog 105 ajv:=⟨aqW,λzs h=>by cases h;exact aqa,⟨s9,afU,afV⟩⟩
def ajw:TI:=⟨1,false,some [zS0],.slice 4 1 1 [.bool false]⟩
theorem arB:cL prog 106 ajw:=⟨zJ,λzs h=>by cases h;exact ajg,⟨aqX,afW,afX⟩⟩
def ajx:TI:=⟨1,false,some [zS0],.slice 175 3 24 [zI0,zI0,zI0]⟩
theorem arC:cL prog 111 ajx:=⟨ajm,λzs h=>by cases h;exact aqb,⟨aeB,amU,amV⟩⟩
def ajy:TI:=⟨100,true,some [zI0,zI0,zI0,zI0,zI0,zI0,zI0,zI0,zI0,zI0,zI0,zI0,zI0,zI0,zI0,zI0,zI0,zI0,zI0,zI0,zI0,zI0,zI0,zI0,zI0,zI0,zI0,zI0,zI0,zI0,zI0,zI0,zI0,zI0,zI0,zI0,zI0,zI0,zI0,zI0,zI0,zI0,zI0,zI0,zI0,zI0,zI0,zI0,zI0,zI0,zI0,zI0,zI0,zI0,zI0,zI0,zI0,zI0,zI0,zI0,zI0,zI0,zI0,zI0,zI0,zI0,zI0,zI0,zI0,zI0,zI0,zI0,zI0,zI0,zI0,zI0,zI0,zI0,zI0,zI0,zI0,zI0,zI0,zI0,zI0,zI0,zI0,zI0,zI0,zI0,zI0,zI0,zI0,zI0,zI0,zI0,zI0,zI0,zI0,zI0],.oth⟩
theorem arD:cL prog 114 ajy:=⟨zK,λzs h=>by cases h;exact abZ,trivial⟩
def ajz:TI:=⟨1,false,some [.map none],.oth⟩
theorem arE:cL prog 125 ajz:=⟨aqY,λzs h=>by cases h;exact aqc,trivial⟩
def ajA:TI:=⟨1,false,some [.map none],.oth⟩
theorem arF:cL prog 126 ajA:=⟨aqZ,λzs h=>by cases h;exact aqd,trivial⟩
def ajB:TI:=⟨1,false,some [.map none],.map 3 3 .i64⟩
theorem arG:cL prog 144 ajB:=⟨zM,λzs h=>by cases h;exact ajh,zN⟩
def ajC:TI:=⟨1,false,some [.nilFunc],.oth⟩
theorem arH:cL prog 158 ajC:=⟨aq0,λzs h=>by cases h;exact aqe,trivial⟩
def ajD:TI:=⟨1,false,some [.pointer none],.oth⟩
theorem arI:cL prog 161 ajD:=⟨aq1,λzs h=>by cases h;exact aqf,trivial⟩
def ajE:TI:=⟨1,false,some [zS0],.slice 144 1 8 [.map none]⟩
theorem arJ:cL prog 162 ajE:=⟨ajn,λzs h=>by cases h;exact aqg,⟨zO,afY,amW⟩⟩
def ajF:TI:=⟨1,false,some [zS0],.slice 166 1 8 [.map none]⟩
theorem arK:cL prog 163 ajF:=⟨ajo,λzs h=>by cases h;exact aqh,⟨ajp,afZ,amX⟩⟩
def ajG:TI:=⟨3,true,some [zS0,zS0,zS0],.struct [zS0,zS0,zS0] [(0,1),(1,1),(2,1)] [false,false,false]⟩
theorem arL:cL prog 165 ajG:=⟨aq2,λzs h=>by cases h;exact aqi,fe amY ⟨ahr,ahs,aht,trivial⟩ ⟨ahu,ahv,ahw,trivial⟩⟩
def ajH:TI:=⟨1,false,some [.map none],.map 3 169 .i64⟩
theorem arM:cL prog 166 ajH:=⟨ajq,λzs h=>by cases h;exact aji,wJ⟩
def ajI:TI:=⟨2,true,some [zI0,zI0],.struct [zI0,zI0] [(0,1),(1,1)] [false,false]⟩
theorem arN:cL prog 169 ajI:=⟨aq3,λzs h=>by cases h;exact aqj,fe amZ ⟨ahx,ahy,trivial⟩ ⟨ahz,ahA,trivial⟩⟩
def ajJ:TI:=⟨1,false,some [.nilFunc],.oth⟩
theorem arO:cL prog 172 ajJ:=⟨aq4,λzs h=>by cases h;exact aqk,trivial⟩
def ajK:TI:=⟨3,true,some [zI0,zI0,zI0],.struct [zI0,zI0,zI0] [(0,2),(2,1)] [true,false]⟩
theorem arP:cL prog 175 ajK:=⟨aq5,λzs h=>by cases h;exact ajj,fe am0 ⟨ahB,ahC,trivial⟩ ⟨ahD,ahE,trivial⟩⟩
def ajL:TI:=⟨1,false,some [.nilFunc],.oth⟩
theorem arQ:cL prog 177 ajL:=⟨aq6,λzs h=>by cases h;exact aql,trivial⟩
def ajM:TI:=⟨1,false,some [.int .u64 0],.int .u64⟩
theorem arR:cL prog 178 ajM:=⟨aq7,λzs h=>by cases h;exact aqm,underlying178⟩
def ajN:TI:=⟨1,false,some [.nilFunc],.oth⟩
theorem arS:cL prog 182 ajN:=⟨aq8,λzs h=>by cases h;exact aqn,trivial⟩
def ajO:TI:=⟨1,false,some [.nilFunc],.oth⟩
theorem arT:cL prog 185 ajO:=⟨aq9,λzs h=>by cases h;exact aqo,trivial⟩
def ajP:TI:=⟨1,false,some [.nilFunc],.oth⟩
theorem arU:cL prog 187 ajP:=⟨ara,λzs h=>by cases h;exact aqp,trivial⟩
def ajQ:TI:=⟨1,false,some [.nilFunc],.oth⟩
theorem arV:cL prog 188 ajQ:=⟨arb,λzs h=>by cases h;exact aqq,trivial⟩
def ajR:TI:=⟨1,false,some [.nilFunc],.oth⟩
theorem arW:cL prog 190 ajR:=⟨ard,λzs h=>by cases h;exact aqr,trivial⟩
def ajS:TI:=⟨1,false,some [.map none],.map 3 4 .i64⟩
theorem arX:cL prog 191 ajS:=⟨arf,λzs h=>by cases h;exact aqs,af0⟩
def ajT:TI:=⟨1,false,some [.nilFunc],.oth⟩
theorem arY:cL prog 198 ajT:=⟨arh,λzs h=>by cases h;exact aqt,trivial⟩
def ajU:TI:=⟨1,false,some [zI0],.int .i64⟩
theorem arZ:cL prog 245 ajU:=⟨ari,λzs h=>by cases h;exact aqu,underlying245⟩
def ajV:TI:=⟨1,false,some [.int .u32 0],.int .u32⟩
theorem ar0:cL prog 252 ajV:=⟨arj,λzs h=>by cases h;exact aqv,underlying252⟩
def ajW:TI:=⟨1,false,some [.int .u64 0],.int .u64⟩
theorem ar1:cL prog 254 ajW:=⟨ark,λzs h=>by cases h;exact aqw,underlying254⟩
def tb:Tb:=[(2,ti2),(3,ti3),(4,ti4),(5,ti5),(6,ti6),(7,ti7),(8,ti8),(9,ti9),(10,aoN),(11,aoO),(12,aoP),(13,aoQ),(14,aoR),(15,aoS),(16,aoT),(17,aoU),(18,aoV),(19,aoW),(21,aoX),(22,aoY),(23,aoZ),(25,ao0),(26,ao1),(27,ao2),(28,ao3),(30,ao4),(31,ao5),(34,ao6),(35,ao7),(36,ao8),(37,ao9),(46,apa),(48,apb),(52,apc),(53,apd),(60,ape),(62,apf),(76,apg),(84,aph),(103,aju),(105,ajv),(106,ajw),(111,ajx),(114,ajy),(125,ajz),(126,ajA),(144,ajB),(158,ajC),(161,ajD),(162,ajE),(163,ajF),(165,ajG),(166,ajH),(169,ajI),(172,ajJ),(175,ajK),(177,ajL),(178,ajM),(182,ajN),(185,ajO),(187,ajP),(188,ajQ),(190,ajR),(191,ajS),(198,ajT),(245,ajU),(252,ajV),(254,ajW)]
theorem W0:Wld prog tb:=⟨hmix,⟨tk2,tk3,tk4,tk5,tk6,tk7,tk8,tk9,tk10,tk11,tk12,tk13,tk14,tk15,tk16,tk17,tk18,tk19,tk21,tk22,tk23,tk25,tk26,tk27,tk28,tk30,tk31,tk34,tk35,tk36,tk37,tk46,tk48,tk52,tk53,tk60,tk62,tk76,tk84,arz,arA,arB,arC,arD,arE,arF,arG,arH,arI,arJ,arK,arL,arM,arN,arO,arP,arQ,arR,arS,arT,arU,arV,arW,arX,arY,arZ,ar0,ar1,trivial⟩⟩
theorem ck12:aO prog 12:=⟨call12⟩
theorem ck13:aO prog 13:=⟨call13⟩
theorem rA:aO prog 14:=⟨call14⟩
theorem ck15:aO prog 15:=⟨call15⟩
theorem ck19:aO prog 19:=⟨call19⟩
theorem ae5:aO prog 20:=⟨call20⟩
theorem aib:aO prog 21:=⟨call21⟩
theorem ck22:aO prog 22:=⟨call22⟩
theorem apj:aO prog 23:=⟨call23⟩
theorem ck24:aO prog 24:=⟨call24⟩
theorem ck25:aO prog 25:=⟨call25⟩
theorem tM:aO prog 26:=⟨call26⟩
theorem ck27:aO prog 27:=⟨call27⟩
theorem aic:aO prog 28:=⟨call28⟩
theorem ck29:aO prog 29:=⟨call29⟩
theorem aid:aO prog 33:=⟨call33⟩
theorem apk:aO prog 34:=⟨call34⟩
theorem ck45:aO prog 45:=⟨call45⟩
theorem ae6:aO prog 46:=⟨call46⟩
theorem acS:aO prog 59:=⟨call59⟩
theorem ck60:aO prog 60:=⟨call60⟩
theorem ck61:aO prog 61:=⟨call61⟩
theorem apl:aO prog 63:=⟨call63⟩
theorem ck64:aO prog 64:=⟨call64⟩
theorem ck67:aO prog 67:=⟨call67⟩
theorem ck68:aO prog 68:=⟨call68⟩
theorem apm:aO prog 70:=⟨call70⟩
theorem aie:aO prog 71:=⟨call71⟩
theorem apn:aO prog 72:=⟨call72⟩
theorem apo:aO prog 73:=⟨call73⟩
theorem ck74:aO prog 74:=⟨call74⟩
theorem ck75:aO prog 75:=⟨call75⟩
theorem ck76:aO prog 76:=⟨call76⟩
theorem acT:aO prog 77:=⟨call77⟩
theorem apq:aO prog 78:=⟨call78⟩
theorem aif:aO prog 79:=⟨call79⟩
theorem apr:aO prog 80:=⟨call80⟩
theorem aps:aO prog 81:=⟨call81⟩
theorem ck82:aO prog 82:=⟨call82⟩
theorem ae7:aO prog 83:=⟨call83⟩
theorem aih:aO prog 84:=⟨call84⟩
theorem aii:aO prog 85:=⟨call85⟩
theorem ae8:aO prog 86:=⟨call86⟩
theorem ae9:aO prog 87:=⟨call87⟩
theorem ck88:aO prog 88:=⟨call88⟩
theorem ck89:aO prog 89:=⟨call89⟩
theorem ck90:aO prog 90:=⟨call90⟩
theorem aij:aO prog 91:=⟨call91⟩
theorem ck92:aO prog 92:=⟨call92⟩
theorem ck93:aO prog 93:=⟨call93⟩
theorem ck94:aO prog 94:=⟨call94⟩
theorem apt:aO prog 95:=⟨call95⟩
theorem ck96:aO prog 96:=⟨call96⟩
theorem ck97:aO prog 97:=⟨call97⟩
theorem ck98:aO prog 98:=⟨call98⟩
theorem aik:aO prog 99:=⟨call99⟩
theorem ar2:aO prog 100:=⟨call100⟩
theorem ar3:aO prog 101:=⟨call101⟩
theorem pO:aO prog 106:=⟨call106⟩
theorem xV:aO prog 119:=⟨call119⟩
theorem vn:aO prog 120:=⟨call120⟩
theorem ar4:aO prog 121:=⟨call121⟩
theorem ab3:aO prog 122:=⟨call122⟩
theorem ar5:aO prog 123:=⟨call123⟩
theorem ar6:aO prog 124:=⟨call124⟩
theorem zX:aO prog 126:=⟨call126⟩
theorem ar7:aO prog 127:=⟨call127⟩
theorem afa:aO prog 129:=⟨call129⟩
theorem ar8:aO prog 130:=⟨call130⟩
theorem ajX:aO prog 131:=⟨call131⟩
theorem ar9:aO prog 132:=⟨call132⟩
theorem asa:aO prog 133:=⟨call133⟩
theorem vo:aO prog 134:=⟨call134⟩
theorem afb:aO prog 135:=⟨call135⟩
theorem ajY:aO prog 136:=⟨call136⟩
theorem ajZ:aO prog 137:=⟨call137⟩
theorem afc:aO prog 138:=⟨call138⟩
theorem asb:aO prog 139:=⟨call139⟩
theorem asd:aO prog 140:=⟨call140⟩
theorem ase:aO prog 141:=⟨call141⟩
theorem ab4:aO prog 142:=⟨call142⟩
theorem asf:aO prog 143:=⟨call143⟩
theorem asg:aO prog 144:=⟨call144⟩
theorem aj0:aO prog 145:=⟨call145⟩
theorem ash:aO prog 146:=⟨call146⟩
theorem vp:aO prog 147:=⟨call147⟩
theorem ab5:aO prog 148:=⟨call148⟩
theorem ab6:aO prog 149:=⟨call149⟩
theorem asi:aO prog 150:=⟨call150⟩
theorem asj:aO prog 151:=⟨call151⟩
theorem asl:aO prog 152:=⟨call152⟩
theorem asm:aO prog 153:=⟨call153⟩
theorem asn:aO prog 154:=⟨call154⟩
theorem aso:aO prog 156:=⟨call156⟩
theorem asp:aO prog 157:=⟨call157⟩
theorem zY:aO prog 159:=⟨call159⟩
theorem vq:aO prog 164:=⟨call164⟩
theorem asq:aO prog 178:=⟨call178⟩
theorem asr:aO prog 180:=⟨call180⟩
theorem ass:aO prog 181:=⟨call181⟩
theorem ast:aO prog 182:=⟨call182⟩
theorem asu:aO prog 183:=⟨call183⟩
theorem asv:aO prog 185:=⟨call185⟩
theorem afd:aO prog 186:=⟨call186⟩
theorem asw:aO prog 207:=⟨call207⟩
theorem asx:aO prog 216:=⟨call216⟩
theorem qS{N:Nat}{ids:List Nat}{y:Code}{Q:Exit→Env→Sto→Prop}{env:Env}{σ:Sto}{id:Nat}{ops:Array Oper}{dr:Bool}(hs:List (Nat×Hint prog))(bT:Env)(σ2:Sto)(k:af ⟨prog,N,ids⟩ y Q bT σ2)
  (h:u9 tb N ids ops dr (iR ops dr hs).1 (iR ops dr hs).2 [] hs (nM bT) σ2.ids env σ=some (bT,σ2,(iR ops dr hs).2.map λi=>(hintOf hs i).exp):=by kernel_rfl):af ⟨prog,N,ids⟩ (.seq (.region id ops dr) y) Q env σ:=A.RS W0 [] hs bT σ2 h k
theorem qR{N:Nat}{ids:List Nat}{Q:Exit→Env→Sto→Prop}{env:Env}{σ:Sto}{id:Nat}{ops:Array Oper}{dr:Bool}(hs:List (Nat×Hint prog))(bT:Env)(σ2:Sto)(k:Q .normal bT σ2)
  (h:u9 tb N ids ops dr (iR ops dr hs).1 (iR ops dr hs).2 [] hs (nM bT) σ2.ids env σ=some (bT,σ2,(iR ops dr hs).2.map λi=>(hintOf hs i).exp):=by kernel_rfl):af ⟨prog,N,ids⟩ (.region id ops dr) Q env σ:=A.R W0 [] hs bT σ2 h k
def apu(n:Nat):List Nat→Bool
 |[]=>false
 |k::r=>bif Nat.beq k n then true else apu n r
def lK{α:Type}(ks:List Nat)(new:List (Nat×α)):List (Nat×α)→List (Nat×α)
 |[]=>new
 |p::l=>bif apu p.1 ks then lK ks new l else p::lK ks new l
section
variable {N:Nat}{ids:List Nat}{y:Code}{Q:Exit→Env→Sto→Prop}{env:Env}{σ:Sto}{id:Nat}{ops:Array Oper}{dr:Bool}(hs:List (Nat×Hint prog))(ks:List Nat)(new:Env)(js:List Nat)(nws:Sto)
theorem qD(k:af ⟨prog,N,ids⟩ y Q (lK ks new env) (lK js nws σ))
  (h:u9 tb N ids ops dr (iR ops dr hs).1 (iR ops dr hs).2 [] hs (nM (lK ks new env)) (Sto.ids (lK js nws σ)) env σ=some (lK ks new env,lK js nws σ,(iR ops dr hs).2.map λi=>(hintOf hs i).exp):=by kernel_rfl):af ⟨prog,N,ids⟩ (.seq (.region id ops dr) y) Q env σ:=A.RS W0 [] hs _ _ h k
theorem qDs(k:af ⟨prog,N,ids⟩ y Q (lK ks new env) σ)
  (h:u9 tb N ids ops dr (iR ops dr hs).1 (iR ops dr hs).2 [] hs (nM (lK ks new env)) σ.ids env σ=some (lK ks new env,σ,(iR ops dr hs).2.map λi=>(hintOf hs i).exp):=by kernel_rfl):af ⟨prog,N,ids⟩ (.seq (.region id ops dr) y) Q env σ:=A.RS W0 [] hs _ _ h k
theorem qG(k:Q .normal (lK ks new env) (lK js nws σ))
  (h:u9 tb N ids ops dr (iR ops dr hs).1 (iR ops dr hs).2 [] hs (nM (lK ks new env)) (Sto.ids (lK js nws σ)) env σ=some (lK ks new env,lK js nws σ,(iR ops dr hs).2.map λi=>(hintOf hs i).exp):=by kernel_rfl):af ⟨prog,N,ids⟩ (.region id ops dr) Q env σ:=A.R W0 [] hs _ _ h k
theorem qGs(k:Q .normal (lK ks new env) σ)
  (h:u9 tb N ids ops dr (iR ops dr hs).1 (iR ops dr hs).2 [] hs (nM (lK ks new env)) σ.ids env σ=some (lK ks new env,σ,(iR ops dr hs).2.map λi=>(hintOf hs i).exp):=by kernel_rfl):af ⟨prog,N,ids⟩ (.region id ops dr) Q env σ:=A.R W0 [] hs _ _ h k
end
theorem qE{N:Nat}{ids:List Nat}{fn:Func}{env:Env}{σ σ2:Sto}{R:AV}(h:ahM tb ids [] σ2.ids fn.results.toList env σ=some (R,σ2):=by kernel_rfl):
  nO ⟨prog,N,ids⟩ fn (λa σ'=>a=R∧σ'=σ2) .ret env σ:=A.fin W0 [] rfl h
variable {G:Gl}
theorem qW{env bT:Env}{σ σ2:Sto}(h:zQ G.ids [] [] (nM bT) σ2.ids env σ=some (bT,σ2):=by kernel_rfl):aU G env σ bT σ2:=aU.go [] [] h
theorem qX{α ρ:Type}{J:α→Option ρ}{r:ρ}{env:Env}{σ:Sto}{cn:α→Env}{dh:α→Sto}(g:α)(hg:J g=some r)(h:zQ G.ids [] [] (nM (cn g)) (dh g).ids env σ=some (cn g,dh g):=by kernel_rfl):
  ∃g,J g=some r∧aU G env σ (cn g) (dh g):=⟨g,hg,aU.go [] [] h⟩
variable {o:Operand}
theorem qT{p:Bool}{x y:Code}{Q:Exit→Env→Sto→Prop}{env:Env}{σ:Sto}(hp:p=true)(k:af G x Q env σ)(hc:env.evo o=some (.bool p):=by kernel_rfl):af G (.cond o x y) Q env σ:=A.cT hc hp k
theorem qF{p:Bool}{x y:Code}{Q:Exit→Env→Sto→Prop}{env:Env}{σ:Sto}(hp:p=false)(k:af G y Q env σ)(hc:env.evo o=some (.bool p):=by kernel_rfl):af G (.cond o x y) Q env σ:=A.cF hc hp k
abbrev i6(n:Int):AV:=.int .i64 n
abbrev lf{α:Type}(e:En α)(l:List α):AV:=.lst false (ml e l)
abbrev k0(x:bg):List AV:=[.int .i64 x.ID,.bool x.xU]
abbrev k1(x:bk):List AV:=[.int .i64 x.A,.int .i64 x.B,.int .i64 x.eZ,.int .i64 x.gj,.int .i64 x.dZ]
abbrev k2(x:ai):List AV:=[.lst false (ml bt x.aC),.lst false (ml bD x.Links)]
abbrev k3(x:az):List AV:=[.int .i64 x.aD,.int .i64 x.To]
abbrev k4(x:ah):List AV:=[.int .i64 x.Hop.aD,.int .i64 x.Hop.To,.int .i64 x.dx]
abbrev k5(x:bL):List AV:=[.lst false (ml ak x.L),.int .i64 x.At]
abbrev k6(x:aT):List AV:=[.int .i64 x.bw,.lst false (ml aJ x.Links)]
abbrev k7(x:aR):List AV:=[.int .i64 x.aD,.int .i64 x.To,.int .i64 x.Count]
abbrev k8(x:aN):List AV:=[.int .i64 x.bw,.lst false (ml ak x.aV),.int .i64 x.bM]
end Go.Proofs.YtmnbolcmepihlaaGreat
