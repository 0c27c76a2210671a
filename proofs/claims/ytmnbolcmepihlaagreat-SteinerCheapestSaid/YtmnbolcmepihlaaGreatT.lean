/- The data of the program, as Lean data, and what is known of its types. No condition but bk aJ stand in each. -/
import Derived.Test.YtmnbolcmepihlaaGreatF
import Derived.Test.YtmnbolcmepihlaaGreatCY
namespace Go.Proofs.YtmnbolcmepihlaaGreat
open Go Go.Proofs.Tryz
set_option maxRecDepth 100000
set_option linter.all false
structure aK where
 ID:Int
 vh:Bool
instance:Inhabited aK:=⟨aK.mk (0:Int) false⟩
def aQ:En aK:=⟨λx=>[.int .i64 x.ID,.bool x.vh],2,λ_=>rfl,λ_=>rfl,λ_=>rfl⟩
structure aU where
 A:Int
 B:Int
 dL:Int
 ep:Int
 ku:Int
instance:Inhabited aU:=⟨aU.mk (0:Int) (0:Int) (0:Int) (0:Int) (0:Int)⟩
def bG:En aU:=⟨λx=>[.int .i64 x.A,.int .i64 x.B,.int .i64 x.dL,.int .i64 x.ep,.int .i64 x.ku],5,λ_=>rfl,λ_=>rfl,λ_=>rfl⟩
structure aj where
 ak:List aK
 Links:List aU
instance:Inhabited aj:=⟨aj.mk [] []⟩
structure aS where
 aH:Int
 To:Int
instance:Inhabited aS:=⟨aS.mk (0:Int) (0:Int)⟩
def br:En aS:=⟨λx=>[.int .i64 x.aH,.int .i64 x.To],2,λ_=>rfl,λ_=>rfl,λ_=>rfl⟩
structure aq where
 Hop:aS
 bO:Int
instance:Inhabited aq:=⟨aq.mk (aS.mk (0:Int) (0:Int)) (0:Int)⟩
def aR:En aq:=⟨λx=>[.int .i64 x.Hop.aH,.int .i64 x.Hop.To,.int .i64 x.bO],3,λ_=>rfl,λ_=>rfl,λ_=>rfl⟩
structure bx where
 L:List Int
 At:Int
instance:Inhabited bx:=⟨bx.mk [] (0:Int)⟩
structure bV where
 bK:Int
 Links:List aS
instance:Inhabited bV:=⟨bV.mk (0:Int) []⟩
structure jR where
 ak:List Int
 Value:Int
instance:Inhabited jR:=⟨jR.mk [] (0:Int)⟩
def eN:En jR:=⟨λx=>[.lst false (ml ai x.ak),.int .i64 x.Value],2,λ_=>rfl,λ_=>rfl,λ_=>rfl⟩
structure aZ where
 E0:Int
 E1:Int
 E2:Int
instance:Inhabited aZ:=⟨aZ.mk (0:Int) (0:Int) (0:Int)⟩
def pG:En aZ:=⟨λx=>[.int .i64 x.E0,.int .i64 x.E1,.int .i64 x.E2],3,λ_=>rfl,λ_=>rfl,λ_=>rfl⟩
def ti2:TI:=⟨1,false,some [zI0],.int .i64⟩
theorem tk2:cq prog 2 ti2:=⟨ty2,λzs h=>by cases h;exact ze2,underlying2⟩
def ti3:TI:=⟨1,false,some [zI0],.int .i64⟩
theorem tk3:cq prog 3 ti3:=⟨ty3,λzs h=>by cases h;exact ze3,underlying3⟩
def ti4:TI:=⟨1,false,some [.bool false],.bool⟩
theorem tk4:cq prog 4 ti4:=⟨ty4,λzs h=>by cases h;exact ze4,underlying4⟩
def ti5:TI:=⟨1,false,some [.int .u8 0],.int .u8⟩
theorem tk5:cq prog 5 ti5:=⟨ty5,λzs h=>by cases h;exact ze5,underlying5⟩
def ti6:TI:=⟨1,false,some [.int .u8 0],.int .u8⟩
theorem tk6:cq prog 6 ti6:=⟨ty6,λzs h=>by cases h;exact ze6,underlying6⟩
def ti7:TI:=⟨4,true,some [zI0,zI0,.bool false,.int .u8 0],.struct [zI0,zI0,.bool false,.int .u8 0] [(0,1),(1,1),(2,1),(3,1)] [false,false,false,false]⟩
theorem tk7:cq prog 7 ti7:=⟨ty7,λzs h=>by cases h;exact ze7,eE str7 ⟨ai1,ai2,ai3,ai4,trivial⟩ ⟨ai5,ai6,ai7,ai8,trivial⟩⟩
def ti8:TI:=⟨4,true,some [zI0,zI0,.bool false,.int .u8 0],.struct [zI0,zI0,.bool false,.int .u8 0] [(0,1),(1,1),(2,1),(3,1)] [false,false,false,false]⟩
theorem tk8:cq prog 8 ti8:=⟨ty8,λzs h=>by cases h;exact ze8,eE str8 ⟨ai9,aja,ajb,ajc,trivial⟩ ⟨ajd,aje,ajf,ajg,trivial⟩⟩
def ti9:TI:=⟨1,false,some [.string ⟨#[]⟩],.str⟩
theorem tk9:cq prog 9 ti9:=⟨ty9,λzs h=>by cases h;exact ze9,underlying9⟩
def akY:TI:=⟨1,false,some [.string ⟨#[]⟩],.str⟩
theorem tk10:cq prog 10 akY:=⟨ty10,λzs h=>by cases h;exact ze10,underlying10⟩
def akZ:TI:=⟨1,false,some [.string ⟨#[]⟩],.str⟩
theorem tk11:cq prog 11 akZ:=⟨ty11,λzs h=>by cases h;exact ze11,underlying11⟩
def ak0:TI:=⟨1,false,some [.int .u64 0],.int .u64⟩
theorem tk12:cq prog 12 ak0:=⟨aeb,λzs h=>by cases h;exact ze12,underlying12⟩
def ak1:TI:=⟨2,true,some [.string ⟨#[]⟩,.int .u64 0],.struct [.string ⟨#[]⟩,.int .u64 0] [(0,1),(1,1)] [false,false]⟩
theorem tk13:cq prog 13 ak1:=⟨ty13,λzs h=>by cases h;exact ze13,eE amI ⟨ahb,ahc,trivial⟩ ⟨ahd,ahe,trivial⟩⟩
def ak2:TI:=⟨2,true,some [.string ⟨#[]⟩,.int .u64 0],.struct [.string ⟨#[]⟩,.int .u64 0] [(0,1),(1,1)] [false,false]⟩
theorem tk14:cq prog 14 ak2:=⟨ty14,λzs h=>by cases h;exact ze14,eE amJ ⟨ahf,ahg,trivial⟩ ⟨ahh,ahi,trivial⟩⟩
def ak3:TI:=⟨1,false,some [.pointer none],.oth⟩
theorem tk15:cq prog 15 ak3:=⟨ty15,λzs h=>by cases h;exact ze15,trivial⟩
def ak4:TI:=⟨1,false,some [.pointer none],.oth⟩
theorem tk16:cq prog 16 ak4:=⟨ty16,λzs h=>by cases h;exact ze16,trivial⟩
def ak5:TI:=⟨1,false,some [.pointer none],.oth⟩
theorem tk17:cq prog 17 ak5:=⟨aec,λzs h=>by cases h;exact ze17,trivial⟩
def ak6:TI:=⟨1,true,some [.pointer none],.struct [.pointer none] [(0,1)] [false]⟩
theorem tk18:cq prog 18 ak6:=⟨ty18,λzs h=>by cases h;exact ze18,eE amK ⟨ahj,trivial⟩ ⟨ahk,trivial⟩⟩
def ak7:TI:=⟨1,true,some [.pointer none],.struct [.pointer none] [(0,1)] [false]⟩
theorem tk19:cq prog 19 ak7:=⟨ty19,λzs h=>by cases h;exact ze19,eE amL ⟨ahl,trivial⟩ ⟨ahm,trivial⟩⟩
def ak8:TI:=⟨1,false,some [.int .i32 0],.int .i32⟩
theorem tk21:cq prog 21 ak8:=⟨ty21,λzs h=>by cases h;exact ze21,underlying21⟩
def ak9:TI:=⟨1,false,some [zS0],.slice 3 1 8 [zI0]⟩
theorem tk22:cq prog 22 ak9:=⟨kj,λzs h=>by cases h;exact aiX,⟨mK,w6,zz⟩⟩
def ala:TI:=⟨1,false,some [.pointer none],.oth⟩
theorem tk23:cq prog 23 ala:=⟨ty23,λzs h=>by cases h;exact ze23,trivial⟩
def alb:TI:=⟨1,false,some [zS0],.slice 31 2 16 [zI0,.bool false]⟩
theorem tk25:cq prog 25 alb:=⟨aed,λzs h=>by cases h;exact ze25,⟨sl25,amM,amN⟩⟩
def alc:TI:=⟨1,false,some [zS0],.slice 62 5 40 [zI0,zI0,zI0,zI0,zI0]⟩
theorem tk26:cq prog 26 alc:=⟨aee,λzs h=>by cases h;exact ze26,⟨sl26,amO,amP⟩⟩
def ald:TI:=⟨2,true,some [zS0,zS0],.struct [zS0,zS0] [(0,1),(1,1)] [false,false]⟩
theorem tk27:cq prog 27 ald:=⟨ty27,λzs h=>by cases h;exact ze27,eE amQ ⟨ahn,aho,trivial⟩ ⟨ahp,ahq,trivial⟩⟩
def ale:TI:=⟨2,true,some [zS0,zS0],.struct [zS0,zS0] [(0,1),(1,1)] [false,false]⟩
theorem tk28:cq prog 28 ale:=⟨ty28,λzs h=>by cases h;exact ze28,eE amR ⟨ahr,ahs,trivial⟩ ⟨aht,ahu,trivial⟩⟩
def alf:TI:=⟨2,true,some [zI0,.bool false],.struct [zI0,.bool false] [(0,1),(1,1)] [false,false]⟩
theorem tk30:cq prog 30 alf:=⟨ty30,λzs h=>by cases h;exact ze30,eE amS ⟨ahv,ahw,trivial⟩ ⟨ahx,ahy,trivial⟩⟩
def alg:TI:=⟨2,true,some [zI0,.bool false],.struct [zI0,.bool false] [(0,1),(1,1)] [false,false]⟩
theorem tk31:cq prog 31 alg:=⟨ty31,λzs h=>by cases h;exact aiY,eE amT ⟨ahz,ahA,trivial⟩ ⟨ahB,ahC,trivial⟩⟩
def alh:TI:=⟨1,false,some [zS0],.slice 84 2 16 [zI0,zI0]⟩
theorem tk34:cq prog 34 alh:=⟨aef,λzs h=>by cases h;exact ze34,⟨sl34,amU,amV⟩⟩
def ali:TI:=⟨2,true,some [zI0,zS0],.struct [zI0,zS0] [(0,1),(1,1)] [false,false]⟩
theorem tk35:cq prog 35 ali:=⟨ty35,λzs h=>by cases h;exact ze35,eE amW ⟨ahD,ahE,trivial⟩ ⟨ahF,ahG,trivial⟩⟩
def alj:TI:=⟨2,true,some [zI0,zS0],.struct [zI0,zS0] [(0,1),(1,1)] [false,false]⟩
theorem tk36:cq prog 36 alj:=⟨ty36,λzs h=>by cases h;exact ze36,eE amX ⟨ahH,ahI,trivial⟩ ⟨ahJ,ahK,trivial⟩⟩
def alk:TI:=⟨1,false,some [zI0],.int .i64⟩
theorem tk37:cq prog 37 alk:=⟨ty37,λzs h=>by cases h;exact ze37,underlying37⟩
def alm:TI:=⟨5,true,some [zI0,zI0,zI0,zI0,zI0],.struct [zI0,zI0,zI0,zI0,zI0] [(0,1),(1,1),(2,1),(3,1),(4,1)] [false,false,false,false,false]⟩
theorem tk62:cq prog 62 alm:=⟨ty62,λzs h=>by cases h;exact aiZ,eE amY ⟨ahL,ahM,ahN,ahO,ahP,trivial⟩ ⟨ahQ,ahR,ahS,ahT,ahU,trivial⟩⟩
def aln:TI:=⟨1,false,some [zS0],.slice 22 1 24 [zS0]⟩
theorem tk76:cq prog 76 aln:=⟨ty76,λzs h=>by cases h;exact ze76,⟨ko,abU,abV⟩⟩
def alo:TI:=⟨2,true,some [zI0,zI0],.struct [zI0,zI0] [(0,1),(1,1)] [false,false]⟩
theorem tk84:cq prog 84 alo:=⟨ajh,λzs h=>by cases h;exact ai0,eE amZ ⟨ahV,ahW,trivial⟩ ⟨ahX,ahY,trivial⟩⟩
def alp:TI:=⟨1,false,some [zS0],.slice 120 2 32 [zS0,zI0]⟩
theorem tk85:cq prog 85 alp:=⟨ty85,λzs h=>by cases h;exact ze85,⟨sl85,am0,am1⟩⟩
def age:TI:=⟨2,true,some [zS0,zI0],.struct [zS0,zI0] [(0,1),(1,1)] [false,false]⟩
theorem anD:cq prog 103 age:=⟨am2,λzs h=>by cases h;exact amm,eE aji ⟨aeg,aeh,trivial⟩ ⟨aei,aej,trivial⟩⟩
def agf:TI:=⟨1,false,some [zS0],.slice 106 1 24 [zS0]⟩
theorem anE:cq prog 105 agf:=⟨am3,λzs h=>by cases h;exact amn,⟨qK,acX,acY⟩⟩
def agh:TI:=⟨1,false,some [zS0],.slice 4 1 1 [.bool false]⟩
theorem anG:cq prog 106 agh:=⟨w8,λzs h=>by cases h;exact afZ,⟨am4,acZ,ac0⟩⟩
def agi:TI:=⟨1,false,some [zS0],.slice 175 3 24 [zI0,zI0,zI0]⟩
theorem anH:cq prog 111 agi:=⟨af4,λzs h=>by cases h;exact amo,⟨am5,ajj,ajk⟩⟩
def agj:TI:=⟨100,true,some [zI0,zI0,zI0,zI0,zI0,zI0,zI0,zI0,zI0,zI0,zI0,zI0,zI0,zI0,zI0,zI0,zI0,zI0,zI0,zI0,zI0,zI0,zI0,zI0,zI0,zI0,zI0,zI0,zI0,zI0,zI0,zI0,zI0,zI0,zI0,zI0,zI0,zI0,zI0,zI0,zI0,zI0,zI0,zI0,zI0,zI0,zI0,zI0,zI0,zI0,zI0,zI0,zI0,zI0,zI0,zI0,zI0,zI0,zI0,zI0,zI0,zI0,zI0,zI0,zI0,zI0,zI0,zI0,zI0,zI0,zI0,zI0,zI0,zI0,zI0,zI0,zI0,zI0,zI0,zI0,zI0,zI0,zI0,zI0,zI0,zI0,zI0,zI0,zI0,zI0,zI0,zI0,zI0,zI0,zI0,zI0,zI0,zI0,zI0,zI0],.oth⟩
theorem anI:cq prog 114 agj:=⟨w9,λzs h=>by cases h;exact zy,trivial⟩
def agk:TI:=⟨2,true,some [zS0,zI0],.struct [zS0,zI0] [(0,1),(1,1)] [false,false]⟩
theorem anJ:cq prog 120 agk:=⟨am6,λzs h=>by cases h;exact af0,eE ajl ⟨aek,ael,trivial⟩ ⟨aem,aen,trivial⟩⟩
def agl:TI:=⟨1,false,some [.map none],.map 3 3 .i64⟩
theorem anK:cq prog 144 agl:=⟨xb,λzs h=>by cases h;exact af1,xd⟩
def agm:TI:=⟨1,false,some [.nilFunc],.oth⟩
theorem anL:cq prog 158 agm:=⟨am7,λzs h=>by cases h;exact amp,trivial⟩
def agn:TI:=⟨1,false,some [.pointer none],.oth⟩
theorem anM:cq prog 161 agn:=⟨am8,λzs h=>by cases h;exact amq,trivial⟩
def ago:TI:=⟨1,false,some [zS0],.slice 144 1 8 [.map none]⟩
theorem anN:cq prog 162 ago:=⟨af5,λzs h=>by cases h;exact amr,⟨xe,ac1,ajm⟩⟩
def agp:TI:=⟨1,false,some [zS0],.slice 166 1 8 [.map none]⟩
theorem anO:cq prog 163 agp:=⟨af6,λzs h=>by cases h;exact ams,⟨af7,ac2,ajn⟩⟩
def agq:TI:=⟨3,true,some [zS0,zS0,zS0],.struct [zS0,zS0,zS0] [(0,1),(1,1),(2,1)] [false,false,false]⟩
theorem anP:cq prog 165 agq:=⟨am9,λzs h=>by cases h;exact amt,eE ajo ⟨aeo,aep,aeq,trivial⟩ ⟨aer,aes,aet,trivial⟩⟩
def agr:TI:=⟨1,false,some [.map none],.map 3 169 .i64⟩
theorem anQ:cq prog 166 agr:=⟨af8,λzs h=>by cases h;exact af2,uh⟩
def agt:TI:=⟨2,true,some [zI0,zI0],.struct [zI0,zI0] [(0,1),(1,1)] [false,false]⟩
theorem anR:cq prog 169 agt:=⟨ana,λzs h=>by cases h;exact amu,eE ajp ⟨aeu,aev,trivial⟩ ⟨aew,aex,trivial⟩⟩
def agu:TI:=⟨1,false,some [.nilFunc],.oth⟩
theorem anS:cq prog 172 agu:=⟨anb,λzs h=>by cases h;exact amv,trivial⟩
def agv:TI:=⟨3,true,some [zI0,zI0,zI0],.struct [zI0,zI0,zI0] [(0,2),(2,1)] [true,false]⟩
theorem anT:cq prog 175 agv:=⟨anc,λzs h=>by cases h;exact af3,eE ajq ⟨aey,aez,trivial⟩ ⟨aeA,aeB,trivial⟩⟩
def agw:TI:=⟨1,false,some [.nilFunc],.oth⟩
theorem anU:cq prog 177 agw:=⟨ane,λzs h=>by cases h;exact amw,trivial⟩
def agx:TI:=⟨1,false,some [.int .u64 0],.int .u64⟩
theorem anV:cq prog 178 agx:=⟨anf,λzs h=>by cases h;exact amx,underlying178⟩
def agy:TI:=⟨3,true,some [zI0,zI0,zI0],.oth⟩
theorem anW:cq prog 179 agy:=⟨ang,λzs h=>by cases h;exact sD,trivial⟩
def agz:TI:=⟨1,false,some [zS0],.slice 179 3 24 [zI0,zI0,zI0]⟩
theorem anX:cq prog 180 agz:=⟨anh,λzs h=>by cases h;exact amy,⟨ani,ajr,ajs⟩⟩
def agA:TI:=⟨1,false,some [.nilFunc],.oth⟩
theorem anY:cq prog 182 agA:=⟨anj,λzs h=>by cases h;exact amz,trivial⟩
def agB:TI:=⟨1,false,some [.nilFunc],.oth⟩
theorem anZ:cq prog 185 agB:=⟨ank,λzs h=>by cases h;exact amA,trivial⟩
def agC:TI:=⟨1,false,some [.nilFunc],.oth⟩
theorem an0:cq prog 187 agC:=⟨anl,λzs h=>by cases h;exact amB,trivial⟩
def agD:TI:=⟨1,false,some [.nilFunc],.oth⟩
theorem an1:cq prog 188 agD:=⟨anm,λzs h=>by cases h;exact amC,trivial⟩
def agE:TI:=⟨1,false,some [.nilFunc],.oth⟩
theorem an2:cq prog 190 agE:=⟨ann,λzs h=>by cases h;exact amD,trivial⟩
def agF:TI:=⟨1,false,some [.map none],.map 3 4 .i64⟩
theorem an3:cq prog 191 agF:=⟨ano,λzs h=>by cases h;exact amE,ac3⟩
def agG:TI:=⟨1,false,some [zI0],.int .i64⟩
theorem an4:cq prog 245 agG:=⟨anp,λzs h=>by cases h;exact amF,underlying245⟩
def agH:TI:=⟨1,false,some [.int .u32 0],.int .u32⟩
theorem an5:cq prog 252 agH:=⟨anq,λzs h=>by cases h;exact amG,underlying252⟩
def agI:TI:=⟨1,false,some [.int .u64 0],.int .u64⟩
theorem an6:cq prog 254 agI:=⟨anr,λzs h=>by cases h;exact amH,underlying254⟩
def tb:Tb:=[(2,ti2),(3,ti3),(4,ti4),(5,ti5),(6,ti6),(7,ti7),(8,ti8),(9,ti9),(10,akY),(11,akZ),(12,ak0),(13,ak1),(14,ak2),(15,ak3),(16,ak4),(17,ak5),(18,ak6),(19,ak7),(21,ak8),(22,ak9),(23,ala),(25,alb),(26,alc),(27,ald),(28,ale),(30,alf),(31,alg),(34,alh),(35,ali),(36,alj),(37,alk),(62,alm),(76,aln),(84,alo),(85,alp),(103,age),(105,agf),(106,agh),(111,agi),(114,agj),(120,agk),(144,agl),(158,agm),(161,agn),(162,ago),(163,agp),(165,agq),(166,agr),(169,agt),(172,agu),(175,agv),(177,agw),(178,agx),(179,agy),(180,agz),(182,agA),(185,agB),(187,agC),(188,agD),(190,agE),(191,agF),(245,agG),(252,agH),(254,agI)]
theorem W0:Wld prog tb:=⟨hmix,⟨tk2,tk3,tk4,tk5,tk6,tk7,tk8,tk9,tk10,tk11,tk12,tk13,tk14,tk15,tk16,tk17,tk18,tk19,tk21,tk22,tk23,tk25,tk26,tk27,tk28,tk30,tk31,tk34,tk35,tk36,tk37,tk62,tk76,tk84,tk85,anD,anE,anG,anH,anI,anJ,anK,anL,anM,anN,anO,anP,anQ,anR,anS,anT,anU,anV,anW,anX,anY,anZ,an0,an1,an2,an3,an4,an5,an6,trivial⟩⟩
theorem ck12:aN prog 12:=⟨call12⟩
theorem ck13:aN prog 13:=⟨call13⟩
theorem qm:aN prog 14:=⟨call14⟩
theorem ck15:aN prog 15:=⟨call15⟩
theorem alq:aN prog 16:=⟨call16⟩
theorem ck17:aN prog 17:=⟨call17⟩
theorem alr:aN prog 18:=⟨call18⟩
theorem ck19:aN prog 19:=⟨call19⟩
theorem acn:aN prog 20:=⟨call20⟩
theorem als:aN prog 21:=⟨call21⟩
theorem aap:aN prog 26:=⟨call26⟩
theorem ae3:aN prog 28:=⟨call28⟩
theorem alu:aN prog 46:=⟨call46⟩
theorem ck48:aN prog 48:=⟨call48⟩
theorem ck49:aN prog 49:=⟨call49⟩
theorem aco:aN prog 59:=⟨call59⟩
theorem ck60:aN prog 60:=⟨call60⟩
theorem ck61:aN prog 61:=⟨call61⟩
theorem alv:aN prog 62:=⟨call62⟩
theorem ck63:aN prog 63:=⟨call63⟩
theorem alw:aN prog 64:=⟨call64⟩
theorem ck65:aN prog 65:=⟨call65⟩
theorem ck66:aN prog 66:=⟨call66⟩
theorem ck67:aN prog 67:=⟨call67⟩
theorem ck68:aN prog 68:=⟨call68⟩
theorem alx:aN prog 69:=⟨call69⟩
theorem aly:aN prog 70:=⟨call70⟩
theorem ae4:aN prog 71:=⟨call71⟩
theorem alz:aN prog 72:=⟨call72⟩
theorem ae5:aN prog 73:=⟨call73⟩
theorem acp:aN prog 74:=⟨call74⟩
theorem ck75:aN prog 75:=⟨call75⟩
theorem x5:aN prog 76:=⟨call76⟩
theorem aaq:aN prog 77:=⟨call77⟩
theorem alA:aN prog 78:=⟨call78⟩
theorem x6:aN prog 79:=⟨call79⟩
theorem ck80:aN prog 80:=⟨call80⟩
theorem alB:aN prog 81:=⟨call81⟩
theorem ck82:aN prog 82:=⟨call82⟩
theorem pH:aN prog 106:=⟨call106⟩
theorem an7:aN prog 108:=⟨call108⟩
theorem an8:aN prog 109:=⟨call109⟩
theorem an9:aN prog 110:=⟨call110⟩
theorem vi:aN prog 119:=⟨call119⟩
theorem sO:aN prog 120:=⟨call120⟩
theorem aoa:aN prog 121:=⟨call121⟩
theorem zC:aN prog 122:=⟨call122⟩
theorem aob:aN prog 123:=⟨call123⟩
theorem aoc:aN prog 124:=⟨call124⟩
theorem zD:aN prog 126:=⟨call126⟩
theorem aod:aN prog 127:=⟨call127⟩
theorem acq:aN prog 129:=⟨call129⟩
theorem aoe:aN prog 130:=⟨call130⟩
theorem agJ:aN prog 131:=⟨call131⟩
theorem aof:aN prog 132:=⟨call132⟩
theorem aog:aN prog 133:=⟨call133⟩
theorem sP:aN prog 134:=⟨call134⟩
theorem acr:aN prog 135:=⟨call135⟩
theorem agK:aN prog 136:=⟨call136⟩
theorem agL:aN prog 137:=⟨call137⟩
theorem acs:aN prog 138:=⟨call138⟩
theorem aoh:aN prog 139:=⟨call139⟩
theorem aoi:aN prog 140:=⟨call140⟩
theorem aoj:aN prog 141:=⟨call141⟩
theorem zF:aN prog 142:=⟨call142⟩
theorem aok:aN prog 143:=⟨call143⟩
theorem aol:aN prog 144:=⟨call144⟩
theorem aom:aN prog 145:=⟨call145⟩
theorem aon:aN prog 146:=⟨call146⟩
theorem sQ:aN prog 147:=⟨call147⟩
theorem zG:aN prog 148:=⟨call148⟩
theorem zH:aN prog 149:=⟨call149⟩
theorem aoo:aN prog 150:=⟨call150⟩
theorem agM:aN prog 164:=⟨call164⟩
theorem aop:aN prog 170:=⟨call170⟩
theorem aoq:aN prog 171:=⟨call171⟩
theorem agN:aN prog 172:=⟨call172⟩
theorem aor:aN prog 178:=⟨call178⟩
theorem aos:aN prog 180:=⟨call180⟩
theorem aot:aN prog 181:=⟨call181⟩
theorem aou:aN prog 182:=⟨call182⟩
theorem aov:aN prog 195:=⟨call195⟩
theorem aow:aN prog 207:=⟨call207⟩
theorem aox:aN prog 216:=⟨call216⟩
theorem qS{N:Nat}{ids:List Nat}{y:Code}{Q:Exit→Env→Sto→Prop}{env:Env}{σ:Sto}{id:Nat}{ops:Array Oper}{dr:Bool}(hs:List (Nat×Hint prog))(bD:Env)(σ2:Sto)(k:af ⟨prog,N,ids⟩ y Q bD σ2)
  (h:sI tb N ids ops dr (gQ ops dr hs).1 (gQ ops dr hs).2 [] hs (mG bD) σ2.ids env σ=some (bD,σ2,(gQ ops dr hs).2.map λi=>(hintOf hs i).exp):=by kernel_rfl):af ⟨prog,N,ids⟩ (.seq (.region id ops dr) y) Q env σ:=A.RS W0 [] hs bD σ2 h k
theorem qR{N:Nat}{ids:List Nat}{Q:Exit→Env→Sto→Prop}{env:Env}{σ:Sto}{id:Nat}{ops:Array Oper}{dr:Bool}(hs:List (Nat×Hint prog))(bD:Env)(σ2:Sto)(k:Q .normal bD σ2)
  (h:sI tb N ids ops dr (gQ ops dr hs).1 (gQ ops dr hs).2 [] hs (mG bD) σ2.ids env σ=some (bD,σ2,(gQ ops dr hs).2.map λi=>(hintOf hs i).exp):=by kernel_rfl):af ⟨prog,N,ids⟩ (.region id ops dr) Q env σ:=A.R W0 [] hs bD σ2 h k
def alC(n:Nat):List Nat→Bool
 |[]=>false
 |k::r=>bif Nat.beq k n then true else alC n r
def jS{α:Type}(ks:List Nat)(new:List (Nat×α)):List (Nat×α)→List (Nat×α)
 |[]=>new
 |p::l=>bif alC p.1 ks then jS ks new l else p::jS ks new l
section
variable {N:Nat}{ids:List Nat}{y:Code}{Q:Exit→Env→Sto→Prop}{env:Env}{σ:Sto}{id:Nat}{ops:Array Oper}{dr:Bool}(hs:List (Nat×Hint prog))(ks:List Nat)(new:Env)(js:List Nat)(nws:Sto)
theorem qD(k:af ⟨prog,N,ids⟩ y Q (jS ks new env) (jS js nws σ))
  (h:sI tb N ids ops dr (gQ ops dr hs).1 (gQ ops dr hs).2 [] hs (mG (jS ks new env)) (Sto.ids (jS js nws σ)) env σ=some (jS ks new env,jS js nws σ,(gQ ops dr hs).2.map λi=>(hintOf hs i).exp):=by kernel_rfl):af ⟨prog,N,ids⟩ (.seq (.region id ops dr) y) Q env σ:=A.RS W0 [] hs _ _ h k
theorem qDs(k:af ⟨prog,N,ids⟩ y Q (jS ks new env) σ)
  (h:sI tb N ids ops dr (gQ ops dr hs).1 (gQ ops dr hs).2 [] hs (mG (jS ks new env)) σ.ids env σ=some (jS ks new env,σ,(gQ ops dr hs).2.map λi=>(hintOf hs i).exp):=by kernel_rfl):af ⟨prog,N,ids⟩ (.seq (.region id ops dr) y) Q env σ:=A.RS W0 [] hs _ _ h k
theorem qG(k:Q .normal (jS ks new env) (jS js nws σ))
  (h:sI tb N ids ops dr (gQ ops dr hs).1 (gQ ops dr hs).2 [] hs (mG (jS ks new env)) (Sto.ids (jS js nws σ)) env σ=some (jS ks new env,jS js nws σ,(gQ ops dr hs).2.map λi=>(hintOf hs i).exp):=by kernel_rfl):af ⟨prog,N,ids⟩ (.region id ops dr) Q env σ:=A.R W0 [] hs _ _ h k
theorem qGs(k:Q .normal (jS ks new env) σ)
  (h:sI tb N ids ops dr (gQ ops dr hs).1 (gQ ops dr hs).2 [] hs (mG (jS ks new env)) σ.ids env σ=some (jS ks new env,σ,(gQ ops dr hs).2.map λi=>(hintOf hs i).exp):=by kernel_rfl):af ⟨prog,N,ids⟩ (.region id ops dr) Q env σ:=A.R W0 [] hs _ _ h k
end
theorem qE{N:Nat}{ids:List Nat}{fn:Func}{env:Env}{σ σ2:Sto}{R:AV}(h:aeK tb ids [] σ2.ids fn.results.toList env σ=some (R,σ2):=by kernel_rfl):
  kr ⟨prog,N,ids⟩ fn (λa σ'=>a=R∧σ'=σ2) .ret env σ:=A.fin W0 [] rfl h
variable {G:Gl}
theorem qW{env bD:Env}{σ σ2:Sto}(h:xh G.ids [] [] (mG bD) σ2.ids env σ=some (bD,σ2):=by kernel_rfl):aV G env σ bD σ2:=aV.go [] [] h
theorem qX{α ρ:Type}{J:α→Option ρ}{r:ρ}{env:Env}{σ:Sto}{bZ:α→Env}{cR:α→Sto}(g:α)(hg:J g=some r)(h:xh G.ids [] [] (mG (bZ g)) (cR g).ids env σ=some (bZ g,cR g):=by kernel_rfl):
  ∃g,J g=some r∧aV G env σ (bZ g) (cR g):=⟨g,hg,aV.go [] [] h⟩
variable {o:Operand}
theorem qT{p:Bool}{x y:Code}{Q:Exit→Env→Sto→Prop}{env:Env}{σ:Sto}(hp:p=true)(k:af G x Q env σ)(hc:env.evo o=some (.bool p):=by kernel_rfl):af G (.cond o x y) Q env σ:=A.cT hc hp k
theorem qF{p:Bool}{x y:Code}{Q:Exit→Env→Sto→Prop}{env:Env}{σ:Sto}(hp:p=false)(k:af G y Q env σ)(hc:env.evo o=some (.bool p):=by kernel_rfl):af G (.cond o x y) Q env σ:=A.cF hc hp k
abbrev i6(n:Int):AV:=.int .i64 n
abbrev lf{α:Type}(e:En α)(l:List α):AV:=.lst false (ml e l)
abbrev k0(x:aK):List AV:=[.int .i64 x.ID,.bool x.vh]
abbrev k1(x:aU):List AV:=[.int .i64 x.A,.int .i64 x.B,.int .i64 x.dL,.int .i64 x.ep,.int .i64 x.ku]
abbrev k2(x:aj):List AV:=[.lst false (ml aQ x.ak),.lst false (ml bG x.Links)]
abbrev k3(x:aS):List AV:=[.int .i64 x.aH,.int .i64 x.To]
abbrev k4(x:aq):List AV:=[.int .i64 x.Hop.aH,.int .i64 x.Hop.To,.int .i64 x.bO]
abbrev k5(x:bx):List AV:=[.lst false (ml ai x.L),.int .i64 x.At]
abbrev k6(x:bV):List AV:=[.int .i64 x.bK,.lst false (ml br x.Links)]
abbrev k7(x:jR):List AV:=[.lst false (ml ai x.ak),.int .i64 x.Value]
end Go.Proofs.YtmnbolcmepihlaaGreat
