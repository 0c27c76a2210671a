/- The data of the program, as Lean data, and what is known of its types. No condition but aT aH stand in each. -/
import Derived.Test.YtmnbolcmepihlaaGreatF
import Derived.Test.YtmnbolcmepihlaaGreatCZ
namespace Go.Proofs.YtmnbolcmepihlaaGreat
open Go Go.Proofs.Tryz
set_option maxRecDepth 100000
set_option linter.all false
structure aW where
 ID:Int
 uP:Bool
instance:Inhabited aW:=⟨aW.mk (0:Int) false⟩
def bn:En aW:=⟨λx=>[.int .i64 x.ID,.bool x.uP],2,λ_=>rfl,λ_=>rfl,λ_=>rfl⟩
structure aY where
 A:Int
 B:Int
 lZ:Int
 l5:Int
 fh:Int
instance:Inhabited aY:=⟨aY.mk (0:Int) (0:Int) (0:Int) (0:Int) (0:Int)⟩
def bQ:En aY:=⟨λx=>[.int .i64 x.A,.int .i64 x.B,.int .i64 x.lZ,.int .i64 x.l5,.int .i64 x.fh],5,λ_=>rfl,λ_=>rfl,λ_=>rfl⟩
structure aq where
 aS:List aW
 Links:List aY
instance:Inhabited aq:=⟨aq.mk [] []⟩
structure aF where
 aJ:Int
 To:Int
instance:Inhabited aF:=⟨aF.mk (0:Int) (0:Int)⟩
def aQ:En aF:=⟨λx=>[.int .i64 x.aJ,.int .i64 x.To],2,λ_=>rfl,λ_=>rfl,λ_=>rfl⟩
def bh(a b:aF):Bool:=decide (a.aJ=b.aJ)&&(decide (a.To=b.To)&&true)
structure af where
 Hop:aF
 cV:Int
instance:Inhabited af:=⟨af.mk (aF.mk (0:Int) (0:Int)) (0:Int)⟩
def az:En af:=⟨λx=>[.int .i64 x.Hop.aJ,.int .i64 x.Hop.To,.int .i64 x.cV],3,λ_=>rfl,λ_=>rfl,λ_=>rfl⟩
structure bp where
 L:List Int
 At:Int
instance:Inhabited bp:=⟨bp.mk [] (0:Int)⟩
structure aX where
 bK:Int
 Links:List aF
instance:Inhabited aX:=⟨aX.mk (0:Int) []⟩
def cn:En aX:=⟨λx=>[.int .i64 x.bK,.lst false (ml aQ x.Links)],2,λ_=>rfl,λ_=>rfl,λ_=>rfl⟩
structure bP where
 aJ:Int
 To:Int
 Count:Int
instance:Inhabited bP:=⟨bP.mk (0:Int) (0:Int) (0:Int)⟩
def dR:En bP:=⟨λx=>[.int .i64 x.aJ,.int .i64 x.To,.int .i64 x.Count],3,λ_=>rfl,λ_=>rfl,λ_=>rfl⟩
structure ak6 where
 aS:List Int
 Value:Int
instance:Inhabited ak6:=⟨ak6.mk [] (0:Int)⟩
structure aR where
 bK:Int
 bq:List Int
 eD:Int
instance:Inhabited aR:=⟨aR.mk (0:Int) [] (0:Int)⟩
def bF:En aR:=⟨λx=>[.int .i64 x.bK,.lst false (ml aB x.bq),.int .i64 x.eD],3,λ_=>rfl,λ_=>rfl,λ_=>rfl⟩
structure yw where
 E0:Int
 E1:Int
 E2:Int
instance:Inhabited yw:=⟨yw.mk (0:Int) (0:Int) (0:Int)⟩
def ti2:TI:=⟨1,false,some [zI0],.int .i64⟩
theorem tk2:cr prog 2 ti2:=⟨ty2,λzs h=>by cases h;exact ze2,underlying2⟩
def ti3:TI:=⟨1,false,some [zI0],.int .i64⟩
theorem tk3:cr prog 3 ti3:=⟨ty3,λzs h=>by cases h;exact ze3,underlying3⟩
def ti4:TI:=⟨1,false,some [.bool false],.bool⟩
theorem tk4:cr prog 4 ti4:=⟨ty4,λzs h=>by cases h;exact ze4,underlying4⟩
def ti5:TI:=⟨1,false,some [.int .u8 0],.int .u8⟩
theorem tk5:cr prog 5 ti5:=⟨ty5,λzs h=>by cases h;exact ze5,underlying5⟩
def ti6:TI:=⟨1,false,some [.int .u8 0],.int .u8⟩
theorem tk6:cr prog 6 ti6:=⟨ty6,λzs h=>by cases h;exact ze6,underlying6⟩
def ti7:TI:=⟨4,true,some [zI0,zI0,.bool false,.int .u8 0],.struct [zI0,zI0,.bool false,.int .u8 0] [(0,1),(1,1),(2,1),(3,1)] [false,false,false,false]⟩
theorem tk7:cr prog 7 ti7:=⟨ty7,λzs h=>by cases h;exact ze7,ez str7 ⟨ai4,ai5,ai6,ai7,trivial⟩ ⟨ai8,ai9,aja,ajb,trivial⟩⟩
def ti8:TI:=⟨4,true,some [zI0,zI0,.bool false,.int .u8 0],.struct [zI0,zI0,.bool false,.int .u8 0] [(0,1),(1,1),(2,1),(3,1)] [false,false,false,false]⟩
theorem tk8:cr prog 8 ti8:=⟨ty8,λzs h=>by cases h;exact ze8,ez str8 ⟨ajc,ajd,aje,ajf,trivial⟩ ⟨ajg,ajh,aji,ajj,trivial⟩⟩
def ti9:TI:=⟨1,false,some [.string ⟨#[]⟩],.str⟩
theorem tk9:cr prog 9 ti9:=⟨ty9,λzs h=>by cases h;exact ze9,underlying9⟩
def ak7:TI:=⟨1,false,some [.string ⟨#[]⟩],.str⟩
theorem tk10:cr prog 10 ak7:=⟨ty10,λzs h=>by cases h;exact ze10,underlying10⟩
def ak8:TI:=⟨1,false,some [.string ⟨#[]⟩],.str⟩
theorem tk11:cr prog 11 ak8:=⟨ty11,λzs h=>by cases h;exact ze11,underlying11⟩
def ak9:TI:=⟨1,false,some [.int .u64 0],.int .u64⟩
theorem tk12:cr prog 12 ak9:=⟨ad4,λzs h=>by cases h;exact ze12,underlying12⟩
def ala:TI:=⟨2,true,some [.string ⟨#[]⟩,.int .u64 0],.struct [.string ⟨#[]⟩,.int .u64 0] [(0,1),(1,1)] [false,false]⟩
theorem tk13:cr prog 13 ala:=⟨ty13,λzs h=>by cases h;exact ze13,ez amD ⟨agQ,agR,trivial⟩ ⟨agS,agT,trivial⟩⟩
def alb:TI:=⟨2,true,some [.string ⟨#[]⟩,.int .u64 0],.struct [.string ⟨#[]⟩,.int .u64 0] [(0,1),(1,1)] [false,false]⟩
theorem tk14:cr prog 14 alb:=⟨ty14,λzs h=>by cases h;exact ze14,ez amE ⟨agU,agV,trivial⟩ ⟨agW,agX,trivial⟩⟩
def alc:TI:=⟨1,false,some [.pointer none],.oth⟩
theorem tk15:cr prog 15 alc:=⟨ty15,λzs h=>by cases h;exact ze15,trivial⟩
def ald:TI:=⟨1,false,some [.pointer none],.oth⟩
theorem tk16:cr prog 16 ald:=⟨ty16,λzs h=>by cases h;exact ze16,trivial⟩
def ale:TI:=⟨1,false,some [.pointer none],.oth⟩
theorem tk17:cr prog 17 ale:=⟨ad5,λzs h=>by cases h;exact ze17,trivial⟩
def alf:TI:=⟨1,true,some [.pointer none],.struct [.pointer none] [(0,1)] [false]⟩
theorem tk18:cr prog 18 alf:=⟨ty18,λzs h=>by cases h;exact ze18,ez amF ⟨agY,trivial⟩ ⟨agZ,trivial⟩⟩
def alg:TI:=⟨1,true,some [.pointer none],.struct [.pointer none] [(0,1)] [false]⟩
theorem tk19:cr prog 19 alg:=⟨ty19,λzs h=>by cases h;exact ze19,ez amG ⟨ag0,trivial⟩ ⟨ag1,trivial⟩⟩
def alh:TI:=⟨1,false,some [.int .i32 0],.int .i32⟩
theorem tk21:cr prog 21 alh:=⟨ty21,λzs h=>by cases h;exact ze21,underlying21⟩
def ali:TI:=⟨1,false,some [zS0],.slice 3 1 8 [zI0]⟩
theorem tk22:cr prog 22 ali:=⟨ad6,λzs h=>by cases h;exact ze22,⟨sl22,afN,amH⟩⟩
def alj:TI:=⟨1,false,some [.pointer none],.oth⟩
theorem tk23:cr prog 23 alj:=⟨ty23,λzs h=>by cases h;exact ze23,trivial⟩
def alk:TI:=⟨1,false,some [zS0],.slice 31 2 16 [zI0,.bool false]⟩
theorem tk25:cr prog 25 alk:=⟨ad7,λzs h=>by cases h;exact ze25,⟨sl25,amI,amJ⟩⟩
def alm:TI:=⟨1,false,some [zS0],.slice 62 5 40 [zI0,zI0,zI0,zI0,zI0]⟩
theorem tk26:cr prog 26 alm:=⟨ad8,λzs h=>by cases h;exact ze26,⟨sl26,amK,amL⟩⟩
def aln:TI:=⟨2,true,some [zS0,zS0],.struct [zS0,zS0] [(0,1),(1,1)] [false,false]⟩
theorem tk27:cr prog 27 aln:=⟨ty27,λzs h=>by cases h;exact ze27,ez amM ⟨ag3,ag4,trivial⟩ ⟨ag5,ag6,trivial⟩⟩
def alo:TI:=⟨2,true,some [zS0,zS0],.struct [zS0,zS0] [(0,1),(1,1)] [false,false]⟩
theorem tk28:cr prog 28 alo:=⟨ty28,λzs h=>by cases h;exact ze28,ez amN ⟨ag7,ag8,trivial⟩ ⟨ag9,aha,trivial⟩⟩
def alp:TI:=⟨2,true,some [zI0,.bool false],.struct [zI0,.bool false] [(0,1),(1,1)] [false,false]⟩
theorem tk30:cr prog 30 alp:=⟨ty30,λzs h=>by cases h;exact ze30,ez amO ⟨ahb,ahc,trivial⟩ ⟨ahd,ahe,trivial⟩⟩
def alq:TI:=⟨2,true,some [zI0,.bool false],.struct [zI0,.bool false] [(0,1),(1,1)] [false,false]⟩
theorem tk31:cr prog 31 alq:=⟨ty31,λzs h=>by cases h;exact aiY,ez amP ⟨ahf,ahg,trivial⟩ ⟨ahh,ahi,trivial⟩⟩
def alr:TI:=⟨1,false,some [zS0],.slice 84 2 16 [zI0,zI0]⟩
theorem tk34:cr prog 34 alr:=⟨ad9,λzs h=>by cases h;exact ze34,⟨sl34,amQ,amR⟩⟩
def als:TI:=⟨2,true,some [zI0,zS0],.struct [zI0,zS0] [(0,1),(1,1)] [false,false]⟩
theorem tk35:cr prog 35 als:=⟨ty35,λzs h=>by cases h;exact ze35,ez amS ⟨ahj,ahk,trivial⟩ ⟨ahl,ahm,trivial⟩⟩
def alu:TI:=⟨2,true,some [zI0,zS0],.struct [zI0,zS0] [(0,1),(1,1)] [false,false]⟩
theorem tk36:cr prog 36 alu:=⟨ty36,λzs h=>by cases h;exact aiZ,ez amT ⟨ahn,aho,trivial⟩ ⟨ahp,ahq,trivial⟩⟩
def alv:TI:=⟨1,false,some [zI0],.int .i64⟩
theorem tk37:cr prog 37 alv:=⟨ty37,λzs h=>by cases h;exact ze37,underlying37⟩
def alw:TI:=⟨1,false,some [zS0],.slice 52 3 40 [zI0,zS0,zI0]⟩
theorem tk46:cr prog 46 alw:=⟨ty46,λzs h=>by cases h;exact ze46,⟨sl46,amU,amV⟩⟩
def alx:TI:=⟨1,false,some [zS0],.slice 36 2 32 [zI0,zS0]⟩
theorem tk48:cr prog 48 alx:=⟨ty48,λzs h=>by cases h;exact ze48,⟨sl48,afO,afP⟩⟩
def aly:TI:=⟨3,true,some [zI0,zS0,zI0],.struct [zI0,zS0,zI0] [(0,1),(1,1),(2,1)] [false,false,false]⟩
theorem tk52:cr prog 52 aly:=⟨ty52,λzs h=>by cases h;exact ai0,ez amW ⟨ahr,ahs,aht,trivial⟩ ⟨ahu,ahv,ahw,trivial⟩⟩
def alz:TI:=⟨1,false,some [zS0],.slice 60 3 24 [zI0,zI0,zI0]⟩
theorem tk53:cr prog 53 alz:=⟨ty53,λzs h=>by cases h;exact ze53,⟨sl53,amX,amY⟩⟩
def alA:TI:=⟨3,true,some [zI0,zI0,zI0],.struct [zI0,zI0,zI0] [(0,1),(1,1),(2,1)] [false,false,false]⟩
theorem tk60:cr prog 60 alA:=⟨ty60,λzs h=>by cases h;exact ai1,ez amZ ⟨ahx,ahy,ahz,trivial⟩ ⟨ahA,ahB,ahC,trivial⟩⟩
def alB:TI:=⟨5,true,some [zI0,zI0,zI0,zI0,zI0],.struct [zI0,zI0,zI0,zI0,zI0] [(0,1),(1,1),(2,1),(3,1),(4,1)] [false,false,false,false,false]⟩
theorem tk62:cr prog 62 alB:=⟨ty62,λzs h=>by cases h;exact ai2,ez am0 ⟨ahD,ahE,ahF,ahG,ahH,trivial⟩ ⟨ahI,ahJ,ahK,ahL,ahM,trivial⟩⟩
def alC:TI:=⟨2,true,some [zI0,zI0],.struct [zI0,zI0] [(0,1),(1,1)] [false,false]⟩
theorem tk84:cr prog 84 alC:=⟨ajk,λzs h=>by cases h;exact ai3,ez am1 ⟨ahN,ahO,trivial⟩ ⟨ahP,ahQ,trivial⟩⟩
def afY:TI:=⟨2,true,some [zS0,zI0],.struct [zS0,zI0] [(0,1),(1,1)] [false,false]⟩
theorem anD:cr prog 103 afY:=⟨am2,λzs h=>by cases h;exact amf,ez ajl ⟨aea,aeb,trivial⟩ ⟨aec,aed,trivial⟩⟩
def afZ:TI:=⟨1,false,some [zS0],.slice 106 1 24 [zS0]⟩
theorem anE:cr prog 105 afZ:=⟨am3,λzs h=>by cases h;exact amg,⟨qg,acO,acP⟩⟩
def af0:TI:=⟨1,false,some [zS0],.slice 4 1 1 [.bool false]⟩
theorem anG:cr prog 106 af0:=⟨wK,λzs h=>by cases h;exact afJ,⟨am4,acQ,acR⟩⟩
def af1:TI:=⟨1,false,some [zS0],.slice 175 3 24 [zI0,zI0,zI0]⟩
theorem anH:cr prog 111 af1:=⟨afQ,λzs h=>by cases h;exact amh,⟨abA,ajm,ajn⟩⟩
def af2:TI:=⟨1,false,some [.map none],.oth⟩
theorem anI:cr prog 125 af2:=⟨am5,λzs h=>by cases h;exact ami,trivial⟩
def af3:TI:=⟨1,false,some [.map none],.oth⟩
theorem anJ:cr prog 126 af3:=⟨am6,λzs h=>by cases h;exact amj,trivial⟩
def af4:TI:=⟨1,false,some [.map none],.map 3 3 .i64⟩
theorem anK:cr prog 144 af4:=⟨wL,λzs h=>by cases h;exact afK,wM⟩
def af5:TI:=⟨1,false,some [.nilFunc],.oth⟩
theorem anL:cr prog 158 af5:=⟨am7,λzs h=>by cases h;exact amk,trivial⟩
def af6:TI:=⟨1,false,some [.pointer none],.oth⟩
theorem anM:cr prog 161 af6:=⟨am8,λzs h=>by cases h;exact aml,trivial⟩
def af7:TI:=⟨1,false,some [zS0],.slice 144 1 8 [.map none]⟩
theorem anN:cr prog 162 af7:=⟨afR,λzs h=>by cases h;exact amm,⟨wN,acS,ajo⟩⟩
def af8:TI:=⟨1,false,some [zS0],.slice 166 1 8 [.map none]⟩
theorem anO:cr prog 163 af8:=⟨afS,λzs h=>by cases h;exact amn,⟨afT,acT,ajp⟩⟩
def af9:TI:=⟨3,true,some [zS0,zS0,zS0],.struct [zS0,zS0,zS0] [(0,1),(1,1),(2,1)] [false,false,false]⟩
theorem anP:cr prog 165 af9:=⟨am9,λzs h=>by cases h;exact amo,ez ajq ⟨aee,aef,aeg,trivial⟩ ⟨aeh,aei,aej,trivial⟩⟩
def aga:TI:=⟨1,false,some [.map none],.map 3 169 .i64⟩
theorem anQ:cr prog 166 aga:=⟨afU,λzs h=>by cases h;exact afL,tH⟩
def agb:TI:=⟨2,true,some [zI0,zI0],.struct [zI0,zI0] [(0,1),(1,1)] [false,false]⟩
theorem anR:cr prog 169 agb:=⟨ana,λzs h=>by cases h;exact amp,ez ajr ⟨aek,ael,trivial⟩ ⟨aem,aen,trivial⟩⟩
def agc:TI:=⟨1,false,some [.nilFunc],.oth⟩
theorem anS:cr prog 172 agc:=⟨anb,λzs h=>by cases h;exact amq,trivial⟩
def agd:TI:=⟨3,true,some [zI0,zI0,zI0],.struct [zI0,zI0,zI0] [(0,2),(2,1)] [true,false]⟩
theorem anT:cr prog 175 agd:=⟨anc,λzs h=>by cases h;exact afM,ez ajs ⟨aeo,aep,trivial⟩ ⟨aeq,aer,trivial⟩⟩
def age:TI:=⟨1,false,some [.nilFunc],.oth⟩
theorem anU:cr prog 177 age:=⟨ane,λzs h=>by cases h;exact amr,trivial⟩
def agf:TI:=⟨1,false,some [.int .u64 0],.int .u64⟩
theorem anV:cr prog 178 agf:=⟨anf,λzs h=>by cases h;exact ams,underlying178⟩
def agh:TI:=⟨1,false,some [.nilFunc],.oth⟩
theorem anW:cr prog 182 agh:=⟨ang,λzs h=>by cases h;exact amt,trivial⟩
def agi:TI:=⟨1,false,some [.nilFunc],.oth⟩
theorem anX:cr prog 185 agi:=⟨anh,λzs h=>by cases h;exact amu,trivial⟩
def agj:TI:=⟨1,false,some [.nilFunc],.oth⟩
theorem anY:cr prog 187 agj:=⟨ani,λzs h=>by cases h;exact amv,trivial⟩
def agk:TI:=⟨1,false,some [.nilFunc],.oth⟩
theorem anZ:cr prog 188 agk:=⟨anj,λzs h=>by cases h;exact amw,trivial⟩
def agl:TI:=⟨1,false,some [.nilFunc],.oth⟩
theorem an0:cr prog 190 agl:=⟨ank,λzs h=>by cases h;exact amx,trivial⟩
def agm:TI:=⟨1,false,some [.map none],.map 3 4 .i64⟩
theorem an1:cr prog 191 agm:=⟨anl,λzs h=>by cases h;exact amy,acU⟩
def agn:TI:=⟨1,false,some [.nilFunc],.oth⟩
theorem an2:cr prog 198 agn:=⟨anm,λzs h=>by cases h;exact amz,trivial⟩
def ago:TI:=⟨1,false,some [zI0],.int .i64⟩
theorem an3:cr prog 245 ago:=⟨ann,λzs h=>by cases h;exact amA,underlying245⟩
def agp:TI:=⟨1,false,some [.int .u32 0],.int .u32⟩
theorem an4:cr prog 252 agp:=⟨ano,λzs h=>by cases h;exact amB,underlying252⟩
def agq:TI:=⟨1,false,some [.int .u64 0],.int .u64⟩
theorem an5:cr prog 254 agq:=⟨anp,λzs h=>by cases h;exact amC,underlying254⟩
def tb:Tb:=[(2,ti2),(3,ti3),(4,ti4),(5,ti5),(6,ti6),(7,ti7),(8,ti8),(9,ti9),(10,ak7),(11,ak8),(12,ak9),(13,ala),(14,alb),(15,alc),(16,ald),(17,ale),(18,alf),(19,alg),(21,alh),(22,ali),(23,alj),(25,alk),(26,alm),(27,aln),(28,alo),(30,alp),(31,alq),(34,alr),(35,als),(36,alu),(37,alv),(46,alw),(48,alx),(52,aly),(53,alz),(60,alA),(62,alB),(84,alC),(103,afY),(105,afZ),(106,af0),(111,af1),(125,af2),(126,af3),(144,af4),(158,af5),(161,af6),(162,af7),(163,af8),(165,af9),(166,aga),(169,agb),(172,agc),(175,agd),(177,age),(178,agf),(182,agh),(185,agi),(187,agj),(188,agk),(190,agl),(191,agm),(198,agn),(245,ago),(252,agp),(254,agq)]
theorem W0:Wld prog tb:=⟨hmix,⟨tk2,tk3,tk4,tk5,tk6,tk7,tk8,tk9,tk10,tk11,tk12,tk13,tk14,tk15,tk16,tk17,tk18,tk19,tk21,tk22,tk23,tk25,tk26,tk27,tk28,tk30,tk31,tk34,tk35,tk36,tk37,tk46,tk48,tk52,tk53,tk60,tk62,tk84,anD,anE,anG,anH,anI,anJ,anK,anL,anM,anN,anO,anP,anQ,anR,anS,anT,anU,anV,anW,anX,anY,anZ,an0,an1,an2,an3,an4,an5,trivial⟩⟩
theorem ck12:aP prog 12:=⟨call12⟩
theorem ck13:aP prog 13:=⟨call13⟩
theorem oA:aP prog 14:=⟨call14⟩
theorem ck15:aP prog 15:=⟨call15⟩
theorem alD:aP prog 20:=⟨call20⟩
theorem ck22:aP prog 22:=⟨call22⟩
theorem alF:aP prog 23:=⟨call23⟩
theorem alG:aP prog 24:=⟨call24⟩
theorem alH:aP prog 25:=⟨call25⟩
theorem vZ:aP prog 26:=⟨call26⟩
theorem ck27:aP prog 27:=⟨call27⟩
theorem aeV:aP prog 28:=⟨call28⟩
theorem ck45:aP prog 45:=⟨call45⟩
theorem ck46:aP prog 46:=⟨call46⟩
theorem zY:aP prog 59:=⟨call59⟩
theorem ck60:aP prog 60:=⟨call60⟩
theorem ck61:aP prog 61:=⟨call61⟩
theorem ck63:aP prog 63:=⟨call63⟩
theorem ck64:aP prog 64:=⟨call64⟩
theorem ck70:aP prog 70:=⟨call70⟩
theorem aeW:aP prog 71:=⟨call71⟩
theorem alI:aP prog 72:=⟨call72⟩
theorem alJ:aP prog 73:=⟨call73⟩
theorem ck74:aP prog 74:=⟨call74⟩
theorem ck75:aP prog 75:=⟨call75⟩
theorem ck76:aP prog 76:=⟨call76⟩
theorem aeX:aP prog 83:=⟨call83⟩
theorem alK:aP prog 84:=⟨call84⟩
theorem alL:aP prog 85:=⟨call85⟩
theorem aeY:aP prog 86:=⟨call86⟩
theorem aeZ:aP prog 87:=⟨call87⟩
theorem ck88:aP prog 88:=⟨call88⟩
theorem ck89:aP prog 89:=⟨call89⟩
theorem ck90:aP prog 90:=⟨call90⟩
theorem ae0:aP prog 91:=⟨call91⟩
theorem mX:aP prog 106:=⟨call106⟩
theorem uQ:aP prog 119:=⟨call119⟩
theorem sB:aP prog 120:=⟨call120⟩
theorem an6:aP prog 121:=⟨call121⟩
theorem yZ:aP prog 122:=⟨call122⟩
theorem an7:aP prog 123:=⟨call123⟩
theorem an8:aP prog 124:=⟨call124⟩
theorem wV:aP prog 126:=⟨call126⟩
theorem an9:aP prog 127:=⟨call127⟩
theorem ab4:aP prog 129:=⟨call129⟩
theorem aoa:aP prog 130:=⟨call130⟩
theorem agr:aP prog 131:=⟨call131⟩
theorem aob:aP prog 132:=⟨call132⟩
theorem aoc:aP prog 133:=⟨call133⟩
theorem sC:aP prog 134:=⟨call134⟩
theorem ab5:aP prog 135:=⟨call135⟩
theorem agt:aP prog 136:=⟨call136⟩
theorem agu:aP prog 137:=⟨call137⟩
theorem ab6:aP prog 138:=⟨call138⟩
theorem aod:aP prog 139:=⟨call139⟩
theorem aoe:aP prog 140:=⟨call140⟩
theorem aof:aP prog 141:=⟨call141⟩
theorem y4:aP prog 142:=⟨call142⟩
theorem aog:aP prog 143:=⟨call143⟩
theorem aoh:aP prog 144:=⟨call144⟩
theorem agv:aP prog 145:=⟨call145⟩
theorem aoi:aP prog 146:=⟨call146⟩
theorem aoj:aP prog 151:=⟨call151⟩
theorem aok:aP prog 152:=⟨call152⟩
theorem aol:aP prog 153:=⟨call153⟩
theorem aom:aP prog 154:=⟨call154⟩
theorem aon:aP prog 156:=⟨call156⟩
theorem aoo:aP prog 157:=⟨call157⟩
theorem sD:aP prog 164:=⟨call164⟩
theorem aop:aP prog 178:=⟨call178⟩
theorem aoq:aP prog 180:=⟨call180⟩
theorem aor:aP prog 181:=⟨call181⟩
theorem aos:aP prog 182:=⟨call182⟩
theorem aot:aP prog 183:=⟨call183⟩
theorem aou:aP prog 185:=⟨call185⟩
theorem ab7:aP prog 186:=⟨call186⟩
theorem aov:aP prog 207:=⟨call207⟩
theorem aow:aP prog 216:=⟨call216⟩
theorem qS{N:Nat}{ids:List Nat}{y:Code}{Q:Exit→Env→Sto→Prop}{env:Env}{σ:Sto}{id:Nat}{ops:Array Oper}{dr:Bool}(hs:List (Nat×Hint prog))(bA:Env)(σ2:Sto)(k:aj ⟨prog,N,ids⟩ y Q bA σ2)
  (h:r9 tb N ids ops dr (gJ ops dr hs).1 (gJ ops dr hs).2 [] hs (lD bA) σ2.ids env σ=some (bA,σ2,(gJ ops dr hs).2.map λi=>(hintOf hs i).exp):=by kernel_rfl):aj ⟨prog,N,ids⟩ (.seq (.region id ops dr) y) Q env σ:=A.RS W0 [] hs bA σ2 h k
theorem qR{N:Nat}{ids:List Nat}{Q:Exit→Env→Sto→Prop}{env:Env}{σ:Sto}{id:Nat}{ops:Array Oper}{dr:Bool}(hs:List (Nat×Hint prog))(bA:Env)(σ2:Sto)(k:Q .normal bA σ2)
  (h:r9 tb N ids ops dr (gJ ops dr hs).1 (gJ ops dr hs).2 [] hs (lD bA) σ2.ids env σ=some (bA,σ2,(gJ ops dr hs).2.map λi=>(hintOf hs i).exp):=by kernel_rfl):aj ⟨prog,N,ids⟩ (.region id ops dr) Q env σ:=A.R W0 [] hs bA σ2 h k
def alM(n:Nat):List Nat→Bool
 |[]=>false
 |k::r=>bif Nat.beq k n then true else alM n r
def jI{α:Type}(ks:List Nat)(new:List (Nat×α)):List (Nat×α)→List (Nat×α)
 |[]=>new
 |p::l=>bif alM p.1 ks then jI ks new l else p::jI ks new l
section
variable {N:Nat}{ids:List Nat}{y:Code}{Q:Exit→Env→Sto→Prop}{env:Env}{σ:Sto}{id:Nat}{ops:Array Oper}{dr:Bool}(hs:List (Nat×Hint prog))(ks:List Nat)(new:Env)(js:List Nat)(nws:Sto)
theorem qD(k:aj ⟨prog,N,ids⟩ y Q (jI ks new env) (jI js nws σ))
  (h:r9 tb N ids ops dr (gJ ops dr hs).1 (gJ ops dr hs).2 [] hs (lD (jI ks new env)) (Sto.ids (jI js nws σ)) env σ=some (jI ks new env,jI js nws σ,(gJ ops dr hs).2.map λi=>(hintOf hs i).exp):=by kernel_rfl):aj ⟨prog,N,ids⟩ (.seq (.region id ops dr) y) Q env σ:=A.RS W0 [] hs _ _ h k
theorem qDs(k:aj ⟨prog,N,ids⟩ y Q (jI ks new env) σ)
  (h:r9 tb N ids ops dr (gJ ops dr hs).1 (gJ ops dr hs).2 [] hs (lD (jI ks new env)) σ.ids env σ=some (jI ks new env,σ,(gJ ops dr hs).2.map λi=>(hintOf hs i).exp):=by kernel_rfl):aj ⟨prog,N,ids⟩ (.seq (.region id ops dr) y) Q env σ:=A.RS W0 [] hs _ _ h k
theorem qG(k:Q .normal (jI ks new env) (jI js nws σ))
  (h:r9 tb N ids ops dr (gJ ops dr hs).1 (gJ ops dr hs).2 [] hs (lD (jI ks new env)) (Sto.ids (jI js nws σ)) env σ=some (jI ks new env,jI js nws σ,(gJ ops dr hs).2.map λi=>(hintOf hs i).exp):=by kernel_rfl):aj ⟨prog,N,ids⟩ (.region id ops dr) Q env σ:=A.R W0 [] hs _ _ h k
theorem qGs(k:Q .normal (jI ks new env) σ)
  (h:r9 tb N ids ops dr (gJ ops dr hs).1 (gJ ops dr hs).2 [] hs (lD (jI ks new env)) σ.ids env σ=some (jI ks new env,σ,(gJ ops dr hs).2.map λi=>(hintOf hs i).exp):=by kernel_rfl):aj ⟨prog,N,ids⟩ (.region id ops dr) Q env σ:=A.R W0 [] hs _ _ h k
end
theorem qE{N:Nat}{ids:List Nat}{fn:Func}{env:Env}{σ σ2:Sto}{R:AV}(h:aez tb ids [] σ2.ids fn.results.toList env σ=some (R,σ2):=by kernel_rfl):
  lY ⟨prog,N,ids⟩ fn (λa σ'=>a=R∧σ'=σ2) .ret env σ:=A.fin W0 [] rfl h
variable {G:Gl}
theorem qW{env bA:Env}{σ σ2:Sto}(h:wP G.ids [] [] (lD bA) σ2.ids env σ=some (bA,σ2):=by kernel_rfl):aU G env σ bA σ2:=aU.go [] [] h
theorem qX{α ρ:Type}{J:α→Option ρ}{r:ρ}{env:Env}{σ:Sto}{bT:α→Env}{cK:α→Sto}(g:α)(hg:J g=some r)(h:wP G.ids [] [] (lD (bT g)) (cK g).ids env σ=some (bT g,cK g):=by kernel_rfl):
  ∃g,J g=some r∧aU G env σ (bT g) (cK g):=⟨g,hg,aU.go [] [] h⟩
variable {o:Operand}
theorem qT{p:Bool}{x y:Code}{Q:Exit→Env→Sto→Prop}{env:Env}{σ:Sto}(hp:p=true)(k:aj G x Q env σ)(hc:env.evo o=some (.bool p):=by kernel_rfl):aj G (.cond o x y) Q env σ:=A.cT hc hp k
theorem qF{p:Bool}{x y:Code}{Q:Exit→Env→Sto→Prop}{env:Env}{σ:Sto}(hp:p=false)(k:aj G y Q env σ)(hc:env.evo o=some (.bool p):=by kernel_rfl):aj G (.cond o x y) Q env σ:=A.cF hc hp k
abbrev i6(n:Int):AV:=.int .i64 n
abbrev lf{α:Type}(e:En α)(l:List α):AV:=.lst false (ml e l)
abbrev k0(x:aW):List AV:=[.int .i64 x.ID,.bool x.uP]
abbrev k1(x:aY):List AV:=[.int .i64 x.A,.int .i64 x.B,.int .i64 x.lZ,.int .i64 x.l5,.int .i64 x.fh]
abbrev k2(x:aq):List AV:=[.lst false (ml bn x.aS),.lst false (ml bQ x.Links)]
abbrev k3(x:aF):List AV:=[.int .i64 x.aJ,.int .i64 x.To]
abbrev k4(x:af):List AV:=[.int .i64 x.Hop.aJ,.int .i64 x.Hop.To,.int .i64 x.cV]
abbrev k5(x:bp):List AV:=[.lst false (ml aB x.L),.int .i64 x.At]
abbrev k6(x:aX):List AV:=[.int .i64 x.bK,.lst false (ml aQ x.Links)]
abbrev k7(x:bP):List AV:=[.int .i64 x.aJ,.int .i64 x.To,.int .i64 x.Count]
abbrev k8(x:aR):List AV:=[.int .i64 x.bK,.lst false (ml aB x.bq),.int .i64 x.eD]
end Go.Proofs.YtmnbolcmepihlaaGreat
