/- The data of the program, as Lean data, and what is known of its types. No condition but aX aH stand in each. -/
import Derived.Test.YtmnbolcmepihlaaF
import Derived.Test.YtmnbolcmepihlaaCX
namespace Go.Proofs.Ytmnbolcmepihlaa
open Go Go.Proofs.Try
set_option maxRecDepth 100000
set_option linter.all false
structure aK where
 ID:Int
 qt:Bool
instance:Inhabited aK:=⟨aK.mk (0:Int) false⟩
def aP:En aK:=⟨λx=>[.int .i64 x.ID,.bool x.qt],2,λ_=>rfl,λ_=>rfl,λ_=>rfl⟩
structure bh where
 A:Int
 B:Int
 fc:Int
 fS:Int
 mK:Int
instance:Inhabited bh:=⟨bh.mk (0:Int) (0:Int) (0:Int) (0:Int) (0:Int)⟩
def bz:En bh:=⟨λx=>[.int .i64 x.A,.int .i64 x.B,.int .i64 x.fc,.int .i64 x.fS,.int .i64 x.mK],5,λ_=>rfl,λ_=>rfl,λ_=>rfl⟩
structure az where
 ay:List aK
 Links:List bh
instance:Inhabited az:=⟨az.mk [] []⟩
structure bg where
 L:List Int
 At:Int
instance:Inhabited bg:=⟨bg.mk [] (0:Int)⟩
structure aV where
 bf:Int
 To:Int
instance:Inhabited aV:=⟨aV.mk (0:Int) (0:Int)⟩
def fu:En aV:=⟨λx=>[.int .i64 x.bf,.int .i64 x.To],2,λ_=>rfl,λ_=>rfl,λ_=>rfl⟩
structure af where
 Hop:aV
 bI:Int
instance:Inhabited af:=⟨af.mk (aV.mk (0:Int) (0:Int)) (0:Int)⟩
def aG:En af:=⟨λx=>[.int .i64 x.Hop.bf,.int .i64 x.Hop.To,.int .i64 x.bI],3,λ_=>rfl,λ_=>rfl,λ_=>rfl⟩
structure hU where
 ay:List Int
 Value:Int
instance:Inhabited hU:=⟨hU.mk [] (0:Int)⟩
def dS:En hU:=⟨λx=>[.lst false (ml aB x.ay),.int .i64 x.Value],2,λ_=>rfl,λ_=>rfl,λ_=>rfl⟩
structure ef where
 jx:Int
 Links:List aV
instance:Inhabited ef:=⟨ef.mk (0:Int) []⟩
structure aO where
 E0:Int
 E1:Int
 E2:Int
instance:Inhabited aO:=⟨aO.mk (0:Int) (0:Int) (0:Int)⟩
def lW:En aO:=⟨λx=>[.int .i64 x.E0,.int .i64 x.E1,.int .i64 x.E2],3,λ_=>rfl,λ_=>rfl,λ_=>rfl⟩
def ti2:TI:=⟨1,false,some [zI0],.int .i64⟩
theorem tk2:bU prog 2 ti2:=⟨ty2,λzs h=>by cases h;exact ze2,underlying2⟩
def ti3:TI:=⟨1,false,some [zI0],.int .i64⟩
theorem tk3:bU prog 3 ti3:=⟨ty3,λzs h=>by cases h;exact ze3,underlying3⟩
def ti4:TI:=⟨1,false,some [.bool false],.bool⟩
theorem tk4:bU prog 4 ti4:=⟨ty4,λzs h=>by cases h;exact ze4,underlying4⟩
def ti5:TI:=⟨1,false,some [.int .u8 0],.int .u8⟩
theorem tk5:bU prog 5 ti5:=⟨ty5,λzs h=>by cases h;exact ze5,underlying5⟩
def ti6:TI:=⟨1,false,some [.int .u8 0],.int .u8⟩
theorem tk6:bU prog 6 ti6:=⟨ty6,λzs h=>by cases h;exact ze6,underlying6⟩
def ti7:TI:=⟨4,true,some [zI0,zI0,.bool false,.int .u8 0],.struct [zI0,zI0,.bool false,.int .u8 0] [(0,1),(1,1),(2,1),(3,1)] [false,false,false,false]⟩
theorem tk7:bU prog 7 ti7:=⟨ty7,λzs h=>by cases h;exact ze7,dH str7 ⟨adA,adB,adC,adD,trivial⟩ ⟨adE,adF,adG,adH,trivial⟩⟩
def ti8:TI:=⟨4,true,some [zI0,zI0,.bool false,.int .u8 0],.struct [zI0,zI0,.bool false,.int .u8 0] [(0,1),(1,1),(2,1),(3,1)] [false,false,false,false]⟩
theorem tk8:bU prog 8 ti8:=⟨ty8,λzs h=>by cases h;exact ze8,dH str8 ⟨adI,adJ,adK,adL,trivial⟩ ⟨adM,adN,adO,adP,trivial⟩⟩
def ti9:TI:=⟨1,false,some [.string ⟨#[]⟩],.str⟩
theorem tk9:bU prog 9 ti9:=⟨ty9,λzs h=>by cases h;exact ze9,underlying9⟩
def aff:TI:=⟨1,false,some [.string ⟨#[]⟩],.str⟩
theorem tk10:bU prog 10 aff:=⟨ty10,λzs h=>by cases h;exact ze10,underlying10⟩
def afg:TI:=⟨1,false,some [.string ⟨#[]⟩],.str⟩
theorem tk11:bU prog 11 afg:=⟨ty11,λzs h=>by cases h;exact ze11,underlying11⟩
def afh:TI:=⟨1,false,some [.int .u64 0],.int .u64⟩
theorem tk12:bU prog 12 afh:=⟨zw,λzs h=>by cases h;exact ze12,underlying12⟩
def afi:TI:=⟨2,true,some [.string ⟨#[]⟩,.int .u64 0],.struct [.string ⟨#[]⟩,.int .u64 0] [(0,1),(1,1)] [false,false]⟩
theorem tk13:bU prog 13 afi:=⟨ty13,λzs h=>by cases h;exact ze13,dH agR ⟨aa3,aa4,trivial⟩ ⟨aa5,aa6,trivial⟩⟩
def afj:TI:=⟨2,true,some [.string ⟨#[]⟩,.int .u64 0],.struct [.string ⟨#[]⟩,.int .u64 0] [(0,1),(1,1)] [false,false]⟩
theorem tk14:bU prog 14 afj:=⟨ty14,λzs h=>by cases h;exact ze14,dH agS ⟨aa7,aa8,trivial⟩ ⟨aa9,aba,trivial⟩⟩
def afk:TI:=⟨1,false,some [.pointer none],.oth⟩
theorem tk15:bU prog 15 afk:=⟨ty15,λzs h=>by cases h;exact ze15,trivial⟩
def afl:TI:=⟨1,false,some [.pointer none],.oth⟩
theorem tk16:bU prog 16 afl:=⟨ty16,λzs h=>by cases h;exact ze16,trivial⟩
def afm:TI:=⟨1,false,some [.pointer none],.oth⟩
theorem tk17:bU prog 17 afm:=⟨zx,λzs h=>by cases h;exact ze17,trivial⟩
def afn:TI:=⟨1,true,some [.pointer none],.struct [.pointer none] [(0,1)] [false]⟩
theorem tk18:bU prog 18 afn:=⟨ty18,λzs h=>by cases h;exact ze18,dH agT ⟨abb,trivial⟩ ⟨abc,trivial⟩⟩
def afo:TI:=⟨1,true,some [.pointer none],.struct [.pointer none] [(0,1)] [false]⟩
theorem tk19:bU prog 19 afo:=⟨ty19,λzs h=>by cases h;exact ze19,dH agU ⟨abd,trivial⟩ ⟨abe,trivial⟩⟩
def afp:TI:=⟨1,false,some [.int .i32 0],.int .i32⟩
theorem tk21:bU prog 21 afp:=⟨ty21,λzs h=>by cases h;exact ze21,underlying21⟩
def afq:TI:=⟨1,false,some [zS0],.slice 3 1 8 [zI0]⟩
theorem tk22:bU prog 22 afq:=⟨zy,λzs h=>by cases h;exact ze22,⟨sl22,aaD,agV⟩⟩
def afr:TI:=⟨1,false,some [.pointer none],.oth⟩
theorem tk23:bU prog 23 afr:=⟨ty23,λzs h=>by cases h;exact ze23,trivial⟩
def afs:TI:=⟨1,false,some [zS0],.slice 31 2 16 [zI0,.bool false]⟩
theorem tk25:bU prog 25 afs:=⟨zz,λzs h=>by cases h;exact ze25,⟨sl25,agW,agX⟩⟩
def aft:TI:=⟨1,false,some [zS0],.slice 42 5 40 [zI0,zI0,zI0,zI0,zI0]⟩
theorem tk26:bU prog 26 aft:=⟨zA,λzs h=>by cases h;exact ze26,⟨sl26,agY,agZ⟩⟩
def afu:TI:=⟨2,true,some [zS0,zS0],.struct [zS0,zS0] [(0,1),(1,1)] [false,false]⟩
theorem tk27:bU prog 27 afu:=⟨ty27,λzs h=>by cases h;exact ze27,dH ag0 ⟨abf,abg,trivial⟩ ⟨abh,abi,trivial⟩⟩
def afv:TI:=⟨2,true,some [zS0,zS0],.struct [zS0,zS0] [(0,1),(1,1)] [false,false]⟩
theorem tk28:bU prog 28 afv:=⟨ty28,λzs h=>by cases h;exact ze28,dH ag1 ⟨abj,abk,trivial⟩ ⟨abl,abm,trivial⟩⟩
def afw:TI:=⟨2,true,some [zI0,.bool false],.struct [zI0,.bool false] [(0,1),(1,1)] [false,false]⟩
theorem tk30:bU prog 30 afw:=⟨ty30,λzs h=>by cases h;exact ze30,dH ag3 ⟨abn,abo,trivial⟩ ⟨abp,abq,trivial⟩⟩
def afx:TI:=⟨2,true,some [zI0,.bool false],.struct [zI0,.bool false] [(0,1),(1,1)] [false,false]⟩
theorem tk31:bU prog 31 afx:=⟨ty31,λzs h=>by cases h;exact ads,dH ag4 ⟨abr,abt,trivial⟩ ⟨abu,abv,trivial⟩⟩
def afy:TI:=⟨1,false,some [zS0],.slice 80 2 16 [zI0,zI0]⟩
theorem tk34:bU prog 34 afy:=⟨zB,λzs h=>by cases h;exact ze34,⟨sl34,ag5,ag6⟩⟩
def afz:TI:=⟨2,true,some [zI0,zS0],.struct [zI0,zS0] [(0,1),(1,1)] [false,false]⟩
theorem tk35:bU prog 35 afz:=⟨ty35,λzs h=>by cases h;exact ze35,dH ag7 ⟨abw,abx,trivial⟩ ⟨aby,abz,trivial⟩⟩
def afA:TI:=⟨2,true,some [zI0,zS0],.struct [zI0,zS0] [(0,1),(1,1)] [false,false]⟩
theorem tk36:bU prog 36 afA:=⟨ty36,λzs h=>by cases h;exact ze36,dH ag8 ⟨abA,abB,trivial⟩ ⟨abC,abD,trivial⟩⟩
def afB:TI:=⟨1,false,some [zI0],.int .i64⟩
theorem tk37:bU prog 37 afB:=⟨ty37,λzs h=>by cases h;exact ze37,underlying37⟩
def afC:TI:=⟨1,false,some [.int .u64 0],.int .u64⟩
theorem tk40:bU prog 40 afC:=⟨ty40,λzs h=>by cases h;exact ze40,underlying40⟩
def afD:TI:=⟨5,true,some [zI0,zI0,zI0,zI0,zI0],.struct [zI0,zI0,zI0,zI0,zI0] [(0,1),(1,1),(2,1),(3,1),(4,1)] [false,false,false,false,false]⟩
theorem tk41:bU prog 41 afD:=⟨ty41,λzs h=>by cases h;exact ze41,dH ag9 ⟨abE,abF,abG,abH,abI,trivial⟩ ⟨abJ,abK,abL,abM,abN,trivial⟩⟩
def afE:TI:=⟨5,true,some [zI0,zI0,zI0,zI0,zI0],.struct [zI0,zI0,zI0,zI0,zI0] [(0,1),(1,1),(2,1),(3,1),(4,1)] [false,false,false,false,false]⟩
theorem tk42:bU prog 42 afE:=⟨ty42,λzs h=>by cases h;exact adt,dH aha ⟨abO,abP,abQ,abR,abS,trivial⟩ ⟨abT,abU,abV,abW,abX,trivial⟩⟩
def afF:TI:=⟨2,true,some [zS0,zI0],.struct [zS0,zI0] [(0,1),(1,1)] [false,false]⟩
theorem tk48:bU prog 48 afF:=⟨ty48,λzs h=>by cases h;exact ze48,dH ahb ⟨abY,abZ,trivial⟩ ⟨ab0,ab1,trivial⟩⟩
def afG:TI:=⟨1,false,some [zS0],.slice 52 1 24 [zS0]⟩
theorem tk51:bU prog 51 afG:=⟨ty51,λzs h=>by cases h;exact ze51,⟨pK,aaE,aaF⟩⟩
def afH:TI:=⟨1,false,some [zS0],.slice 4 1 1 [.bool false]⟩
theorem tk52:bU prog 52 afH:=⟨vo,λzs h=>by cases h;exact adu,⟨sl52,aaG,aaH⟩⟩
def afI:TI:=⟨1,false,some [zS0],.slice 85 3 24 [zI0,zI0,zI0]⟩
theorem tk57:bU prog 57 afI:=⟨adQ,λzs h=>by cases h;exact ze57,⟨sl57,ahc,ahd⟩⟩
def afJ:TI:=⟨2,true,some [zS0,zI0],.struct [zS0,zI0] [(0,1),(1,1)] [false,false]⟩
theorem tk63:bU prog 63 afJ:=⟨ty63,λzs h=>by cases h;exact adv,dH ahe ⟨ab2,ab3,trivial⟩ ⟨ab4,ab5,trivial⟩⟩
def afK:TI:=⟨1,false,some [zS0],.slice 63 2 32 [zS0,zI0]⟩
theorem tk64:bU prog 64 afK:=⟨ty64,λzs h=>by cases h;exact ze64,⟨sl64,ahf,ahg⟩⟩
def afL:TI:=⟨1,false,some [.pointer none],.oth⟩
theorem tk67:bU prog 67 afL:=⟨ty67,λzs h=>by cases h;exact ze67,trivial⟩
def afM:TI:=⟨1,false,some [zS0],.slice 72 1 8 [.map none]⟩
theorem tk68:bU prog 68 afM:=⟨adR,λzs h=>by cases h;exact ze68,⟨vp,aaI,ahh⟩⟩
def afN:TI:=⟨1,false,some [zS0],.slice 73 1 8 [.map none]⟩
theorem tk69:bU prog 69 afN:=⟨adS,λzs h=>by cases h;exact ze69,⟨adT,aaJ,ahi⟩⟩
def afO:TI:=⟨3,true,some [zS0,zS0,zS0],.struct [zS0,zS0,zS0] [(0,1),(1,1),(2,1)] [false,false,false]⟩
theorem tk71:bU prog 71 afO:=⟨ty71,λzs h=>by cases h;exact ze71,dH ahj ⟨ab6,ab7,ab8,trivial⟩ ⟨ab9,acd,ace,trivial⟩⟩
def afP:TI:=⟨1,false,some [.map none],.map 3 3 .i64⟩
theorem tk72:bU prog 72 afP:=⟨vq,λzs h=>by cases h;exact adw,uW⟩
def afQ:TI:=⟨1,false,some [.map none],.map 3 76 .i64⟩
theorem tk73:bU prog 73 afQ:=⟨adU,λzs h=>by cases h;exact adx,sJ⟩
def afR:TI:=⟨2,true,some [zI0,zI0],.struct [zI0,zI0] [(0,1),(1,1)] [false,false]⟩
theorem tk76:bU prog 76 afR:=⟨ty76,λzs h=>by cases h;exact ze76,dH ahk ⟨acf,acg,trivial⟩ ⟨ach,aci,trivial⟩⟩
def afS:TI:=⟨2,true,some [zI0,zI0],.struct [zI0,zI0] [(0,1),(1,1)] [false,false]⟩
theorem tk80:bU prog 80 afS:=⟨adV,λzs h=>by cases h;exact ady,dH ahl ⟨acj,ack,trivial⟩ ⟨acm,acn,trivial⟩⟩
def afT:TI:=⟨1,false,some [.nilFunc],.oth⟩
theorem tk81:bU prog 81 afT:=⟨ty81,λzs h=>by cases h;exact ze81,trivial⟩
def afU:TI:=⟨1,false,some [.nilFunc],.oth⟩
theorem tk83:bU prog 83 afU:=⟨ty83,λzs h=>by cases h;exact ze83,trivial⟩
def afV:TI:=⟨3,true,some [zI0,zI0,zI0],.struct [zI0,zI0,zI0] [(0,2),(2,1)] [true,false]⟩
theorem tk85:bU prog 85 afV:=⟨ty85,λzs h=>by cases h;exact adz,dH ahm ⟨aco,acp,trivial⟩ ⟨acq,acr,trivial⟩⟩
def afW:TI:=⟨1,false,some [.nilFunc],.oth⟩
theorem tk87:bU prog 87 afW:=⟨ty87,λzs h=>by cases h;exact ze87,trivial⟩
def afX:TI:=⟨3,true,some [zI0,zI0,zI0],.oth⟩
theorem tk88:bU prog 88 afX:=⟨ty88,λzs h=>by cases h;exact rJ,trivial⟩
def afY:TI:=⟨1,false,some [zS0],.slice 88 3 24 [zI0,zI0,zI0]⟩
theorem tk89:bU prog 89 afY:=⟨ty89,λzs h=>by cases h;exact ze89,⟨sl89,ahn,aho⟩⟩
def afZ:TI:=⟨1,false,some [.nilFunc],.oth⟩
theorem tk93:bU prog 93 afZ:=⟨ty93,λzs h=>by cases h;exact ze93,trivial⟩
def af0:TI:=⟨1,false,some [.nilFunc],.oth⟩
theorem tk96:bU prog 96 af0:=⟨ty96,λzs h=>by cases h;exact ze96,trivial⟩
def af1:TI:=⟨1,false,some [.nilFunc],.oth⟩
theorem tk97:bU prog 97 af1:=⟨ty97,λzs h=>by cases h;exact ze97,trivial⟩
def af2:TI:=⟨1,false,some [.nilFunc],.oth⟩
theorem tk99:bU prog 99 af2:=⟨ty99,λzs h=>by cases h;exact ze99,trivial⟩
def tb:Tb:=[(2,ti2),(3,ti3),(4,ti4),(5,ti5),(6,ti6),(7,ti7),(8,ti8),(9,ti9),(10,aff),(11,afg),(12,afh),(13,afi),(14,afj),(15,afk),(16,afl),(17,afm),(18,afn),(19,afo),(21,afp),(22,afq),(23,afr),(25,afs),(26,aft),(27,afu),(28,afv),(30,afw),(31,afx),(34,afy),(35,afz),(36,afA),(37,afB),(40,afC),(41,afD),(42,afE),(48,afF),(51,afG),(52,afH),(57,afI),(63,afJ),(64,afK),(67,afL),(68,afM),(69,afN),(71,afO),(72,afP),(73,afQ),(76,afR),(80,afS),(81,afT),(83,afU),(85,afV),(87,afW),(88,afX),(89,afY),(93,afZ),(96,af0),(97,af1),(99,af2)]
theorem W0:Wld prog tb:=⟨hmix,⟨tk2,tk3,tk4,tk5,tk6,tk7,tk8,tk9,tk10,tk11,tk12,tk13,tk14,tk15,tk16,tk17,tk18,tk19,tk21,tk22,tk23,tk25,tk26,tk27,tk28,tk30,tk31,tk34,tk35,tk36,tk37,tk40,tk41,tk42,tk48,tk51,tk52,tk57,tk63,tk64,tk67,tk68,tk69,tk71,tk72,tk73,tk76,tk80,tk81,tk83,tk85,tk87,tk88,tk89,tk93,tk96,tk97,tk99,trivial⟩⟩
theorem ck4:aU prog 4:=⟨call4⟩
theorem ck5:aU prog 5:=⟨call5⟩
theorem ck6:aU prog 6:=⟨call6⟩
theorem ck7:aU prog 7:=⟨call7⟩
theorem ck8:aU prog 8:=⟨call8⟩
theorem ck9:aU prog 9:=⟨call9⟩
theorem z6:aU prog 10:=⟨call10⟩
theorem af3:aU prog 11:=⟨call11⟩
theorem z7:aU prog 12:=⟨call12⟩
theorem xW:aU prog 13:=⟨call13⟩
theorem ck14:aU prog 14:=⟨call14⟩
theorem ck15:aU prog 15:=⟨call15⟩
theorem af4:aU prog 16:=⟨call16⟩
theorem ck17:aU prog 17:=⟨call17⟩
theorem af5:aU prog 18:=⟨call18⟩
theorem af6:aU prog 19:=⟨call19⟩
theorem ck20:aU prog 20:=⟨call20⟩
theorem af7:aU prog 21:=⟨call21⟩
theorem z8:aU prog 22:=⟨call22⟩
theorem af8:aU prog 23:=⟨call23⟩
theorem tF:aU prog 24:=⟨call24⟩
theorem rX:aU prog 25:=⟨call25⟩
theorem ck26:aU prog 26:=⟨call26⟩
theorem xX:aU prog 27:=⟨call27⟩
theorem ck28:aU prog 28:=⟨call28⟩
theorem ck29:aU prog 29:=⟨call29⟩
theorem aaa:aU prog 31:=⟨call31⟩
theorem rY:aU prog 32:=⟨call32⟩
theorem ck33:aU prog 33:=⟨call33⟩
theorem ck35:aU prog 35:=⟨call35⟩
theorem ck36:aU prog 36:=⟨call36⟩
theorem ck37:aU prog 37:=⟨call37⟩
theorem rZ:aU prog 38:=⟨call38⟩
theorem aab:aU prog 39:=⟨call39⟩
theorem af9:aU prog 40:=⟨call40⟩
theorem aga:aU prog 41:=⟨call41⟩
theorem aac:aU prog 42:=⟨call42⟩
theorem ck43:aU prog 43:=⟨call43⟩
theorem ck44:aU prog 44:=⟨call44⟩
theorem ck45:aU prog 45:=⟨call45⟩
theorem ck46:aU prog 46:=⟨call46⟩
theorem ck47:aU prog 47:=⟨call47⟩
theorem agb:aU prog 48:=⟨call48⟩
theorem agc:aU prog 51:=⟨call51⟩
theorem vN:aU prog 53:=⟨call53⟩
theorem ck54:aU prog 54:=⟨call54⟩
theorem ck55:aU prog 55:=⟨call55⟩
theorem ck56:aU prog 56:=⟨call56⟩
theorem ck57:aU prog 57:=⟨call57⟩
theorem ck76:aU prog 76:=⟨call76⟩
theorem ck77:aU prog 77:=⟨call77⟩
theorem qS{N:Nat}{ids:List Nat}{y:Code}{Q:Exit→Env→Sto→Prop}{env:Env}{σ:Sto}{id:Nat}{ops:Array Oper}{dr:Bool}(hs:List (Nat×Hint prog))(bk:Env)(σ2:Sto)(k:ai ⟨prog,N,ids⟩ y Q bk σ2)
  (h:oF tb N ids ops dr (fB ops dr hs).1 (fB ops dr hs).2 [] hs (jL bk) σ2.ids env σ=some (bk,σ2,(fB ops dr hs).2.map λi=>(hintOf hs i).exp):=by kernel_rfl):ai ⟨prog,N,ids⟩ (.seq (.region id ops dr) y) Q env σ:=A.RS W0 [] hs bk σ2 h k
theorem qR{N:Nat}{ids:List Nat}{Q:Exit→Env→Sto→Prop}{env:Env}{σ:Sto}{id:Nat}{ops:Array Oper}{dr:Bool}(hs:List (Nat×Hint prog))(bk:Env)(σ2:Sto)(k:Q .normal bk σ2)
  (h:oF tb N ids ops dr (fB ops dr hs).1 (fB ops dr hs).2 [] hs (jL bk) σ2.ids env σ=some (bk,σ2,(fB ops dr hs).2.map λi=>(hintOf hs i).exp):=by kernel_rfl):ai ⟨prog,N,ids⟩ (.region id ops dr) Q env σ:=A.R W0 [] hs bk σ2 h k
def agd(n:Nat):List Nat→Bool
 |[]=>false
 |k::r=>bif Nat.beq k n then true else agd n r
def ia{α:Type}(ks:List Nat)(new:List (Nat×α)):List (Nat×α)→List (Nat×α)
 |[]=>new
 |p::l=>bif agd p.1 ks then ia ks new l else p::ia ks new l
section
variable {N:Nat}{ids:List Nat}{y:Code}{Q:Exit→Env→Sto→Prop}{env:Env}{σ:Sto}{id:Nat}{ops:Array Oper}{dr:Bool}(hs:List (Nat×Hint prog))(ks:List Nat)(new:Env)(js:List Nat)(nws:Sto)
theorem qD(k:ai ⟨prog,N,ids⟩ y Q (ia ks new env) (ia js nws σ))
  (h:oF tb N ids ops dr (fB ops dr hs).1 (fB ops dr hs).2 [] hs (jL (ia ks new env)) (Sto.ids (ia js nws σ)) env σ=some (ia ks new env,ia js nws σ,(fB ops dr hs).2.map λi=>(hintOf hs i).exp):=by kernel_rfl):ai ⟨prog,N,ids⟩ (.seq (.region id ops dr) y) Q env σ:=A.RS W0 [] hs _ _ h k
theorem qDs(k:ai ⟨prog,N,ids⟩ y Q (ia ks new env) σ)
  (h:oF tb N ids ops dr (fB ops dr hs).1 (fB ops dr hs).2 [] hs (jL (ia ks new env)) σ.ids env σ=some (ia ks new env,σ,(fB ops dr hs).2.map λi=>(hintOf hs i).exp):=by kernel_rfl):ai ⟨prog,N,ids⟩ (.seq (.region id ops dr) y) Q env σ:=A.RS W0 [] hs _ _ h k
theorem qG(k:Q .normal (ia ks new env) (ia js nws σ))
  (h:oF tb N ids ops dr (fB ops dr hs).1 (fB ops dr hs).2 [] hs (jL (ia ks new env)) (Sto.ids (ia js nws σ)) env σ=some (ia ks new env,ia js nws σ,(fB ops dr hs).2.map λi=>(hintOf hs i).exp):=by kernel_rfl):ai ⟨prog,N,ids⟩ (.region id ops dr) Q env σ:=A.R W0 [] hs _ _ h k
theorem qGs(k:Q .normal (ia ks new env) σ)
  (h:oF tb N ids ops dr (fB ops dr hs).1 (fB ops dr hs).2 [] hs (jL (ia ks new env)) σ.ids env σ=some (ia ks new env,σ,(fB ops dr hs).2.map λi=>(hintOf hs i).exp):=by kernel_rfl):ai ⟨prog,N,ids⟩ (.region id ops dr) Q env σ:=A.R W0 [] hs _ _ h k
end
theorem qE{N:Nat}{ids:List Nat}{fn:Func}{env:Env}{σ σ2:Sto}{R:AV}(h:zL tb ids [] σ2.ids fn.results.toList env σ=some (R,σ2):=by kernel_rfl):
  iP ⟨prog,N,ids⟩ fn (λa σ'=>a=R∧σ'=σ2) .ret env σ:=A.fin W0 [] rfl h
variable {G:Gl}
theorem qW{env bk:Env}{σ σ2:Sto}(h:sL G.ids [] [] (jL bk) σ2.ids env σ=some (bk,σ2):=by kernel_rfl):aN G env σ bk σ2:=aN.go [] [] h
theorem qX{α ρ:Type}{J:α→Option ρ}{r:ρ}{env:Env}{σ:Sto}{bG:α→Env}{cz:α→Sto}(g:α)(hg:J g=some r)(h:sL G.ids [] [] (jL (bG g)) (cz g).ids env σ=some (bG g,cz g):=by kernel_rfl):
  ∃g,J g=some r∧aN G env σ (bG g) (cz g):=⟨g,hg,aN.go [] [] h⟩
variable {o:Operand}
theorem qT{p:Bool}{x y:Code}{Q:Exit→Env→Sto→Prop}{env:Env}{σ:Sto}(hp:p=true)(k:ai G x Q env σ)(hc:env.evo o=some (.bool p):=by kernel_rfl):ai G (.cond o x y) Q env σ:=A.cT hc hp k
theorem qF{p:Bool}{x y:Code}{Q:Exit→Env→Sto→Prop}{env:Env}{σ:Sto}(hp:p=false)(k:ai G y Q env σ)(hc:env.evo o=some (.bool p):=by kernel_rfl):ai G (.cond o x y) Q env σ:=A.cF hc hp k
abbrev i6(n:Int):AV:=.int .i64 n
abbrev lf{α:Type}(e:En α)(l:List α):AV:=.lst false (ml e l)
abbrev k0(x:aK):List AV:=[.int .i64 x.ID,.bool x.qt]
abbrev k1(x:bh):List AV:=[.int .i64 x.A,.int .i64 x.B,.int .i64 x.fc,.int .i64 x.fS,.int .i64 x.mK]
abbrev k2(x:az):List AV:=[.lst false (ml aP x.ay),.lst false (ml bz x.Links)]
abbrev k3(x:bg):List AV:=[.lst false (ml aB x.L),.int .i64 x.At]
abbrev k4(x:aV):List AV:=[.int .i64 x.bf,.int .i64 x.To]
abbrev k5(x:af):List AV:=[.int .i64 x.Hop.bf,.int .i64 x.Hop.To,.int .i64 x.bI]
abbrev k6(x:hU):List AV:=[.lst false (ml aB x.ay),.int .i64 x.Value]
abbrev k7(x:ef):List AV:=[.int .i64 x.jx,.lst false (ml fu x.Links)]
end Go.Proofs.Ytmnbolcmepihlaa
