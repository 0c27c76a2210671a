/- gw Jm of aR program, as Lean Jm, and dS is pt of j3 types. bM bN cu cg bz cv in ck. -/
import Derived.Test.YtmnbolcmepihlaaGreatF
import Derived.Test.YtmnbolcmepihlaaGreatCZ
namespace Go.Proofs.YtmnbolcmepihlaaGreat
open Go Go.Proofs.Tryz
set_option maxRecDepth 100000
set_option linter.all false
structure eC where
 ff:Int
 GY:Bool
instance:Inhabited eC:=⟨eC.mk (0:Int) false⟩
def fK:iU eC:=⟨λx=>[.int .i64 x.ff,.bool x.GY],2,λ_=>rfl,λ_=>rfl,λ_=>rfl⟩
structure c8 where
 A:Int
 B:Int
 qi:Int
 qj:Int
 kY:Int
instance:Inhabited c8:=⟨c8.mk (0:Int) (0:Int) (0:Int) (0:Int) (0:Int)⟩
def eW:iU c8:=⟨λx=>[.int .i64 x.A,.int .i64 x.B,.int .i64 x.qi,.int .i64 x.qj,.int .i64 x.kY],5,λ_=>rfl,λ_=>rfl,λ_=>rfl⟩
structure b0 where
 dU:List eC
 Links:List c8
instance:Inhabited b0:=⟨b0.mk [] []⟩
structure bh where
 bg:Int
 aQ:Int
instance:Inhabited bh:=⟨bh.mk (0:Int) (0:Int)⟩
def b1:iU bh:=⟨λx=>[.int .i64 x.bg,.int .i64 x.aQ],2,λ_=>rfl,λ_=>rfl,λ_=>rfl⟩
def c2(a b:bh):Bool:=decide (a.bg=b.bg)&&(decide (a.aQ=b.aQ)&&true)
structure bL where
 Hop:bh
 gr:Int
instance:Inhabited bL:=⟨bL.mk (bh.mk (0:Int) (0:Int)) (0:Int)⟩
def eo:iU bL:=⟨λx=>[.int .i64 x.Hop.bg,.int .i64 x.Hop.aQ,.int .i64 x.gr],3,λ_=>rfl,λ_=>rfl,λ_=>rfl⟩
structure dX where
 L:List Int
 At:Int
instance:Inhabited dX:=⟨dX.mk [] (0:Int)⟩
structure c0 where
 er:Int
 Links:List bh
instance:Inhabited c0:=⟨c0.mk (0:Int) []⟩
def gD:iU c0:=⟨λx=>[.int .i64 x.er,.aX false (aD b1 x.Links)],2,λ_=>rfl,λ_=>rfl,λ_=>rfl⟩
structure ep where
 bg:Int
 aQ:Int
 Count:Int
instance:Inhabited ep:=⟨ep.mk (0:Int) (0:Int) (0:Int)⟩
def gx:iU ep:=⟨λx=>[.int .i64 x.bg,.int .i64 x.aQ,.int .i64 x.Count],3,λ_=>rfl,λ_=>rfl,λ_=>rfl⟩
structure Qx where
 dU:List Int
 Value:Int
instance:Inhabited Qx:=⟨Qx.mk [] (0:Int)⟩
structure dQ where
 er:Int
 ia:List Int
 hM:Int
instance:Inhabited dQ:=⟨dQ.mk (0:Int) [] (0:Int)⟩
def hI:iU dQ:=⟨λx=>[.int .i64 x.er,.aX false (aD bq x.ia),.int .i64 x.hM],3,λ_=>rfl,λ_=>rfl,λ_=>rfl⟩
structure UL where
 eH:Int
 amk:Int
 sN:Int
instance:Inhabited UL:=⟨UL.mk (0:Int) (0:Int) (0:Int)⟩
def Tt:e5:=⟨1,false,some [zI0],.int .i64⟩
theorem ajS:fk prog 2 Tt:=⟨Lw,λzs h=>by cases h;exact alI,underlying2⟩
def Tu:e5:=⟨1,false,some [zI0],.int .i64⟩
theorem aj0:fk prog 3 Tu:=⟨ll,λzs h=>by cases h;exact UG,underlying3⟩
def Tv:e5:=⟨1,false,some [.bool false],.bool⟩
theorem aj7:fk prog 4 Tv:=⟨Dl,λzs h=>by cases h;exact UH,underlying4⟩
def Tw:e5:=⟨1,false,some [.int .u8 0],.int .u8⟩
theorem aka:fk prog 5 Tw:=⟨akH,λzs h=>by cases h;exact alW,underlying5⟩
def Tx:e5:=⟨1,false,some [.int .u8 0],.int .u8⟩
theorem akd:fk prog 6 Tx:=⟨Lx,λzs h=>by cases h;exact alY,underlying6⟩
def Ty:e5:=⟨4,true,some [zI0,zI0,.bool false,.int .u8 0],.struct [zI0,zI0,.bool false,.int .u8 0] [(0,1),(1,1),(2,1),(3,1)] [false,false,false,false]⟩
theorem akg:fk prog 7 Ty:=⟨akM,λzs h=>by cases h;exact alZ,l9 aju ⟨ZZ,Z0,Z1,ZD,trivial⟩ ⟨ZE,ZF,ZG,ZH,trivial⟩⟩
def Tz:e5:=⟨4,true,some [zI0,zI0,.bool false,.int .u8 0],.struct [zI0,zI0,.bool false,.int .u8 0] [(0,1),(1,1),(2,1),(3,1)] [false,false,false,false]⟩
theorem akh:fk prog 8 Tz:=⟨akN,λzs h=>by cases h;exact al0,l9 ajv ⟨ZI,ZJ,ZK,ZL,trivial⟩ ⟨ZM,aaR,aaS,aaT,trivial⟩⟩
def TA:e5:=⟨1,false,some [.string ⟨#[]⟩],.str⟩
theorem akj:fk prog 9 TA:=⟨LA,λzs h=>by cases h;exact al1,underlying9⟩
def Qy:e5:=⟨1,false,some [.string ⟨#[]⟩],.str⟩
theorem ajI:fk prog 10 Qy:=⟨ako,λzs h=>by cases h;exact aly,underlying10⟩
def Qz:e5:=⟨1,false,some [.string ⟨#[]⟩],.str⟩
theorem ajJ:fk prog 11 Qz:=⟨akp,λzs h=>by cases h;exact alz,underlying11⟩
def QA:e5:=⟨1,false,some [.int .u64 0],.int .u64⟩
theorem ajK:fk prog 12 QA:=⟨Iz,λzs h=>by cases h;exact alA,underlying12⟩
def QB:e5:=⟨2,true,some [.string ⟨#[]⟩,.int .u64 0],.struct [.string ⟨#[]⟩,.int .u64 0] [(0,1),(1,1)] [false,false]⟩
theorem ajL:fk prog 13 QB:=⟨akq,λzs h=>by cases h;exact alB,l9 adi ⟨Ym,Yn,trivial⟩ ⟨Yo,Yp,trivial⟩⟩
def QC:e5:=⟨2,true,some [.string ⟨#[]⟩,.int .u64 0],.struct [.string ⟨#[]⟩,.int .u64 0] [(0,1),(1,1)] [false,false]⟩
theorem ajM:fk prog 14 QC:=⟨akr,λzs h=>by cases h;exact alC,l9 acr ⟨Yq,Yr,trivial⟩ ⟨Ys,Yt,trivial⟩⟩
def QD:e5:=⟨1,false,some [.pointer none],.nN⟩
theorem ajN:fk prog 15 QD:=⟨aks,λzs h=>by cases h;exact alD,trivial⟩
def QE:e5:=⟨1,false,some [.pointer none],.nN⟩
theorem ajO:fk prog 16 QE:=⟨akt,λzs h=>by cases h;exact alE,trivial⟩
def Q8:e5:=⟨1,false,some [.pointer none],.nN⟩
theorem ajP:fk prog 17 Q8:=⟨IA,λzs h=>by cases h;exact alF,trivial⟩
def Q9:e5:=⟨1,true,some [.pointer none],.struct [.pointer none] [(0,1)] [false]⟩
theorem ajQ:fk prog 18 Q9:=⟨aku,λzs h=>by cases h;exact alG,l9 acs ⟨Yu,trivial⟩ ⟨Yv,trivial⟩⟩
def Ra:e5:=⟨1,true,some [.pointer none],.struct [.pointer none] [(0,1)] [false]⟩
theorem ajR:fk prog 19 Ra:=⟨akv,λzs h=>by cases h;exact alH,l9 acu ⟨Yw,trivial⟩ ⟨Yx,trivial⟩⟩
def Rb:e5:=⟨1,false,some [.int .i32 0],.int .i32⟩
theorem ajT:fk prog 21 Rb:=⟨akw,λzs h=>by cases h;exact alJ,underlying21⟩
def Rc:e5:=⟨1,false,some [zS0],.slice 3 1 8 [zI0]⟩
theorem ajU:fk prog 22 Rc:=⟨IB,λzs h=>by cases h;exact alK,⟨ajj,Pl,acv⟩⟩
def Re:e5:=⟨1,false,some [.pointer none],.nN⟩
theorem ajV:fk prog 23 Re:=⟨akx,λzs h=>by cases h;exact alL,trivial⟩
def Rf:e5:=⟨1,false,some [zS0],.slice 31 2 16 [zI0,.bool false]⟩
theorem ajW:fk prog 25 Rf:=⟨IC,λzs h=>by cases h;exact alM,⟨ajk,acw,acy⟩⟩
def Rg:e5:=⟨1,false,some [zS0],.slice 62 5 40 [zI0,zI0,zI0,zI0,zI0]⟩
theorem ajX:fk prog 26 Rg:=⟨ID,λzs h=>by cases h;exact alN,⟨ajl,acz,acA⟩⟩
def Rh:e5:=⟨2,true,some [zS0,zS0],.struct [zS0,zS0] [(0,1),(1,1)] [false,false]⟩
theorem ajY:fk prog 27 Rh:=⟨aky,λzs h=>by cases h;exact alO,l9 acB ⟨Yy,Yz,trivial⟩ ⟨YA,X1,trivial⟩⟩
def Ri:e5:=⟨2,true,some [zS0,zS0],.struct [zS0,zS0] [(0,1),(1,1)] [false,false]⟩
theorem ajZ:fk prog 28 Ri:=⟨akz,λzs h=>by cases h;exact alP,l9 acC ⟨X2,X3,trivial⟩ ⟨X4,X5,trivial⟩⟩
def Rj:e5:=⟨2,true,some [zI0,.bool false],.struct [zI0,.bool false] [(0,1),(1,1)] [false,false]⟩
theorem aj1:fk prog 30 Rj:=⟨akA,λzs h=>by cases h;exact alQ,l9 acD ⟨X6,X7,trivial⟩ ⟨X8,X9,trivial⟩⟩
def Rk:e5:=⟨2,true,some [zI0,.bool false],.struct [zI0,.bool false] [(0,1),(1,1)] [false,false]⟩
theorem aj2:fk prog 31 Rk:=⟨akB,λzs h=>by cases h;exact Qc,l9 acE ⟨Ya,Ze,trivial⟩ ⟨Zf,Zg,trivial⟩⟩
def Rl:e5:=⟨1,false,some [zS0],.slice 84 2 16 [zI0,zI0]⟩
theorem aj3:fk prog 34 Rl:=⟨IE,λzs h=>by cases h;exact alR,⟨ajm,acF,acG⟩⟩
def Rm:e5:=⟨2,true,some [zI0,zS0],.struct [zI0,zS0] [(0,1),(1,1)] [false,false]⟩
theorem aj4:fk prog 35 Rm:=⟨akC,λzs h=>by cases h;exact alS,l9 acH ⟨Zh,Zi,trivial⟩ ⟨Zj,Zk,trivial⟩⟩
def Rn:e5:=⟨2,true,some [zI0,zS0],.struct [zI0,zS0] [(0,1),(1,1)] [false,false]⟩
theorem aj5:fk prog 36 Rn:=⟨akD,λzs h=>by cases h;exact Qd,l9 acI ⟨Zl,Zm,trivial⟩ ⟨Zn,Zo,trivial⟩⟩
def Ro:e5:=⟨1,false,some [zI0],.int .i64⟩
theorem aj6:fk prog 37 Ro:=⟨akE,λzs h=>by cases h;exact alT,underlying37⟩
def Rp:e5:=⟨1,false,some [zS0],.slice 52 3 40 [zI0,zS0,zI0]⟩
theorem aj8:fk prog 46 Rp:=⟨akF,λzs h=>by cases h;exact alU,⟨ajn,acJ,acK⟩⟩
def Rq:e5:=⟨1,false,some [zS0],.slice 36 2 32 [zI0,zS0]⟩
theorem aj9:fk prog 48 Rq:=⟨akG,λzs h=>by cases h;exact alV,⟨ajo,Pm,Pn⟩⟩
def Rr:e5:=⟨3,true,some [zI0,zS0,zI0],.struct [zI0,zS0,zI0] [(0,1),(1,1),(2,1)] [false,false,false]⟩
theorem akb:fk prog 52 Rr:=⟨akI,λzs h=>by cases h;exact Qe,l9 acL ⟨Zp,Zq,Zr,trivial⟩ ⟨Zs,Zt,Zu,trivial⟩⟩
def Rs:e5:=⟨1,false,some [zS0],.slice 60 3 24 [zI0,zI0,zI0]⟩
theorem akc:fk prog 53 Rs:=⟨akJ,λzs h=>by cases h;exact alX,⟨ajp,acM,acN⟩⟩
def Rt:e5:=⟨3,true,some [zI0,zI0,zI0],.struct [zI0,zI0,zI0] [(0,1),(1,1),(2,1)] [false,false,false]⟩
theorem ake:fk prog 60 Rt:=⟨akK,λzs h=>by cases h;exact Qf,l9 acO ⟨Zv,Zw,Zx,trivial⟩ ⟨Zy,Zz,ZA,trivial⟩⟩
def Ru:e5:=⟨5,true,some [zI0,zI0,zI0,zI0,zI0],.struct [zI0,zI0,zI0,zI0,zI0] [(0,1),(1,1),(2,1),(3,1),(4,1)] [false,false,false,false,false]⟩
theorem akf:fk prog 62 Ru:=⟨akL,λzs h=>by cases h;exact Qg,l9 acP ⟨ZB,ZC,YO,YP,YQ,trivial⟩ ⟨YR,YS,YT,YU,YV,trivial⟩⟩
def Rv:e5:=⟨2,true,some [zI0,zI0],.struct [zI0,zI0] [(0,1),(1,1)] [false,false]⟩
theorem aki:fk prog 84 Rv:=⟨Qt,λzs h=>by cases h;exact Qh,l9 acQ ⟨YW,YX,trivial⟩ ⟨YY,YZ,trivial⟩⟩
def Px:e5:=⟨2,true,some [zS0,zI0],.struct [zS0,zI0] [(0,1),(1,1)] [false,false]⟩
theorem aei:fk prog 103 Px:=⟨acR,λzs h=>by cases h;exact ab3,l9 aaU ⟨WN,WO,trivial⟩ ⟨Ws,Wt,trivial⟩⟩
def Py:e5:=⟨1,false,some [zS0],.slice 106 1 24 [zS0]⟩
theorem adt:fk prog 105 Py:=⟨acg,λzs h=>by cases h;exact acS,⟨wF,OJ,Oo⟩⟩
def Pz:e5:=⟨1,false,some [zS0],.slice 4 1 1 [.bool false]⟩
theorem adu:fk prog 106 Pz:=⟨DH,λzs h=>by cases h;exact Pg,⟨ach,Oq,Ot⟩⟩
def PA:e5:=⟨1,false,some [zS0],.slice 175 3 24 [zI0,zI0,zI0]⟩
theorem adv:fk prog 111 PA:=⟨Po,λzs h=>by cases h;exact acT,⟨Il,aaV,aaW⟩⟩
def PB:e5:=⟨1,false,some [.map none],.nN⟩
theorem adw:fk prog 125 PB:=⟨aci,λzs h=>by cases h;exact acU,trivial⟩
def PC:e5:=⟨1,false,some [.map none],.nN⟩
theorem adx:fk prog 126 PC:=⟨acj,λzs h=>by cases h;exact acV,trivial⟩
def PD:e5:=⟨1,false,some [.map none],.map 3 3 .i64⟩
theorem ady:fk prog 144 PD:=⟨DI,λzs h=>by cases h;exact Ph,Hf⟩
def O3:e5:=⟨1,false,some [.nilFunc],.nN⟩
theorem adz:fk prog 158 O3:=⟨ack,λzs h=>by cases h;exact acW,trivial⟩
def O4:e5:=⟨1,false,some [.pointer none],.nN⟩
theorem adA:fk prog 161 O4:=⟨acm,λzs h=>by cases h;exact acX,trivial⟩
def O5:e5:=⟨1,false,some [zS0],.slice 144 1 8 [.map none]⟩
theorem adB:fk prog 162 O5:=⟨Pp,λzs h=>by cases h;exact acY,⟨Dv,Ou,aaX⟩⟩
def O6:e5:=⟨1,false,some [zS0],.slice 166 1 8 [.map none]⟩
theorem adC:fk prog 163 O6:=⟨Pq,λzs h=>by cases h;exact acZ,⟨Pr,Ov,aaY⟩⟩
def O7:e5:=⟨3,true,some [zS0,zS0,zS0],.struct [zS0,zS0,zS0] [(0,1),(1,1),(2,1)] [false,false,false]⟩
theorem adD:fk prog 165 O7:=⟨acn,λzs h=>by cases h;exact ac0,l9 aaZ ⟨Wu,Wv,Ww,trivial⟩ ⟨Wx,Wy,Wz,trivial⟩⟩
def O8:e5:=⟨1,false,some [.map none],.map 3 169 .i64⟩
theorem adE:fk prog 166 O8:=⟨Pt,λzs h=>by cases h;exact Pj,Dt⟩
def O9:e5:=⟨2,true,some [zI0,zI0],.struct [zI0,zI0] [(0,1),(1,1)] [false,false]⟩
theorem adF:fk prog 169 O9:=⟨aco,λzs h=>by cases h;exact ac1,l9 aa0 ⟨WA,WB,trivial⟩ ⟨Xm,Xn,trivial⟩⟩
def Pb:e5:=⟨1,false,some [.nilFunc],.nN⟩
theorem adG:fk prog 172 Pb:=⟨acp,λzs h=>by cases h;exact ac2,trivial⟩
def Pc:e5:=⟨3,true,some [zI0,zI0,zI0],.struct [zI0,zI0,zI0] [(0,2),(2,1)] [true,false]⟩
theorem adH:fk prog 175 Pc:=⟨acq,λzs h=>by cases h;exact Pk,l9 aa1 ⟨Xo,Xp,trivial⟩ ⟨Xq,Xr,trivial⟩⟩
def PF:e5:=⟨1,false,some [.nilFunc],.nN⟩
theorem adI:fk prog 177 PF:=⟨adT,λzs h=>by cases h;exact ac3,trivial⟩
def PG:e5:=⟨1,false,some [.int .u64 0],.int .u64⟩
theorem adJ:fk prog 178 PG:=⟨adU,λzs h=>by cases h;exact ac4,underlying178⟩
def PI:e5:=⟨1,false,some [.nilFunc],.nN⟩
theorem adK:fk prog 182 PI:=⟨adV,λzs h=>by cases h;exact ac5,trivial⟩
def PJ:e5:=⟨1,false,some [.nilFunc],.nN⟩
theorem adL:fk prog 185 PJ:=⟨adW,λzs h=>by cases h;exact ac6,trivial⟩
def PK:e5:=⟨1,false,some [.nilFunc],.nN⟩
theorem adM:fk prog 187 PK:=⟨adX,λzs h=>by cases h;exact ac7,trivial⟩
def PL:e5:=⟨1,false,some [.nilFunc],.nN⟩
theorem adN:fk prog 188 PL:=⟨adY,λzs h=>by cases h;exact ac8,trivial⟩
def PM:e5:=⟨1,false,some [.nilFunc],.nN⟩
theorem adO:fk prog 190 PM:=⟨adZ,λzs h=>by cases h;exact ac9,trivial⟩
def PN:e5:=⟨1,false,some [.map none],.map 3 4 .i64⟩
theorem adP:fk prog 191 PN:=⟨ad0,λzs h=>by cases h;exact ada,Ow⟩
def PO:e5:=⟨1,false,some [.nilFunc],.nN⟩
theorem adQ:fk prog 198 PO:=⟨ad1,λzs h=>by cases h;exact ade,trivial⟩
def PR:e5:=⟨1,false,some [zI0],.int .i64⟩
theorem adR:fk prog 245 PR:=⟨ad2,λzs h=>by cases h;exact adf,underlying245⟩
def PS:e5:=⟨1,false,some [.int .u32 0],.int .u32⟩
theorem adS:fk prog 252 PS:=⟨ad3,λzs h=>by cases h;exact adg,underlying252⟩
def PT:e5:=⟨1,false,some [.int .u64 0],.int .u64⟩
theorem adj:fk prog 254 PT:=⟨ad4,λzs h=>by cases h;exact adh,underlying254⟩
def bH:gC:=[(2,Tt),(3,Tu),(4,Tv),(5,Tw),(6,Tx),(7,Ty),(8,Tz),(9,TA),(10,Qy),(11,Qz),(12,QA),(13,QB),(14,QC),(15,QD),(16,QE),(17,Q8),(18,Q9),(19,Ra),(21,Rb),(22,Rc),(23,Re),(25,Rf),(26,Rg),(27,Rh),(28,Ri),(30,Rj),(31,Rk),(34,Rl),(35,Rm),(36,Rn),(37,Ro),(46,Rp),(48,Rq),(52,Rr),(53,Rs),(60,Rt),(62,Ru),(84,Rv),(103,Px),(105,Py),(106,Pz),(111,PA),(125,PB),(126,PC),(144,PD),(158,O3),(161,O4),(162,O5),(163,O6),(165,O7),(166,O8),(169,O9),(172,Pb),(175,Pc),(177,PF),(178,PG),(182,PI),(185,PJ),(187,PK),(188,PL),(190,PM),(191,PN),(198,PO),(245,PR),(252,PS),(254,PT)]
theorem cm:ji prog bH:=⟨aho,⟨ajS,aj0,aj7,aka,akd,akg,akh,akj,ajI,ajJ,ajK,ajL,ajM,ajN,ajO,ajP,ajQ,ajR,ajT,ajU,ajV,ajW,ajX,ajY,ajZ,aj1,aj2,aj3,aj4,aj5,aj6,aj8,aj9,akb,akc,ake,akf,aki,aei,adt,adu,adv,adw,adx,ady,adz,adA,adB,adC,adD,adE,adF,adG,adH,adI,adJ,adK,adL,adM,adN,adO,adP,adQ,adR,adS,adj,trivial⟩⟩
theorem afb:dk prog 12:=⟨call12⟩
theorem afc:dk prog 13:=⟨call13⟩
theorem rD:dk prog 14:=⟨call14⟩
theorem afd:dk prog 15:=⟨call15⟩
theorem Rw:dk prog 20:=⟨call20⟩
theorem afe:dk prog 22:=⟨call22⟩
theorem Rx:dk prog 23:=⟨call23⟩
theorem Ry:dk prog 24:=⟨call24⟩
theorem aff:dk prog 25:=⟨call25⟩
theorem afg:dk prog 27:=⟨call27⟩
theorem IQ:dk prog 28:=⟨call28⟩
theorem afh:dk prog 32:=⟨call32⟩
theorem afi:dk prog 45:=⟨call45⟩
theorem afj:dk prog 46:=⟨call46⟩
theorem Bf:dk prog 59:=⟨call59⟩
theorem afk:dk prog 60:=⟨call60⟩
theorem afl:dk prog 61:=⟨call61⟩
theorem afm:dk prog 63:=⟨call63⟩
theorem afn:dk prog 64:=⟨call64⟩
theorem afo:dk prog 70:=⟨call70⟩
theorem IS:dk prog 71:=⟨call71⟩
theorem IT:dk prog 72:=⟨call72⟩
theorem QS:dk prog 73:=⟨call73⟩
theorem afp:dk prog 74:=⟨call74⟩
theorem afq:dk prog 75:=⟨call75⟩
theorem afr:dk prog 76:=⟨call76⟩
theorem IU:dk prog 83:=⟨call83⟩
theorem QT:dk prog 84:=⟨call84⟩
theorem QU:dk prog 85:=⟨call85⟩
theorem IV:dk prog 86:=⟨call86⟩
theorem D7:dk prog 87:=⟨call87⟩
theorem QV:dk prog 88:=⟨call88⟩
theorem afs:dk prog 89:=⟨call89⟩
theorem aft:dk prog 90:=⟨call90⟩
theorem IW:dk prog 91:=⟨call91⟩
theorem sw:dk prog 106:=⟨call106⟩
theorem AD:dk prog 119:=⟨call119⟩
theorem yG:dk prog 120:=⟨call120⟩
theorem adk:dk prog 121:=⟨call121⟩
theorem Hp:dk prog 122:=⟨call122⟩
theorem adl:dk prog 123:=⟨call123⟩
theorem adm:dk prog 124:=⟨call124⟩
theorem Dz:dk prog 126:=⟨call126⟩
theorem adn:dk prog 127:=⟨call127⟩
theorem H8:dk prog 129:=⟨call129⟩
theorem ado:dk prog 130:=⟨call130⟩
theorem PU:dk prog 131:=⟨call131⟩
theorem adp:dk prog 132:=⟨call132⟩
theorem adq:dk prog 133:=⟨call133⟩
theorem yH:dk prog 134:=⟨call134⟩
theorem H9:dk prog 135:=⟨call135⟩
theorem PV:dk prog 136:=⟨call136⟩
theorem PW:dk prog 137:=⟨call137⟩
theorem Ia:dk prog 138:=⟨call138⟩
theorem adr:dk prog 139:=⟨call139⟩
theorem ads:dk prog 140:=⟨call140⟩
theorem aex:dk prog 141:=⟨call141⟩
theorem Hq:dk prog 142:=⟨call142⟩
theorem aey:dk prog 143:=⟨call143⟩
theorem aez:dk prog 144:=⟨call144⟩
theorem PX:dk prog 145:=⟨call145⟩
theorem aeA:dk prog 146:=⟨call146⟩
theorem aeB:dk prog 151:=⟨call151⟩
theorem aeC:dk prog 152:=⟨call152⟩
theorem aeD:dk prog 153:=⟨call153⟩
theorem aeE:dk prog 154:=⟨call154⟩
theorem aeF:dk prog 156:=⟨call156⟩
theorem aeG:dk prog 157:=⟨call157⟩
theorem yI:dk prog 164:=⟨call164⟩
theorem aeH:dk prog 178:=⟨call178⟩
theorem aeI:dk prog 180:=⟨call180⟩
theorem aeJ:dk prog 181:=⟨call181⟩
theorem aeK:dk prog 182:=⟨call182⟩
theorem aeM:dk prog 183:=⟨call183⟩
theorem aeN:dk prog 185:=⟨call185⟩
theorem Ib:dk prog 186:=⟨call186⟩
theorem aeO:dk prog 207:=⟨call207⟩
theorem aeP:dk prog 216:=⟨call216⟩
theorem bn{N:Nat}{ids:List Nat}{y:Code}{Q:Exit→ai→Y→Prop}{env:ai}{σ:Y}{id:Nat}{ops:Array Oper}{e6:Bool}(W:List (Nat×Hint prog))(dx:ai)(σ2:Y)(k:aY ⟨prog,N,ids⟩ y Q dx σ2)
  (h:uY bH N ids ops e6 (j8 ops e6 W).1 (j8 ops e6 W).2 [] W (qh dx) σ2.ids env σ=some (dx,σ2,(j8 ops e6 W).2.map λi=>(hintOf W i).exp):=by kernel_rfl):aY ⟨prog,N,ids⟩ (.seq (.region id ops e6) y) Q env σ:=A.eB cm [] W dx σ2 h k
theorem Gd{N:Nat}{ids:List Nat}{Q:Exit→ai→Y→Prop}{env:ai}{σ:Y}{id:Nat}{ops:Array Oper}{e6:Bool}(W:List (Nat×Hint prog))(dx:ai)(σ2:Y)(k:Q .normal dx σ2)
  (h:uY bH N ids ops e6 (j8 ops e6 W).1 (j8 ops e6 W).2 [] W (qh dx) σ2.ids env σ=some (dx,σ2,(j8 ops e6 W).2.map λi=>(hintOf W i).exp):=by kernel_rfl):aY ⟨prog,N,ids⟩ (.region id ops e6) Q env σ:=A.R cm [] W dx σ2 h k
def QW(n:Nat):List Nat→Bool
 |[]=>false
 |k::r=>bif Nat.beq k n then true else QW n r
def ms{α:Type}(ks:List Nat)(new:List (Nat×α)):List (Nat×α)→List (Nat×α)
 |[]=>new
 |p::l=>bif QW p.1 ks then ms ks new l else p::ms ks new l
section
variable {N:Nat}{ids:List Nat}{y:Code}{Q:Exit→ai→Y→Prop}{env:ai}{σ:Y}{id:Nat}{ops:Array Oper}{e6:Bool}(W:List (Nat×Hint prog))(ks:List Nat)(new:ai)(zK:List Nat)(zX:Y)
theorem eV(k:aY ⟨prog,N,ids⟩ y Q (ms ks new env) (ms zK zX σ))
  (h:uY bH N ids ops e6 (j8 ops e6 W).1 (j8 ops e6 W).2 [] W (qh (ms ks new env)) (Y.ids (ms zK zX σ)) env σ=some (ms ks new env,ms zK zX σ,(j8 ops e6 W).2.map λi=>(hintOf W i).exp):=by kernel_rfl):aY ⟨prog,N,ids⟩ (.seq (.region id ops e6) y) Q env σ:=A.eB cm [] W _ _ h k
theorem br(k:aY ⟨prog,N,ids⟩ y Q (ms ks new env) σ)
  (h:uY bH N ids ops e6 (j8 ops e6 W).1 (j8 ops e6 W).2 [] W (qh (ms ks new env)) σ.ids env σ=some (ms ks new env,σ,(j8 ops e6 W).2.map λi=>(hintOf W i).exp):=by kernel_rfl):aY ⟨prog,N,ids⟩ (.seq (.region id ops e6) y) Q env σ:=A.eB cm [] W _ _ h k
theorem lg(k:Q .normal (ms ks new env) (ms zK zX σ))
  (h:uY bH N ids ops e6 (j8 ops e6 W).1 (j8 ops e6 W).2 [] W (qh (ms ks new env)) (Y.ids (ms zK zX σ)) env σ=some (ms ks new env,ms zK zX σ,(j8 ops e6 W).2.map λi=>(hintOf W i).exp):=by kernel_rfl):aY ⟨prog,N,ids⟩ (.region id ops e6) Q env σ:=A.R cm [] W _ _ h k
theorem fq(k:Q .normal (ms ks new env) σ)
  (h:uY bH N ids ops e6 (j8 ops e6 W).1 (j8 ops e6 W).2 [] W (qh (ms ks new env)) σ.ids env σ=some (ms ks new env,σ,(j8 ops e6 W).2.map λi=>(hintOf W i).exp):=by kernel_rfl):aY ⟨prog,N,ids⟩ (.region id ops e6) Q env σ:=A.R cm [] W _ _ h k
end
theorem cC{N:Nat}{ids:List Nat}{fn:Func}{env:ai}{σ σ2:Y}{R:U}(h:I1 bH ids [] σ2.ids fn.results.toList env σ=some (R,σ2):=by kernel_rfl):
  ri ⟨prog,N,ids⟩ fn (λa az=>a=R∧az=σ2) .ret env σ:=A.fin cm [] rfl h
variable {G:cq}
theorem hK{env dx:ai}{σ σ2:Y}(h:Dx G.ids [] [] (qh dx) σ2.ids env σ=some (dx,σ2):=by kernel_rfl):b8 G env σ dx σ2:=b8.go [] [] h
theorem ek{α aP:Type}{J:α→Option aP}{r:aP}{env:ai}{σ:Y}{fJ:α→ai}{fS:α→Y}(g:α)(bl:J g=some r)(h:Dx G.ids [] [] (qh (fJ g)) (fS g).ids env σ=some (fJ g,fS g):=by kernel_rfl):
  ∃g,J g=some r∧b8 G env σ (fJ g) (fS g):=⟨g,bl,b8.go [] [] h⟩
variable {o:Operand}
theorem cM{p:Bool}{x y:Code}{Q:Exit→ai→Y→Prop}{env:ai}{σ:Y}(aB:p=true)(k:aY G x Q env σ)(aa:env.cz o=some (.bool p):=by kernel_rfl):aY G (.cond o x y) Q env σ:=A.kX aa aB k
theorem cL{p:Bool}{x y:Code}{Q:Exit→ai→Y→Prop}{env:ai}{σ:Y}(aB:p=false)(k:aY G y Q env σ)(aa:env.cz o=some (.bool p):=by kernel_rfl):aY G (.cond o x y) Q env σ:=A.jV aa aB k
abbrev ag(n:Int):U:=.int .i64 n
abbrev bm{α:Type}(e:iU α)(l:List α):U:=.aX false (aD e l)
abbrev sk(x:eC):List U:=[.int .i64 x.ff,.bool x.GY]
abbrev gK(x:c8):List U:=[.int .i64 x.A,.int .i64 x.B,.int .i64 x.qi,.int .i64 x.qj,.int .i64 x.kY]
abbrev dN(x:b0):List U:=[.aX false (aD fK x.dU),.aX false (aD eW x.Links)]
abbrev k8(x:bh):List U:=[.int .i64 x.bg,.int .i64 x.aQ]
abbrev pn(x:bL):List U:=[.int .i64 x.Hop.bg,.int .i64 x.Hop.aQ,.int .i64 x.gr]
abbrev hw(x:dX):List U:=[.aX false (aD bq x.L),.int .i64 x.At]
abbrev kj(x:c0):List U:=[.int .i64 x.er,.aX false (aD b1 x.Links)]
abbrev oJ(x:ep):List U:=[.int .i64 x.bg,.int .i64 x.aQ,.int .i64 x.Count]
abbrev qd(x:dQ):List U:=[.int .i64 x.er,.aX false (aD bq x.ia),.int .i64 x.hM]
end Go.Proofs.YtmnbolcmepihlaaGreat
